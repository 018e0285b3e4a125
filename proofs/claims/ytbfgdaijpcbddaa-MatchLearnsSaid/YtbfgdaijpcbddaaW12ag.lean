/- The reference's matched (layer 12). No condition. -/
import Derived.Test.YtbfgdaijpcbddaaW12ae
set_option linter.unusedSimpArgs false
set_option linter.unusedVariables false
set_option linter.unusedSectionVars false
namespace Go.Proofs.Ytbfgdaijpcbddaa
open Go.RowKit

set_option maxRecDepth 100000 in
set_option maxHeartbeats 4000000 in
theorem rmatched12_any (m : S12.M) (p : Pl) (w : World) (hl : m.bytes.length ≤ 65536) (hpt : 1 ≤ m.part ∧ m.part ≤ 255) (hM : MIs m p w) :
    Calls Try.prog 49 #[MV m p] w fun e w' => e = .returned (.bool (S12.matched m)) ∧ Below w.heap.size w w' := by
  obtain ⟨bits, least, heads, bytes, at_, len, part, bit, ctrs⟩ := m
  obtain ⟨ah, ch, ab, cb, ac, cc⟩ := p
  obtain ⟨_, hrb, _, hbyt, hcb, _, _, _⟩ := hM
  obtain ⟨R, hR⟩ : ∃ R, S12.matched ⟨bits, least, heads, bytes, at_, len, part, bit, ctrs⟩ = R := ⟨_, rfl⟩
  have hRd : R = if len = 0 then decide (at_ = 0) && decide (bit = 2)
    else decide (1 ≤ len ∧ len ≤ 255) && decide (len ≤ at_ ∧ at_ ≤ (bytes.length : Int) - 1) && decide (len ≤ (S12.rep bytes at_.toNat : Int)) &&
      (match S12.exp (bytes.getD at_.toNat 0).toNat part with | some b => decide ((b : Int) = bit) | none => false) := by rw [← hR]; rfl
  rw [hR]
  clear hR
  simp only at hrb hbyt hcb hl hpt
  unfold MV MVals
  simp only
  have B0 := Blk.new w [.int .i64 bits, .int .i64 least, .slice ah heads.length ch, .slice ab bytes.length cb, .int .i64 at_, .int .i64 len, .int .i64 part, .int .i64 bit, .slice ac ctrs.length cc] 27
  have hB0 : Below w.heap.size w (w.alloc (.cells #[.int .i64 bits, .int .i64 least, .slice ah heads.length ch, .slice ab bytes.length cb, .int .i64 at_, .int .i64 len, .int .i64 part, .int .i64 bit, .slice ac ctrs.length cc] 27)) := (Below.refl _ _).alloc (Nat.le_refl _) _
  obtain ⟨w0, hw0⟩ : ∃ w0, (w.alloc (.cells #[.int .i64 bits, .int .i64 least, .slice ah heads.length ch, .slice ab bytes.length cb, .int .i64 at_, .int .i64 len, .int .i64 part, .int .i64 bit, .slice ac ctrs.length cc] 27)) = w0 := ⟨_, rfl⟩
  have B1 : Blk w0 w.heap.size [.int .i64 bits, .int .i64 least, .slice ah heads.length ch, .slice ab bytes.length cb, .int .i64 at_, .int .i64 len, .int .i64 part, .int .i64 bit, .slice ac ctrs.length cc] 27 := by rw [← hw0]; exact B0
  rw [hw0] at hB0
  clear B0
  obtain ⟨x0, x1, x2, x3, x4, x5, x6, x7, x8⟩ := B1.nine
  have hbN : bytes.length < 9223372036854775808 := by omega
  by_cases h0 : len = 0
  · rw [if_pos h0] at hRd
    subst h0
    by_cases ha : at_ = 0
    · subst ha
      rw [decide_eq_true rfl, Bool.true_and] at hRd
      subst hRd
      go_enter Try.func49, Try.ntmps49
      go_wp2_with fail
      go_returns
      exact ⟨ret_bool (by first | rfl | simp), hB0⟩
    · rw [decide_eq_false ha, Bool.false_and] at hRd
      subst hRd
      have e1 : (at_ == 0) = false := by simp [ha]
      go_enter Try.func49, Try.ntmps49
      go_wp2_with fail
      go_returns
      exact ⟨rfl, hB0⟩
  rw [if_neg h0] at hRd
  have e0 : (len == 0) = false := by simp [h0]
  have hC : HasC [(⟨w.heap.size, 5, none⟩, .int .i64 len), (⟨w.heap.size, 4, none⟩, .int .i64 at_), (⟨w.heap.size, 3, none⟩, .slice ab bytes.length cb)] w0 := ⟨x5, x4, x3, trivial⟩
  have hB0d := hB0.drew
  by_cases c1 : len < 0
  · have hf : R = false := by rw [hRd, decide_eq_false (show ¬ (1 ≤ len ∧ len ≤ 255) by omega)]; rfl
    subst hf
    clear hRd
    have d1 : decide (len < 0) = true := decide_eq_true c1
    go_enter Try.func49, Try.ntmps49
    go_wp2_with fail
    refine wp_region_seq 33 0 [(true, [true, true, true, true, true, true, true, true, true, true, true, true, true, true, true, true, true, true, true, true, true, true, true, true, true, true, true, true, false, true, true]), (false, [false, false, false, false, false, false, false, false, false, false, false, false, false, false, false, false, false, false, false, false, false, false, false, false, false, false, false, false, true]), (true, [false, false, false, false, false, false, false, false, false, false, false, false, false, false, false, false, false, false, false, false, false, false, false, false, false, false, false, false, false, false, false, true, true])] _ _ (HasC [(⟨w.heap.size, 5, none⟩, .int .i64 len), (⟨w.heap.size, 4, none⟩, .int .i64 at_), (⟨w.heap.size, 3, none⟩, .slice ab bytes.length cb)]) (by kernel_rfl) (List.take_append_drop 33 _).symm (by kernel_rfl) (by kernel_rfl) (by kernel_rfl) (by kernel_rfl) (hC) (fun Y Q4 F4 hY hF => ?_)
    simp only [phased, List.flatMap_cons, List.flatMap_nil, List.take_succ_cons, List.take_zero, List.drop_succ_cons, List.drop_zero, sel_true, sel_false, sel_nil, List.map_cons, List.map_nil, List.cons_append, List.nil_append, List.append_nil]
    repeat
      apply wpSeq_read (by first | rfl | (rw [hY]; rfl))
      · intro w2 hS2
        (try simp only [Keeps, Cells] at hS2)
        (try simp only [HasC, Cells] at hS2)
        go_simp
        with_reducible rfl
      simp only [Act.put, List.setIfInBounds_toArray, List.set_cons_zero, List.set_cons_succ]
    repeat
      first
        | (apply wpSeq_unread (by rw [hY]; rfl)
           simp only [Act.put, List.setIfInBounds_toArray, List.set_cons_zero, List.set_cons_succ])
        | (apply wpSeq_read (by first | rfl | (rw [hY]; rfl))
           · intro w2 hS2
             (try simp only [Keeps, Cells] at hS2)
             (try simp only [HasC, Cells] at hS2)
             go_simp
             with_reducible rfl
           simp only [Act.put, List.setIfInBounds_toArray, List.set_cons_zero, List.set_cons_succ])
    repeat
      first
        | (apply wpSeq_unread (by rw [hY]; rfl)
           simp only [Act.put, List.setIfInBounds_toArray, List.set_cons_zero, List.set_cons_succ])
        | (refine wpSeq_skip (by rw [hY]; rfl) (hC) ?_
           simp only [Act.put, List.setIfInBounds_toArray, List.set_cons_zero, List.set_cons_succ])
    repeat
      first
        | (apply wpSeq_unread (by rw [hY]; rfl)
           simp only [Act.put, List.setIfInBounds_toArray, List.set_cons_zero, List.set_cons_succ])
        | (apply wpSeq_read (by first | rfl | (rw [hY]; rfl))
           · intro w2 hS2
             (try simp only [Keeps, Cells] at hS2)
             (try simp only [HasC, Cells] at hS2)
             go_simp
             with_reducible rfl
           simp only [Act.put, List.setIfInBounds_toArray, List.set_cons_zero, List.set_cons_succ])
    refine wpSeq_done (hF.out _ _ (fun K hK => ?_))
    clear hF hY
    go_wp2_with fail
    refine OnlyK.mk (hK.out _ _ ?_)
    clear hK
    go_wp2_with fail
    go_returns
    exact ⟨rfl, hB0d⟩
  by_cases c2 : 255 < len
  · have hf : R = false := by rw [hRd, decide_eq_false (show ¬ (1 ≤ len ∧ len ≤ 255) by omega)]; rfl
    subst hf
    clear hRd
    have d1 : decide (len < 0) = false := decide_eq_false c1
    have d2 : decide (255 < len) = true := decide_eq_true c2
    go_enter Try.func49, Try.ntmps49
    go_wp2_with fail
    refine wp_region_seq 33 0 [(true, [true, true, true, true, true, true, true, true, true, true, true, true, true, true, true, true, true, true, true, true, true, true, true, true, true, true, true, true, false, true, true]), (false, [false, false, false, false, false, false, false, false, false, false, false, false, false, false, false, false, false, false, false, false, false, false, false, false, false, false, false, false, true]), (true, [false, false, false, false, false, false, false, false, false, false, false, false, false, false, false, false, false, false, false, false, false, false, false, false, false, false, false, false, false, false, false, true, true])] _ _ (HasC [(⟨w.heap.size, 5, none⟩, .int .i64 len), (⟨w.heap.size, 4, none⟩, .int .i64 at_), (⟨w.heap.size, 3, none⟩, .slice ab bytes.length cb)]) (by kernel_rfl) (List.take_append_drop 33 _).symm (by kernel_rfl) (by kernel_rfl) (by kernel_rfl) (by kernel_rfl) (hC) (fun Y Q4 F4 hY hF => ?_)
    simp only [phased, List.flatMap_cons, List.flatMap_nil, List.take_succ_cons, List.take_zero, List.drop_succ_cons, List.drop_zero, sel_true, sel_false, sel_nil, List.map_cons, List.map_nil, List.cons_append, List.nil_append, List.append_nil]
    repeat
      apply wpSeq_read (by first | rfl | (rw [hY]; rfl))
      · intro w2 hS2
        (try simp only [Keeps, Cells] at hS2)
        (try simp only [HasC, Cells] at hS2)
        go_simp
        with_reducible rfl
      simp only [Act.put, List.setIfInBounds_toArray, List.set_cons_zero, List.set_cons_succ]
    repeat
      first
        | (apply wpSeq_unread (by rw [hY]; rfl)
           simp only [Act.put, List.setIfInBounds_toArray, List.set_cons_zero, List.set_cons_succ])
        | (apply wpSeq_read (by first | rfl | (rw [hY]; rfl))
           · intro w2 hS2
             (try simp only [Keeps, Cells] at hS2)
             (try simp only [HasC, Cells] at hS2)
             go_simp
             with_reducible rfl
           simp only [Act.put, List.setIfInBounds_toArray, List.set_cons_zero, List.set_cons_succ])
    repeat
      first
        | (apply wpSeq_unread (by rw [hY]; rfl)
           simp only [Act.put, List.setIfInBounds_toArray, List.set_cons_zero, List.set_cons_succ])
        | (refine wpSeq_skip (by rw [hY]; rfl) (hC) ?_
           simp only [Act.put, List.setIfInBounds_toArray, List.set_cons_zero, List.set_cons_succ])
    repeat
      first
        | (apply wpSeq_unread (by rw [hY]; rfl)
           simp only [Act.put, List.setIfInBounds_toArray, List.set_cons_zero, List.set_cons_succ])
        | (apply wpSeq_read (by first | rfl | (rw [hY]; rfl))
           · intro w2 hS2
             (try simp only [Keeps, Cells] at hS2)
             (try simp only [HasC, Cells] at hS2)
             go_simp
             with_reducible rfl
           simp only [Act.put, List.setIfInBounds_toArray, List.set_cons_zero, List.set_cons_succ])
    refine wpSeq_done (hF.out _ _ (fun K hK => ?_))
    clear hF hY
    go_wp2_with fail
    refine OnlyK.mk (hK.out _ _ ?_)
    clear hK
    go_wp2_with fail
    go_returns
    exact ⟨rfl, hB0d⟩
  rw [decide_eq_true (show 1 ≤ len ∧ len ≤ 255 by omega), Bool.true_and] at hRd
  by_cases c3 : at_ < len
  · have hf : R = false := by rw [hRd, decide_eq_false (show ¬ (len ≤ at_ ∧ at_ ≤ (bytes.length : Int) - 1) by omega)]; rfl
    subst hf
    clear hRd
    have d1 : decide (len < 0) = false := decide_eq_false c1
    have d2 : decide (255 < len) = false := decide_eq_false c2
    have d3 : decide (at_ < len) = true := decide_eq_true c3
    go_enter Try.func49, Try.ntmps49
    go_wp2_with fail
    refine wp_region_seq 33 0 [(true, [true, true, true, true, true, true, true, true, true, true, true, true, true, true, true, true, true, true, true, true, true, true, true, true, true, true, true, true, false, true, true]), (false, [false, false, false, false, false, false, false, false, false, false, false, false, false, false, false, false, false, false, false, false, false, false, false, false, false, false, false, false, true]), (true, [false, false, false, false, false, false, false, false, false, false, false, false, false, false, false, false, false, false, false, false, false, false, false, false, false, false, false, false, false, false, false, true, true])] _ _ (HasC [(⟨w.heap.size, 5, none⟩, .int .i64 len), (⟨w.heap.size, 4, none⟩, .int .i64 at_), (⟨w.heap.size, 3, none⟩, .slice ab bytes.length cb)]) (by kernel_rfl) (List.take_append_drop 33 _).symm (by kernel_rfl) (by kernel_rfl) (by kernel_rfl) (by kernel_rfl) (hC) (fun Y Q4 F4 hY hF => ?_)
    simp only [phased, List.flatMap_cons, List.flatMap_nil, List.take_succ_cons, List.take_zero, List.drop_succ_cons, List.drop_zero, sel_true, sel_false, sel_nil, List.map_cons, List.map_nil, List.cons_append, List.nil_append, List.append_nil]
    repeat
      apply wpSeq_read (by first | rfl | (rw [hY]; rfl))
      · intro w2 hS2
        (try simp only [Keeps, Cells] at hS2)
        (try simp only [HasC, Cells] at hS2)
        go_simp
        with_reducible rfl
      simp only [Act.put, List.setIfInBounds_toArray, List.set_cons_zero, List.set_cons_succ]
    repeat
      first
        | (apply wpSeq_unread (by rw [hY]; rfl)
           simp only [Act.put, List.setIfInBounds_toArray, List.set_cons_zero, List.set_cons_succ])
        | (apply wpSeq_read (by first | rfl | (rw [hY]; rfl))
           · intro w2 hS2
             (try simp only [Keeps, Cells] at hS2)
             (try simp only [HasC, Cells] at hS2)
             go_simp
             with_reducible rfl
           simp only [Act.put, List.setIfInBounds_toArray, List.set_cons_zero, List.set_cons_succ])
    repeat
      first
        | (apply wpSeq_unread (by rw [hY]; rfl)
           simp only [Act.put, List.setIfInBounds_toArray, List.set_cons_zero, List.set_cons_succ])
        | (refine wpSeq_skip (by rw [hY]; rfl) (hC) ?_
           simp only [Act.put, List.setIfInBounds_toArray, List.set_cons_zero, List.set_cons_succ])
    repeat
      first
        | (apply wpSeq_unread (by rw [hY]; rfl)
           simp only [Act.put, List.setIfInBounds_toArray, List.set_cons_zero, List.set_cons_succ])
        | (apply wpSeq_read (by first | rfl | (rw [hY]; rfl))
           · intro w2 hS2
             (try simp only [Keeps, Cells] at hS2)
             (try simp only [HasC, Cells] at hS2)
             go_simp
             with_reducible rfl
           simp only [Act.put, List.setIfInBounds_toArray, List.set_cons_zero, List.set_cons_succ])
    refine wpSeq_done (hF.out _ _ (fun K hK => ?_))
    clear hF hY
    go_wp2_with fail
    refine OnlyK.mk (hK.out _ _ ?_)
    clear hK
    go_wp2_with fail
    go_returns
    exact ⟨rfl, hB0d⟩
  by_cases c4 : (bytes.length : Int) ≤ at_
  · have hf : R = false := by rw [hRd, decide_eq_false (show ¬ (len ≤ at_ ∧ at_ ≤ (bytes.length : Int) - 1) by omega)]; rfl
    subst hf
    clear hRd
    have d1 : decide (len < 0) = false := decide_eq_false c1
    have d2 : decide (255 < len) = false := decide_eq_false c2
    have d3 : decide (at_ < len) = false := decide_eq_false c3
    have d4 : decide ((bytes.length : Int) ≤ at_) = true := decide_eq_true c4
    go_enter Try.func49, Try.ntmps49
    go_wp2_with fail
    refine wp_region_seq 33 0 [(true, [true, true, true, true, true, true, true, true, true, true, true, true, true, true, true, true, true, true, true, true, true, true, true, true, true, true, true, true, false, true, true]), (false, [false, false, false, false, false, false, false, false, false, false, false, false, false, false, false, false, false, false, false, false, false, false, false, false, false, false, false, false, true]), (true, [false, false, false, false, false, false, false, false, false, false, false, false, false, false, false, false, false, false, false, false, false, false, false, false, false, false, false, false, false, false, false, true, true])] _ _ (HasC [(⟨w.heap.size, 5, none⟩, .int .i64 len), (⟨w.heap.size, 4, none⟩, .int .i64 at_), (⟨w.heap.size, 3, none⟩, .slice ab bytes.length cb)]) (by kernel_rfl) (List.take_append_drop 33 _).symm (by kernel_rfl) (by kernel_rfl) (by kernel_rfl) (by kernel_rfl) (hC) (fun Y Q4 F4 hY hF => ?_)
    simp only [phased, List.flatMap_cons, List.flatMap_nil, List.take_succ_cons, List.take_zero, List.drop_succ_cons, List.drop_zero, sel_true, sel_false, sel_nil, List.map_cons, List.map_nil, List.cons_append, List.nil_append, List.append_nil]
    repeat
      apply wpSeq_read (by first | rfl | (rw [hY]; rfl))
      · intro w2 hS2
        (try simp only [Keeps, Cells] at hS2)
        (try simp only [HasC, Cells] at hS2)
        go_simp
        with_reducible rfl
      simp only [Act.put, List.setIfInBounds_toArray, List.set_cons_zero, List.set_cons_succ]
    repeat
      first
        | (apply wpSeq_unread (by rw [hY]; rfl)
           simp only [Act.put, List.setIfInBounds_toArray, List.set_cons_zero, List.set_cons_succ])
        | (apply wpSeq_read (by first | rfl | (rw [hY]; rfl))
           · intro w2 hS2
             (try simp only [Keeps, Cells] at hS2)
             (try simp only [HasC, Cells] at hS2)
             go_simp
             with_reducible rfl
           simp only [Act.put, List.setIfInBounds_toArray, List.set_cons_zero, List.set_cons_succ])
    repeat
      first
        | (apply wpSeq_unread (by rw [hY]; rfl)
           simp only [Act.put, List.setIfInBounds_toArray, List.set_cons_zero, List.set_cons_succ])
        | (refine wpSeq_skip (by rw [hY]; rfl) (hC) ?_
           simp only [Act.put, List.setIfInBounds_toArray, List.set_cons_zero, List.set_cons_succ])
    repeat
      first
        | (apply wpSeq_unread (by rw [hY]; rfl)
           simp only [Act.put, List.setIfInBounds_toArray, List.set_cons_zero, List.set_cons_succ])
        | (apply wpSeq_read (by first | rfl | (rw [hY]; rfl))
           · intro w2 hS2
             (try simp only [Keeps, Cells] at hS2)
             (try simp only [HasC, Cells] at hS2)
             go_simp
             with_reducible rfl
           simp only [Act.put, List.setIfInBounds_toArray, List.set_cons_zero, List.set_cons_succ])
    refine wpSeq_done (hF.out _ _ (fun K hK => ?_))
    clear hF hY
    go_wp2_with fail
    refine OnlyK.mk (hK.out _ _ ?_)
    clear hK
    go_wp2_with fail
    go_returns
    exact ⟨rfl, hB0d⟩
  rw [decide_eq_true (show len ≤ at_ ∧ at_ ≤ (bytes.length : Int) - 1 by omega), Bool.true_and] at hRd
  have d1 : decide (len < 0) = false := decide_eq_false c1
  have d2 : decide (255 < len) = false := decide_eq_false c2
  have d3 : decide (at_ < len) = false := decide_eq_false c3
  have d4 : decide ((bytes.length : Int) ≤ at_) = false := decide_eq_false c4
  obtain ⟨q, rfl⟩ : ∃ q : Nat, at_ = q := ⟨at_.toNat, by omega⟩
  have hqb : q < bytes.length := by omega
  have d4n : ¬ bytes.length ≤ q := by omega
  obtain ⟨pt, rfl⟩ : ∃ pt : Nat, part = pt := ⟨part.toNat, by omega⟩
  rw [Int.toNat_natCast] at hRd
  have hx0 := hbyt.get q
  have hx1 := hbyt.at q
  obtain ⟨x, hx⟩ : ∃ x : Nat, bytes.getD q 0 = x := ⟨(bytes.getD q 0).toNat, (Int.toNat_of_nonneg hx0).symm⟩
  rw [hx, Int.toNat_natCast] at hx1 hRd
  obtain ⟨g, o, rfl, hcs⟩ := Bts_at hrb (i := q) hqb
  have yq := hcs q hqb
  rw [hx] at yq
  have HR := Lib.hid fun W (hW : Below w.heap.size w W) => rrepetition12_any g o cb bytes q (by omega) (by omega) W (hrb.step hW)
  obtain ⟨rp, hrp⟩ : ∃ rp, S12.rep bytes q = rp := ⟨_, rfl⟩
  rw [hrp] at HR hRd
  have HE := Lib.hid fun W => rexpected12_any x pt hx1 (by omega) (by omega) W
  obtain ⟨E, hE⟩ : ∃ E, S12.exp x (pt : Int) = E := ⟨_, rfl⟩
  rw [hE] at HE hRd
  have lq := block_lt_of_cell yq
  have Hpt := Lib.hid hpt
  clear hcs hx hrp hE hx0 hbyt c1 c2 c3 c4 hpt h0
  by_cases c5 : (rp : Int) < len
  · have hf : R = false := by rw [hRd, decide_eq_false (show ¬ len ≤ (rp : Int) by omega)]; rfl
    subst hf
    have d5 : decide ((rp : Int) < len) = true := decide_eq_true c5
    clear hRd
    go_enter Try.func49, Try.ntmps49
    go_wp2_with fail
    refine wp_region_seq 33 0 [(true, [true, true, true, true, true, true, true, true, true, true, true, true, true, true, true, true, true, true, true, true, true, true, true, true, true, true, true, true, false, true, true]), (false, [false, false, false, false, false, false, false, false, false, false, false, false, false, false, false, false, false, false, false, false, false, false, false, false, false, false, false, false, true]), (true, [false, false, false, false, false, false, false, false, false, false, false, false, false, false, false, false, false, false, false, false, false, false, false, false, false, false, false, false, false, false, false, true, true])] _ _ (HasC [(⟨w.heap.size, 5, none⟩, .int .i64 len), (⟨w.heap.size, 4, none⟩, .int .i64 (q : Int)), (⟨w.heap.size, 3, none⟩, .slice (some ⟨g, o, none⟩) bytes.length cb)]) (by kernel_rfl) (List.take_append_drop 33 _).symm (by kernel_rfl) (by kernel_rfl) (by kernel_rfl) (by kernel_rfl) (hC) (fun Y Q4 F4 hY hF => ?_)
    simp only [phased, List.flatMap_cons, List.flatMap_nil, List.take_succ_cons, List.take_zero, List.drop_succ_cons, List.drop_zero, sel_true, sel_false, sel_nil, List.map_cons, List.map_nil, List.cons_append, List.nil_append, List.append_nil]
    repeat
      apply wpSeq_read (by first | rfl | (rw [hY]; rfl))
      · intro w2 hS2
        (try simp only [Keeps, Cells] at hS2)
        (try simp only [HasC, Cells] at hS2)
        go_simp
        with_reducible rfl
      simp only [Act.put, List.setIfInBounds_toArray, List.set_cons_zero, List.set_cons_succ]
    apply wpSeq_call (by first | rfl | (rw [hY]; rfl))
    · go_simp
      with_reducible exact ⟨rfl, rfl⟩
    refine (HR.out _ hB0d).mono ?_
    rintro e w1 ⟨rfl, hb1⟩
    refine ⟨_, rfl, Cells.step (below_trans (below_drew w0.heap.size w0) hb1) hC, ?_⟩
    simp only [Act.put, List.setIfInBounds_toArray, List.set_cons_zero, List.set_cons_succ]
    repeat
      apply wpSeq_read (by first | rfl | (rw [hY]; rfl))
      · intro w2 hS2
        (try simp only [Keeps, Cells] at hS2)
        (try simp only [HasC, Cells] at hS2)
        go_simp
        with_reducible rfl
      simp only [Act.put, List.setIfInBounds_toArray, List.set_cons_zero, List.set_cons_succ]
    refine wpSeq_done (hF.out _ _ (fun K hK => ?_))
    clear hF hY
    go_wp2_with fail
    refine OnlyK.mk (hK.out _ _ ?_)
    clear hK
    have hB1 := below_trans hB0d hb1
    go_wp2_with fail
    go_returns
    exact ⟨rfl, hB1⟩
  rw [decide_eq_true (show len ≤ (rp : Int) by omega), Bool.true_and] at hRd
  have d5 : decide ((rp : Int) < len) = false := decide_eq_false c5
  cases E with
  | none =>
    simp only at hRd
    subst hRd
    go_enter Try.func49, Try.ntmps49
    go_wp2_with fail
    refine wp_region_seq 33 0 [(true, [true, true, true, true, true, true, true, true, true, true, true, true, true, true, true, true, true, true, true, true, true, true, true, true, true, true, true, true, false, true, true]), (false, [false, false, false, false, false, false, false, false, false, false, false, false, false, false, false, false, false, false, false, false, false, false, false, false, false, false, false, false, true]), (true, [false, false, false, false, false, false, false, false, false, false, false, false, false, false, false, false, false, false, false, false, false, false, false, false, false, false, false, false, false, false, false, true, true])] _ _ (HasC [(⟨w.heap.size, 5, none⟩, .int .i64 len), (⟨w.heap.size, 4, none⟩, .int .i64 (q : Int)), (⟨w.heap.size, 3, none⟩, .slice (some ⟨g, o, none⟩) bytes.length cb)]) (by kernel_rfl) (List.take_append_drop 33 _).symm (by kernel_rfl) (by kernel_rfl) (by kernel_rfl) (by kernel_rfl) (hC) (fun Y Q4 F4 hY hF => ?_)
    simp only [phased, List.flatMap_cons, List.flatMap_nil, List.take_succ_cons, List.take_zero, List.drop_succ_cons, List.drop_zero, sel_true, sel_false, sel_nil, List.map_cons, List.map_nil, List.cons_append, List.nil_append, List.append_nil]
    repeat
      apply wpSeq_read (by first | rfl | (rw [hY]; rfl))
      · intro w2 hS2
        (try simp only [Keeps, Cells] at hS2)
        (try simp only [HasC, Cells] at hS2)
        go_simp
        with_reducible rfl
      simp only [Act.put, List.setIfInBounds_toArray, List.set_cons_zero, List.set_cons_succ]
    apply wpSeq_call (by first | rfl | (rw [hY]; rfl))
    · go_simp
      with_reducible exact ⟨rfl, rfl⟩
    refine (HR.out _ hB0d).mono ?_
    rintro e w1 ⟨rfl, hb1⟩
    refine ⟨_, rfl, Cells.step (below_trans (below_drew w0.heap.size w0) hb1) hC, ?_⟩
    simp only [Act.put, List.setIfInBounds_toArray, List.set_cons_zero, List.set_cons_succ]
    repeat
      apply wpSeq_read (by first | rfl | (rw [hY]; rfl))
      · intro w2 hS2
        (try simp only [Keeps, Cells] at hS2)
        (try simp only [HasC, Cells] at hS2)
        go_simp
        with_reducible rfl
      simp only [Act.put, List.setIfInBounds_toArray, List.set_cons_zero, List.set_cons_succ]
    refine wpSeq_done (hF.out _ _ (fun K hK => ?_))
    clear hF hY
    go_wp2_with fail
    refine OnlyK.mk (hK.out _ _ ?_)
    clear hK
    have hB1 := below_trans hB0d hb1
    have B2 := B1.step (below_trans (below_drew w0.heap.size w0) hb1)
    have hC1 : HasC [(⟨w.heap.size, 3, none⟩, .slice (some ⟨g, o, none⟩) bytes.length cb), (⟨w.heap.size, 4, none⟩, .int .i64 (q : Int)), (⟨w.heap.size, 6, none⟩, .int .i64 (pt : Int)), (⟨g, o + q, none⟩, .int .u8 (x : Int))] w1 := ⟨B2.cell 3, B2.cell 4, B2.cell 6, (hB1.cell (p := ⟨g, o + q, none⟩) lq).trans yq, trivial⟩
    go_wp2_with fail
    refine wp_region_seq 13 1 [(true, [true, true, true, true, true, true, true, true]), (false, [false, false, false, false, false, false, false, false, true]), (true, [false, false, false, false, false, false, false, false, false, true, true, true]), (false, [false, false, false, false, false, false, false, false, false, false, false, false, true])] _ _ (HasC [(⟨w.heap.size, 3, none⟩, .slice (some ⟨g, o, none⟩) bytes.length cb), (⟨w.heap.size, 4, none⟩, .int .i64 (q : Int)), (⟨w.heap.size, 6, none⟩, .int .i64 (pt : Int)), (⟨g, o + q, none⟩, .int .u8 (x : Int))]) (by kernel_rfl) (List.take_append_drop 13 _).symm (by kernel_rfl) (by kernel_rfl) (by kernel_rfl) (by kernel_rfl) (hC1) (fun Y Q4 F4 hY hF => ?_)
    simp only [phased, List.flatMap_cons, List.flatMap_nil, List.take_succ_cons, List.take_zero, List.drop_succ_cons, List.drop_zero, sel_true, sel_false, sel_nil, List.map_cons, List.map_nil, List.cons_append, List.nil_append, List.append_nil]
    repeat
      apply wpSeq_read (by first | rfl | (rw [hY]; rfl))
      · intro w2 hS2
        (try simp only [Keeps, Cells] at hS2)
        (try simp only [HasC, Cells] at hS2)
        go_simp
        with_reducible rfl
      simp only [Act.put, List.setIfInBounds_toArray, List.set_cons_zero, List.set_cons_succ]
    apply wpSeq_call (by first | rfl | (rw [hY]; rfl))
    · go_simp
      with_reducible exact ⟨rfl, rfl⟩
    refine (HE.out _).mono ?_
    rintro e w2 ⟨rfl, hb2⟩
    have hE2 := below_trans (below_drew w1.heap.size w1) hb2
    refine ⟨_, rfl, Cells.step hE2 hC1, ?_⟩
    simp only [Act.put, List.setIfInBounds_toArray, List.set_cons_zero, List.set_cons_succ]
    repeat
      apply wpSeq_read (by first | rfl | (rw [hY]; rfl))
      · intro w2 hS2
        (try simp only [Keeps, Cells] at hS2)
        (try simp only [HasC, Cells] at hS2)
        go_simp
        with_reducible rfl
      simp only [Act.put, List.setIfInBounds_toArray, List.set_cons_zero, List.set_cons_succ]
    refine wpSeq_value (by first | rfl | (rw [hY]; rfl)) (by go_simp; first | with_reducible exact ⟨rfl, rfl⟩ | with_reducible rfl) (Cells.step hE2 hC1) ?_
    simp only [Act.put, List.setIfInBounds_toArray, List.set_cons_zero, List.set_cons_succ]
    refine wpSeq_done (hF.out _ _ (fun K hK => ?_))
    clear hF hY
    go_wp2_with fail
    refine OnlyK.mk (hK.out _ _ ?_)
    clear hK
    have hB2 := below_trans hB1 hE2
    go_wp2_with fail
    go_returns
    exact ⟨rfl, hB2⟩
  | some ev =>
    simp only at hRd
    subst hRd
    go_enter Try.func49, Try.ntmps49
    go_wp2_with fail
    refine wp_region_seq 33 0 [(true, [true, true, true, true, true, true, true, true, true, true, true, true, true, true, true, true, true, true, true, true, true, true, true, true, true, true, true, true, false, true, true]), (false, [false, false, false, false, false, false, false, false, false, false, false, false, false, false, false, false, false, false, false, false, false, false, false, false, false, false, false, false, true]), (true, [false, false, false, false, false, false, false, false, false, false, false, false, false, false, false, false, false, false, false, false, false, false, false, false, false, false, false, false, false, false, false, true, true])] _ _ (HasC [(⟨w.heap.size, 5, none⟩, .int .i64 len), (⟨w.heap.size, 4, none⟩, .int .i64 (q : Int)), (⟨w.heap.size, 3, none⟩, .slice (some ⟨g, o, none⟩) bytes.length cb)]) (by kernel_rfl) (List.take_append_drop 33 _).symm (by kernel_rfl) (by kernel_rfl) (by kernel_rfl) (by kernel_rfl) (hC) (fun Y Q4 F4 hY hF => ?_)
    simp only [phased, List.flatMap_cons, List.flatMap_nil, List.take_succ_cons, List.take_zero, List.drop_succ_cons, List.drop_zero, sel_true, sel_false, sel_nil, List.map_cons, List.map_nil, List.cons_append, List.nil_append, List.append_nil]
    repeat
      apply wpSeq_read (by first | rfl | (rw [hY]; rfl))
      · intro w2 hS2
        (try simp only [Keeps, Cells] at hS2)
        (try simp only [HasC, Cells] at hS2)
        go_simp
        with_reducible rfl
      simp only [Act.put, List.setIfInBounds_toArray, List.set_cons_zero, List.set_cons_succ]
    apply wpSeq_call (by first | rfl | (rw [hY]; rfl))
    · go_simp
      with_reducible exact ⟨rfl, rfl⟩
    refine (HR.out _ hB0d).mono ?_
    rintro e w1 ⟨rfl, hb1⟩
    refine ⟨_, rfl, Cells.step (below_trans (below_drew w0.heap.size w0) hb1) hC, ?_⟩
    simp only [Act.put, List.setIfInBounds_toArray, List.set_cons_zero, List.set_cons_succ]
    repeat
      apply wpSeq_read (by first | rfl | (rw [hY]; rfl))
      · intro w2 hS2
        (try simp only [Keeps, Cells] at hS2)
        (try simp only [HasC, Cells] at hS2)
        go_simp
        with_reducible rfl
      simp only [Act.put, List.setIfInBounds_toArray, List.set_cons_zero, List.set_cons_succ]
    refine wpSeq_done (hF.out _ _ (fun K hK => ?_))
    clear hF hY
    go_wp2_with fail
    refine OnlyK.mk (hK.out _ _ ?_)
    clear hK
    have hB1 := below_trans hB0d hb1
    have B2 := B1.step (below_trans (below_drew w0.heap.size w0) hb1)
    have hC1 : HasC [(⟨w.heap.size, 3, none⟩, .slice (some ⟨g, o, none⟩) bytes.length cb), (⟨w.heap.size, 4, none⟩, .int .i64 (q : Int)), (⟨w.heap.size, 6, none⟩, .int .i64 (pt : Int)), (⟨g, o + q, none⟩, .int .u8 (x : Int))] w1 := ⟨B2.cell 3, B2.cell 4, B2.cell 6, (hB1.cell (p := ⟨g, o + q, none⟩) lq).trans yq, trivial⟩
    go_wp2_with fail
    refine wp_region_seq 13 1 [(true, [true, true, true, true, true, true, true, true]), (false, [false, false, false, false, false, false, false, false, true]), (true, [false, false, false, false, false, false, false, false, false, true, true, true]), (false, [false, false, false, false, false, false, false, false, false, false, false, false, true])] _ _ (HasC [(⟨w.heap.size, 3, none⟩, .slice (some ⟨g, o, none⟩) bytes.length cb), (⟨w.heap.size, 4, none⟩, .int .i64 (q : Int)), (⟨w.heap.size, 6, none⟩, .int .i64 (pt : Int)), (⟨g, o + q, none⟩, .int .u8 (x : Int))]) (by kernel_rfl) (List.take_append_drop 13 _).symm (by kernel_rfl) (by kernel_rfl) (by kernel_rfl) (by kernel_rfl) (hC1) (fun Y Q4 F4 hY hF => ?_)
    simp only [phased, List.flatMap_cons, List.flatMap_nil, List.take_succ_cons, List.take_zero, List.drop_succ_cons, List.drop_zero, sel_true, sel_false, sel_nil, List.map_cons, List.map_nil, List.cons_append, List.nil_append, List.append_nil]
    repeat
      apply wpSeq_read (by first | rfl | (rw [hY]; rfl))
      · intro w2 hS2
        (try simp only [Keeps, Cells] at hS2)
        (try simp only [HasC, Cells] at hS2)
        go_simp
        with_reducible rfl
      simp only [Act.put, List.setIfInBounds_toArray, List.set_cons_zero, List.set_cons_succ]
    apply wpSeq_call (by first | rfl | (rw [hY]; rfl))
    · go_simp
      with_reducible exact ⟨rfl, rfl⟩
    refine (HE.out _).mono ?_
    rintro e w2 ⟨rfl, hb2⟩
    have hE2 := below_trans (below_drew w1.heap.size w1) hb2
    refine ⟨_, rfl, Cells.step hE2 hC1, ?_⟩
    simp only [Act.put, List.setIfInBounds_toArray, List.set_cons_zero, List.set_cons_succ]
    repeat
      apply wpSeq_read (by first | rfl | (rw [hY]; rfl))
      · intro w2 hS2
        (try simp only [Keeps, Cells] at hS2)
        (try simp only [HasC, Cells] at hS2)
        go_simp
        with_reducible rfl
      simp only [Act.put, List.setIfInBounds_toArray, List.set_cons_zero, List.set_cons_succ]
    refine wpSeq_value (by first | rfl | (rw [hY]; rfl)) (by go_simp; first | with_reducible exact ⟨rfl, rfl⟩ | with_reducible rfl) (Cells.step hE2 hC1) ?_
    simp only [Act.put, List.setIfInBounds_toArray, List.set_cons_zero, List.set_cons_succ]
    refine wpSeq_done (hF.out _ _ (fun K hK => ?_))
    clear hF hY
    go_wp2_with fail
    refine OnlyK.mk (hK.out _ _ ?_)
    clear hK
    have hB2 := below_trans hB1 hE2
    have y7 : w2.cell? ⟨w.heap.size, 7, none⟩ = some (.int .i64 bit) := (B2.step hE2).cell 7
    go_wp2_with fail
    go_returns
    exact ⟨ret_bool (by first | (by_cases hev : (ev : Int) = bit <;> simp [S12.optN, hev]; done) | simp [S12.optN]), hB2⟩
end Go.Proofs.Ytbfgdaijpcbddaa
