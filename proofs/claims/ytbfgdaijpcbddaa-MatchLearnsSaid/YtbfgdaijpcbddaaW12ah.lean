/- The reference's Check (layer 12). No condition. -/
import Derived.Test.YtbfgdaijpcbddaaW12ag
set_option linter.unusedSimpArgs false
set_option linter.unusedVariables false
set_option linter.unusedSectionVars false
namespace Go.Proofs.Ytbfgdaijpcbddaa
open Go.RowKit

set_option maxRecDepth 100000 in
set_option maxHeartbeats 4000000 in
theorem rcheck12_any (m : S12.M) (p : Pl) (w : World) (hM : MIs m p w) :
    Calls Try.prog 22 #[MV m p] w fun e w' => e = .returned (.int .i64 (S12.check m)) ∧ Below w.heap.size w w' := by
  obtain ⟨R, hR⟩ : ∃ R, S12.check m = R := ⟨_, rfl⟩
  rw [hR]
  unfold S12.check at hR
  have HMt := Lib.hid fun (hl : m.bytes.length ≤ 65536) hpt W hW => rmatched12_any m p W hl hpt hW
  obtain ⟨MT, hMT⟩ : ∃ MT, S12.matched m = MT := ⟨_, rfl⟩
  rw [hMT] at hR HMt
  obtain ⟨FA, hFA⟩ : ∃ FA, S12.far m = FA := ⟨_, rfl⟩
  obtain ⟨BA, hBA⟩ : ∃ BA, S12.bad m = BA := ⟨_, rfl⟩
  rw [hFA, hBA] at hR
  have hfo : S12.form m = (decide (m.heads.length = 2 ^ m.bits.toNat) && decide (m.ctrs.length = 16) && decide (1 ≤ m.part ∧ m.part ≤ 255)) := rfl
  rw [hfo] at hR
  have HFA := Lib.hid (show (m.heads.any fun h => !decide (0 ≤ h ∧ h ≤ (m.bytes.length : Int))) = FA from hFA)
  have HBA := Lib.hid (show (m.ctrs.any fun c => S08.check c.1 c.2 255 != 0) = BA from hBA)
  clear hFA hBA hMT hfo
  have HM := Lib.hid hM
  have hlen := hM.lb
  have hlh := hM.lh
  have hlc := hM.lc
  clear hM
  obtain ⟨bits, least, heads, bytes, at_, len, part, bit, ctrs⟩ := m
  obtain ⟨ah, ch, ab, cb, ac, cc⟩ := p
  simp only at hR hlen hlh hlc HFA HBA
  unfold MV MVals at *
  simp only at *
  have B0 := Blk.new w [.int .i64 bits, .int .i64 least, .slice ah heads.length ch, .slice ab bytes.length cb, .int .i64 at_, .int .i64 len, .int .i64 part, .int .i64 bit, .slice ac ctrs.length cc] 27
  have hB0 : Below w.heap.size w (w.alloc (.cells #[.int .i64 bits, .int .i64 least, .slice ah heads.length ch, .slice ab bytes.length cb, .int .i64 at_, .int .i64 len, .int .i64 part, .int .i64 bit, .slice ac ctrs.length cc] 27)) := (Below.refl _ _).alloc (Nat.le_refl _) _
  obtain ⟨w0, hw0⟩ : ∃ w0, (w.alloc (.cells #[.int .i64 bits, .int .i64 least, .slice ah heads.length ch, .slice ab bytes.length cb, .int .i64 at_, .int .i64 len, .int .i64 part, .int .i64 bit, .slice ac ctrs.length cc] 27)) = w0 := ⟨_, rfl⟩
  rw [hw0] at hB0
  have B1 : Blk w0 w.heap.size [.int .i64 bits, .int .i64 least, .slice ah heads.length ch, .slice ab bytes.length cb, .int .i64 at_, .int .i64 len, .int .i64 part, .int .i64 bit, .slice ac ctrs.length cc] 27 := by rw [← hw0]; exact B0
  clear B0
  have p0 : w0.cell? ⟨w.heap.size, 0, none⟩ = some (.int .i64 bits) := B1.cell 0
  have p1 : w0.cell? ⟨w.heap.size, 1, none⟩ = some (.int .i64 least) := B1.cell 1
  have p3 : w0.cell? ⟨w.heap.size, 3, none⟩ = some (.slice ab bytes.length cb) := B1.cell 3
  by_cases b1 : bits < 1
  · rw [if_pos (by omega)] at hR
    subst hR
    go_enter Try.func22, Try.ntmps22
    go_wp2_with fail
    go_returns
    exact ⟨rfl, hB0⟩
  by_cases b2 : 16 < bits
  · rw [if_pos (by omega)] at hR
    subst hR
    go_enter Try.func22, Try.ntmps22
    go_wp2_with fail
    go_returns
    exact ⟨rfl, hB0⟩
  by_cases b3 : least < 1
  · rw [if_pos (by omega)] at hR
    subst hR
    go_enter Try.func22, Try.ntmps22
    go_wp2_with fail
    go_returns
    exact ⟨rfl, hB0⟩
  by_cases b4 : 32 < least
  · rw [if_pos (by omega)] at hR
    subst hR
    go_enter Try.func22, Try.ntmps22
    go_wp2_with fail
    go_returns
    exact ⟨rfl, hB0⟩
  rw [if_neg (by omega)] at hR
  have lpre : (bytes.length : Int) = bytes.length := rfl
  by_cases h3 : 65536 < bytes.length
  · rw [if_pos h3] at hR
    subst hR
    have e3 : decide ((65536 : Int) < (bytes.length : Int)) = true := decide_eq_true (by omega)
    go_enter Try.func22, Try.ntmps22
    go_wp2_with fail
    go_returns
    exact ⟨rfl, hB0⟩
  rw [if_neg h3] at hR
  have e3 : decide ((65536 : Int) < (bytes.length : Int)) = false := decide_eq_false (by omega)
  obtain ⟨bn, rfl⟩ : ∃ bn : Nat, bits = bn := ⟨bits.toNat, by omega⟩
  have b1n : ¬ bn < 1 := by omega
  have b1z : ¬ bn = 0 := by omega
  have b2n : ¬ 16 < bn := by omega
  have e1d : decide ((bn : Int) < 1) = false := decide_eq_false (by omega)
  have e2d : decide (16 < (bn : Int)) = false := decide_eq_false (by omega)
  have e3n : ¬ 65536 < bytes.length := by omega
  have q2 : w0.cell? ⟨w.heap.size, 2, none⟩ = some (.slice ah heads.length ch) := B1.cell 2
  have q6 : w0.cell? ⟨w.heap.size, 6, none⟩ = some (.int .i64 part) := B1.cell 6
  have q8 : w0.cell? ⟨w.heap.size, 8, none⟩ = some (.slice ac ctrs.length cc) := B1.cell 8
  have hC : HasC [(⟨w.heap.size, 2, none⟩, .slice ah heads.length ch), (⟨w.heap.size, 0, none⟩, .int .i64 (bn : Int)), (⟨w.heap.size, 8, none⟩, .slice ac ctrs.length cc), (⟨w.heap.size, 6, none⟩, .int .i64 part)] w0 := ⟨q2, p0, q8, q6, trivial⟩
  rw [Int.toNat_natCast] at hR
  have hps : 2 ^ bn ≤ 65536 := Nat.pow_le_pow_right (n := 2) (by omega) (show bn ≤ 16 by omega)
  have hsh : IntKind.i64.wrap ((2 : Int) ^ bn) = ((2 ^ bn : Nat) : Int) := by
    have e : (2 : Int) ^ bn = ((2 ^ bn : Nat) : Int) := by simp
    rw [e]; exact wrap_i64_nat (by omega)
  obtain ⟨N, hN⟩ : ∃ N, 2 ^ bn = N := ⟨_, rfl⟩
  rw [hN] at hsh hps hR
  clear hN
  have hB0d := hB0.drew
  have hlbn : bn < 64 := by omega
  by_cases h4 : ¬ heads.length = N
  · have e4 : ((heads.length : Int) != (N : Int)) = true := by simp; omega
    rw [decide_eq_false h4, Bool.false_and, Bool.false_and, if_pos rfl] at hR
    subst hR
    go_enter Try.func22, Try.ntmps22
    go_wp2_with fail
    refine wp_region_seq 23 0 [(true, [true, true, true, true, true, true, true, true, true, true, true, true, true, true, true, true, true, true, true, true, true, true, true])] _ _ (HasC [(⟨w.heap.size, 2, none⟩, .slice ah heads.length ch), (⟨w.heap.size, 0, none⟩, .int .i64 (bn : Int)), (⟨w.heap.size, 8, none⟩, .slice ac ctrs.length cc), (⟨w.heap.size, 6, none⟩, .int .i64 part)]) (by kernel_rfl) (List.take_append_drop 23 _).symm (by kernel_rfl) (by kernel_rfl) (by kernel_rfl) (by kernel_rfl) (hC) (fun Y Q4 F4 hY hF => ?_)
    simp only [phased, List.flatMap_cons, List.flatMap_nil, List.take_succ_cons, List.take_zero, List.drop_succ_cons, List.drop_zero, sel_true, sel_false, sel_nil, List.map_cons, List.map_nil, List.cons_append, List.nil_append, List.append_nil]
    repeat
      apply wpSeq_read (by first | rfl | (rw [hY]; rfl))
      · intro w2 hS2
        (try simp only [Keeps, Cells] at hS2)
        (try simp only [HasC, Cells] at hS2)
        go_simp
        with_reducible rfl
      simp only [Act.put, List.setIfInBounds_toArray, List.set_cons_zero, List.set_cons_succ]
    repeat
      first
        | (apply wpSeq_unread (by rw [hY]; rfl)
           simp only [Act.put, List.setIfInBounds_toArray, List.set_cons_zero, List.set_cons_succ])
        | (apply wpSeq_read (by first | rfl | (rw [hY]; rfl))
           · intro w2 hS2
             (try simp only [Keeps, Cells] at hS2)
             (try simp only [HasC, Cells] at hS2)
             go_simp
             with_reducible rfl
           simp only [Act.put, List.setIfInBounds_toArray, List.set_cons_zero, List.set_cons_succ])
    repeat
      first
        | (apply wpSeq_unread (by rw [hY]; rfl)
           simp only [Act.put, List.setIfInBounds_toArray, List.set_cons_zero, List.set_cons_succ])
        | (refine wpSeq_skip (by rw [hY]; rfl) (hC) ?_
           simp only [Act.put, List.setIfInBounds_toArray, List.set_cons_zero, List.set_cons_succ])
    repeat
      first
        | (apply wpSeq_unread (by rw [hY]; rfl)
           simp only [Act.put, List.setIfInBounds_toArray, List.set_cons_zero, List.set_cons_succ])
        | (apply wpSeq_read (by first | rfl | (rw [hY]; rfl))
           · intro w2 hS2
             (try simp only [Keeps, Cells] at hS2)
             (try simp only [HasC, Cells] at hS2)
             go_simp
             with_reducible rfl
           simp only [Act.put, List.setIfInBounds_toArray, List.set_cons_zero, List.set_cons_succ])
    refine wpSeq_done (hF.out _ _ (fun K hK => ?_))
    clear hF hY
    go_wp2_with fail
    refine OnlyK.mk (hK.out _ _ ?_)
    clear hK
    go_wp2_with fail
    go_returns
    exact ⟨rfl, hB0d⟩
  replace h4 := Classical.not_not.1 h4
  have e4 : ((heads.length : Int) != (N : Int)) = false := by simp; omega
  rw [decide_eq_true h4, Bool.true_and] at hR
  have H4 := Lib.hid h4
  clear h4
  by_cases h5 : ¬ ctrs.length = 16
  · have e5 : ((ctrs.length : Int) != 16) = true := by simp; omega
    rw [decide_eq_false h5, Bool.false_and, if_pos rfl] at hR
    subst hR
    go_enter Try.func22, Try.ntmps22
    go_wp2_with fail
    refine wp_region_seq 23 0 [(true, [true, true, true, true, true, true, true, true, true, true, true, true, true, true, true, true, true, true, true, true, true, true, true])] _ _ (HasC [(⟨w.heap.size, 2, none⟩, .slice ah heads.length ch), (⟨w.heap.size, 0, none⟩, .int .i64 (bn : Int)), (⟨w.heap.size, 8, none⟩, .slice ac ctrs.length cc), (⟨w.heap.size, 6, none⟩, .int .i64 part)]) (by kernel_rfl) (List.take_append_drop 23 _).symm (by kernel_rfl) (by kernel_rfl) (by kernel_rfl) (by kernel_rfl) (hC) (fun Y Q4 F4 hY hF => ?_)
    simp only [phased, List.flatMap_cons, List.flatMap_nil, List.take_succ_cons, List.take_zero, List.drop_succ_cons, List.drop_zero, sel_true, sel_false, sel_nil, List.map_cons, List.map_nil, List.cons_append, List.nil_append, List.append_nil]
    repeat
      apply wpSeq_read (by first | rfl | (rw [hY]; rfl))
      · intro w2 hS2
        (try simp only [Keeps, Cells] at hS2)
        (try simp only [HasC, Cells] at hS2)
        go_simp
        with_reducible rfl
      simp only [Act.put, List.setIfInBounds_toArray, List.set_cons_zero, List.set_cons_succ]
    repeat
      first
        | (apply wpSeq_unread (by rw [hY]; rfl)
           simp only [Act.put, List.setIfInBounds_toArray, List.set_cons_zero, List.set_cons_succ])
        | (apply wpSeq_read (by first | rfl | (rw [hY]; rfl))
           · intro w2 hS2
             (try simp only [Keeps, Cells] at hS2)
             (try simp only [HasC, Cells] at hS2)
             go_simp
             with_reducible rfl
           simp only [Act.put, List.setIfInBounds_toArray, List.set_cons_zero, List.set_cons_succ])
    repeat
      first
        | (apply wpSeq_unread (by rw [hY]; rfl)
           simp only [Act.put, List.setIfInBounds_toArray, List.set_cons_zero, List.set_cons_succ])
        | (refine wpSeq_skip (by rw [hY]; rfl) (hC) ?_
           simp only [Act.put, List.setIfInBounds_toArray, List.set_cons_zero, List.set_cons_succ])
    repeat
      first
        | (apply wpSeq_unread (by rw [hY]; rfl)
           simp only [Act.put, List.setIfInBounds_toArray, List.set_cons_zero, List.set_cons_succ])
        | (apply wpSeq_read (by first | rfl | (rw [hY]; rfl))
           · intro w2 hS2
             (try simp only [Keeps, Cells] at hS2)
             (try simp only [HasC, Cells] at hS2)
             go_simp
             with_reducible rfl
           simp only [Act.put, List.setIfInBounds_toArray, List.set_cons_zero, List.set_cons_succ])
    refine wpSeq_done (hF.out _ _ (fun K hK => ?_))
    clear hF hY
    go_wp2_with fail
    refine OnlyK.mk (hK.out _ _ ?_)
    clear hK
    go_wp2_with fail
    go_returns
    exact ⟨rfl, hB0d⟩
  replace h5 := Classical.not_not.1 h5
  have e5 : ((ctrs.length : Int) != 16) = false := by simp; omega
  rw [decide_eq_true h5, Bool.true_and] at hR
  have H5 := Lib.hid h5
  clear h5
  by_cases h6 : part < 1
  · have d6 : decide (part < 1) = true := decide_eq_true h6
    rw [decide_eq_false (show ¬ (1 ≤ part ∧ part ≤ 255) by omega), if_pos rfl] at hR
    subst hR
    go_enter Try.func22, Try.ntmps22
    go_wp2_with fail
    refine wp_region_seq 23 0 [(true, [true, true, true, true, true, true, true, true, true, true, true, true, true, true, true, true, true, true, true, true, true, true, true])] _ _ (HasC [(⟨w.heap.size, 2, none⟩, .slice ah heads.length ch), (⟨w.heap.size, 0, none⟩, .int .i64 (bn : Int)), (⟨w.heap.size, 8, none⟩, .slice ac ctrs.length cc), (⟨w.heap.size, 6, none⟩, .int .i64 part)]) (by kernel_rfl) (List.take_append_drop 23 _).symm (by kernel_rfl) (by kernel_rfl) (by kernel_rfl) (by kernel_rfl) (hC) (fun Y Q4 F4 hY hF => ?_)
    simp only [phased, List.flatMap_cons, List.flatMap_nil, List.take_succ_cons, List.take_zero, List.drop_succ_cons, List.drop_zero, sel_true, sel_false, sel_nil, List.map_cons, List.map_nil, List.cons_append, List.nil_append, List.append_nil]
    repeat
      apply wpSeq_read (by first | rfl | (rw [hY]; rfl))
      · intro w2 hS2
        (try simp only [Keeps, Cells] at hS2)
        (try simp only [HasC, Cells] at hS2)
        go_simp
        with_reducible rfl
      simp only [Act.put, List.setIfInBounds_toArray, List.set_cons_zero, List.set_cons_succ]
    repeat
      first
        | (apply wpSeq_unread (by rw [hY]; rfl)
           simp only [Act.put, List.setIfInBounds_toArray, List.set_cons_zero, List.set_cons_succ])
        | (apply wpSeq_read (by first | rfl | (rw [hY]; rfl))
           · intro w2 hS2
             (try simp only [Keeps, Cells] at hS2)
             (try simp only [HasC, Cells] at hS2)
             go_simp
             with_reducible rfl
           simp only [Act.put, List.setIfInBounds_toArray, List.set_cons_zero, List.set_cons_succ])
    repeat
      first
        | (apply wpSeq_unread (by rw [hY]; rfl)
           simp only [Act.put, List.setIfInBounds_toArray, List.set_cons_zero, List.set_cons_succ])
        | (refine wpSeq_skip (by rw [hY]; rfl) (hC) ?_
           simp only [Act.put, List.setIfInBounds_toArray, List.set_cons_zero, List.set_cons_succ])
    repeat
      first
        | (apply wpSeq_unread (by rw [hY]; rfl)
           simp only [Act.put, List.setIfInBounds_toArray, List.set_cons_zero, List.set_cons_succ])
        | (apply wpSeq_read (by first | rfl | (rw [hY]; rfl))
           · intro w2 hS2
             (try simp only [Keeps, Cells] at hS2)
             (try simp only [HasC, Cells] at hS2)
             go_simp
             with_reducible rfl
           simp only [Act.put, List.setIfInBounds_toArray, List.set_cons_zero, List.set_cons_succ])
    refine wpSeq_done (hF.out _ _ (fun K hK => ?_))
    clear hF hY
    go_wp2_with fail
    refine OnlyK.mk (hK.out _ _ ?_)
    clear hK
    go_wp2_with fail
    go_returns
    exact ⟨rfl, hB0d⟩
  have d6 : decide (part < 1) = false := decide_eq_false h6
  by_cases h7 : 255 < part
  · have d7 : decide (255 < part) = true := decide_eq_true h7
    rw [decide_eq_false (show ¬ (1 ≤ part ∧ part ≤ 255) by omega), if_pos rfl] at hR
    subst hR
    go_enter Try.func22, Try.ntmps22
    go_wp2_with fail
    refine wp_region_seq 23 0 [(true, [true, true, true, true, true, true, true, true, true, true, true, true, true, true, true, true, true, true, true, true, true, true, true])] _ _ (HasC [(⟨w.heap.size, 2, none⟩, .slice ah heads.length ch), (⟨w.heap.size, 0, none⟩, .int .i64 (bn : Int)), (⟨w.heap.size, 8, none⟩, .slice ac ctrs.length cc), (⟨w.heap.size, 6, none⟩, .int .i64 part)]) (by kernel_rfl) (List.take_append_drop 23 _).symm (by kernel_rfl) (by kernel_rfl) (by kernel_rfl) (by kernel_rfl) (hC) (fun Y Q4 F4 hY hF => ?_)
    simp only [phased, List.flatMap_cons, List.flatMap_nil, List.take_succ_cons, List.take_zero, List.drop_succ_cons, List.drop_zero, sel_true, sel_false, sel_nil, List.map_cons, List.map_nil, List.cons_append, List.nil_append, List.append_nil]
    repeat
      apply wpSeq_read (by first | rfl | (rw [hY]; rfl))
      · intro w2 hS2
        (try simp only [Keeps, Cells] at hS2)
        (try simp only [HasC, Cells] at hS2)
        go_simp
        with_reducible rfl
      simp only [Act.put, List.setIfInBounds_toArray, List.set_cons_zero, List.set_cons_succ]
    repeat
      first
        | (apply wpSeq_unread (by rw [hY]; rfl)
           simp only [Act.put, List.setIfInBounds_toArray, List.set_cons_zero, List.set_cons_succ])
        | (apply wpSeq_read (by first | rfl | (rw [hY]; rfl))
           · intro w2 hS2
             (try simp only [Keeps, Cells] at hS2)
             (try simp only [HasC, Cells] at hS2)
             go_simp
             with_reducible rfl
           simp only [Act.put, List.setIfInBounds_toArray, List.set_cons_zero, List.set_cons_succ])
    repeat
      first
        | (apply wpSeq_unread (by rw [hY]; rfl)
           simp only [Act.put, List.setIfInBounds_toArray, List.set_cons_zero, List.set_cons_succ])
        | (refine wpSeq_skip (by rw [hY]; rfl) (hC) ?_
           simp only [Act.put, List.setIfInBounds_toArray, List.set_cons_zero, List.set_cons_succ])
    repeat
      first
        | (apply wpSeq_unread (by rw [hY]; rfl)
           simp only [Act.put, List.setIfInBounds_toArray, List.set_cons_zero, List.set_cons_succ])
        | (apply wpSeq_read (by first | rfl | (rw [hY]; rfl))
           · intro w2 hS2
             (try simp only [Keeps, Cells] at hS2)
             (try simp only [HasC, Cells] at hS2)
             go_simp
             with_reducible rfl
           simp only [Act.put, List.setIfInBounds_toArray, List.set_cons_zero, List.set_cons_succ])
    refine wpSeq_done (hF.out _ _ (fun K hK => ?_))
    clear hF hY
    go_wp2_with fail
    refine OnlyK.mk (hK.out _ _ ?_)
    clear hK
    go_wp2_with fail
    go_returns
    exact ⟨rfl, hB0d⟩
  have d7 : decide (255 < part) = false := decide_eq_false h7
  rw [decide_eq_true (show 1 ≤ part ∧ part ≤ 255 by omega), if_neg (by simp)] at hR
  have hlb : bytes.length ≤ 65536 := by omega
  have hpt : 1 ≤ part ∧ part ≤ 255 := by omega
  have HMt2 := Lib.hid fun W hW => HMt.out hlb hpt W hW
  have HR := Lib.hid hR
  clear HMt hR h3 h6 h7 b1 b2 lpre
  go_enter Try.func22, Try.ntmps22
  go_wp2_with fail
  refine wp_region_seq 23 0 [(true, [true, true, true, true, true, true, true, true, true, true, true, true, true, true, true, true, true, true, true, true, true, true, true])] _ _ (HasC [(⟨w.heap.size, 2, none⟩, .slice ah heads.length ch), (⟨w.heap.size, 0, none⟩, .int .i64 (bn : Int)), (⟨w.heap.size, 8, none⟩, .slice ac ctrs.length cc), (⟨w.heap.size, 6, none⟩, .int .i64 part)]) (by kernel_rfl) (List.take_append_drop 23 _).symm (by kernel_rfl) (by kernel_rfl) (by kernel_rfl) (by kernel_rfl) (hC) (fun Y Q4 F4 hY hF => ?_)
  simp only [phased, List.flatMap_cons, List.flatMap_nil, List.take_succ_cons, List.take_zero, List.drop_succ_cons, List.drop_zero, sel_true, sel_false, sel_nil, List.map_cons, List.map_nil, List.cons_append, List.nil_append, List.append_nil]
  repeat
    apply wpSeq_read (by first | rfl | (rw [hY]; rfl))
    · intro w2 hS2
      (try simp only [Keeps, Cells] at hS2)
      (try simp only [HasC, Cells] at hS2)
      go_simp
      with_reducible rfl
    simp only [Act.put, List.setIfInBounds_toArray, List.set_cons_zero, List.set_cons_succ]
  repeat
    first
      | (apply wpSeq_unread (by rw [hY]; rfl)
         simp only [Act.put, List.setIfInBounds_toArray, List.set_cons_zero, List.set_cons_succ])
      | (apply wpSeq_read (by first | rfl | (rw [hY]; rfl))
         · intro w2 hS2
           (try simp only [Keeps, Cells] at hS2)
           (try simp only [HasC, Cells] at hS2)
           go_simp
           with_reducible rfl
         simp only [Act.put, List.setIfInBounds_toArray, List.set_cons_zero, List.set_cons_succ])
  refine wpSeq_done (hF.out _ _ (fun K hK => ?_))
  clear hF hY
  go_wp2_with fail
  refine OnlyK.mk (hK.out _ _ ?_)
  clear hK
  clear b1n b1z b2n e1d e2d b3 b4 e3n hC q2 q6 q8 p0 p1 p3 e3 e4 d6 d7 hsh hps hw0
  have B2 := B1.step (below_drew w0.heap.size w0)
  clear B1
  go_wp2_with fail
  go_loopw [3] (fun i wr => ∃ k : Nat, k ≤ heads.length ∧ i = .int .i64 (k : Int) ∧ ((heads.take k).any fun h => !decide (0 ≤ h ∧ h ≤ (bytes.length : Int))) = false ∧ Blk wr w.heap.size [.int .i64 (bn : Int), .int .i64 least, .slice ah heads.length ch, .slice ab bytes.length cb, .int .i64 at_, .int .i64 len, .int .i64 part, .int .i64 bit, .slice ac ctrs.length cc] 27 ∧ Below w.heap.size w wr) (fun i _ => heads.length - (intOf i).toNat)
  case atStart => exact ⟨0, by omega, rfl, rfl, B2, hB0d⟩
  case round =>
    obtain ⟨k, hk, rfl, hno, BR, hB⟩ := hrel
    have r2 : wr.cell? ⟨w.heap.size, 2, none⟩ = some (.slice ah heads.length ch) := BR.cell 2
    have r3 : wr.cell? ⟨w.heap.size, 3, none⟩ = some (.slice ab bytes.length cb) := BR.cell 3
    have Hno := Lib.hid hno
    clear hno B2 hB0 hB0d
    by_cases hlt : k < heads.length
    · have hdk : decide ((k : Int) < (heads.length : Int)) = true := decide_eq_true (by omega)
      obtain ⟨g, o, rfl, hcs⟩ := (HM.out.rdh.step hB).at (i := k) (by rw [Ints_length]; exact hlt)
      have hc : wr.cell? ⟨g, o + k, none⟩ = some (.int .i64 heads[k]) := by rw [hcs k (by rw [Ints_length]; exact hlt)]; simp [Ints]
      have Hs := Lib.hid (any_take_succ (fun h => !decide (0 ≤ h ∧ h ≤ (bytes.length : Int))) heads k hlt)
      have Ha := Lib.hid (any_of_at (fun h => !decide (0 ≤ h ∧ h ≤ (bytes.length : Int))) heads k hlt)
      obtain ⟨x, hx⟩ : ∃ x, heads[k] = x := ⟨_, rfl⟩
      rw [hx] at hc Hs Ha
      have hC : HasC [(⟨w.heap.size, 2, none⟩, .slice (some ⟨g, o, none⟩) heads.length ch), (⟨w.heap.size, 3, none⟩, .slice ab bytes.length cb), (⟨g, o + k, none⟩, .int .i64 x)] wr := ⟨r2, r3, hc, trivial⟩
      have hBd := hB.drew
      clear hcs hx
      by_cases x1 : x < 0
      · have dx : decide (x < 0) = true := decide_eq_true x1
        have ht : (!decide (0 ≤ x ∧ x ≤ (bytes.length : Int))) = true := by simp; omega
        have hfa := Ha.out ht
        rw [HFA.out] at hfa
        have hR := HR.out
        rw [if_pos (.inl hfa)] at hR
        clear ht hfa
        subst hR
        go_wp2_with fail
        refine wp_region_seq 17 0 [(true, [true, true, true, true, true, true, true, true, true, true, true, true, true, true, true, true, true])] _ _ (HasC [(⟨w.heap.size, 2, none⟩, .slice (some ⟨g, o, none⟩) heads.length ch), (⟨w.heap.size, 3, none⟩, .slice ab bytes.length cb), (⟨g, o + k, none⟩, .int .i64 x)]) (by kernel_rfl) (List.take_append_drop 17 _).symm (by kernel_rfl) (by kernel_rfl) (by kernel_rfl) (by kernel_rfl) (hC) (fun Y Q4 F4 hY hF => ?_)
        simp only [phased, List.flatMap_cons, List.flatMap_nil, List.take_succ_cons, List.take_zero, List.drop_succ_cons, List.drop_zero, sel_true, sel_false, sel_nil, List.map_cons, List.map_nil, List.cons_append, List.nil_append, List.append_nil]
        repeat
          apply wpSeq_read (by first | rfl | (rw [hY]; rfl))
          · intro w2 hS2
            (try simp only [Keeps, Cells] at hS2)
            (try simp only [HasC, Cells] at hS2)
            go_simp
            with_reducible rfl
          simp only [Act.put, List.setIfInBounds_toArray, List.set_cons_zero, List.set_cons_succ]
        repeat
          first
            | (apply wpSeq_unread (by rw [hY]; rfl)
               simp only [Act.put, List.setIfInBounds_toArray, List.set_cons_zero, List.set_cons_succ])
            | (apply wpSeq_read (by first | rfl | (rw [hY]; rfl))
               · intro w2 hS2
                 (try simp only [Keeps, Cells] at hS2)
                 (try simp only [HasC, Cells] at hS2)
                 go_simp
                 with_reducible rfl
               simp only [Act.put, List.setIfInBounds_toArray, List.set_cons_zero, List.set_cons_succ])
        repeat
          first
            | (apply wpSeq_unread (by rw [hY]; rfl)
               simp only [Act.put, List.setIfInBounds_toArray, List.set_cons_zero, List.set_cons_succ])
            | (refine wpSeq_skip (by rw [hY]; rfl) (hC) ?_
               simp only [Act.put, List.setIfInBounds_toArray, List.set_cons_zero, List.set_cons_succ])
        repeat
          first
            | (apply wpSeq_unread (by rw [hY]; rfl)
               simp only [Act.put, List.setIfInBounds_toArray, List.set_cons_zero, List.set_cons_succ])
            | (apply wpSeq_read (by first | rfl | (rw [hY]; rfl))
               · intro w2 hS2
                 (try simp only [Keeps, Cells] at hS2)
                 (try simp only [HasC, Cells] at hS2)
                 go_simp
                 with_reducible rfl
               simp only [Act.put, List.setIfInBounds_toArray, List.set_cons_zero, List.set_cons_succ])
        refine wpSeq_done (hF.out _ _ (fun K hK => ?_))
        clear hF hY
        go_wp2_with fail
        refine OnlyK.mk (hK.out _ _ ?_)
        clear hK
        go_wp2_with fail
        go_returns
        exact ⟨rfl, hBd⟩
      have dx1 : decide (x < 0) = false := decide_eq_false x1
      by_cases x2 : (bytes.length : Int) < x
      · have dx : decide ((bytes.length : Int) < x) = true := decide_eq_true x2
        have ht : (!decide (0 ≤ x ∧ x ≤ (bytes.length : Int))) = true := by simp; omega
        have hfa := Ha.out ht
        rw [HFA.out] at hfa
        have hR := HR.out
        rw [if_pos (.inl hfa)] at hR
        clear ht hfa
        subst hR
        go_wp2_with fail
        refine wp_region_seq 17 0 [(true, [true, true, true, true, true, true, true, true, true, true, true, true, true, true, true, true, true])] _ _ (HasC [(⟨w.heap.size, 2, none⟩, .slice (some ⟨g, o, none⟩) heads.length ch), (⟨w.heap.size, 3, none⟩, .slice ab bytes.length cb), (⟨g, o + k, none⟩, .int .i64 x)]) (by kernel_rfl) (List.take_append_drop 17 _).symm (by kernel_rfl) (by kernel_rfl) (by kernel_rfl) (by kernel_rfl) (hC) (fun Y Q4 F4 hY hF => ?_)
        simp only [phased, List.flatMap_cons, List.flatMap_nil, List.take_succ_cons, List.take_zero, List.drop_succ_cons, List.drop_zero, sel_true, sel_false, sel_nil, List.map_cons, List.map_nil, List.cons_append, List.nil_append, List.append_nil]
        repeat
          apply wpSeq_read (by first | rfl | (rw [hY]; rfl))
          · intro w2 hS2
            (try simp only [Keeps, Cells] at hS2)
            (try simp only [HasC, Cells] at hS2)
            go_simp
            with_reducible rfl
          simp only [Act.put, List.setIfInBounds_toArray, List.set_cons_zero, List.set_cons_succ]
        repeat
          first
            | (apply wpSeq_unread (by rw [hY]; rfl)
               simp only [Act.put, List.setIfInBounds_toArray, List.set_cons_zero, List.set_cons_succ])
            | (apply wpSeq_read (by first | rfl | (rw [hY]; rfl))
               · intro w2 hS2
                 (try simp only [Keeps, Cells] at hS2)
                 (try simp only [HasC, Cells] at hS2)
                 go_simp
                 with_reducible rfl
               simp only [Act.put, List.setIfInBounds_toArray, List.set_cons_zero, List.set_cons_succ])
        repeat
          first
            | (apply wpSeq_unread (by rw [hY]; rfl)
               simp only [Act.put, List.setIfInBounds_toArray, List.set_cons_zero, List.set_cons_succ])
            | (refine wpSeq_skip (by rw [hY]; rfl) (hC) ?_
               simp only [Act.put, List.setIfInBounds_toArray, List.set_cons_zero, List.set_cons_succ])
        repeat
          first
            | (apply wpSeq_unread (by rw [hY]; rfl)
               simp only [Act.put, List.setIfInBounds_toArray, List.set_cons_zero, List.set_cons_succ])
            | (apply wpSeq_read (by first | rfl | (rw [hY]; rfl))
               · intro w2 hS2
                 (try simp only [Keeps, Cells] at hS2)
                 (try simp only [HasC, Cells] at hS2)
                 go_simp
                 with_reducible rfl
               simp only [Act.put, List.setIfInBounds_toArray, List.set_cons_zero, List.set_cons_succ])
        refine wpSeq_done (hF.out _ _ (fun K hK => ?_))
        clear hF hY
        go_wp2_with fail
        refine OnlyK.mk (hK.out _ _ ?_)
        clear hK
        go_wp2_with fail
        go_returns
        exact ⟨rfl, hBd⟩
      have dx2 : decide ((bytes.length : Int) < x) = false := decide_eq_false x2
      have Hn := Lib.hid (show ((heads.take (k + 1)).any fun h => !decide (0 ≤ h ∧ h ≤ (bytes.length : Int))) = false by
        have h0 : (!decide (0 ≤ x ∧ x ≤ (bytes.length : Int))) = false := by simp; omega
        rw [Hs.out, Hno.out, h0]; rfl)
      have BR2 := BR.step (below_drew wr.heap.size wr)
      go_wp2_with fail
      refine wp_region_seq 17 0 [(true, [true, true, true, true, true, true, true, true, true, true, true, true, true, true, true, true, true])] _ _ (HasC [(⟨w.heap.size, 2, none⟩, .slice (some ⟨g, o, none⟩) heads.length ch), (⟨w.heap.size, 3, none⟩, .slice ab bytes.length cb), (⟨g, o + k, none⟩, .int .i64 x)]) (by kernel_rfl) (List.take_append_drop 17 _).symm (by kernel_rfl) (by kernel_rfl) (by kernel_rfl) (by kernel_rfl) (hC) (fun Y Q4 F4 hY hF => ?_)
      simp only [phased, List.flatMap_cons, List.flatMap_nil, List.take_succ_cons, List.take_zero, List.drop_succ_cons, List.drop_zero, sel_true, sel_false, sel_nil, List.map_cons, List.map_nil, List.cons_append, List.nil_append, List.append_nil]
      repeat
        apply wpSeq_read (by first | rfl | (rw [hY]; rfl))
        · intro w2 hS2
          (try simp only [Keeps, Cells] at hS2)
          (try simp only [HasC, Cells] at hS2)
          go_simp
          with_reducible rfl
        simp only [Act.put, List.setIfInBounds_toArray, List.set_cons_zero, List.set_cons_succ]
      repeat
        first
          | (apply wpSeq_unread (by rw [hY]; rfl)
             simp only [Act.put, List.setIfInBounds_toArray, List.set_cons_zero, List.set_cons_succ])
          | (apply wpSeq_read (by first | rfl | (rw [hY]; rfl))
             · intro w2 hS2
               (try simp only [Keeps, Cells] at hS2)
               (try simp only [HasC, Cells] at hS2)
               go_simp
               with_reducible rfl
             simp only [Act.put, List.setIfInBounds_toArray, List.set_cons_zero, List.set_cons_succ])
      refine wpSeq_done (hF.out _ _ (fun K hK => ?_))
      clear hF hY
      go_wp2_with fail
      refine OnlyK.mk (hK.out _ _ ?_)
      clear hK
      go_wp2_with fail
      go_roundw
      case rel => exact ⟨k + 1, by omega, by go_num, Hn.out, BR2, hBd⟩
      case measure => simp [intOf]; omega
    · obtain rfl : k = heads.length := by omega
      have hdk : decide ((heads.length : Int) < (heads.length : Int)) = false := decide_eq_false (by omega)
      have hFA0 : FA = false := by have := Hno.out; rw [List.take_length, HFA.out] at this; exact this
      clear HFA Hno
      subst hFA0
      go_wp2_with fail
      clear hdk r2 r3
      go_loopw [4] (fun i ws => ∃ k : Nat, k ≤ 16 ∧ i = .int .i64 (k : Int) ∧ ((ctrs.take k).any fun c => S08.check c.1 c.2 255 != 0) = false ∧ Blk ws w.heap.size [.int .i64 (bn : Int), .int .i64 least, .slice ah heads.length ch, .slice ab bytes.length cb, .int .i64 at_, .int .i64 len, .int .i64 part, .int .i64 bit, .slice ac ctrs.length cc] 27 ∧ Below w.heap.size w ws) (fun i _ => 16 - (intOf i).toNat)
      case atStart => exact ⟨0, by omega, rfl, rfl, BR, hB⟩
      case round =>
        obtain ⟨k, hk, rfl, hno, BS, hB2⟩ := hrel
        have Hno := Lib.hid hno
        clear hno BR hB
        have s0 := BS.cell 0
        have s1 := BS.cell 1
        have s2 := BS.cell 2
        have s3 := BS.cell 3
        have s4 := BS.cell 4
        have s5 := BS.cell 5
        have s6 := BS.cell 6
        have s7 := BS.cell 7
        have s8 := BS.cell 8
        simp only [List.getElem?_cons_zero, List.getElem?_cons_succ] at s0 s1 s2 s3 s4 s5 s6 s7 s8
        by_cases hlt : k < 16
        · have hlc2 : k < ctrs.length := by rw [H5.out]; exact hlt
          have hdk : decide ((k : Int) < 16) = true := decide_eq_true (by omega)
          obtain ⟨g, o, rfl, hcs⟩ := (HM.out.rdc.step hB2) (fun e => by have := congrArg List.length e; rw [Cts_length] at this; simp at this; omega)
          have hc0 := hcs (k * 2) _ (Cts_at hlc2).1
          have hc1 := hcs (k * 2 + 1) _ (Cts_at hlc2).2
          have Hs := Lib.hid (any_take_succ (fun c => S08.check c.1 c.2 255 != 0) ctrs k hlc2)
          have Ha := Lib.hid (any_of_at (fun c => S08.check c.1 c.2 255 != 0) ctrs k hlc2)
          obtain ⟨x, hx⟩ : ∃ x, ctrs[k] = x := ⟨_, rfl⟩
          rw [hx] at hc0 hc1 Hs Ha
          clear hcs hx
          obtain ⟨x0, x1⟩ := x
          simp only at hc0 hc1
          rw [← Nat.add_assoc] at hc1
          have HT := Lib.hid fun W => refCheck08_any x0 x1 255 W
          obtain ⟨ck, hck⟩ : ∃ ck, S08.check x0 x1 255 = ck := ⟨_, rfl⟩
          have Hck := Lib.hid hck
          rw [hck] at HT
          clear hck
          by_cases hz : ck = 0
          · subst hz
            have Hn := Lib.hid (show ((ctrs.take (k + 1)).any fun c => S08.check c.1 c.2 255 != 0) = false by rw [Hs.out, Hno.out]; simp only; rw [Hck.out]; rfl)
            go_wp2_with fail
            refine (HT.out _).mono ?_
            rintro e w5 ⟨rfl, hb5⟩
            have hB5 := below_trans hB2 hb5
            have BS5 := BS.step hb5
            go_wp2_with fail
            go_roundw
            case rel => exact ⟨k + 1, by omega, by go_num, Hn.out, BS5, hB5⟩
            case measure => simp [intOf]; omega
          · have hne : (ck != 0) = true := by simp [hz]
            have hba := Ha.out (by simp only; rw [Hck.out]; exact hne)
            rw [HBA.out] at hba
            have hR := HR.out
            rw [if_pos (.inr (.inl hba))] at hR
            clear hba
            subst hR
            go_wp2_with fail
            refine (HT.out _).mono ?_
            rintro e w5 ⟨rfl, hb5⟩
            have hB5 := below_trans hB2 hb5
            go_wp2_with fail
            go_returns
            exact ⟨rfl, hB5⟩
        · obtain rfl : k = 16 := by omega
          have hBA0 : BA = false := by have := Hno.out; rw [List.take_of_length_le (Nat.le_of_eq H5.out), HBA.out] at this; exact this
          have hR := HR.out
          clear HBA Hno
          subst hBA0
          go_wp2_with fail
          refine (HMt2.out _ (HM.out.step hB2)).mono ?_
          rintro e w7 ⟨rfl, hb7⟩
          have hB7 := below_trans hB2 hb7
          cases MT with
          | true =>
            rw [if_neg (by simp)] at hR
            subst hR
            go_wp2
            go_returns
            exact ⟨rfl, hB7⟩
          | false =>
            rw [if_pos (by simp)] at hR
            subst hR
            go_wp2
            go_returns
            exact ⟨rfl, hB7⟩
end Go.Proofs.Ytbfgdaijpcbddaa
