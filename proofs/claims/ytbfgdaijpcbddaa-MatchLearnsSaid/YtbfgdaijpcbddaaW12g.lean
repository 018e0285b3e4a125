/- Check (layer 12). No condition. -/
import Derived.Test.YtbfgdaijpcbddaaW12f
set_option linter.unusedSimpArgs false
set_option linter.unusedVariables false
set_option linter.unusedSectionVars false
namespace Go.Proofs.Ytbfgdaijpcbddaa
open Go.RowKit

set_option maxRecDepth 100000 in
set_option maxHeartbeats 1000000 in
theorem check12_any (m : S12.M) (p : Pl) (w : World) (hM : MIs m p w) :
    Calls Try.prog 21 #[MV m p] w fun e w' => e = .returned (.int .i64 (S12.check m)) ∧ Below w.heap.size w w' := by
  obtain ⟨R, hR⟩ : ∃ R, S12.check m = R := ⟨_, rfl⟩
  rw [hR]
  unfold S12.check at hR
  have HMt := Lib.hid fun (hl : m.bytes.length ≤ 65536) W hW => matched12_any m p W hl hW
  obtain ⟨MT, hMT⟩ : ∃ MT, S12.matched m = MT := ⟨_, rfl⟩
  rw [hMT] at hR HMt
  obtain ⟨FA, hFA⟩ : ∃ FA, S12.far m = FA := ⟨_, rfl⟩
  obtain ⟨BA, hBA⟩ : ∃ BA, S12.bad m = BA := ⟨_, rfl⟩
  rw [hFA, hBA] at hR
  have hfo : S12.form m = (decide (m.heads.length = 2 ^ m.bits.toNat) && decide (m.ctrs.length = 16) && decide (1 ≤ m.part ∧ m.part ≤ 255)) := rfl
  rw [hfo] at hR
  have HFA := Lib.hid (show (m.heads.any fun h => !decide (0 ≤ h ∧ h ≤ (m.bytes.length : Int))) = FA from hFA)
  have HBA := Lib.hid (show (m.ctrs.any fun c => S08.check c.1 c.2 255 != 0) = BA from hBA)
  clear hFA hBA hMT hfo
  have HM := Lib.hid hM
  have hlen := hM.lb
  have hlh := hM.lh
  have hlc := hM.lc
  clear hM
  obtain ⟨bits, least, heads, bytes, at_, len, part, bit, ctrs⟩ := m
  obtain ⟨ah, ch, ab, cb, ac, cc⟩ := p
  simp only at hR hlen hlh hlc HFA HBA
  unfold MV MVals at *
  simp only at *
  have HW := Lib.hid fun n lo hi W => within12_any n lo hi W
  have B0 := Blk.new w [.int .i64 bits, .int .i64 least, .slice ah heads.length ch, .slice ab bytes.length cb, .int .i64 at_, .int .i64 len, .int .i64 part, .int .i64 bit, .slice ac ctrs.length cc] 27
  have hB0 : Below w.heap.size w (w.alloc (.cells #[.int .i64 bits, .int .i64 least, .slice ah heads.length ch, .slice ab bytes.length cb, .int .i64 at_, .int .i64 len, .int .i64 part, .int .i64 bit, .slice ac ctrs.length cc] 27)) := (Below.refl _ _).alloc (Nat.le_refl _) _
  obtain ⟨w0, hw0⟩ : ∃ w0, (w.alloc (.cells #[.int .i64 bits, .int .i64 least, .slice ah heads.length ch, .slice ab bytes.length cb, .int .i64 at_, .int .i64 len, .int .i64 part, .int .i64 bit, .slice ac ctrs.length cc] 27)) = w0 := ⟨_, rfl⟩
  rw [hw0] at hB0
  have B1 : Blk w0 w.heap.size [.int .i64 bits, .int .i64 least, .slice ah heads.length ch, .slice ab bytes.length cb, .int .i64 at_, .int .i64 len, .int .i64 part, .int .i64 bit, .slice ac ctrs.length cc] 27 := by rw [← hw0]; exact B0
  clear B0
  have p0 : w0.cell? ⟨w.heap.size, 0, none⟩ = some (.int .i64 bits) := B1.cell 0
  go_enter Try.func21, Try.ntmps21
  go_wp2_with fail
  refine (HW.out _ _ _ _).mono ?_
  rintro e w1 ⟨rfl, hb1⟩
  have B2 := B1.step hb1
  have hB1 := below_trans hB0 hb1
  have p1 : w1.cell? ⟨w.heap.size, 1, none⟩ = some (.int .i64 least) := B2.cell 1
  by_cases h1 : ¬ (1 ≤ bits ∧ bits ≤ 16)
  · rw [if_pos (by omega)] at hR
    subst hR
    rw [decide_eq_false h1]
    go_wp2
    go_returns
    exact ⟨rfl, hB1⟩
  replace h1 := Classical.not_not.1 h1
  rw [decide_eq_true h1]
  clear p0 B1 hw0
  go_wp2_with fail
  refine (HW.out _ _ _ _).mono ?_
  rintro e w2 ⟨rfl, hb2⟩
  have B3 := B2.step hb2
  have hB2 := below_trans hB1 hb2
  have p3 : w2.cell? ⟨w.heap.size, 3, none⟩ = some (.slice ab bytes.length cb) := B3.cell 3
  by_cases h2 : ¬ (1 ≤ least ∧ least ≤ 32)
  · rw [if_pos (by omega)] at hR
    subst hR
    rw [decide_eq_false h2]
    go_wp2
    go_returns
    exact ⟨rfl, hB2⟩
  replace h2 := Classical.not_not.1 h2
  rw [if_neg (by omega)] at hR
  rw [decide_eq_true h2]
  clear p1 B2
  by_cases h3 : 65536 < bytes.length
  · rw [if_pos h3] at hR
    subst hR
    have e3 : decide ((65536 : Int) < (bytes.length : Int)) = true := by simp; omega
    go_wp2
    go_returns
    exact ⟨rfl, hB2⟩
  rw [if_neg h3] at hR
  have e3 : decide ((65536 : Int) < (bytes.length : Int)) = false := by simp; omega
  have hC : Cells w2 [(⟨w.heap.size, 0, none⟩, .int .i64 bits), (⟨w.heap.size, 2, none⟩, .slice ah heads.length ch)] := ⟨B3.cell 0, B3.cell 2, trivial⟩
  obtain ⟨bn, rfl⟩ : ∃ bn : Nat, bits = bn := ⟨bits.toNat, by omega⟩
  rw [Int.toNat_natCast] at hR
  have hps : 2 ^ bn ≤ 65536 := Nat.pow_le_pow_right (n := 2) (by omega) (show bn ≤ 16 by omega)
  have hsh : IntKind.i64.wrap ((2 : Int) ^ bn) = ((2 ^ bn : Nat) : Int) := by
    have e : (2 : Int) ^ bn = ((2 ^ bn : Nat) : Int) := by simp
    rw [e]; exact wrap_i64_nat (by omega)
  obtain ⟨N, hN⟩ : ∃ N, 2 ^ bn = N := ⟨_, rfl⟩
  rw [hN] at hsh hps hR
  clear hN
  obtain ⟨c1, hc1⟩ : ∃ c1, ((heads.length : Int) != (N : Int)) = c1 := ⟨_, rfl⟩
  go_wp2_with fail
  refine wp_region_seq 8 0 [(true, [true, true, true, true, true, true, true]), (false, [false, false, false, false, false, false, false, true])] _ _ (Keeps w2 [(⟨w.heap.size, 0, none⟩, .int .i64 (bn : Int)), (⟨w.heap.size, 2, none⟩, .slice ah heads.length ch)]) (by kernel_rfl) (List.take_append_drop 8 _).symm (by kernel_rfl) (by kernel_rfl) (by kernel_rfl) (by kernel_rfl) (Keeps.start hC) (fun Y Q4 F4 hY hF => ?_)
  simp only [phased, List.flatMap_cons, List.flatMap_nil, List.take_succ_cons, List.take_zero, List.drop_succ_cons, List.drop_zero, sel_true, sel_false, sel_nil, List.map_cons, List.map_nil, List.cons_append, List.nil_append, List.append_nil]
  repeat
    apply wpSeq_read (by first | rfl | (rw [hY]; rfl))
    · intro w2 hS2
      (try simp only [Keeps, Cells] at hS2)
      (try simp only [HasC, Cells] at hS2)
      go_simp
      with_reducible rfl
    simp only [Act.put, List.setIfInBounds_toArray, List.set_cons_zero, List.set_cons_succ]
  refine wpSeq_value (by first | rfl | (rw [hY]; rfl)) (by go_simp; first | with_reducible exact ⟨rfl, rfl⟩ | with_reducible rfl) (Keeps.start hC) ?_
  simp only [Act.put, List.setIfInBounds_toArray, List.set_cons_zero, List.set_cons_succ]
  refine wpSeq_done (hF.out _ _ (fun K hK => ?_))
  clear hF hY
  refine OnlyK.mk (hK.out _ _ ?_)
  clear hK
  have hb3 := (Keeps.start hC).1
  have hB3 := below_trans hB2 hb3
  have B4 := B3.step hb3
  obtain ⟨w3, hw3⟩ : ∃ w3, w2.drew = w3 := ⟨_, rfl⟩
  rw [hw3] at hb3 hB3 B4 ⊢
  clear hC p3 B3 hw3
  by_cases h4 : ¬ heads.length = N
  · obtain rfl : c1 = true := by rw [← hc1]; simp; omega
    rw [decide_eq_false h4, Bool.false_and, Bool.false_and, if_pos rfl] at hR
    subst hR
    go_wp2
    go_returns
    exact ⟨rfl, hB3⟩
  replace h4 := Classical.not_not.1 h4
  obtain rfl : c1 = false := by rw [← hc1]; simp; omega
  rw [decide_eq_true h4, Bool.true_and] at hR
  clear hc1
  have H4 := Lib.hid h4
  clear h4
  have q8 : w3.cell? ⟨w.heap.size, 8, none⟩ = some (.slice ac ctrs.length cc) := B4.cell 8
  have q6 : w3.cell? ⟨w.heap.size, 6, none⟩ = some (.int .i64 part) := B4.cell 6
  by_cases h5 : ¬ ctrs.length = 16
  · have e5 : ((ctrs.length : Int) != 16) = true := by simp; omega
    rw [decide_eq_false h5, Bool.false_and, if_pos rfl] at hR
    subst hR
    go_wp2
    go_returns
    exact ⟨rfl, hB3⟩
  replace h5 := Classical.not_not.1 h5
  have e5 : ((ctrs.length : Int) != 16) = false := by simp; omega
  rw [decide_eq_true h5, Bool.true_and] at hR
  go_wp2_with fail
  refine (HW.out _ _ _ _).mono ?_
  rintro e w4 ⟨rfl, hb4⟩
  have hB4 := below_trans hB3 hb4
  have B5 := B4.step hb4
  by_cases h6 : ¬ (1 ≤ part ∧ part ≤ 255)
  · rw [decide_eq_false h6] at hR ⊢
    rw [if_pos rfl] at hR
    subst hR
    go_wp2
    go_returns
    exact ⟨rfl, hB4⟩
  replace h6 := Classical.not_not.1 h6
  rw [decide_eq_true h6] at hR ⊢
  rw [if_neg (by simp)] at hR
  clear q8 q6 B4
  have hc16 : ctrs.length ≤ 100000 := by omega
  have H5 := Lib.hid h5
  clear h5 e5
  have l5 := B5.lt
  have q2 : w4.cell? ⟨w.heap.size, 2, none⟩ = some (.slice ah heads.length ch) := B5.cell 2
  have q3 : w4.cell? ⟨w.heap.size, 3, none⟩ = some (.slice ab bytes.length cb) := B5.cell 3
  have HI := Lib.hid (containsInts12_any 42 (enters_of Try.func42 (by kernel_rfl) rfl) (.pointer (some ⟨w.heap.size, 0, none⟩)) (fun h => !decide (0 ≤ h ∧ h ≤ (bytes.length : Int))) w4 heads
    (fun x W _ hW => far12_any 0 bytes.length x w.heap.size ab cb W ((hW.cell (p := ⟨w.heap.size, 3, none⟩) l5).trans q3)) ah ch (by omega) (HM.out.rdh.step hB4))
  have HIc := Lib.hid fun W (hW : Below w.heap.size w W) => containsCts12_any 43 (enters_of Try.func43 (by kernel_rfl) rfl) (fun c => S08.check c.1 c.2 255 != 0) W ctrs
    (fun x W2 => bad12_any x.1 x.2 W2) ac cc hc16 (HM.out.rdc.step hW)
  rw [HFA.out] at HI
  rw [HBA.out] at HIc
  clear HFA HBA
  go_wp2_with fail
  refine HI.out.mono ?_
  rintro e w5 ⟨rfl, hb5⟩
  have hB5 := below_trans hB4 hb5
  have B6 := B5.step hb5
  have r8 : w5.cell? ⟨w.heap.size, 8, none⟩ = some (.slice ac ctrs.length cc) := B6.cell 8
  clear B5 q2 q3 HI
  cases FA with
  | true =>
    rw [if_pos (.inl rfl)] at hR
    subst hR
    go_wp2
    go_returns
    exact ⟨rfl, hB5⟩
  | false =>
  go_wp2_with fail
  refine (HIc.out _ hB5).mono ?_
  rintro e w6 ⟨rfl, hb6⟩
  have hB6 := below_trans hB5 hb6
  have B7 := B6.step hb6
  clear B6 r8 HIc
  cases BA with
  | true =>
    rw [if_pos (.inr (.inl rfl))] at hR
    subst hR
    go_wp2
    go_returns
    exact ⟨rfl, hB6⟩
  | false =>
  have s0 := B7.cell 0
  have s1 := B7.cell 1
  have s2 := B7.cell 2
  have s3 := B7.cell 3
  have s4 := B7.cell 4
  have s5 := B7.cell 5
  have s6 := B7.cell 6
  have s7 := B7.cell 7
  have s8 := B7.cell 8
  simp only [List.getElem?_cons_zero, List.getElem?_cons_succ] at s0 s1 s2 s3 s4 s5 s6 s7 s8
  have hlb : bytes.length ≤ 65536 := by omega
  clear B7
  go_wp2_with fail
  refine (HMt.out hlb _ (HM.out.step hB6)).mono ?_
  rintro e w7 ⟨rfl, hb7⟩
  have hB7 := below_trans hB6 hb7
  cases MT with
  | true =>
    rw [if_neg (by simp)] at hR
    subst hR
    go_wp2
    go_returns
    exact ⟨rfl, hB7⟩
  | false =>
    rw [if_pos (by simp)] at hR
    subst hR
    go_wp2
    go_returns
    exact ⟨rfl, hB7⟩
end Go.Proofs.Ytbfgdaijpcbddaa
