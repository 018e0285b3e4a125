/- Whether a match is right (layer 12). No condition. -/
import Derived.Test.YtbfgdaijpcbddaaW12e
import Derived.Test.YtbfgdaijpcbddaaBase13
set_option linter.unusedSimpArgs false
set_option linter.unusedVariables false
set_option linter.unusedSectionVars false
namespace Go.Proofs.Ytbfgdaijpcbddaa
open Go.RowKit

/-- Where the lists of a model lie. -/
structure Pl where
  ah : Option Addr
  ch : Nat
  ab : Option Addr
  cb : Nat
  ac : Option Addr
  cc : Nat
def MVals (m : S12.M) (p : Pl) : List Value := [.int .i64 m.bits, .int .i64 m.least, .slice p.ah m.heads.length p.ch, .slice p.ab m.bytes.length p.cb, .int .i64 m.at_, .int .i64 m.len, .int .i64 m.part, .int .i64 m.bit, .slice p.ac m.ctrs.length p.cc]
def MV (m : S12.M) (p : Pl) : Value := .agg (MVals m p).toArray
structure MIs (m : S12.M) (p : Pl) (w : World) : Prop where
  rdh : Rd w p.ah (Ints m.heads)
  rdb : Rd w p.ab (Bts m.bytes)
  rdc : Rd w p.ac (Cts m.ctrs)
  byt : S12.Byt m.bytes
  cb : m.bytes.length ≤ p.cb
  lh : m.heads.length ≤ 4611686018427387904
  lb : m.bytes.length ≤ 4611686018427387904
  lc : m.ctrs.length ≤ 4611686018427387904
theorem MIs.step {m : S12.M} {p : Pl} {w w' : World} (h : MIs m p w) (hb : Below w.heap.size w w') : MIs m p w' := ⟨h.rdh.step hb, h.rdb.step hb, h.rdc.step hb, h.byt, h.cb, h.lh, h.lb, h.lc⟩

set_option maxRecDepth 100000 in
set_option maxHeartbeats 1000000 in
theorem matched12_any (m : S12.M) (p : Pl) (w : World) (hl : m.bytes.length ≤ 65536) (hM : MIs m p w) :
    Calls Try.prog 47 #[MV m p] w fun e w' => e = .returned (.bool (S12.matched m)) ∧ Below w.heap.size w w' := by
  obtain ⟨bits, least, heads, bytes, at_, len, part, bit, ctrs⟩ := m
  obtain ⟨ah, ch, ab, cb, ac, cc⟩ := p
  obtain ⟨_, hrb, _, hbyt, hcb, _, _, _⟩ := hM
  obtain ⟨R, hR⟩ : ∃ R, S12.matched ⟨bits, least, heads, bytes, at_, len, part, bit, ctrs⟩ = R := ⟨_, rfl⟩
  rw [hR]
  unfold S12.matched at hR
  simp only at hrb hbyt hcb hl hR
  unfold MV MVals
  simp only
  have HW := Lib.hid fun n lo hi W => within12_any n lo hi W
  have hB0 : Below w.heap.size w (w.alloc (.cells #[.int .i64 bits, .int .i64 least, .slice ah heads.length ch, .slice ab bytes.length cb, .int .i64 at_, .int .i64 len, .int .i64 part, .int .i64 bit, .slice ac ctrs.length cc] 27)) := (Below.refl _ _).alloc (Nat.le_refl _) _
  have B0 := Blk.new w [.int .i64 bits, .int .i64 least, .slice ah heads.length ch, .slice ab bytes.length cb, .int .i64 at_, .int .i64 len, .int .i64 part, .int .i64 bit, .slice ac ctrs.length cc] 27
  by_cases h0 : len = 0
  · rw [if_pos h0] at hR
    subst h0
    have hr1 : R = (decide (at_ = 0) && decide (bit = 2)) := hR.symm
    clear hR
    by_cases ha : at_ = 0
    · have e1 : (at_ == 0) = true := by simp [ha]
      have hr : R = (bit == 2) := by rw [hr1, decide_eq_true ha, Bool.true_and]; rfl
      subst hr
      clear hr1 ha
      go_enter Try.func47, Try.ntmps47
      go_wp2
      go_returns
      exact ⟨rfl, hB0⟩
    · have e1 : (at_ == 0) = false := by simp [ha]
      have hr : R = false := by rw [hr1, decide_eq_false ha]; rfl
      subst hr
      clear hr1 ha
      go_enter Try.func47, Try.ntmps47
      go_wp2
      go_returns
      exact ⟨rfl, hB0⟩
  rw [if_neg h0] at hR
  have e0 : (len == 0) = false := by simp [h0]
  have HR := Lib.hid hR
  clear hR
  go_enter Try.func47, Try.ntmps47
  obtain ⟨w0, hw0⟩ : ∃ w0, (w.alloc (.cells #[.int .i64 bits, .int .i64 least, .slice ah heads.length ch, .slice ab bytes.length cb, .int .i64 at_, .int .i64 len, .int .i64 part, .int .i64 bit, .slice ac ctrs.length cc] 27)) = w0 := ⟨_, rfl⟩
  have B1 : Blk w0 w.heap.size [.int .i64 bits, .int .i64 least, .slice ah heads.length ch, .slice ab bytes.length cb, .int .i64 at_, .int .i64 len, .int .i64 part, .int .i64 bit, .slice ac ctrs.length cc] 27 := by rw [← hw0]; exact B0
  rw [hw0] at hB0
  have p5 : w0.cell? ⟨w.heap.size, 5, none⟩ = some (.int .i64 len) := B1.cell 5
  have hC : Cells w0 [(⟨w.heap.size, 3, none⟩, .slice ab bytes.length cb), (⟨w.heap.size, 4, none⟩, .int .i64 at_), (⟨w.heap.size, 5, none⟩, .int .i64 len), (⟨w.heap.size, 6, none⟩, .int .i64 part), (⟨w.heap.size, 7, none⟩, .int .i64 bit)] := ⟨B1.cell 3, B1.cell 4, B1.cell 5, B1.cell 6, B1.cell 7, trivial⟩
  have hwl : IntKind.i64.wrap ((bytes.length : Int) - 1) = (bytes.length : Int) - 1 := IntWalk.i64_in _ (by omega)
  clear B0
  go_wp2
  refine wp_region_seq 26 0 [(true, [true, true]), (false, [false, false, true]), (true, [false, false, false, true, true, true, true, true, true, true, true, true, true]), (false, [false, false, false, false, false, false, false, false, false, false, false, false, false, true]), (true, [false, false, false, false, false, false, false, false, false, false, false, false, false, false, true, true, true, true, true, true, true, false, true, true]), (false, [false, false, false, false, false, false, false, false, false, false, false, false, false, false, false, false, false, false, false, false, false, true]), (true, [false, false, false, false, false, false, false, false, false, false, false, false, false, false, false, false, false, false, false, false, false, false, false, false, true, true])] _ _ (Keeps w0 [(⟨w.heap.size, 3, none⟩, .slice ab bytes.length cb), (⟨w.heap.size, 4, none⟩, .int .i64 at_), (⟨w.heap.size, 5, none⟩, .int .i64 len), (⟨w.heap.size, 6, none⟩, .int .i64 part), (⟨w.heap.size, 7, none⟩, .int .i64 bit)]) (by kernel_rfl) (List.take_append_drop 26 _).symm (by kernel_rfl) (by kernel_rfl) (by kernel_rfl) (by kernel_rfl) (Keeps.start hC) (fun Y Q4 F4 hY hF => ?_)
  simp only [phased, List.flatMap_cons, List.flatMap_nil, List.take_succ_cons, List.take_zero, List.drop_succ_cons, List.drop_zero, sel_true, sel_false, sel_nil, List.map_cons, List.map_nil, List.cons_append, List.nil_append, List.append_nil]
  repeat
    apply wpSeq_read (by first | rfl | (rw [hY]; rfl))
    · intro w2 hS2
      (try simp only [Keeps, Cells] at hS2)
      (try simp only [HasC, Cells] at hS2)
      go_simp
      with_reducible rfl
    simp only [Act.put, List.setIfInBounds_toArray, List.set_cons_zero, List.set_cons_succ]
  apply wpSeq_call (by first | rfl | (rw [hY]; rfl))
  · go_simp
    with_reducible exact ⟨rfl, rfl⟩
  refine (HW.out _ _ _ _).mono ?_
  rintro e w1 ⟨rfl, hb1⟩
  have hk1 := (Keeps.start hC).step hb1
  refine ⟨_, rfl, hk1, ?_⟩
  simp only [Act.put, List.setIfInBounds_toArray, List.set_cons_zero, List.set_cons_succ]
  by_cases h1 : 1 ≤ len ∧ len ≤ 255
  · rw [decide_eq_true h1]
    repeat
      apply wpSeq_read (by first | rfl | (rw [hY]; rfl))
      · intro w2 hS2
        (try simp only [Keeps, Cells] at hS2)
        (try simp only [HasC, Cells] at hS2)
        go_simp
        with_reducible rfl
      simp only [Act.put, List.setIfInBounds_toArray, List.set_cons_zero, List.set_cons_succ]
    apply wpSeq_call (by first | rfl | (rw [hY]; rfl))
    · go_simp
      with_reducible exact ⟨rfl, rfl⟩
    refine (HW.out _ _ _ _).mono ?_
    rintro e w2 ⟨rfl, hb2⟩
    have hk2 := hk1.step hb2
    refine ⟨_, rfl, hk2, ?_⟩
    simp only [Act.put, List.setIfInBounds_toArray, List.set_cons_zero, List.set_cons_succ]
    by_cases h2 : len ≤ at_ ∧ at_ ≤ (bytes.length : Int) - 1
    · rw [decide_eq_true h2]
      obtain ⟨pa, rfl⟩ : ∃ pa : Nat, at_ = pa := ⟨at_.toNat, by omega⟩
      obtain ⟨g, o, rfl, hcc⟩ := Bts_at hrb (i := pa) (by omega)
      have hx := hcc pa (by omega)
      have hx0 := hbyt.at pa
      have hx1 := hbyt.get pa
      have HP := Lib.hid fun W hW => repetition_any g o cb bytes pa (by omega) (by omega) hcb (by omega) W hW
      have hr := HR.out
      rw [decide_eq_true h1, decide_eq_true h2, Int.toNat_natCast, Bool.true_and, Bool.true_and] at hr
      obtain ⟨rp, hrp⟩ : ∃ rp, S12.rep bytes pa = rp := ⟨_, rfl⟩
      obtain ⟨xv, hxv⟩ : ∃ xv, bytes.getD pa 0 = xv := ⟨_, rfl⟩
      rw [hrp] at HP hr
      rw [hxv] at hr hx hx0 hx1
      clear HR hrp hxv hcc
      repeat
        apply wpSeq_read (by first | rfl | (rw [hY]; rfl))
        · intro w2 hS2
          (try simp only [Keeps, Cells] at hS2)
          (try simp only [HasC, Cells] at hS2)
          go_simp
          with_reducible rfl
        simp only [Act.put, List.setIfInBounds_toArray, List.set_cons_zero, List.set_cons_succ]
      apply wpSeq_call (by first | rfl | (rw [hY]; rfl))
      · go_simp
        with_reducible exact ⟨rfl, rfl⟩
      refine (HP.out _ ((hrb.step hB0).step hk2.1)).mono ?_
      rintro e w3 ⟨rfl, hb3⟩
      have hk3 := hk2.step hb3
      refine ⟨_, rfl, hk3, ?_⟩
      simp only [Act.put, List.setIfInBounds_toArray, List.set_cons_zero, List.set_cons_succ]
      by_cases h3 : len ≤ (rp : Int)
      · have e3 : decide ((rp : Int) < len) = false := by simp; omega
        rw [decide_eq_true h3, Bool.true_and] at hr
        have Hr := Lib.hid hr
        clear hr
        repeat
          apply wpSeq_read (by first | rfl | (rw [hY]; rfl))
          · intro w2 hS2
            (try simp only [Keeps, Cells] at hS2)
            (try simp only [HasC, Cells] at hS2)
            go_simp
            with_reducible rfl
          simp only [Act.put, List.setIfInBounds_toArray, List.set_cons_zero, List.set_cons_succ]
        refine wpSeq_done (hF.out _ _ (fun K hK => ?_))
        clear hF hY
        refine OnlyK.mk (hK.out _ _ ?_)
        clear hK
        have hb3' := below_trans hB0 hk3.1
        obtain ⟨x, rfl⟩ : ∃ x : Nat, xv = x := ⟨xv.toNat, by omega⟩
        have y1 : w3.cell? ⟨g, o + pa, none⟩ = some (.int .u8 (x : Int)) := (hb3'.cell (p := ⟨g, o + pa, none⟩) (block_lt_of_cell hx)).trans hx
        have hC2 : Cells w3 [(⟨w.heap.size, 3, none⟩, .slice (some ⟨g, o, none⟩) bytes.length cb), (⟨w.heap.size, 4, none⟩, .int .i64 (pa : Int)), (⟨w.heap.size, 6, none⟩, .int .i64 part), (⟨g, o + pa, none⟩, .int .u8 (x : Int))] := ⟨hk3.2.1, hk3.2.2.1, hk3.2.2.2.2.1, y1, trivial⟩
        have z7 := hk3.2.2.2.2.2.1
        have HX := Lib.hid fun W => expected12_any x (by omega) part W
        have Hr2 := Hr.out
        rw [Int.toNat_natCast] at Hr2
        obtain ⟨E, hE⟩ : ∃ E, S12.exp x part = E := ⟨_, rfl⟩
        rw [hE] at HX Hr2
        have hpl : pa < bytes.length := by omega
        clear hk3 hk2 hk1 hb3 hb2 hb1 hC p5 hE Hr HP
        go_wp2
        refine wp_region_seq 13 1 [(true, [true, true, true, true, true, true, true, true]), (false, [false, false, false, false, false, false, false, false, true]), (true, [false, false, false, false, false, false, false, false, false, true, true, true]), (false, [false, false, false, false, false, false, false, false, false, false, false, false, true])] _ _ (Keeps w3 [(⟨w.heap.size, 3, none⟩, .slice (some ⟨g, o, none⟩) bytes.length cb), (⟨w.heap.size, 4, none⟩, .int .i64 (pa : Int)), (⟨w.heap.size, 6, none⟩, .int .i64 part), (⟨g, o + pa, none⟩, .int .u8 (x : Int))]) (by kernel_rfl) (List.take_append_drop 13 _).symm (by kernel_rfl) (by kernel_rfl) (by kernel_rfl) (by kernel_rfl) (Keeps.start hC2) (fun Y Q4 F4 hY hF => ?_)
        simp only [phased, List.flatMap_cons, List.flatMap_nil, List.take_succ_cons, List.take_zero, List.drop_succ_cons, List.drop_zero, sel_true, sel_false, sel_nil, List.map_cons, List.map_nil, List.cons_append, List.nil_append, List.append_nil]
        repeat
          apply wpSeq_read (by first | rfl | (rw [hY]; rfl))
          · intro w2 hS2
            (try simp only [Keeps, Cells] at hS2)
            (try simp only [HasC, Cells] at hS2)
            go_simp
            with_reducible rfl
          simp only [Act.put, List.setIfInBounds_toArray, List.set_cons_zero, List.set_cons_succ]
        apply wpSeq_call (by first | rfl | (rw [hY]; rfl))
        · go_simp
          with_reducible exact ⟨rfl, rfl⟩
        refine (HX.out _).mono ?_
        rintro e w4 ⟨rfl, hb4⟩
        have hk4 := (Keeps.start hC2).step hb4
        refine ⟨_, rfl, hk4, ?_⟩
        simp only [Act.put, List.setIfInBounds_toArray, List.set_cons_zero, List.set_cons_succ]
        repeat
          apply wpSeq_read (by first | rfl | (rw [hY]; rfl))
          · intro w2 hS2
            (try simp only [Keeps, Cells] at hS2)
            (try simp only [HasC, Cells] at hS2)
            go_simp
            with_reducible rfl
          simp only [Act.put, List.setIfInBounds_toArray, List.set_cons_zero, List.set_cons_succ]
        refine wpSeq_value (by first | rfl | (rw [hY]; rfl)) (by go_simp; first | with_reducible exact ⟨rfl, rfl⟩ | with_reducible rfl) (hk4) ?_
        simp only [Act.put, List.setIfInBounds_toArray, List.set_cons_zero, List.set_cons_succ]
        refine wpSeq_done (hF.out _ _ (fun K hK => ?_))
        clear hF hY
        have hB4 := below_trans hb3' hk4.1
        have z7' : w4.cell? ⟨w.heap.size, 7, none⟩ = some (.int .i64 bit) := (hk4.1.cell (p := ⟨w.heap.size, 7, none⟩) (block_lt_of_cell z7)).trans z7
        cases E with
        | none =>
          go_wp2
          refine OnlyK.mk (hK.out _ _ ?_)
          clear hK
          have hRf : R = false := Hr2.symm
          subst hRf
          go_wp2
          go_returns
          exact ⟨rfl, hB4⟩
        | some b =>
          go_wp2
          refine OnlyK.mk (hK.out _ _ ?_)
          clear hK
          have hRf : R = ((b : Int) == bit) := Hr2.symm
          subst hRf
          have eb : S12.optN (some b) = (b : Int) := rfl
          go_wp2
          go_returns
          exact ⟨rfl, hB4⟩
      · have e3 : decide ((rp : Int) < len) = true := by simp; omega
        rw [decide_eq_false h3] at hr
        have hRf : R = false := hr.symm
        subst hRf
        clear hr
        repeat
          apply wpSeq_read (by first | rfl | (rw [hY]; rfl))
          · intro w2 hS2
            (try simp only [Keeps, Cells] at hS2)
            (try simp only [HasC, Cells] at hS2)
            go_simp
            with_reducible rfl
          simp only [Act.put, List.setIfInBounds_toArray, List.set_cons_zero, List.set_cons_succ]
        refine wpSeq_done (hF.out _ _ (fun K hK => ?_))
        clear hF hY
        refine OnlyK.mk (hK.out _ _ ?_)
        clear hK
        go_wp2
        go_returns
        exact ⟨rfl, below_trans hB0 hk3.1⟩
    · rw [decide_eq_false h2]
      have hRf : R = false := by rw [← HR.out, decide_eq_true h1, decide_eq_false h2]; rfl
      subst hRf
      clear HR
      repeat
        apply wpSeq_read (by first | rfl | (rw [hY]; rfl))
        · intro w2 hS2
          (try simp only [Keeps, Cells] at hS2)
          (try simp only [HasC, Cells] at hS2)
          go_simp
          with_reducible rfl
        simp only [Act.put, List.setIfInBounds_toArray, List.set_cons_zero, List.set_cons_succ]
      repeat
        first
          | (apply wpSeq_unread (by rw [hY]; rfl)
             simp only [Act.put, List.setIfInBounds_toArray, List.set_cons_zero, List.set_cons_succ])
          | (refine wpSeq_skip (by rw [hY]; rfl) (hk2) ?_
             simp only [Act.put, List.setIfInBounds_toArray, List.set_cons_zero, List.set_cons_succ])
      repeat
        apply wpSeq_read (by first | rfl | (rw [hY]; rfl))
        · intro w2 hS2
          (try simp only [Keeps, Cells] at hS2)
          (try simp only [HasC, Cells] at hS2)
          go_simp
          with_reducible rfl
        simp only [Act.put, List.setIfInBounds_toArray, List.set_cons_zero, List.set_cons_succ]
      refine wpSeq_done (hF.out _ _ (fun K hK => ?_))
      clear hF hY
      refine OnlyK.mk (hK.out _ _ ?_)
      clear hK
      go_wp2
      go_returns
      exact ⟨rfl, below_trans hB0 hk2.1⟩
  · rw [decide_eq_false h1]
    have hRf : R = false := by rw [← HR.out, decide_eq_false h1]; rfl
    subst hRf
    clear HR
    repeat
      apply wpSeq_read (by first | rfl | (rw [hY]; rfl))
      · intro w2 hS2
        (try simp only [Keeps, Cells] at hS2)
        (try simp only [HasC, Cells] at hS2)
        go_simp
        with_reducible rfl
      simp only [Act.put, List.setIfInBounds_toArray, List.set_cons_zero, List.set_cons_succ]
    repeat
      first
        | (apply wpSeq_unread (by rw [hY]; rfl)
           simp only [Act.put, List.setIfInBounds_toArray, List.set_cons_zero, List.set_cons_succ])
        | (refine wpSeq_skip (by rw [hY]; rfl) (hk1) ?_
           simp only [Act.put, List.setIfInBounds_toArray, List.set_cons_zero, List.set_cons_succ])
    repeat
      apply wpSeq_read (by first | rfl | (rw [hY]; rfl))
      · intro w2 hS2
        (try simp only [Keeps, Cells] at hS2)
        (try simp only [HasC, Cells] at hS2)
        go_simp
        with_reducible rfl
      simp only [Act.put, List.setIfInBounds_toArray, List.set_cons_zero, List.set_cons_succ]
    repeat
      first
        | (apply wpSeq_unread (by rw [hY]; rfl)
           simp only [Act.put, List.setIfInBounds_toArray, List.set_cons_zero, List.set_cons_succ])
        | (refine wpSeq_skip (by rw [hY]; rfl) (hk1) ?_
           simp only [Act.put, List.setIfInBounds_toArray, List.set_cons_zero, List.set_cons_succ])
    repeat
      apply wpSeq_read (by first | rfl | (rw [hY]; rfl))
      · intro w2 hS2
        (try simp only [Keeps, Cells] at hS2)
        (try simp only [HasC, Cells] at hS2)
        go_simp
        with_reducible rfl
      simp only [Act.put, List.setIfInBounds_toArray, List.set_cons_zero, List.set_cons_succ]
    refine wpSeq_done (hF.out _ _ (fun K hK => ?_))
    clear hF hY
    refine OnlyK.mk (hK.out _ _ ?_)
    clear hK
    go_wp2
    go_returns
    exact ⟨rfl, below_trans hB0 hk1.1⟩
end Go.Proofs.Ytbfgdaijpcbddaa
