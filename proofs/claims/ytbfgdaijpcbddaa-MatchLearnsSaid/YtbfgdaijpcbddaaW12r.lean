/- Bit (layer 12): a bit that completes no byte. No condition. -/
import Derived.Test.YtbfgdaijpcbddaaW12p
set_option linter.unusedSimpArgs false
set_option linter.unusedVariables false
set_option linter.unusedSectionVars false
namespace Go.Proofs.Ytbfgdaijpcbddaa
open Go.RowKit


set_option maxRecDepth 100000 in
set_option maxHeartbeats 4000000 in
theorem bit12_part (m : S12.M) (p : Pl) (b : Int) (w : World) (hM : MIs m p w) (hE : S12.bitE m b = 0) (hfull : ¬ 128 ≤ m.part) :
    Calls Try.prog 15 #[MV m p, .int .i64 b] w fun e w' => ∃ p', e = .returned (.tuple #[MV (S12.bitM m b) p', .int .i64 0]) ∧ MIs (S12.bitM m b) p' w' ∧ Far w.heap.size p' ∧ Below w.heap.size w w' := by
  have hck : S12.check m = 0 := by
    cases h : decide (S12.check m = 0) with
    | true => exact of_decide_eq_true h
    | false => unfold S12.bitE at hE; rw [if_pos (of_decide_eq_false h)] at hE; exact hE
  have hWF := (S12.check_iff m).1 hck
  have hbb : b = 0 ∨ b = 1 := by
    unfold S12.bitE at hE
    rw [if_neg (by rw [hck]; simp)] at hE
    split at hE
    · cases hE
    · omega
  have hroom : ¬ (128 ≤ m.part ∧ 65536 ≤ m.bytes.length) := by
    unfold S12.bitE at hE
    rw [if_neg (by rw [hck]; simp), if_neg (by omega)] at hE
    split at hE
    · cases hE
    · assumption
  have HWF' := Lib.hid (hWF.bitM hM.byt hbb hE)
  have HCk := Lib.hid fun W hW => check12_any m p W hW
  rw [hck] at HCk
  have HW := Lib.hid fun W => within12_any b 0 1 W
  rw [show decide (0 ≤ b ∧ b ≤ 1) = true from decide_eq_true (by omega)] at HW
  have hlen0 : 0 ≤ m.len := by
    rcases (S12.matched_iff m).1 hWF.mat with ⟨h, _⟩ | h
    · omega
    · have := h.len; omega
  have HLn := Lib.hid fun (B S gh gc : Nat) (p1 : Pl) (W : World) (h : St B S gh gc m p1 W) => learn12_any B S gh gc m p1 b W h hWF.ctrs hWF.ctr hlen0
  have hL := hWF.learn b
  have hps : 2 ^ m.bits.toNat ≤ 65536 := Nat.pow_le_pow_right (n := 2) (by omega) (show m.bits.toNat ≤ 16 by have := hWF.bits; omega)
  have hh1 : 1 ≤ m.heads.length := by rw [hWF.heads]; exact Nat.two_pow_pos _
  have hh2 : m.heads.length ≤ 65536 := by rw [hWF.heads]; exact hps
  have hc16 := hWF.ctrs
  have hfew := hWF.few
  have HCi := Lib.hid fun W (h : Rd W p.ah (Ints m.heads)) => cloneInts12_any m.heads p.ah p.ch W hh1 hh2 h
  have HCb := Lib.hid fun W (h : Rd W p.ab (Bts m.bytes)) => cloneBytes12_any m.bytes p.ab p.cb W hfew h
  have HCc := Lib.hid fun W (h : Rd W p.ac (Cts m.ctrs)) => cloneCts12_any m.ctrs p.ac p.cc W (by omega) (by omega) h
  have dc : decide (128 ≤ m.part) = false := by simp; omega
  have HHWF := Lib.hid hWF
  have HM := Lib.hid hM
  have HLrn := Lib.hid hL
  have hB0 : Below w.heap.size w ((w.alloc (.cells (MVals m p).toArray 27)).alloc (.cells #[.int .i64 0, .int .i64 0, .slice none 0 0, .slice none 0 0, .int .i64 0, .int .i64 0, .int .i64 0, .int .i64 0, .slice none 0 0] 27)) := by go_grown
  have A0 : Blk ((w.alloc (.cells (MVals m p).toArray 27)).alloc (.cells #[.int .i64 0, .int .i64 0, .slice none 0 0, .slice none 0 0, .int .i64 0, .int .i64 0, .int .i64 0, .int .i64 0, .slice none 0 0] 27)) w.heap.size (MVals m p) 27 := (Blk.new w _ _).alloc _
  have R0 : Blk ((w.alloc (.cells (MVals m p).toArray 27)).alloc (.cells #[.int .i64 0, .int .i64 0, .slice none 0 0, .slice none 0 0, .int .i64 0, .int .i64 0, .int .i64 0, .int .i64 0, .slice none 0 0] 27)) (w.heap.size + 1) [.int .i64 0, .int .i64 0, .slice none 0 0, .slice none 0 0, .int .i64 0, .int .i64 0, .int .i64 0, .int .i64 0, .slice none 0 0] 27 := by
    have h := Blk.new (w.alloc (.cells (MVals m p).toArray 27)) [.int .i64 0, .int .i64 0, .slice none 0 0, .slice none 0 0, .int .i64 0, .int .i64 0, .int .i64 0, .int .i64 0, .slice none 0 0] 27
    simpa using h
  clear hE hck hWF hM hL hps hh1 hh2 hc16 hroom hfew hlen0
  obtain ⟨mR, hmR⟩ : ∃ mR, S12.bitM m b = mR := ⟨_, rfl⟩
  rw [hmR] at HWF' ⊢
  have HmR := Lib.hid hmR
  clear hmR
  unfold MV at HCk
  unfold MVals at HCk A0 R0 hB0
  show Calls Try.prog 15 #[.agg #[.int .i64 m.bits, .int .i64 m.least, .slice p.ah m.heads.length p.ch, .slice p.ab m.bytes.length p.cb, .int .i64 m.at_, .int .i64 m.len, .int .i64 m.part, .int .i64 m.bit, .slice p.ac m.ctrs.length p.cc], .int .i64 b] w _
  go_enter Try.func15, Try.ntmps15
  obtain ⟨x0, x1, x2, x3, x4, x5, x6, x7, x8⟩ := A0.nine
  obtain ⟨w0, hw0⟩ : ∃ w0, ((w.alloc (.cells #[.int .i64 m.bits, .int .i64 m.least, .slice p.ah m.heads.length p.ch, .slice p.ab m.bytes.length p.cb, .int .i64 m.at_, .int .i64 m.len, .int .i64 m.part, .int .i64 m.bit, .slice p.ac m.ctrs.length p.cc] 27)).alloc (.cells #[.int .i64 0, .int .i64 0, .slice none 0 0, .slice none 0 0, .int .i64 0, .int .i64 0, .int .i64 0, .int .i64 0, .slice none 0 0] 27)) = w0 := ⟨_, rfl⟩
  rw [hw0] at hB0 A0 R0 x0 x1 x2 x3 x4 x5 x6 x7 x8
  go_wp2_with fail
  refine (HCk.out _ (HM.out.step hB0)).mono ?_
  rintro e w1 ⟨rfl, hb1⟩
  have hB1 := below_trans hB0 hb1
  go_wp2_with fail
  refine (HW.out _).mono ?_
  rintro e w2 ⟨rfl, hb2⟩
  have hB2 := below_trans hB1 hb2
  have A2 := (A0.step hb1).step hb2
  have R2 := (R0.step hb1).step hb2
  clear x0 x1 x2 x3 x4 x5 x6 x7 x8 A0 R0 hw0
  obtain ⟨x0, x1, x2, x3, x4, x5, x6, x7, x8⟩ := A2.nine
  go_wp2_with fail
  obtain ⟨S, hS⟩ : ∃ S, w2.heap.size = S := ⟨_, rfl⟩
  obtain ⟨w3, hw3⟩ : ∃ w3, w2.alloc (.cells #[.int .i64 m.bits, .int .i64 m.least, .slice p.ah m.heads.length p.ch, .slice p.ab m.bytes.length p.cb, .int .i64 m.at_, .int .i64 m.len, .int .i64 m.part, .int .i64 m.bit, .slice p.ac m.ctrs.length p.cc] 60) = w3 := ⟨_, rfl⟩
  have hb3 : Below w2.heap.size w2 w3 := by rw [← hw3]; exact (Below.refl _ _).alloc (Nat.le_refl _) _
  have S3 : Blk w3 S [.int .i64 m.bits, .int .i64 m.least, .slice p.ah m.heads.length p.ch, .slice p.ab m.bytes.length p.cb, .int .i64 m.at_, .int .i64 m.len, .int .i64 m.part, .int .i64 m.bit, .slice p.ac m.ctrs.length p.cc] 60 := by rw [← hw3, ← hS]; exact Blk.new w2 _ _
  have hB3 := below_trans hB2 hb3
  have A3 := A2.step hb3
  have R3 := R2.step hb3
  have hwS : w.heap.size + 1 < S := by rw [← hS]; exact R2.lt
  have hC3 : HasC [(⟨w.heap.size, 2, none⟩, .slice p.ah m.heads.length p.ch), (⟨w.heap.size, 3, none⟩, .slice p.ab m.bytes.length p.cb), (⟨w.heap.size, 8, none⟩, .slice p.ac m.ctrs.length p.cc)] w3 := ⟨A3.cell 2, A3.cell 3, A3.cell 8, trivial⟩
  rw [hw3, hS]
  clear x0 x1 x2 x3 x4 x5 x6 x7 x8 A2 R2 hw3 hb3 dc
  refine wp_region_seq 24 0 [(true, [true, true, true, true, true, false, true, true, false, true, true]), (false, [false, false, false, false, false, true]), (false, [false, false, false, false, false, false, false, false, true]), (false, [false, false, false, false, false, false, false, false, false, false, false, true]), (true, [false, false, false, false, false, false, false, false, false, false, false, false, true, true, true]), (false, [false, false, false, false, false, false, false, false, false, false, false, false, false, false, false, true]), (true, [false, false, false, false, false, false, false, false, false, false, false, false, false, false, false, false, true, true, true]), (false, [false, false, false, false, false, false, false, false, false, false, false, false, false, false, false, false, false, false, false, true]), (true, [false, false, false, false, false, false, false, false, false, false, false, false, false, false, false, false, false, false, false, false, true, true, true]), (false, [false, false, false, false, false, false, false, false, false, false, false, false, false, false, false, false, false, false, false, false, false, false, false, true])] _ _ (HasC [(⟨w.heap.size, 2, none⟩, .slice p.ah m.heads.length p.ch), (⟨w.heap.size, 3, none⟩, .slice p.ab m.bytes.length p.cb), (⟨w.heap.size, 8, none⟩, .slice p.ac m.ctrs.length p.cc)]) (by kernel_rfl) (List.take_append_drop 24 _).symm (by kernel_rfl) (by kernel_rfl) (by kernel_rfl) (by kernel_rfl) (hC3) (fun Y Q4 F4 hY hF => ?_)
  simp only [phased, List.flatMap_cons, List.flatMap_nil, List.take_succ_cons, List.take_zero, List.drop_succ_cons, List.drop_zero, sel_true, sel_false, sel_nil, List.map_cons, List.map_nil, List.cons_append, List.nil_append, List.append_nil]
  repeat
    apply wpSeq_read (by first | rfl | (rw [hY]; rfl))
    · intro w2 hS2
      (try simp only [Keeps, Cells] at hS2)
      (try simp only [HasC, Cells] at hS2)
      go_simp
      with_reducible rfl
    simp only [Act.put, List.setIfInBounds_toArray, List.set_cons_zero, List.set_cons_succ]
  have hd3 := below_drew w3.heap.size w3
  apply wpSeq_call (by first | rfl | (rw [hY]; rfl))
  · go_simp
    with_reducible exact ⟨rfl, rfl⟩
  refine (HCi.out _ ((HM.out.step hB3).step hd3).rdh).mono ?_
  rintro e w4 ⟨gh, ch, rfl, hgh, oh4, hb4⟩
  have hE4 := below_trans hd3 hb4
  have hC4 := Cells.step hE4 hC3
  refine ⟨_, rfl, hC4, ?_⟩
  simp only [Act.put, List.setIfInBounds_toArray, List.set_cons_zero, List.set_cons_succ]
  apply wpSeq_call (by first | rfl | (rw [hY]; rfl))
  · go_simp
    with_reducible exact ⟨rfl, rfl⟩
  refine (HCb.out _ ((HM.out.step hB3).step hE4).rdb).mono ?_
  rintro e w5 ⟨ab, cb, rfl, ob5, hb5⟩
  have hE5 := below_trans hE4 hb5
  have hC5 := Cells.step hb5 hC4
  refine ⟨_, rfl, hC5, ?_⟩
  simp only [Act.put, List.setIfInBounds_toArray, List.set_cons_zero, List.set_cons_succ]
  apply wpSeq_call (by first | rfl | (rw [hY]; rfl))
  · go_simp
    with_reducible exact ⟨rfl, rfl⟩
  refine (HCc.out _ ((HM.out.step hB3).step hE5).rdc).mono ?_
  rintro e w6 ⟨gc, cc, rfl, hgc, oc6, hb6⟩
  have hE6 := below_trans hE5 hb6
  have hC6 := Cells.step hb6 hC5
  refine ⟨_, rfl, hC6, ?_⟩
  simp only [Act.put, List.setIfInBounds_toArray, List.set_cons_zero, List.set_cons_succ]
  have S6 := S3.step hE6
  have z2 := S6.cell 2
  have z3 := S6.cell 3
  have z8 := S6.cell 8
  have g2 := S6.free 2
  have g3 := S6.free 3
  have g8 := S6.free 8
  simp only [List.getElem?_cons_zero, List.getElem?_cons_succ] at z2 z3 z8
  have lS3 := S3.lt
  have hwS1 : ¬ S = w.heap.size := by omega
  have hput : ∀ (X : World) (i : Nat) (v : Value), HasC [(⟨w.heap.size, 2, none⟩, .slice p.ah m.heads.length p.ch), (⟨w.heap.size, 3, none⟩, .slice p.ab m.bytes.length p.cb), (⟨w.heap.size, 8, none⟩, .slice p.ac m.ctrs.length p.cc)] X →
      HasC [(⟨w.heap.size, 2, none⟩, .slice p.ah m.heads.length p.ch), (⟨w.heap.size, 3, none⟩, .slice p.ab m.bytes.length p.cb), (⟨w.heap.size, 8, none⟩, .slice p.ac m.ctrs.length p.cc)] (X.setCell ⟨S, i, none⟩ v) := fun X i v h =>
    ⟨(cell?_setCell_blk X S i _ _ v hwS1).trans h.1, (cell?_setCell_blk X S i _ _ v hwS1).trans h.2.1, (cell?_setCell_blk X S i _ _ v hwS1).trans h.2.2.1, trivial⟩
  repeat
    apply wpSeq_read (by first | rfl | (rw [hY]; rfl))
    · intro w2 hS2
      (try simp only [Keeps, Cells] at hS2)
      (try simp only [HasC, Cells] at hS2)
      go_simp
      with_reducible rfl
    simp only [Act.put, List.setIfInBounds_toArray, List.set_cons_zero, List.set_cons_succ]
  refine wpSeq_store (by first | rfl | (rw [hY]; rfl)) (by go_simp; first | with_reducible exact ⟨rfl, rfl⟩ | with_reducible rfl) (hput _ _ _ hC6) ?_
  simp only [Act.put, List.setIfInBounds_toArray, List.set_cons_zero, List.set_cons_succ]
  repeat
    apply wpSeq_read (by first | rfl | (rw [hY]; rfl))
    · intro w2 hS2
      (try simp only [Keeps, Cells] at hS2)
      (try simp only [HasC, Cells] at hS2)
      go_simp
      with_reducible rfl
    simp only [Act.put, List.setIfInBounds_toArray, List.set_cons_zero, List.set_cons_succ]
  refine wpSeq_store (by first | rfl | (rw [hY]; rfl)) (by go_simp; first | with_reducible exact ⟨rfl, rfl⟩ | with_reducible rfl) (hput _ _ _ (hput _ _ _ hC6)) ?_
  simp only [Act.put, List.setIfInBounds_toArray, List.set_cons_zero, List.set_cons_succ]
  repeat
    apply wpSeq_read (by first | rfl | (rw [hY]; rfl))
    · intro w2 hS2
      (try simp only [Keeps, Cells] at hS2)
      (try simp only [HasC, Cells] at hS2)
      go_simp
      with_reducible rfl
    simp only [Act.put, List.setIfInBounds_toArray, List.set_cons_zero, List.set_cons_succ]
  refine wpSeq_store (by first | rfl | (rw [hY]; rfl)) (by go_simp; first | with_reducible exact ⟨rfl, rfl⟩ | with_reducible rfl) (hput _ _ _ (hput _ _ _ (hput _ _ _ hC6))) ?_
  simp only [Act.put, List.setIfInBounds_toArray, List.set_cons_zero, List.set_cons_succ]
  refine wpSeq_done (hF.out _ _ (fun K hK => ?_))
  clear hF hY
  have T7 : St S S gh gc m ⟨some ⟨gh, 0, none⟩, ch, ab, cb, some ⟨gc, 0, none⟩, cc⟩ (((w6.setCell ⟨S, 2, none⟩ (.slice (some ⟨gh, 0, none⟩) m.heads.length ch)).setCell ⟨S, 3, none⟩ (.slice ab m.bytes.length cb)).setCell ⟨S, 8, none⟩ (.slice (some ⟨gc, 0, none⟩) m.ctrs.length cc)) := by
    have oh6 := (oh4.step hb5).step hb6
    have hd := hd3.size
    have h4 := hb4.size
    have h5 := hb5.size
    have d1 : ¬ gh = S := by omega
    have d2 : ¬ gc = S := by omega
    exact ⟨((S6.set 2 _).set 3 _).set 8 _, rfl, rfl, Nat.le_refl _, by omega, by omega, ((oh6.other S 2 _ d1).other S 3 _ d1).other S 8 _ d1, ((oc6.other S 2 _ d2).other S 3 _ d2).other S 8 _ d2,
      own_put (own_put (own_put (owns_base (owns_step (B := 0) ob5 hb6) (by omega)) S6 (by decide)) (S6.set 2 _) (by decide)) ((S6.set 2 _).set 3 _) (by decide)⟩
  have hB7 : Below w.heap.size w (((w6.setCell ⟨S, 2, none⟩ (.slice (some ⟨gh, 0, none⟩) m.heads.length ch)).setCell ⟨S, 3, none⟩ (.slice ab m.bytes.length cb)).setCell ⟨S, 8, none⟩ (.slice (some ⟨gc, 0, none⟩) m.ctrs.length cc)) :=
    (((below_trans hB3 hE6).setCell (p := ⟨S, 2, none⟩) (show w.heap.size ≤ S by omega) _).setCell (p := ⟨S, 3, none⟩) (show w.heap.size ≤ S by omega) _).setCell (p := ⟨S, 8, none⟩) (show w.heap.size ≤ S by omega) _
  have d3 : ¬ w.heap.size + 1 = S := by omega
  have R7 := (((R3.step hE6).other S 2 (.slice (some ⟨gh, 0, none⟩) m.heads.length ch) d3).other S 3 (.slice ab m.bytes.length cb) d3).other S 8 (.slice (some ⟨gc, 0, none⟩) m.ctrs.length cc) d3
  go_wp2_with fail
  refine OnlyK.mk (hK.out _ _ ?_)
  clear hK hput hC3 hC4 hC5 hC6 z2 z3 z8 g2 g3 g8 oh4 ob5 oc6 hgh hgc A3 R3 S3 S6
  obtain ⟨w7, hw7⟩ : ∃ w7, (((w6.setCell ⟨S, 2, none⟩ (.slice (some ⟨gh, 0, none⟩) m.heads.length ch)).setCell ⟨S, 3, none⟩ (.slice ab m.bytes.length cb)).setCell ⟨S, 8, none⟩ (.slice (some ⟨gc, 0, none⟩) m.ctrs.length cc)) = w7 := ⟨_, rfl⟩
  rw [hw7] at T7 hB7 R7 ⊢
  clear hw7
  go_wp2_with fail
  refine (HLn.out S S gh gc _ _ T7).mono ?_
  rintro e w8 ⟨rfl, T8, hb8⟩
  have hB8 := hB7.trans (hb8.mono (show w.heap.size ≤ S by omega))
  have R8 := R7.below hb8 (by omega)
  obtain ⟨n, hn⟩ : ∃ n, S12.learn m b = n := ⟨_, rfl⟩
  rw [hn] at T8 HLrn
  have hWF := HHWF.out
  have hL := HLrn.out
  have hmR : mR = S12.expect (S12.take n (2 * n.part + b)) := by rw [← HmR.out]; unfold S12.bitM; rw [hn]
  obtain ⟨P, hP⟩ : ∃ P, 2 * n.part + b = P := ⟨_, rfl⟩
  have hpr : 1 ≤ n.part ∧ n.part ≤ 255 := by rw [hL.part]; exact hWF.part
  have hPr : 2 ≤ P ∧ P ≤ 511 := by omega
  have hPf : P ≤ 255 := by have := hL.part; omega
  have hPd : decide (255 < P) = false := by simp; omega
  rw [hP] at hmR
  have ht : S12.take n P = { n with part := P } := by unfold S12.take; rw [if_neg (by omega)]
  rw [ht] at hmR
  have HmR2 := Lib.hid hmR
  have T9 : St S S gh gc { n with part := P } ⟨some ⟨gh, 0, none⟩, ch, ab, cb, some ⟨gc, 0, none⟩, cc⟩ (w8.setCell ⟨S, 6, none⟩ (.int .i64 P)) := T8.put 6 _ rfl rfl rfl rfl
  have hB9 := hB8.setCell (p := ⟨S, 6, none⟩) (show w.heap.size ≤ S by omega) (.int .i64 P)
  have R9 := R8.other S 6 (.int .i64 P) d3
  obtain ⟨x0, x1, x2, x3, x4, x5, x6, x7, x8⟩ := T8.blk.nine
  have f6 := T8.blk.free 6
  clear hmR ht hWF HLn HmR
  have HLrn2 := Lib.hid hL
  clear HLrn hL
  have hby : S12.Byt n.bytes := by rw [HLrn2.out.bytes]; exact HM.out.byt
  have T21 : St S S gh gc { ({ n with part := P } : S12.M) with bit := 2 } (⟨some ⟨gh, 0, none⟩, ch, ab, cb, some ⟨gc, 0, none⟩, cc⟩ : Pl) ((w8.setCell ⟨S, 6, none⟩ (.int .i64 P)).setCell ⟨S, 7, none⟩ (.int .i64 2)) := (T9).put 7 _ rfl rfl rfl rfl
  have hB21 := (hB9).setCell (p := ⟨S, 7, none⟩) (show w.heap.size ≤ S by omega) (.int .i64 2)
  have R21 := (R9).other S 7 (.int .i64 2) d3
  obtain ⟨x0, x1, x2, x3, x4, x5, x6, x7, x8⟩ := (T9).blk.nine
  have f7 := (T9).blk.free 7
  have hd3 : ¬ S = w.heap.size + 1 := fun e => d3 e.symm
  have lS := T21.blk.lt
  by_cases hln : 0 < (({ n with part := P } : S12.M)).len
  · have eR : mR = { ({ n with part := P } : S12.M) with bit := S12.expI ((({ n with part := P } : S12.M)).bytes.getD (({ n with part := P } : S12.M)).at_.toNat 0) (({ n with part := P } : S12.M)).part } := by rw [HmR2.out]; unfold S12.expect; rw [if_pos hln]
    have hWR : S12.WF { ({ n with part := P } : S12.M) with bit := S12.expI ((({ n with part := P } : S12.M)).bytes.getD (({ n with part := P } : S12.M)).at_.toNat 0) (({ n with part := P } : S12.M)).part } := by rw [← eR]; exact HWF'.out
    have hma := hWR.Mat (show (({ n with part := P } : S12.M)).len ≠ 0 by omega)
    have hma1 : (({ n with part := P } : S12.M)).len ≤ (({ n with part := P } : S12.M)).at_ ∧ (({ n with part := P } : S12.M)).at_ ≤ ((({ n with part := P } : S12.M)).bytes.length : Int) - 1 := hma.at_
    have hma2 : 1 ≤ (({ n with part := P } : S12.M)).len ∧ (({ n with part := P } : S12.M)).len ≤ 255 := hma.len
    have hR1 : (({ n with part := P } : S12.M)).heads.length ≤ 65536 := hWR.sizes.1
    have hR2 : (({ n with part := P } : S12.M)).bytes.length ≤ 65536 := hWR.sizes.2.1
    have hR3 : (({ n with part := P } : S12.M)).ctrs.length ≤ 65536 := hWR.sizes.2.2
    obtain ⟨q, hq⟩ : ∃ q : Nat, (({ n with part := P } : S12.M)).at_ = q := ⟨(({ n with part := P } : S12.M)).at_.toNat, by omega⟩
    have hx0 : 0 ≤ (({ n with part := P } : S12.M)).bytes.getD q 0 := hby.get q
    have hx1 : ((({ n with part := P } : S12.M)).bytes.getD q 0).toNat < 256 := hby.at q
    obtain ⟨xn, hxn⟩ : ∃ xn : Nat, (({ n with part := P } : S12.M)).bytes.getD q 0 = xn := ⟨((({ n with part := P } : S12.M)).bytes.getD q 0).toNat, (Int.toNat_of_nonneg hx0).symm⟩
    have hxn2 : xn < 256 := by rw [hxn] at hx1; omega
    obtain ⟨gB, oB, eB, hcB⟩ := Bts_at (Rd.of_owns T21.ob) (i := q) (show q < (({ n with part := P } : S12.M)).bytes.length by omega)
    have hcB2 := hcB q (show q < (({ n with part := P } : S12.M)).bytes.length by omega)
    have hap := T21.apart (show w.heap.size + 1 < S by omega)
    have Hfar := Lib.hid (T21.far.mono (show w.heap.size ≤ S by omega))
    simp only at eB hcB2
    rw [show (({ n with part := P } : S12.M)).bytes.getD q 0 = (xn : Int) from hxn] at hcB2
    have hgS : ¬ S = gB := fun e => own_apart T21.ob T21.blk (by decide) (by simp only; rw [eB, e]; rfl)
    have hC21 : HasC [(⟨S, 3, none⟩, .slice (some ⟨gB, oB, none⟩) (({ n with part := P } : S12.M)).bytes.length ((⟨some ⟨gh, 0, none⟩, ch, ab, cb, some ⟨gc, 0, none⟩, cc⟩ : Pl)).cb), (⟨S, 4, none⟩, .int .i64 (q : Int)), (⟨S, 6, none⟩, .int .i64 (({ n with part := P } : S12.M)).part), (⟨gB, oB + q, none⟩, .int .u8 (xn : Int))] ((w8.setCell ⟨S, 6, none⟩ (.int .i64 P)).setCell ⟨S, 7, none⟩ (.int .i64 2)) :=
      ⟨by rw [← eB]; exact T21.blk.cell 3, by rw [← hq]; exact T21.blk.cell 4, T21.blk.cell 6, hcB2, trivial⟩
    have HEx := Lib.hid fun W => expected12_any xn hxn2 (({ n with part := P } : S12.M)).part W
    obtain ⟨bv, hbv⟩ : ∃ bv, S12.optN (S12.exp xn (({ n with part := P } : S12.M)).part) = bv := ⟨_, rfl⟩
    have hbv2 : S12.expI ((({ n with part := P } : S12.M)).bytes.getD (({ n with part := P } : S12.M)).at_.toNat 0) (({ n with part := P } : S12.M)).part = bv := by rw [S12.expI_eq, hq, Int.toNat_natCast, hxn, Int.toNat_natCast, hbv]
    rw [hbv] at HEx
    rw [hbv2] at eR
    have HeR := Lib.hid eR
    have hql : q < (({ n with part := P } : S12.M)).bytes.length := by omega
    clear hma hma1 hma2 hWR hbv hbv2 hxn hcB hcB2 eR hq
    have eln : decide (0 < (({ n with part := P } : S12.M)).len) = true := decide_eq_true hln
    clear hln
    obtain ⟨isS, hisS⟩ : ∃ isS, (S12.exp xn (({ n with part := P } : S12.M)).part).isSome = isS := ⟨_, rfl⟩
    rw [hisS] at HEx
    clear hisS
    go_wp2_with fail
    obtain ⟨w21, hw21⟩ : ∃ w21, (w8.setCell ⟨S, 6, none⟩ (.int .i64 P)).setCell ⟨S, 7, none⟩ (.int .i64 2) = w21 := ⟨_, rfl⟩
    rw [hw21] at T21 hB21 R21 hC21 ⊢
    clear hw21 x0 x1 x2 x3 x4 x5 x6 x7 x8 f7 eln
    refine wp_region_seq 26 0 [(true, [true, true, true, true, true, true, true, true, true, true, true, true, true, true, true, true, true, true]), (false, [false, false, false, false, false, false, false, false, false, false, false, false, false, false, false, false, false, false, true]), (true, [false, false, false, false, false, false, false, false, false, false, false, false, false, false, false, false, false, false, false, true, true, true, true, true, true]), (false, [false, false, false, false, false, false, false, false, false, false, false, false, false, false, false, false, false, false, false, false, false, false, false, false, false, true])] _ _ (HasC [(⟨S, 3, none⟩, .slice (some ⟨gB, oB, none⟩) (({ n with part := P } : S12.M)).bytes.length ((⟨some ⟨gh, 0, none⟩, ch, ab, cb, some ⟨gc, 0, none⟩, cc⟩ : Pl)).cb), (⟨S, 4, none⟩, .int .i64 (q : Int)), (⟨S, 6, none⟩, .int .i64 (({ n with part := P } : S12.M)).part), (⟨gB, oB + q, none⟩, .int .u8 (xn : Int))]) (by kernel_rfl) (List.take_append_drop 26 _).symm (by kernel_rfl) (by kernel_rfl) (by kernel_rfl) (by kernel_rfl) (hC21) (fun Y Q4 F4 hY hF => ?_)
    simp only [phased, List.flatMap_cons, List.flatMap_nil, List.take_succ_cons, List.take_zero, List.drop_succ_cons, List.drop_zero, sel_true, sel_false, sel_nil, List.map_cons, List.map_nil, List.cons_append, List.nil_append, List.append_nil]
    repeat
      apply wpSeq_read (by first | rfl | (rw [hY]; rfl))
      · intro w2 hS2
        (try simp only [Keeps, Cells] at hS2)
        (try simp only [HasC, Cells] at hS2)
        go_simp
        with_reducible rfl
      simp only [Act.put, List.setIfInBounds_toArray, List.set_cons_zero, List.set_cons_succ]
    apply wpSeq_call (by first | rfl | (rw [hY]; rfl))
    · go_simp
      with_reducible exact ⟨rfl, rfl⟩
    refine (HEx.out _).mono ?_
    rintro e w22 ⟨rfl, hb22⟩
    have hE22 := below_trans (below_drew w21.heap.size w21) hb22
    have hC22 := Cells.step hE22 hC21
    refine ⟨_, rfl, hC22, ?_⟩
    simp only [Act.put, List.setIfInBounds_toArray, List.set_cons_zero, List.set_cons_succ]
    repeat
      apply wpSeq_read (by first | rfl | (rw [hY]; rfl))
      · intro w2 hS2
        (try simp only [Keeps, Cells] at hS2)
        (try simp only [HasC, Cells] at hS2)
        go_simp
        with_reducible rfl
      simp only [Act.put, List.setIfInBounds_toArray, List.set_cons_zero, List.set_cons_succ]
    have T22 := T21.step hE22
    have y7 : w22.cell? ⟨S, 7, none⟩ = some (.int .i64 2) := T22.blk.cell 7
    have f7 := T22.blk.free 7
    have hgS2 : ¬ (S = S ∧ 7 = 3) := by omega
    refine wpSeq_store (by first | rfl | (rw [hY]; rfl)) (by go_simp; first | with_reducible exact ⟨rfl, rfl⟩ | with_reducible rfl) ((show HasC _ _ from ⟨(World.cell?_setCell_other w22 ⟨S, 7, none⟩ ⟨S, 3, none⟩ _ (by simp)).trans hC22.1, (World.cell?_setCell_other w22 ⟨S, 7, none⟩ ⟨S, 4, none⟩ _ (by simp)).trans hC22.2.1, (World.cell?_setCell_other w22 ⟨S, 7, none⟩ ⟨S, 6, none⟩ _ (by simp)).trans hC22.2.2.1, (cell?_setCell_blk w22 S 7 _ _ _ hgS).trans hC22.2.2.2.1, trivial⟩)) ?_
    simp only [Act.put, List.setIfInBounds_toArray, List.set_cons_zero, List.set_cons_succ]
    refine wpSeq_done (hF.out _ _ (fun K hK => ?_))
    clear hF hY
    have T23 : St S S gh gc { ({ n with part := P } : S12.M) with bit := bv } (⟨some ⟨gh, 0, none⟩, ch, ab, cb, some ⟨gc, 0, none⟩, cc⟩ : Pl) (w22.setCell ⟨S, 7, none⟩ (.int .i64 bv)) := T22.put 7 _ rfl rfl rfl rfl
    have hB23 := (below_trans hB21 hE22).setCell (p := ⟨S, 7, none⟩) (show w.heap.size ≤ S by omega) (.int .i64 bv)
    have R23 := (R21.step hE22).other S 7 (.int .i64 bv) d3
    go_wp2_with fail
    refine OnlyK.mk (hK.out _ _ ?_)
    clear hK y7 f7 hC22 hC21 T22
    obtain ⟨w23, hw23⟩ : ∃ w23, w22.setCell ⟨S, 7, none⟩ (.int .i64 bv) = w23 := ⟨_, rfl⟩
    rw [hw23] at T23 hB23 R23 ⊢
    clear hw23
    have hmis := T23.mis hby hR1 hR2 hR3
    obtain ⟨x0, x1, x2, x3, x4, x5, x6, x7, x8⟩ := T23.blk.nine
    obtain ⟨z0, z1, z2, z3, z4, z5, z6, z7, z8⟩ := R23.nine
    have q0 := R23.free 0
    have q1 := R23.free 1
    have q2 := R23.free 2
    have q3 := R23.free 3
    have q4 := R23.free 4
    have q5 := R23.free 5
    have q6 := R23.free 6
    have q7 := R23.free 7
    have q8 := R23.free 8
    have Hm := Lib.hid hmis
    have Ha := Lib.hid hap
    clear hmis hap
    have eR := HeR.out
    subst eR
    obtain ⟨y0, y1, y2, y3, y4, y5, y6, y7, y8⟩ := (R23.put9 (.int .i64 (({ n with part := P } : S12.M)).bits) (.int .i64 (({ n with part := P } : S12.M)).least) (.slice ((⟨some ⟨gh, 0, none⟩, ch, ab, cb, some ⟨gc, 0, none⟩, cc⟩ : Pl)).ah (({ n with part := P } : S12.M)).heads.length ((⟨some ⟨gh, 0, none⟩, ch, ab, cb, some ⟨gc, 0, none⟩, cc⟩ : Pl)).ch) (.slice (some ⟨gB, oB, none⟩) (({ n with part := P } : S12.M)).bytes.length ((⟨some ⟨gh, 0, none⟩, ch, ab, cb, some ⟨gc, 0, none⟩, cc⟩ : Pl)).cb) (.int .i64 (({ n with part := P } : S12.M)).at_) (.int .i64 (({ n with part := P } : S12.M)).len) (.int .i64 (({ n with part := P } : S12.M)).part) (.int .i64 bv) (.slice ((⟨some ⟨gh, 0, none⟩, ch, ab, cb, some ⟨gc, 0, none⟩, cc⟩ : Pl)).ac (({ n with part := P } : S12.M)).ctrs.length ((⟨some ⟨gh, 0, none⟩, ch, ab, cb, some ⟨gc, 0, none⟩, cc⟩ : Pl)).cc)).nine
    go_wp2_with (exact bodyPost_ret (v := .tuple #[MV { ({ n with part := P } : S12.M) with bit := bv } (⟨some ⟨gh, 0, none⟩, ch, ab, cb, some ⟨gc, 0, none⟩, cc⟩ : Pl), .int .i64 0]) (by simp [results, Try.results15, go_sem, MV, MVals, y0, y1, y2, y3, y4, y5, y6, y7, y8, eB]) rfl ⟨(⟨some ⟨gh, 0, none⟩, ch, ab, cb, some ⟨gc, 0, none⟩, cc⟩ : Pl), rfl, Hm.out.put9 Ha.out.1 Ha.out.2.1 Ha.out.2.2 _ _ _ _ _ _ _ _ _, Hfar.out, below_put9 hB23 (Nat.le_succ _) _ _ _ _ _ _ _ _ _⟩)
  · have eR : mR = { ({ n with part := P } : S12.M) with bit := 2 } := by rw [HmR2.out]; unfold S12.expect; rw [if_neg hln]
    have hWR : S12.WF { ({ n with part := P } : S12.M) with bit := 2 } := by rw [← eR]; exact HWF'.out
    have hR1 : (({ n with part := P } : S12.M)).heads.length ≤ 65536 := hWR.sizes.1
    have hR2 : (({ n with part := P } : S12.M)).bytes.length ≤ 65536 := hWR.sizes.2.1
    have hR3 : (({ n with part := P } : S12.M)).ctrs.length ≤ 65536 := hWR.sizes.2.2
    have hmis := T21.mis hby hR1 hR2 hR3
    have hap := T21.apart (show w.heap.size + 1 < S by omega)
    have Hfar := Lib.hid (T21.far.mono (show w.heap.size ≤ S by omega))
    have eln : decide (0 < (({ n with part := P } : S12.M)).len) = false := decide_eq_false hln
    obtain ⟨z0, z1, z2, z3, z4, z5, z6, z7, z8⟩ := (R9).nine
    have q0 := (R9).free 0
    have q1 := (R9).free 1
    have q2 := (R9).free 2
    have q3 := (R9).free 3
    have q4 := (R9).free 4
    have q5 := (R9).free 5
    have q6 := (R9).free 6
    have q7 := (R9).free 7
    have q8 := (R9).free 8
    have Hm := Lib.hid hmis
    have Ha := Lib.hid hap
    have HeR := Lib.hid eR
    clear hmis hap eR hWR hln
    have eR := HeR.out
    subst eR
    obtain ⟨y0, y1, y2, y3, y4, y5, y6, y7, y8⟩ := (R21.put9 (.int .i64 (({ n with part := P } : S12.M)).bits) (.int .i64 (({ n with part := P } : S12.M)).least) (.slice ((⟨some ⟨gh, 0, none⟩, ch, ab, cb, some ⟨gc, 0, none⟩, cc⟩ : Pl)).ah (({ n with part := P } : S12.M)).heads.length ((⟨some ⟨gh, 0, none⟩, ch, ab, cb, some ⟨gc, 0, none⟩, cc⟩ : Pl)).ch) (.slice ((⟨some ⟨gh, 0, none⟩, ch, ab, cb, some ⟨gc, 0, none⟩, cc⟩ : Pl)).ab (({ n with part := P } : S12.M)).bytes.length ((⟨some ⟨gh, 0, none⟩, ch, ab, cb, some ⟨gc, 0, none⟩, cc⟩ : Pl)).cb) (.int .i64 (({ n with part := P } : S12.M)).at_) (.int .i64 (({ n with part := P } : S12.M)).len) (.int .i64 (({ n with part := P } : S12.M)).part) (.int .i64 2) (.slice ((⟨some ⟨gh, 0, none⟩, ch, ab, cb, some ⟨gc, 0, none⟩, cc⟩ : Pl)).ac (({ n with part := P } : S12.M)).ctrs.length ((⟨some ⟨gh, 0, none⟩, ch, ab, cb, some ⟨gc, 0, none⟩, cc⟩ : Pl)).cc)).nine
    go_wp2_with (exact bodyPost_ret (v := .tuple #[MV { ({ n with part := P } : S12.M) with bit := 2 } (⟨some ⟨gh, 0, none⟩, ch, ab, cb, some ⟨gc, 0, none⟩, cc⟩ : Pl), .int .i64 0]) (by simp [results, Try.results15, go_sem, MV, MVals, y0, y1, y2, y3, y4, y5, y6, y7, y8]) rfl ⟨(⟨some ⟨gh, 0, none⟩, ch, ab, cb, some ⟨gc, 0, none⟩, cc⟩ : Pl), rfl, Hm.out.put9 Ha.out.1 Ha.out.2.1 Ha.out.2.2 _ _ _ _ _ _ _ _ _, Hfar.out, below_put9 hB21 (Nat.le_succ _) _ _ _ _ _ _ _ _ _⟩)
end Go.Proofs.Ytbfgdaijpcbddaa
