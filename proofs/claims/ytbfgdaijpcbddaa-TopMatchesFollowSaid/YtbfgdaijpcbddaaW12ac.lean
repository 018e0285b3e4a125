/- tryMatchAwake (compactortop). No condition. -/
import Derived.Test.YtbfgdaijpcbddaaW12ab
set_option linter.unusedSimpArgs false
set_option linter.unusedVariables false
set_option linter.unusedSectionVars false
namespace Go.Proofs.Ytbfgdaijpcbddaa
open Go.RowKit

def S12.m40 : S12.M := S12.bitsM (S12.start 6 2) S12.ab5 40
theorem S12.m40_facts : S12.m40.len = 2 ∧ S12.m40.at_ = 2 := ⟨by kernel_rfl, by kernel_rfl⟩
theorem S12.ab5_win : (S12.ab5.drop (2 - 2)).take 2 = S12.ab5.drop (S12.ab5.length - 2) := by decide
/-- The loop's relation: i bits have been seen. -/
structure BitR (nb least : Int) (xs : List Int) (m0 : S12.M) (Mb : Nat) (w wr : World) (i : Nat) (p : Pl) : Prop where
  blk : Blk wr Mb (MVals (S12.bitsM m0 xs i) p) 27
  mis : MIs (S12.bitsM m0 xs i) p wr
  bel : Below w.heap.size w wr
  bts : S12.Bits nb least xs i (S12.bitsM m0 xs i)

set_option maxRecDepth 100000 in
set_option maxHeartbeats 2000000 in
theorem tryMatchAwake12_any (w : World) : Calls Try.prog 11 #[] w fun e w' => e = .returned (.bool true) ∧ Below w.heap.size w w' := by
  have HN := Lib.hid fun W => new12_any 6 2 W
  rw [(S12.newM_ok (bits := 6) (least := 2) ⟨by omega, by omega⟩ ⟨by omega, by omega⟩).1, (S12.newM_ok (bits := 6) (least := 2) ⟨by omega, by omega⟩ ⟨by omega, by omega⟩).2] at HN
  have HBs := Lib.hid (S12.Bits.start (nb := 6) (least := 2) ⟨by omega, by omega⟩ ⟨by omega, by omega⟩ S12.ab5_byt)
  have h40 := S12.m40_facts
  have e40 : S12.bitsM (S12.start 6 2) S12.ab5 40 = S12.m40 := rfl
  have HT := Lib.hid fun a cap W (hc : 5 ≤ cap) (hc2 : cap ≤ 9223372036854775807) (h : Rd W a (Bts S12.ab5)) => tryMatched12_any S12.ab5 2 2 99 (by omega) (by omega) (by decide) (by decide) S12.ab5_win (by decide) a cap hc hc2 W h
  obtain ⟨m0, hm0⟩ : ∃ m0, S12.start 6 2 = m0 := ⟨_, rfl⟩
  rw [hm0] at HN HBs e40
  obtain ⟨xs, hxs⟩ : ∃ xs, S12.ab5 = xs := ⟨_, rfl⟩
  have hx5 : xs.length = 5 := by rw [← hxs]; rfl
  have hXB : S12.Byt xs := by rw [← hxs]; exact S12.ab5_byt
  have hR5 : ∀ W : World, Rd (W.alloc (.cells #[.int .u8 97, .int .u8 98, .int .u8 99, .int .u8 97, .int .u8 98] 5 (5, 6))) (some ⟨W.heap.size, 0, none⟩) (Bts xs) := fun W => by rw [← hxs]; exact Rd.newM W [.int .u8 97, .int .u8 98, .int .u8 99, .int .u8 97, .int .u8 98] 5 (5, 6)
  rw [hxs] at HBs e40 HT
  rw [hx5] at HT
  have HR5 := Lib.hid hR5
  have Hx5 := Lib.hid hx5
  have H40 := Lib.hid (show (S12.bitsM m0 xs 40).len = 2 ∧ (S12.bitsM m0 xs 40).at_ = 2 by rw [e40]; exact h40)
  have HXB := Lib.hid hXB
  clear hm0 hxs hR5 hx5 h40 e40 hXB
  go_enter Try.func11, Try.ntmps11
  go_wp2_with fail
  refine (HN.out _).mono ?_
  rintro e w1 ⟨p0, rfl, hM1, hF1, hb1⟩
  unfold MV MVals
  obtain ⟨Mb, hMb⟩ : ∃ Mb, w1.heap.size = Mb := ⟨_, rfl⟩
  obtain ⟨w2, hw2⟩ : ∃ w2, w1.alloc (.cells #[.int .i64 m0.bits, .int .i64 m0.least, .slice p0.ah m0.heads.length p0.ch, .slice p0.ab m0.bytes.length p0.cb, .int .i64 m0.at_, .int .i64 m0.len, .int .i64 m0.part, .int .i64 m0.bit, .slice p0.ac m0.ctrs.length p0.cc] 27) = w2 := ⟨_, rfl⟩
  have hb2 : Below w1.heap.size w1 w2 := by rw [← hw2]; exact (Below.refl _ _).alloc (Nat.le_refl _) _
  have M2 : Blk w2 Mb (MVals m0 p0) 27 := by rw [← hw2, ← hMb]; exact Blk.new w1 _ _
  have hB2 := below_trans hb1 hb2
  have hwM : w.heap.size ≤ Mb := by rw [← hMb]; exact hb1.size
  have HM2 := hM1.step hb2
  obtain ⟨G, hG⟩ : ∃ G, w2.heap.size = G := ⟨_, rfl⟩
  obtain ⟨w3, hw3⟩ : ∃ w3, w2.alloc (.cells #[.int .u8 97, .int .u8 98, .int .u8 99, .int .u8 97, .int .u8 98] 5 (5, 6)) = w3 := ⟨_, rfl⟩
  have kc : (convert 22 22 (.slice (some ⟨G, 0, none⟩) 5 5)).run Try.prog (w2.alloc (.cells #[.int .u8 97, .int .u8 98, .int .u8 99, .int .u8 97, .int .u8 98] 5)) = .ok (.slice (some ⟨G, 0, none⟩) 5 5) w3 := by
    rw [← hw3, ← hG]; exact Lib.run_convert_bytes_const (P := Try.prog) w2 22 5 #[.int .u8 97, .int .u8 98, .int .u8 99, .int .u8 97, .int .u8 98] 5 5 Try.underlying22 Try.underlying5
  have hb3 : Below w2.heap.size w2 w3 := by rw [← hw3]; exact (Below.refl _ _).alloc (Nat.le_refl _) _
  have hr3 : Rd w3 (some ⟨G, 0, none⟩) (Bts xs) := by rw [← hw3, ← hG]; exact HR5.out w2
  have hB3 := below_trans hB2 hb3
  have hMG : Mb < G := by rw [← hG]; exact M2.lt
  have Hr3 := Lib.hid hr3
  have hGw3 : G ≤ w3.heap.size := by rw [← hG]; exact hb3.size
  have hR0 : BitR 6 2 xs m0 Mb w w3 0 p0 := ⟨M2.step hb3, HM2.step hb3, hB3, HBs.out⟩
  clear hM1 M2 HM2 hr3 hB2 hb1 hb2
  go_wp2_with fail
  clear kc hw3 hw2 hG hMb
  go_loopw [2, 4] (fun e ii wr => ∃ (i : Nat) (p : Pl), i ≤ 40 ∧ e = .int .i64 0 ∧ ii = .int .i64 (i : Int) ∧ BitR 6 2 xs m0 Mb w wr i p ∧ Rd wr (some ⟨G, 0, none⟩) (Bts xs)) (fun _ ii _ => 40 - (intOf ii).toNat)
  case atStart => exact ⟨0, p0, by omega, rfl, rfl, hR0, Hr3.out⟩
  case round =>
    obtain ⟨i, p, hi, rfl, rfl, R, hE⟩ := hrel
    clear hR0
    by_cases hlt : i < 40
    · obtain ⟨j, hj⟩ : ∃ j, i / 8 = j := ⟨_, rfl⟩
      obtain ⟨t, ht⟩ : ∃ t, 7 - i % 8 = t := ⟨_, rfl⟩
      have hj5 : j < 5 := by omega
      have hj5' : (j : Int) < 5 := by omega
      obtain ⟨g', o', e, hcs⟩ := Bts_at hE (i := j) (by rw [Hx5.out]; omega)
      cases e
      have y1 := hcs j (by rw [Hx5.out]; omega)
      obtain ⟨x, hx⟩ : ∃ x : Nat, xs.getD j 0 = x := ⟨(xs.getD j 0).toNat, (Int.toNat_of_nonneg (HXB.out.get j)).symm⟩
      have hx2 : x < 256 := by have := HXB.out.at j; rw [hx] at this; omega
      rw [hx] at y1
      obtain ⟨bt, hbt⟩ : ∃ bt, S12.bitAt xs i = bt := ⟨_, rfl⟩
      have hbt' : x / 2 ^ t % 2 = bt := by rw [← hbt]; unfold S12.bitAt; rw [hj, hx, ht, Int.toNat_natCast]
      have hbt2 : (bt : Int) = 0 ∨ (bt : Int) = 1 := by omega
      have hln2 : (S12.bitsM m0 xs i).bytes.length < 65536 := by
        rw [(R.bts.mid (by rw [Hx5.out]; omega)).bytes, List.length_take, Hx5.out]; omega
      have HBt := Lib.hid fun W (h : MIs (S12.bitsM m0 xs i) p W) => bit12_good (b := (bt : Int)) h R.bts.fin hbt2 hln2
      have hnx := R.bts.next HXB.out (by rw [Hx5.out]; omega) (by rw [Hx5.out]; omega)
      have hsucc : S12.bitM (S12.bitsM m0 xs i) (bt : Int) = S12.bitsM m0 xs (i + 1) := by rw [← hbt]; rfl
      rw [hbt, hsucc] at hnx
      rw [hsucc] at HBt
      have Hnx := Lib.hid hnx
      have hand : bits .and .i64 ((x : Int) / 2 ^ t) 1 = (bt : Int) := by rw [div_cast, bits_and_1 _ (Nat.lt_of_le_of_lt (Nat.div_le_self _ _) (by omega)), hbt']
      obtain ⟨m, hm⟩ : ∃ m, S12.bitsM m0 xs i = m := ⟨_, rfl⟩
      obtain ⟨n, hn⟩ : ∃ n, S12.bitsM m0 xs (i + 1) = n := ⟨_, rfl⟩
      have Rb := R.blk
      have Rm := R.mis
      have hBk := R.bel
      rw [hm] at Rb Rm HBt
      rw [hn] at HBt Hnx
      have Hn := Lib.hid hn
      have HMk := Lib.hid Rm
      obtain ⟨r, hr⟩ : ∃ r, i % 8 = r := ⟨_, rfl⟩
      have w1q : (i : Int).tdiv 8 = (j : Int) := by rw [Int.tdiv_eq_ediv_of_nonneg (by omega)]; omega
      have w2q : (i : Int) / 8 = (j : Int) := by omega
      have w3q : IntKind.i64.wrap (j : Int) = (j : Int) := IntWalk.i64_in _ (by omega)
      have w4q : (i : Int).tmod 8 = (r : Int) := by rw [Int.tmod_eq_emod_of_nonneg (by omega)]; omega
      have w5q : (i : Int) % 8 = (r : Int) := by omega
      have w6q : IntKind.i64.wrap (r : Int) = (r : Int) := IntWalk.i64_in _ (by omega)
      have w7q : 7 - (r : Int) = (t : Int) := by omega
      have w8q : IntKind.i64.wrap (t : Int) = (t : Int) := IntWalk.i64_in _ (by omega)
      have dlt : decide ((i : Int) < 40) = true := decide_eq_true (by omega)
      clear hcs hx hbt hbt' hnx hsucc hm hn R Rm hln2 hj ht hr
      unfold MVals at Rb
      unfold MV MVals at HBt
      have hC : HasC [(⟨Mb, 0, none⟩, .int .i64 m.bits), (⟨Mb, 1, none⟩, .int .i64 m.least), (⟨Mb, 2, none⟩, .slice p.ah m.heads.length p.ch), (⟨Mb, 3, none⟩, .slice p.ab m.bytes.length p.cb), (⟨Mb, 4, none⟩, .int .i64 m.at_), (⟨Mb, 5, none⟩, .int .i64 m.len), (⟨Mb, 6, none⟩, .int .i64 m.part), (⟨Mb, 7, none⟩, .int .i64 m.bit), (⟨Mb, 8, none⟩, .slice p.ac m.ctrs.length p.cc), (⟨G, 0 + j, none⟩, .int .u8 (x : Int))] wr := ⟨Rb.cell 0, Rb.cell 1, Rb.cell 2, Rb.cell 3, Rb.cell 4, Rb.cell 5, Rb.cell 6, Rb.cell 7, Rb.cell 8, y1, trivial⟩
      rw [Nat.zero_add] at hC
      go_wp2_with fail
      refine wp_region_useq 16 17 1 [(.r, [true]), (.p, [false, true, true, true, true]), (.r, [false, false, false, false, false, true]), (.p, [false, false, false, false, false, false, true, true, true, true, true, true]), (.e, [false, false, false, false, false, false, false, false, false, false, false, false, true]), (.p, [false, false, false, false, false, false, false, false, false, false, false, false, false, true, true, true]), (.l, [false, false, false, false, false, false, false, false, false, false, false, false, false, false, false, false, true])] _ _ (HasC [(⟨Mb, 0, none⟩, .int .i64 m.bits), (⟨Mb, 1, none⟩, .int .i64 m.least), (⟨Mb, 2, none⟩, .slice p.ah m.heads.length p.ch), (⟨Mb, 3, none⟩, .slice p.ab m.bytes.length p.cb), (⟨Mb, 4, none⟩, .int .i64 m.at_), (⟨Mb, 5, none⟩, .int .i64 m.len), (⟨Mb, 6, none⟩, .int .i64 m.part), (⟨Mb, 7, none⟩, .int .i64 m.bit), (⟨Mb, 8, none⟩, .slice p.ac m.ctrs.length p.cc), (⟨G, j, none⟩, .int .u8 (x : Int))]) (by kernel_rfl) (List.take_append_drop 17 _).symm (by kernel_rfl) (by kernel_rfl) (by kernel_rfl) (by kernel_rfl) (hC) (fun Y Q4 F4 hY hF => ?_)
      simp only [phasedU, List.flatMap_cons, List.flatMap_nil, List.take_succ_cons, List.take_zero, List.drop_succ_cons, List.drop_zero, sel_true, sel_false, sel_nil, List.map_cons, List.map_nil, List.cons_append, List.nil_append, List.append_nil]
      repeat
        first
          | (apply wpSeqU_pure (by first | rfl | (rw [hY]; rfl))
             · intro w2
               go_simp
               with_reducible rfl
             simp only [Act.put, List.setIfInBounds_toArray, List.set_cons_zero, List.set_cons_succ])
          | (apply wpSeqU_read (by first | rfl | (rw [hY]; rfl))
             · intro w2 hS2
               (try simp only [Keeps, Cells] at hS2)
               (try simp only [HasC, Cells] at hS2)
               go_simp
               with_reducible rfl
             simp only [Act.put, List.setIfInBounds_toArray, List.set_cons_zero, List.set_cons_succ])
      simp only [wrap_i64_nat (show x < 9223372036854775808 by omega), hand]
      apply wpSeqU_call (by first | rfl | (rw [hY]; rfl))
      · go_simp
        with_reducible exact ⟨rfl, rfl⟩
      refine (HBt.out _ (HMk.out.step (below_drew _ wr))).mono ?_
      rintro e w6 ⟨px, rfl, hMx, hFx, hb6⟩
      have hE6 := below_trans (below_drew wr.heap.size wr) hb6
      refine ⟨_, rfl, Cells.step hE6 hC, ?_⟩
      simp only [Act.put, List.setIfInBounds_toArray, List.set_cons_zero, List.set_cons_succ]
      have R6 := Rb.step hE6
      obtain ⟨x0, x1, x2, x3, x4, x5, x6, x7, x8⟩ := R6.nine
      have f0 := R6.free 0
      have f1 := R6.free 1
      have f2 := R6.free 2
      have f3 := R6.free 3
      have f4 := R6.free 4
      have f5 := R6.free 5
      have f6 := R6.free 6
      have f7 := R6.free 7
      have f8 := R6.free 8
      repeat
        first
          | (apply wpSeqU_pure (by first | rfl | (rw [hY]; rfl))
             · intro w2
               go_simp
               with_reducible rfl
             simp only [Act.put, List.setIfInBounds_toArray, List.set_cons_zero, List.set_cons_succ])
          | (apply wpSeqU_read (by first | rfl | (rw [hY]; rfl))
             · intro w2 hS2
               (try simp only [Keeps, Cells] at hS2)
               (try simp only [HasC, Cells] at hS2)
               go_simp
               with_reducible rfl
             simp only [Act.put, List.setIfInBounds_toArray, List.set_cons_zero, List.set_cons_succ])
      refine wpSeqU_last_store (by first | rfl | (rw [hY]; rfl)) (by go_simp; first | with_reducible exact ⟨rfl, rfl⟩ | with_reducible rfl) ?_
      simp only [Act.put, List.setIfInBounds_toArray, List.set_cons_zero, List.set_cons_succ]
      refine wpSeqU_done (hF.out _ _ (fun K hK => ?_))
      clear hF hY
      have hlM : Mb < wr.drew.heap.size := Rb.lt
      have HR8 := Lib.hid (show BitR 6 2 xs m0 Mb w _ (i + 1) px from ⟨by rw [Hn.out]; exact R6.put9 (.int .i64 n.bits) (.int .i64 n.least) (.slice px.ah n.heads.length px.ch) (.slice px.ab n.bytes.length px.cb) (.int .i64 n.at_) (.int .i64 n.len) (.int .i64 n.part) (.int .i64 n.bit) (.slice px.ac n.ctrs.length px.cc), by rw [Hn.out]; exact hMx.put9f hFx hlM (.int .i64 n.bits) (.int .i64 n.least) (.slice px.ah n.heads.length px.ch) (.slice px.ab n.bytes.length px.cb) (.int .i64 n.at_) (.int .i64 n.len) (.int .i64 n.part) (.int .i64 n.bit) (.slice px.ac n.ctrs.length px.cc), below_put9 (below_trans hBk hE6) hwM (.int .i64 n.bits) (.int .i64 n.least) (.slice px.ah n.heads.length px.ch) (.slice px.ab n.bytes.length px.cb) (.int .i64 n.at_) (.int .i64 n.len) (.int .i64 n.part) (.int .i64 n.bit) (.slice px.ac n.ctrs.length px.cc), by rw [Hn.out]; exact Hnx.out⟩)
      have hE8 := Lib.hid ((hE.step hE6).put9 (b := Mb) (fun g o e _ => by cases e; omega) (.int .i64 n.bits) (.int .i64 n.least) (.slice px.ah n.heads.length px.ch) (.slice px.ab n.bytes.length px.cb) (.int .i64 n.at_) (.int .i64 n.len) (.int .i64 n.part) (.int .i64 n.bit) (.slice px.ac n.ctrs.length px.cc))
      go_wp2_with fail
      refine OnlyK.mk (hK.out _ _ ?_)
      clear hK x0 x1 x2 x3 x4 x5 x6 x7 x8 f0 f1 f2 f3 f4 f5 f6 f7 f8 R6 hC hMx hFx Rb hBk
      obtain ⟨w8, hw8⟩ : ∃ w8, (((((((((w6.setCell ⟨Mb, 0, none⟩ (.int .i64 n.bits)).setCell ⟨Mb, 1, none⟩ (.int .i64 n.least)).setCell ⟨Mb, 2, none⟩ (.slice px.ah n.heads.length px.ch)).setCell ⟨Mb, 3, none⟩ (.slice px.ab n.bytes.length px.cb)).setCell ⟨Mb, 4, none⟩ (.int .i64 n.at_)).setCell ⟨Mb, 5, none⟩ (.int .i64 n.len)).setCell ⟨Mb, 6, none⟩ (.int .i64 n.part)).setCell ⟨Mb, 7, none⟩ (.int .i64 n.bit)).setCell ⟨Mb, 8, none⟩ (.slice px.ac n.ctrs.length px.cc)) = w8 := ⟨_, rfl⟩
      rw [hw8] at HR8 hE8 ⊢
      clear hw8
      go_wp2_with fail
      go_roundw
      case rel => exact ⟨i + 1, px, by omega, rfl, by go_num, HR8.out, hE8.out⟩
      case measure => simp [intOf]; omega
    · obtain rfl : i = 40 := by omega
      have R4 := R.blk.cell 4
      have R5 := R.blk.cell 5
      unfold MVals at R4 R5
      simp only [List.getElem?_cons_zero, List.getElem?_cons_succ, H40.out.1, H40.out.2] at R4 R5
      have hBk := R.bel
      have hcn := HT.out (some ⟨G, 0, none⟩) 5 wr (by omega) (by omega) hE
      have HT2 := Lib.hid hcn
      clear R hcn
      go_wp2_with fail
      refine HT2.out.mono ?_
      rintro e w6 ⟨rfl, hb6⟩
      have hB6 := below_trans hBk hb6
      go_wp2_with fail
      go_returns
      exact ⟨rfl, hB6⟩
end Go.Proofs.Ytbfgdaijpcbddaa
