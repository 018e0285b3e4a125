/- The law TopMatchesFollow, walked. No condition. -/
import Derived.Test.YtbfgdaijpcbddaaW12ac
set_option linter.unusedSimpArgs false
set_option linter.unusedVariables false
set_option linter.unusedSectionVars false
namespace Go.Proofs.Ytbfgdaijpcbddaa
open Go.RowKit

@[go_sem high] theorem run_min_three {P : Program} (w : World) (ts : Array TypeId) (t : TypeId) (k k' k'' : IntKind) (x y z : Int) :
    (Builtin.min_ ts t #[.int k x, .int k' y, .int k'' z]).run P w = .ok (.int k (min (min x y) z)) w := by
  have e : ∀ x y : Int, (if y < x then y else x) = min x y := fun x y => by
    rw [Int.min_def]
    split <;> split <;> omega
  simp [Builtin.min_, Builtin.min2, e]


set_option maxRecDepth 100000 in
set_option maxHeartbeats 4000000 in
theorem topMatchesFollow_any (xs : List Int) (hX : S12.Byt xs) (hl63 : xs.length ≤ 9223372036854775807) (b1 b2 : Nat) (hb1 : b1 < 256) (hb2 : b2 < 256) (a : Option Addr) (cap : Nat) (hcap : xs.length ≤ cap) (hcap2 : cap ≤ 9223372036854775807) (w : World) (hrd : Rd w a (Bts xs)) :
    Calls Try.prog 3 #[.slice a xs.length cap, .int .u8 (b1 : Int), .int .u8 (b2 : Int)] w fun e w' => e = .returned (.bool true) ∧ Below w.heap.size w w' := by
  have HA := Lib.hid fun W => tryMatchAwake12_any W
  by_cases hs : 48 < xs.length
  · have ds : decide (48 < (xs.length : Int)) = true := decide_eq_true (by omega)
    clear hs
    go_enter Try.func3, Try.ntmps3
    go_wp2_with fail
    refine (HA.out _).mono ?_
    rintro e w2 ⟨rfl, hb2⟩
    go_wp2_with fail
    go_returns
    exact ⟨rfl, hb2⟩
  have ds : decide (48 < (xs.length : Int)) = false := decide_eq_false (by omega)
  obtain ⟨nb, hnb⟩ : ∃ nb : Nat, 1 + b1 % 8 = nb := ⟨_, rfl⟩
  obtain ⟨n, hn⟩ : ∃ n : Nat, 1 + b2 % 5 = n := ⟨_, rfl⟩
  have enb : (1 : Int) + (b1 : Int) % 8 = (nb : Int) := by omega
  have en : (1 : Int) + (b2 : Int) % 5 = (n : Int) := by omega
  have h1 : 1 ≤ (nb : Int) ∧ (nb : Int) ≤ 16 := by omega
  have h2 : 1 ≤ (n : Int) ∧ (n : Int) ≤ 32 := by omega
  have HN := Lib.hid fun W => new12_any (nb : Int) (n : Int) W
  rw [(S12.newM_ok h1 h2).1, (S12.newM_ok h1 h2).2] at HN
  have HBs := Lib.hid (S12.Bits.start h1 h2 hX)
  obtain ⟨m0, hm0⟩ : ∃ m0, S12.start (nb : Int) (n : Int) = m0 := ⟨_, rfl⟩
  rw [hm0] at HN HBs
  obtain ⟨N, hN⟩ : ∃ N, xs.length = N := ⟨_, rfl⟩
  rw [hN] at hs ds hcap ⊢
  have HNN := Lib.hid hN
  have HX := Lib.hid hX
  have Hrd := Lib.hid hrd
  have hN48 : N ≤ 48 := by omega
  have hn5 : n ≤ 5 := by omega
  clear hm0 hnb hn h1 h2 hl63 hX hrd hN hs
  go_enter Try.func3, Try.ntmps3
  go_wp2_with fail
  refine (HN.out _).mono ?_
  rintro e w1 ⟨p0, rfl, hM1, hF1, hb1'⟩
  unfold MV MVals
  obtain ⟨Mb, hMb⟩ : ∃ Mb, w1.heap.size = Mb := ⟨_, rfl⟩
  obtain ⟨w2, hw2⟩ : ∃ w2, w1.alloc (.cells #[.int .i64 m0.bits, .int .i64 m0.least, .slice p0.ah m0.heads.length p0.ch, .slice p0.ab m0.bytes.length p0.cb, .int .i64 m0.at_, .int .i64 m0.len, .int .i64 m0.part, .int .i64 m0.bit, .slice p0.ac m0.ctrs.length p0.cc] 27) = w2 := ⟨_, rfl⟩
  have hb2' : Below w1.heap.size w1 w2 := by rw [← hw2]; exact (Below.refl _ _).alloc (Nat.le_refl _) _
  have M2 : Blk w2 Mb (MVals m0 p0) 27 := by rw [← hw2, ← hMb]; exact Blk.new w1 _ _
  have hB2 := below_trans hb1' hb2'
  have hwM : w.heap.size ≤ Mb := by rw [← hMb]; exact hb1'.size
  have hR0 : BitR (nb : Int) (n : Int) xs m0 Mb w w2 0 p0 := ⟨M2, hM1.step hb2', hB2, HBs.out⟩
  clear hM1 M2 hB2 hb1' hb2'
  go_wp2_with fail
  clear hw2 hMb
  go_loopw [9, 10] (fun e ii wr => ∃ (i : Nat) (p : Pl), i ≤ 8 * N ∧ e = .int .i64 0 ∧ ii = .int .i64 (i : Int) ∧ BitR (nb : Int) (n : Int) xs m0 Mb w wr i p) (fun _ ii _ => 8 * N - (intOf ii).toNat)
  case atStart => exact ⟨0, p0, by omega, rfl, rfl, hR0⟩
  case round =>
    obtain ⟨i, p, hi, rfl, rfl, R⟩ := hrel
    clear hR0
    by_cases hlt : i < 8 * N
    · obtain ⟨j, hj⟩ : ∃ j, i / 8 = j := ⟨_, rfl⟩
      obtain ⟨t, ht⟩ : ∃ t, 7 - i % 8 = t := ⟨_, rfl⟩
      obtain ⟨r, hr⟩ : ∃ r, i % 8 = r := ⟨_, rfl⟩
      have hjN : j < N := by omega
      obtain ⟨g, o, hga, hcs⟩ := Bts_at Hrd.out (i := j) (by rw [HNN.out]; omega)
      have y0 := hcs j (by rw [HNN.out]; omega)
      obtain ⟨x, hx⟩ : ∃ x : Nat, xs.getD j 0 = x := ⟨(xs.getD j 0).toNat, (Int.toNat_of_nonneg (HX.out.get j)).symm⟩
      have hx2 : x < 256 := by have := HX.out.at j; rw [hx] at this; omega
      rw [hx] at y0
      obtain ⟨bt, hbt⟩ : ∃ bt, S12.bitAt xs i = bt := ⟨_, rfl⟩
      have hbt' : x / 2 ^ t % 2 = bt := by rw [← hbt]; unfold S12.bitAt; rw [hj, hx, ht, Int.toNat_natCast]
      have hbt2 : (bt : Int) = 0 ∨ (bt : Int) = 1 := by omega
      have hi8 : i < 8 * xs.length := by rw [HNN.out]; omega
      have hmid := R.bts.mid hi8
      have hln2 : (S12.bitsM m0 xs i).bytes.length < 65536 := by
        rw [hmid.bytes, List.length_take, HNN.out]; omega
      have HBt := Lib.hid fun W (h : MIs (S12.bitsM m0 xs i) p W) => bit12_good (b := (bt : Int)) h R.bts.fin hbt2 hln2
      have HPr := Lib.hid fun W (h : MIs (S12.bitsM m0 xs i) p W) => predict12_any (S12.bitsM m0 xs i) p W h
      have hnx := R.bts.next HX.out (by rw [HNN.out]; omega) hi8
      have hsucc : S12.bitM (S12.bitsM m0 xs i) (bt : Int) = S12.bitsM m0 xs (i + 1) := by rw [← hbt]; rfl
      rw [hbt, hsucc] at hnx
      rw [hsucc] at HBt
      have Hnx := Lib.hid hnx
      have hand : bits .and .i64 ((x : Int) / 2 ^ t) 1 = (bt : Int) := by rw [div_cast, bits_and_1 _ (Nat.lt_of_le_of_lt (Nat.div_le_self _ _) (by omega)), hbt']
      have hwf := R.bts.fin
      have hfol := fun h0 => R.bts.follows HX.out hi8 h0
      rw [hj, ht] at hfol
      obtain ⟨m, hm⟩ : ∃ m, S12.bitsM m0 xs i = m := ⟨_, rfl⟩
      obtain ⟨n', hn'⟩ : ∃ n', S12.bitsM m0 xs (i + 1) = n' := ⟨_, rfl⟩
      have Rb := R.blk
      have Rm := R.mis
      have hBk := R.bel
      rw [hm] at Rb Rm HBt HPr hwf hfol
      rw [hn'] at HBt Hnx
      have Hn := Lib.hid hn'
      have HMk := Lib.hid Rm
      have Hwf := Lib.hid hwf
      have Hfol := Lib.hid hfol
      have w1q : (i : Int).tdiv 8 = (j : Int) := by rw [Int.tdiv_eq_ediv_of_nonneg (by omega)]; omega
      have w2q : (i : Int) / 8 = (j : Int) := by omega
      have w3q : IntKind.i64.wrap (j : Int) = (j : Int) := IntWalk.i64_in _ (by omega)
      have w4q : (i : Int).tmod 8 = (r : Int) := by rw [Int.tmod_eq_emod_of_nonneg (by omega)]; omega
      have w5q : (i : Int) % 8 = (r : Int) := by omega
      have w6q : IntKind.i64.wrap (r : Int) = (r : Int) := IntWalk.i64_in _ (by omega)
      have w7q : 7 - (r : Int) = (t : Int) := by omega
      have w8q : IntKind.i64.wrap (t : Int) = (t : Int) := IntWalk.i64_in _ (by omega)
      have dlt : decide ((i : Int) < 8 * (N : Int)) = true := decide_eq_true (by omega)
      have hjc : j ≤ cap := by omega
      have hjI : (j : Int) < (N : Int) := by omega
      subst hga
      clear hcs hx hbt hbt' hnx hsucc hm hn' R Rm hln2 hj ht hr hmid hwf hfol hi8
      unfold MVals at Rb
      unfold MV MVals at HBt HPr
      by_cases h0 : m.len = 0
      · have hp := Hwf.out.pred0 h0
        rw [hp.1, hp.2] at HPr
        rw [h0] at HBt HPr Rb
        clear hp
        obtain ⟨x0, x1, x2, x3, x4, x5, x6, x7, x8⟩ := Rb.nine
        go_wp2_with fail
        refine (HPr.out wr HMk.out).mono ?_
        rintro e w4 ⟨rfl, hb4⟩
        clear x0 x1 x2 x3 x4 x5 x6 x7 x8
        have x5 := (Rb.step hb4).cell 5
        simp only [List.getElem?_cons_zero, List.getElem?_cons_succ] at x5
        have hC : HasC [(⟨Mb, 0, none⟩, .int .i64 m.bits), (⟨Mb, 1, none⟩, .int .i64 m.least), (⟨Mb, 2, none⟩, .slice p.ah m.heads.length p.ch), (⟨Mb, 3, none⟩, .slice p.ab m.bytes.length p.cb), (⟨Mb, 4, none⟩, .int .i64 m.at_), (⟨Mb, 5, none⟩, .int .i64 0), (⟨Mb, 6, none⟩, .int .i64 m.part), (⟨Mb, 7, none⟩, .int .i64 m.bit), (⟨Mb, 8, none⟩, .slice p.ac m.ctrs.length p.cc), (⟨g, o + j, none⟩, .int .u8 (x : Int))] w4 := ⟨(Rb.step hb4).cell 0, (Rb.step hb4).cell 1, (Rb.step hb4).cell 2, (Rb.step hb4).cell 3, (Rb.step hb4).cell 4, (Rb.step hb4).cell 5, (Rb.step hb4).cell 6, (Rb.step hb4).cell 7, (Rb.step hb4).cell 8, ((hBk.trans (hb4.mono hBk.size)).cell (p := ⟨g, o + j, none⟩) (block_lt_of_cell y0)).trans y0, trivial⟩
        go_wp2_with fail
        refine wp_region_useq 16 17 1 [(.r, [true]), (.p, [false, true, true, true, true]), (.r, [false, false, false, false, false, true]), (.p, [false, false, false, false, false, false, true, true, true, true, true, true]), (.e, [false, false, false, false, false, false, false, false, false, false, false, false, true]), (.p, [false, false, false, false, false, false, false, false, false, false, false, false, false, true, true, true]), (.l, [false, false, false, false, false, false, false, false, false, false, false, false, false, false, false, false, true])] _ _ (HasC [(⟨Mb, 0, none⟩, .int .i64 m.bits), (⟨Mb, 1, none⟩, .int .i64 m.least), (⟨Mb, 2, none⟩, .slice p.ah m.heads.length p.ch), (⟨Mb, 3, none⟩, .slice p.ab m.bytes.length p.cb), (⟨Mb, 4, none⟩, .int .i64 m.at_), (⟨Mb, 5, none⟩, .int .i64 0), (⟨Mb, 6, none⟩, .int .i64 m.part), (⟨Mb, 7, none⟩, .int .i64 m.bit), (⟨Mb, 8, none⟩, .slice p.ac m.ctrs.length p.cc), (⟨g, o + j, none⟩, .int .u8 (x : Int))]) (by kernel_rfl) (List.take_append_drop 17 _).symm (by kernel_rfl) (by kernel_rfl) (by kernel_rfl) (by kernel_rfl) (hC) (fun Y Q4 F4 hY hF => ?_)
        simp only [phasedU, List.flatMap_cons, List.flatMap_nil, List.take_succ_cons, List.take_zero, List.drop_succ_cons, List.drop_zero, sel_true, sel_false, sel_nil, List.map_cons, List.map_nil, List.cons_append, List.nil_append, List.append_nil]
        repeat
          first
            | (apply wpSeqU_pure (by first | rfl | (rw [hY]; rfl))
               · intro w2
                 go_simp
                 with_reducible rfl
               simp only [Act.put, List.setIfInBounds_toArray, List.set_cons_zero, List.set_cons_succ])
            | (apply wpSeqU_read (by first | rfl | (rw [hY]; rfl))
               · intro w2 hS2
                 (try simp only [Keeps, Cells] at hS2)
                 (try simp only [HasC, Cells] at hS2)
                 go_simp
                 with_reducible rfl
               simp only [Act.put, List.setIfInBounds_toArray, List.set_cons_zero, List.set_cons_succ])
        simp only [wrap_i64_nat (show x < 9223372036854775808 by omega), hand]
        apply wpSeqU_call (by first | rfl | (rw [hY]; rfl))
        · go_simp
          with_reducible exact ⟨rfl, rfl⟩
        refine (HBt.out _ (HMk.out.step (below_trans hb4 (below_drew _ w4)))).mono ?_
        rintro e w9 ⟨px, rfl, hMx, hFx, hb9⟩
        have hE9 := below_trans hb4 (below_trans (below_drew _ w4) hb9)
        refine ⟨_, rfl, Cells.step (below_trans (below_drew _ w4) hb9) hC, ?_⟩
        simp only [Act.put, List.setIfInBounds_toArray, List.set_cons_zero, List.set_cons_succ]
        have R9 := Rb.step hE9
        obtain ⟨x0, x1, x2, x3, x4, x5, x6, x7, x8⟩ := R9.nine
        have f0 := R9.free 0
        have f1 := R9.free 1
        have f2 := R9.free 2
        have f3 := R9.free 3
        have f4 := R9.free 4
        have f5 := R9.free 5
        have f6 := R9.free 6
        have f7 := R9.free 7
        have f8 := R9.free 8
        repeat
          first
            | (apply wpSeqU_pure (by first | rfl | (rw [hY]; rfl))
               · intro w2
                 go_simp
                 with_reducible rfl
               simp only [Act.put, List.setIfInBounds_toArray, List.set_cons_zero, List.set_cons_succ])
            | (apply wpSeqU_read (by first | rfl | (rw [hY]; rfl))
               · intro w2 hS2
                 (try simp only [Keeps, Cells] at hS2)
                 (try simp only [HasC, Cells] at hS2)
                 go_simp
                 with_reducible rfl
               simp only [Act.put, List.setIfInBounds_toArray, List.set_cons_zero, List.set_cons_succ])
        refine wpSeqU_last_store (by first | rfl | (rw [hY]; rfl)) (by go_simp; first | with_reducible exact ⟨rfl, rfl⟩ | with_reducible rfl) ?_
        simp only [Act.put, List.setIfInBounds_toArray, List.set_cons_zero, List.set_cons_succ]
        refine wpSeqU_done (hF.out _ _ (fun K hK => ?_))
        clear hF hY
        have hlM : Mb < (w4.drew).heap.size := (Rb.step hb4).lt
        have HR9 := Lib.hid (show BitR (nb : Int) (n : Int) xs m0 Mb w _ (i + 1) px from ⟨by rw [Hn.out]; exact R9.put9 (.int .i64 n'.bits) (.int .i64 n'.least) (.slice px.ah n'.heads.length px.ch) (.slice px.ab n'.bytes.length px.cb) (.int .i64 n'.at_) (.int .i64 n'.len) (.int .i64 n'.part) (.int .i64 n'.bit) (.slice px.ac n'.ctrs.length px.cc), by rw [Hn.out]; exact hMx.put9f hFx hlM (.int .i64 n'.bits) (.int .i64 n'.least) (.slice px.ah n'.heads.length px.ch) (.slice px.ab n'.bytes.length px.cb) (.int .i64 n'.at_) (.int .i64 n'.len) (.int .i64 n'.part) (.int .i64 n'.bit) (.slice px.ac n'.ctrs.length px.cc), below_put9 (below_trans hBk hE9) hwM (.int .i64 n'.bits) (.int .i64 n'.least) (.slice px.ah n'.heads.length px.ch) (.slice px.ab n'.bytes.length px.cb) (.int .i64 n'.at_) (.int .i64 n'.len) (.int .i64 n'.part) (.int .i64 n'.bit) (.slice px.ac n'.ctrs.length px.cc), by rw [Hn.out]; exact Hnx.out⟩)
        go_wp2_with fail
        refine OnlyK.mk (hK.out _ _ ?_)
        clear hK x0 x1 x2 x3 x4 x5 x6 x7 x8 f0 f1 f2 f3 f4 f5 f6 f7 f8 R9 hC hMx hFx Rb hBk
        obtain ⟨wA, hwA⟩ : ∃ wA, (((((((((w9.setCell ⟨Mb, 0, none⟩ (.int .i64 n'.bits)).setCell ⟨Mb, 1, none⟩ (.int .i64 n'.least)).setCell ⟨Mb, 2, none⟩ (.slice px.ah n'.heads.length px.ch)).setCell ⟨Mb, 3, none⟩ (.slice px.ab n'.bytes.length px.cb)).setCell ⟨Mb, 4, none⟩ (.int .i64 n'.at_)).setCell ⟨Mb, 5, none⟩ (.int .i64 n'.len)).setCell ⟨Mb, 6, none⟩ (.int .i64 n'.part)).setCell ⟨Mb, 7, none⟩ (.int .i64 n'.bit)).setCell ⟨Mb, 8, none⟩ (.slice px.ac n'.ctrs.length px.cc)) = wA := ⟨_, rfl⟩
        rw [hwA] at HR9 ⊢
        clear hwA
        go_wp2_with fail
        go_roundw
        case rel => exact ⟨i + 1, px, by omega, rfl, by go_num, HR9.out⟩
        case measure => simp [intOf]; omega
      · obtain ⟨l, q, f, F⟩ := Hfol.out h0
        have hpr := Hwf.out.pred1 h0
        have h16 := Hwf.out.ctrs
        have eLen := F.len
        have eAt := F.at_
        have eBit := F.bit
        have hl1 := F.pos
        have hl2 := F.le
        have hnl := F.least
        have hq2 := F.lt
        have htl : (xs.take j).length = j := by rw [List.length_take, HNN.out]; omega
        rw [htl] at hq2
        have hf2 := F.f256
        have hqf : xs.getD q 0 = f := by
          have := F.byte
          rw [List.getD, List.getElem?_take, if_pos hq2] at this
          exact this
        have yq : w.cell? ⟨g, o + q, none⟩ = some (.int .u8 (f : Int)) := by
          obtain ⟨g', o', e, hcs⟩ := Bts_at Hrd.out (i := q) (by rw [HNN.out]; omega)
          cases e
          rw [hcs q (by rw [HNN.out]; omega), hqf]
        have HT := Lib.hid fun W (hW : Below w.heap.size w W) => (show Calls Try.prog 14 #[.slice (some ⟨g, o, none⟩) j cap, .int .i64 (l : Int), .int .u8 (f : Int)] W fun e w' => e = .returned (.bool true) ∧ Below W.heap.size W w' by
          have hrT : Rd W (some ⟨g, o, none⟩) (Bts (xs.take j)) := by
            have := (Hrd.out.step hW).window 0 j
            rwa [Nat.add_zero, List.drop_zero] at this
          have := tryMatched12_any (xs.take j) l q f hl1 hl2 (by rw [htl]; exact hq2) F.byte F.win (by rw [htl]; omega) (some ⟨g, o, none⟩) cap (by rw [htl]; omega) hcap2 W hrT
          rw [htl] at this
          exact this)
        obtain ⟨k, hk⟩ : ∃ k, min l 15 = k := ⟨_, rfl⟩
        obtain ⟨gc, oc, hac, hc0, hc1⟩ := Cts_cells HMk.out.rdc (k := k) (by rw [h16]; omega)
        obtain ⟨c0, hcc0⟩ : ∃ c0, (m.ctrs.getD k (0, 0)).1 = c0 := ⟨_, rfl⟩
        obtain ⟨c1, hcc1⟩ : ∃ c1, (m.ctrs.getD k (0, 0)).2 = c1 := ⟨_, rfl⟩
        rw [hcc0] at hc0
        rw [hcc1] at hc1
        obtain ⟨bv, hbv⟩ : ∃ bv, f / 2 ^ t % 2 = bv := ⟨_, rfl⟩
        have hbv2 : bv = 0 ∨ bv = 1 := by omega
        have hand2 : bits .and .i64 ((f : Int) / 2 ^ t) 1 = (bv : Int) := by rw [div_cast, bits_and_1 _ (Nat.lt_of_le_of_lt (Nat.div_le_self _ _) (by omega)), hbv]
        obtain ⟨P, hP⟩ : ∃ P, S12.predP m = P := ⟨_, rfl⟩
        have hrng := S12.predict_range (Hwf.out.ctr_at k (by omega))
        rw [hbv] at eBit
        have hk' : min m.len.toNat 15 = k := by rw [eLen, Int.toNat_natCast]; exact hk
        rw [hP, hk', eBit, hcc0, hcc1] at hpr
        rw [hcc0, hcc1] at hrng
        rw [hpr.1, hP] at HPr
        rw [eLen, eAt, eBit, hac, h16] at HBt HPr Rb
        have hP1 := hpr.2.1
        have hP2 := hpr.2.2.1
        have hP3 := hpr.2.2.2
        obtain ⟨pr, hprE⟩ : ∃ pr, S08.predict c0 c1 = pr := ⟨_, rfl⟩
        rw [hprE] at hP3 hrng
        have hkI1 : min (l : Int) 15 = (k : Int) := by omega
        have hk15 : k ≤ 15 := by omega
        have hkI2 : min (k : Int) 15 = (k : Int) := by omega
        have hk16 : (k : Int) < 16 := by omega
        have hmin : min (l : Int) (j : Int) = (l : Int) := by omega
        have HP3 := Lib.hid hP3
        have Hrng := Lib.hid hrng
        clear hpr h16 eLen eAt eBit htl hqf hk hcc0 hcc1 hbv hP hk' hprE hP3 hrng F hac
        have v1 : ¬ l < n := by omega
        have v2 : ¬ j < l := by omega
        have v3 : ¬ j ≤ q := by omega
        have v4 : decide (P < 1) = false := decide_eq_false (by omega)
        have v5 : decide (4095 < P) = false := decide_eq_false (by omega)
        have v6 : 0 < l := by omega
        have lq := block_lt_of_cell yq
        obtain ⟨x0, x1, x2, x3, x4, x5, x6, x7, x8⟩ := Rb.nine
        go_wp2_with fail
        refine (HPr.out wr HMk.out).mono ?_
        rintro e w4 ⟨rfl, hb4⟩
        clear x0 x1 x2 x3 x4 x5 x6 x7 x8
        have x5 := (Rb.step hb4).cell 5
        simp only [List.getElem?_cons_zero, List.getElem?_cons_succ] at x5
        have hB4 := below_trans hBk hb4
        have hC4 : HasC [(⟨Mb, 4, none⟩, .int .i64 (q : Int)), (⟨Mb, 5, none⟩, .int .i64 (l : Int)), (⟨g, o + q, none⟩, .int .u8 (f : Int))] w4 := ⟨(Rb.step hb4).cell 4, (Rb.step hb4).cell 5, (hB4.cell (p := ⟨g, o + q, none⟩) lq).trans yq, trivial⟩
        go_wp2_with fail
        refine wp_region_seq 38 0 [(true, [true, true, true, true, true, true, true, true, true, true, true, true, true, true, true, true, true, true, true, true, true, true, true, true, true, true, true, true, true, true, true, true, true, true, true]), (false, [false, false, false, false, false, false, false, false, false, false, false, false, false, false, false, false, false, false, false, false, false, false, false, false, false, false, false, false, false, false, false, false, false, false, false, true]), (true, [false, false, false, false, false, false, false, false, false, false, false, false, false, false, false, false, false, false, false, false, false, false, false, false, false, false, false, false, false, false, false, false, false, false, false, false, true, true])] _ _ (HasC [(⟨Mb, 4, none⟩, .int .i64 (q : Int)), (⟨Mb, 5, none⟩, .int .i64 (l : Int)), (⟨g, o + q, none⟩, .int .u8 (f : Int))]) (by kernel_rfl) (List.take_append_drop 38 _).symm (by kernel_rfl) (by kernel_rfl) (by kernel_rfl) (by kernel_rfl) (hC4) (fun Y Q4 F4 hY hF => ?_)
        simp only [phased, List.flatMap_cons, List.flatMap_nil, List.take_succ_cons, List.take_zero, List.drop_succ_cons, List.drop_zero, sel_true, sel_false, sel_nil, List.map_cons, List.map_nil, List.cons_append, List.nil_append, List.append_nil]
        repeat
          apply wpSeq_read (by first | rfl | (rw [hY]; rfl))
          · intro w2 hS2
            (try simp only [Keeps, Cells] at hS2)
            (try simp only [HasC, Cells] at hS2)
            go_simp
            with_reducible rfl
          simp only [Act.put, List.setIfInBounds_toArray, List.set_cons_zero, List.set_cons_succ]
        apply wpSeq_call (by first | rfl | (rw [hY]; rfl))
        · go_simp
          with_reducible exact ⟨rfl, rfl⟩
        refine (HT.out _ (below_trans hB4 (below_drew _ w4))).mono ?_
        rintro e w5 ⟨rfl, hb5⟩
        have hE45 := below_trans (below_drew w4.heap.size w4) hb5
        refine ⟨_, rfl, Cells.step hE45 hC4, ?_⟩
        simp only [Act.put, List.setIfInBounds_toArray, List.set_cons_zero, List.set_cons_succ]
        repeat
          apply wpSeq_read (by first | rfl | (rw [hY]; rfl))
          · intro w2 hS2
            (try simp only [Keeps, Cells] at hS2)
            (try simp only [HasC, Cells] at hS2)
            go_simp
            with_reducible rfl
          simp only [Act.put, List.setIfInBounds_toArray, List.set_cons_zero, List.set_cons_succ]
        refine wpSeq_done (hF.out _ _ (fun K hK => ?_))
        clear hF hY
        have hE5 := below_trans hb4 hE45
        have lc := block_lt_of_cell hc0
        have yc0 := (hE5.cell (p := ⟨gc, oc + k * 2, none⟩) lc).trans hc0
        have yc1 := (hE5.cell (p := ⟨gc, oc + k * 2 + 1, none⟩) lc).trans hc1
        go_wp2_with fail
        refine OnlyK.mk (hK.out _ _ ?_)
        clear hK hC4 x5
        obtain ⟨x0, x1, x2, x3, x4, x5, x6, x7, x8⟩ := (Rb.step hE5).nine
        have yq5 := ((below_trans hBk hE5).cell (p := ⟨g, o + q, none⟩) lq).trans yq
        obtain ⟨w6, hw6⟩ : ∃ w6, w5.alloc (.cells #[.int .i64 c0, .int .i64 c1] 35) = w6 := ⟨_, rfl⟩
        have hb6 : Below w5.heap.size w5 w6 := by rw [← hw6]; exact (Below.refl _ _).alloc (Nat.le_refl _) _
        have hE6 := below_trans hE5 hb6
        have C6 : Blk w6 w5.heap.size [.int .i64 c0, .int .i64 c1] 35 := by rw [← hw6]; exact Blk.new w5 _ _
        have yC := C6.cell 0
        simp only [List.getElem?_cons_zero] at yC
        have u4 := (Rb.step hE6).cell 4
        have u7 := (Rb.step hE6).cell 7
        simp only [List.getElem?_cons_zero, List.getElem?_cons_succ] at u4 u7
        have yq6 := ((below_trans hBk hE6).cell (p := ⟨g, o + q, none⟩) lq).trans yq
        by_cases hv : bv = 0 ∧ (decide (32768 ≤ c0) = true)
        · obtain ⟨rfl, dC⟩ := hv
          have hcc :  32768 ≤ c0 := of_decide_eq_true dC
          have dP := decide_eq_true (show  P ≤ 2048 by have h1 := HP3.out; have h2 := Hrng.out; rw [if_pos (show ((0 : Nat) : Int) = 0 from rfl)] at h1; omega)
          clear HP3 Hrng hcc hbv2
          simp only [show ((0 : Nat) : Int) = (0 : Int) from rfl] at hand2 HBt Rb x7 u7
          go_wp2_with fail
          have hC : HasC [(⟨Mb, 0, none⟩, .int .i64 m.bits), (⟨Mb, 1, none⟩, .int .i64 m.least), (⟨Mb, 2, none⟩, .slice p.ah m.heads.length p.ch), (⟨Mb, 3, none⟩, .slice p.ab m.bytes.length p.cb), (⟨Mb, 4, none⟩, .int .i64 (q : Int)), (⟨Mb, 5, none⟩, .int .i64 (l : Int)), (⟨Mb, 6, none⟩, .int .i64 m.part), (⟨Mb, 7, none⟩, .int .i64 0), (⟨Mb, 8, none⟩, .slice (some ⟨gc, oc, none⟩) 16 p.cc), (⟨g, o + j, none⟩, .int .u8 (x : Int))] w6 := ⟨(Rb.step hE6).cell 0, (Rb.step hE6).cell 1, (Rb.step hE6).cell 2, (Rb.step hE6).cell 3, (Rb.step hE6).cell 4, (Rb.step hE6).cell 5, (Rb.step hE6).cell 6, (Rb.step hE6).cell 7, (Rb.step hE6).cell 8, ((hBk.trans (hE6.mono hBk.size)).cell (p := ⟨g, o + j, none⟩) (block_lt_of_cell y0)).trans y0, trivial⟩
          go_wp2_with fail
          refine wp_region_useq 16 17 1 [(.r, [true]), (.p, [false, true, true, true, true]), (.r, [false, false, false, false, false, true]), (.p, [false, false, false, false, false, false, true, true, true, true, true, true]), (.e, [false, false, false, false, false, false, false, false, false, false, false, false, true]), (.p, [false, false, false, false, false, false, false, false, false, false, false, false, false, true, true, true]), (.l, [false, false, false, false, false, false, false, false, false, false, false, false, false, false, false, false, true])] _ _ (HasC [(⟨Mb, 0, none⟩, .int .i64 m.bits), (⟨Mb, 1, none⟩, .int .i64 m.least), (⟨Mb, 2, none⟩, .slice p.ah m.heads.length p.ch), (⟨Mb, 3, none⟩, .slice p.ab m.bytes.length p.cb), (⟨Mb, 4, none⟩, .int .i64 (q : Int)), (⟨Mb, 5, none⟩, .int .i64 (l : Int)), (⟨Mb, 6, none⟩, .int .i64 m.part), (⟨Mb, 7, none⟩, .int .i64 0), (⟨Mb, 8, none⟩, .slice (some ⟨gc, oc, none⟩) 16 p.cc), (⟨g, o + j, none⟩, .int .u8 (x : Int))]) (by kernel_rfl) (List.take_append_drop 17 _).symm (by kernel_rfl) (by kernel_rfl) (by kernel_rfl) (by kernel_rfl) (hC) (fun Y Q4 F4 hY hF => ?_)
          simp only [phasedU, List.flatMap_cons, List.flatMap_nil, List.take_succ_cons, List.take_zero, List.drop_succ_cons, List.drop_zero, sel_true, sel_false, sel_nil, List.map_cons, List.map_nil, List.cons_append, List.nil_append, List.append_nil]
          repeat
            first
              | (apply wpSeqU_pure (by first | rfl | (rw [hY]; rfl))
                 · intro w2
                   go_simp
                   with_reducible rfl
                 simp only [Act.put, List.setIfInBounds_toArray, List.set_cons_zero, List.set_cons_succ])
              | (apply wpSeqU_read (by first | rfl | (rw [hY]; rfl))
                 · intro w2 hS2
                   (try simp only [Keeps, Cells] at hS2)
                   (try simp only [HasC, Cells] at hS2)
                   go_simp
                   with_reducible rfl
                 simp only [Act.put, List.setIfInBounds_toArray, List.set_cons_zero, List.set_cons_succ])
          simp only [wrap_i64_nat (show x < 9223372036854775808 by omega), hand]
          apply wpSeqU_call (by first | rfl | (rw [hY]; rfl))
          · go_simp
            with_reducible exact ⟨rfl, rfl⟩
          refine (HBt.out _ (HMk.out.step (below_trans hE6 (below_drew _ w6)))).mono ?_
          rintro e w9 ⟨px, rfl, hMx, hFx, hb9⟩
          have hE9 := below_trans hE6 (below_trans (below_drew _ w6) hb9)
          refine ⟨_, rfl, Cells.step (below_trans (below_drew _ w6) hb9) hC, ?_⟩
          simp only [Act.put, List.setIfInBounds_toArray, List.set_cons_zero, List.set_cons_succ]
          have R9 := Rb.step hE9
          obtain ⟨x0, x1, x2, x3, x4, x5, x6, x7, x8⟩ := R9.nine
          have f0 := R9.free 0
          have f1 := R9.free 1
          have f2 := R9.free 2
          have f3 := R9.free 3
          have f4 := R9.free 4
          have f5 := R9.free 5
          have f6 := R9.free 6
          have f7 := R9.free 7
          have f8 := R9.free 8
          repeat
            first
              | (apply wpSeqU_pure (by first | rfl | (rw [hY]; rfl))
                 · intro w2
                   go_simp
                   with_reducible rfl
                 simp only [Act.put, List.setIfInBounds_toArray, List.set_cons_zero, List.set_cons_succ])
              | (apply wpSeqU_read (by first | rfl | (rw [hY]; rfl))
                 · intro w2 hS2
                   (try simp only [Keeps, Cells] at hS2)
                   (try simp only [HasC, Cells] at hS2)
                   go_simp
                   with_reducible rfl
                 simp only [Act.put, List.setIfInBounds_toArray, List.set_cons_zero, List.set_cons_succ])
          refine wpSeqU_last_store (by first | rfl | (rw [hY]; rfl)) (by go_simp; first | with_reducible exact ⟨rfl, rfl⟩ | with_reducible rfl) ?_
          simp only [Act.put, List.setIfInBounds_toArray, List.set_cons_zero, List.set_cons_succ]
          refine wpSeqU_done (hF.out _ _ (fun K hK => ?_))
          clear hF hY
          have hlM : Mb < (w6.drew).heap.size := (Rb.step hE6).lt
          have HR9 := Lib.hid (show BitR (nb : Int) (n : Int) xs m0 Mb w _ (i + 1) px from ⟨by rw [Hn.out]; exact R9.put9 (.int .i64 n'.bits) (.int .i64 n'.least) (.slice px.ah n'.heads.length px.ch) (.slice px.ab n'.bytes.length px.cb) (.int .i64 n'.at_) (.int .i64 n'.len) (.int .i64 n'.part) (.int .i64 n'.bit) (.slice px.ac n'.ctrs.length px.cc), by rw [Hn.out]; exact hMx.put9f hFx hlM (.int .i64 n'.bits) (.int .i64 n'.least) (.slice px.ah n'.heads.length px.ch) (.slice px.ab n'.bytes.length px.cb) (.int .i64 n'.at_) (.int .i64 n'.len) (.int .i64 n'.part) (.int .i64 n'.bit) (.slice px.ac n'.ctrs.length px.cc), below_put9 (below_trans hBk hE9) hwM (.int .i64 n'.bits) (.int .i64 n'.least) (.slice px.ah n'.heads.length px.ch) (.slice px.ab n'.bytes.length px.cb) (.int .i64 n'.at_) (.int .i64 n'.len) (.int .i64 n'.part) (.int .i64 n'.bit) (.slice px.ac n'.ctrs.length px.cc), by rw [Hn.out]; exact Hnx.out⟩)
          go_wp2_with fail
          refine OnlyK.mk (hK.out _ _ ?_)
          clear hK x0 x1 x2 x3 x4 x5 x6 x7 x8 f0 f1 f2 f3 f4 f5 f6 f7 f8 R9 hC hMx hFx Rb hBk
          obtain ⟨wA, hwA⟩ : ∃ wA, (((((((((w9.setCell ⟨Mb, 0, none⟩ (.int .i64 n'.bits)).setCell ⟨Mb, 1, none⟩ (.int .i64 n'.least)).setCell ⟨Mb, 2, none⟩ (.slice px.ah n'.heads.length px.ch)).setCell ⟨Mb, 3, none⟩ (.slice px.ab n'.bytes.length px.cb)).setCell ⟨Mb, 4, none⟩ (.int .i64 n'.at_)).setCell ⟨Mb, 5, none⟩ (.int .i64 n'.len)).setCell ⟨Mb, 6, none⟩ (.int .i64 n'.part)).setCell ⟨Mb, 7, none⟩ (.int .i64 n'.bit)).setCell ⟨Mb, 8, none⟩ (.slice px.ac n'.ctrs.length px.cc)) = wA := ⟨_, rfl⟩
          rw [hwA] at HR9 ⊢
          clear hwA
          go_wp2_with fail
          go_roundw
          case rel => exact ⟨i + 1, px, by omega, rfl, by go_num, HR9.out⟩
          case measure => simp [intOf]; omega
        by_cases hv : bv = 0 ∧ (decide (32768 ≤ c0) = false)
        · obtain ⟨rfl, dC⟩ := hv
          have hcc : ¬ 32768 ≤ c0 := of_decide_eq_false dC
          have dP := decide_eq_false (show ¬ P ≤ 2048 by have h1 := HP3.out; have h2 := Hrng.out; rw [if_pos (show ((0 : Nat) : Int) = 0 from rfl)] at h1; omega)
          clear HP3 Hrng hcc hbv2
          simp only [show ((0 : Nat) : Int) = (0 : Int) from rfl] at hand2 HBt Rb x7 u7
          go_wp2_with fail
          have hC : HasC [(⟨Mb, 0, none⟩, .int .i64 m.bits), (⟨Mb, 1, none⟩, .int .i64 m.least), (⟨Mb, 2, none⟩, .slice p.ah m.heads.length p.ch), (⟨Mb, 3, none⟩, .slice p.ab m.bytes.length p.cb), (⟨Mb, 4, none⟩, .int .i64 (q : Int)), (⟨Mb, 5, none⟩, .int .i64 (l : Int)), (⟨Mb, 6, none⟩, .int .i64 m.part), (⟨Mb, 7, none⟩, .int .i64 0), (⟨Mb, 8, none⟩, .slice (some ⟨gc, oc, none⟩) 16 p.cc), (⟨g, o + j, none⟩, .int .u8 (x : Int))] w6 := ⟨(Rb.step hE6).cell 0, (Rb.step hE6).cell 1, (Rb.step hE6).cell 2, (Rb.step hE6).cell 3, (Rb.step hE6).cell 4, (Rb.step hE6).cell 5, (Rb.step hE6).cell 6, (Rb.step hE6).cell 7, (Rb.step hE6).cell 8, ((hBk.trans (hE6.mono hBk.size)).cell (p := ⟨g, o + j, none⟩) (block_lt_of_cell y0)).trans y0, trivial⟩
          go_wp2_with fail
          refine wp_region_useq 16 17 1 [(.r, [true]), (.p, [false, true, true, true, true]), (.r, [false, false, false, false, false, true]), (.p, [false, false, false, false, false, false, true, true, true, true, true, true]), (.e, [false, false, false, false, false, false, false, false, false, false, false, false, true]), (.p, [false, false, false, false, false, false, false, false, false, false, false, false, false, true, true, true]), (.l, [false, false, false, false, false, false, false, false, false, false, false, false, false, false, false, false, true])] _ _ (HasC [(⟨Mb, 0, none⟩, .int .i64 m.bits), (⟨Mb, 1, none⟩, .int .i64 m.least), (⟨Mb, 2, none⟩, .slice p.ah m.heads.length p.ch), (⟨Mb, 3, none⟩, .slice p.ab m.bytes.length p.cb), (⟨Mb, 4, none⟩, .int .i64 (q : Int)), (⟨Mb, 5, none⟩, .int .i64 (l : Int)), (⟨Mb, 6, none⟩, .int .i64 m.part), (⟨Mb, 7, none⟩, .int .i64 0), (⟨Mb, 8, none⟩, .slice (some ⟨gc, oc, none⟩) 16 p.cc), (⟨g, o + j, none⟩, .int .u8 (x : Int))]) (by kernel_rfl) (List.take_append_drop 17 _).symm (by kernel_rfl) (by kernel_rfl) (by kernel_rfl) (by kernel_rfl) (hC) (fun Y Q4 F4 hY hF => ?_)
          simp only [phasedU, List.flatMap_cons, List.flatMap_nil, List.take_succ_cons, List.take_zero, List.drop_succ_cons, List.drop_zero, sel_true, sel_false, sel_nil, List.map_cons, List.map_nil, List.cons_append, List.nil_append, List.append_nil]
          repeat
            first
              | (apply wpSeqU_pure (by first | rfl | (rw [hY]; rfl))
                 · intro w2
                   go_simp
                   with_reducible rfl
                 simp only [Act.put, List.setIfInBounds_toArray, List.set_cons_zero, List.set_cons_succ])
              | (apply wpSeqU_read (by first | rfl | (rw [hY]; rfl))
                 · intro w2 hS2
                   (try simp only [Keeps, Cells] at hS2)
                   (try simp only [HasC, Cells] at hS2)
                   go_simp
                   with_reducible rfl
                 simp only [Act.put, List.setIfInBounds_toArray, List.set_cons_zero, List.set_cons_succ])
          simp only [wrap_i64_nat (show x < 9223372036854775808 by omega), hand]
          apply wpSeqU_call (by first | rfl | (rw [hY]; rfl))
          · go_simp
            with_reducible exact ⟨rfl, rfl⟩
          refine (HBt.out _ (HMk.out.step (below_trans hE6 (below_drew _ w6)))).mono ?_
          rintro e w9 ⟨px, rfl, hMx, hFx, hb9⟩
          have hE9 := below_trans hE6 (below_trans (below_drew _ w6) hb9)
          refine ⟨_, rfl, Cells.step (below_trans (below_drew _ w6) hb9) hC, ?_⟩
          simp only [Act.put, List.setIfInBounds_toArray, List.set_cons_zero, List.set_cons_succ]
          have R9 := Rb.step hE9
          obtain ⟨x0, x1, x2, x3, x4, x5, x6, x7, x8⟩ := R9.nine
          have f0 := R9.free 0
          have f1 := R9.free 1
          have f2 := R9.free 2
          have f3 := R9.free 3
          have f4 := R9.free 4
          have f5 := R9.free 5
          have f6 := R9.free 6
          have f7 := R9.free 7
          have f8 := R9.free 8
          repeat
            first
              | (apply wpSeqU_pure (by first | rfl | (rw [hY]; rfl))
                 · intro w2
                   go_simp
                   with_reducible rfl
                 simp only [Act.put, List.setIfInBounds_toArray, List.set_cons_zero, List.set_cons_succ])
              | (apply wpSeqU_read (by first | rfl | (rw [hY]; rfl))
                 · intro w2 hS2
                   (try simp only [Keeps, Cells] at hS2)
                   (try simp only [HasC, Cells] at hS2)
                   go_simp
                   with_reducible rfl
                 simp only [Act.put, List.setIfInBounds_toArray, List.set_cons_zero, List.set_cons_succ])
          refine wpSeqU_last_store (by first | rfl | (rw [hY]; rfl)) (by go_simp; first | with_reducible exact ⟨rfl, rfl⟩ | with_reducible rfl) ?_
          simp only [Act.put, List.setIfInBounds_toArray, List.set_cons_zero, List.set_cons_succ]
          refine wpSeqU_done (hF.out _ _ (fun K hK => ?_))
          clear hF hY
          have hlM : Mb < (w6.drew).heap.size := (Rb.step hE6).lt
          have HR9 := Lib.hid (show BitR (nb : Int) (n : Int) xs m0 Mb w _ (i + 1) px from ⟨by rw [Hn.out]; exact R9.put9 (.int .i64 n'.bits) (.int .i64 n'.least) (.slice px.ah n'.heads.length px.ch) (.slice px.ab n'.bytes.length px.cb) (.int .i64 n'.at_) (.int .i64 n'.len) (.int .i64 n'.part) (.int .i64 n'.bit) (.slice px.ac n'.ctrs.length px.cc), by rw [Hn.out]; exact hMx.put9f hFx hlM (.int .i64 n'.bits) (.int .i64 n'.least) (.slice px.ah n'.heads.length px.ch) (.slice px.ab n'.bytes.length px.cb) (.int .i64 n'.at_) (.int .i64 n'.len) (.int .i64 n'.part) (.int .i64 n'.bit) (.slice px.ac n'.ctrs.length px.cc), below_put9 (below_trans hBk hE9) hwM (.int .i64 n'.bits) (.int .i64 n'.least) (.slice px.ah n'.heads.length px.ch) (.slice px.ab n'.bytes.length px.cb) (.int .i64 n'.at_) (.int .i64 n'.len) (.int .i64 n'.part) (.int .i64 n'.bit) (.slice px.ac n'.ctrs.length px.cc), by rw [Hn.out]; exact Hnx.out⟩)
          go_wp2_with fail
          refine OnlyK.mk (hK.out _ _ ?_)
          clear hK x0 x1 x2 x3 x4 x5 x6 x7 x8 f0 f1 f2 f3 f4 f5 f6 f7 f8 R9 hC hMx hFx Rb hBk
          obtain ⟨wA, hwA⟩ : ∃ wA, (((((((((w9.setCell ⟨Mb, 0, none⟩ (.int .i64 n'.bits)).setCell ⟨Mb, 1, none⟩ (.int .i64 n'.least)).setCell ⟨Mb, 2, none⟩ (.slice px.ah n'.heads.length px.ch)).setCell ⟨Mb, 3, none⟩ (.slice px.ab n'.bytes.length px.cb)).setCell ⟨Mb, 4, none⟩ (.int .i64 n'.at_)).setCell ⟨Mb, 5, none⟩ (.int .i64 n'.len)).setCell ⟨Mb, 6, none⟩ (.int .i64 n'.part)).setCell ⟨Mb, 7, none⟩ (.int .i64 n'.bit)).setCell ⟨Mb, 8, none⟩ (.slice px.ac n'.ctrs.length px.cc)) = wA := ⟨_, rfl⟩
          rw [hwA] at HR9 ⊢
          clear hwA
          go_wp2_with fail
          go_roundw
          case rel => exact ⟨i + 1, px, by omega, rfl, by go_num, HR9.out⟩
          case measure => simp [intOf]; omega
        by_cases hv : bv = 1 ∧ (decide (32768 ≤ c0) = true)
        · obtain ⟨rfl, dC⟩ := hv
          have hcc :  32768 ≤ c0 := of_decide_eq_true dC
          have dP := decide_eq_true (show  2048 ≤ P by have h1 := HP3.out; have h2 := Hrng.out; rw [if_neg (show ¬ ((1 : Nat) : Int) = 0 by decide)] at h1; omega)
          clear HP3 Hrng hcc hbv2
          simp only [show ((1 : Nat) : Int) = (1 : Int) from rfl] at hand2 HBt Rb x7 u7
          go_wp2_with fail
          have hC : HasC [(⟨Mb, 0, none⟩, .int .i64 m.bits), (⟨Mb, 1, none⟩, .int .i64 m.least), (⟨Mb, 2, none⟩, .slice p.ah m.heads.length p.ch), (⟨Mb, 3, none⟩, .slice p.ab m.bytes.length p.cb), (⟨Mb, 4, none⟩, .int .i64 (q : Int)), (⟨Mb, 5, none⟩, .int .i64 (l : Int)), (⟨Mb, 6, none⟩, .int .i64 m.part), (⟨Mb, 7, none⟩, .int .i64 1), (⟨Mb, 8, none⟩, .slice (some ⟨gc, oc, none⟩) 16 p.cc), (⟨g, o + j, none⟩, .int .u8 (x : Int))] w6 := ⟨(Rb.step hE6).cell 0, (Rb.step hE6).cell 1, (Rb.step hE6).cell 2, (Rb.step hE6).cell 3, (Rb.step hE6).cell 4, (Rb.step hE6).cell 5, (Rb.step hE6).cell 6, (Rb.step hE6).cell 7, (Rb.step hE6).cell 8, ((hBk.trans (hE6.mono hBk.size)).cell (p := ⟨g, o + j, none⟩) (block_lt_of_cell y0)).trans y0, trivial⟩
          go_wp2_with fail
          refine wp_region_useq 16 17 1 [(.r, [true]), (.p, [false, true, true, true, true]), (.r, [false, false, false, false, false, true]), (.p, [false, false, false, false, false, false, true, true, true, true, true, true]), (.e, [false, false, false, false, false, false, false, false, false, false, false, false, true]), (.p, [false, false, false, false, false, false, false, false, false, false, false, false, false, true, true, true]), (.l, [false, false, false, false, false, false, false, false, false, false, false, false, false, false, false, false, true])] _ _ (HasC [(⟨Mb, 0, none⟩, .int .i64 m.bits), (⟨Mb, 1, none⟩, .int .i64 m.least), (⟨Mb, 2, none⟩, .slice p.ah m.heads.length p.ch), (⟨Mb, 3, none⟩, .slice p.ab m.bytes.length p.cb), (⟨Mb, 4, none⟩, .int .i64 (q : Int)), (⟨Mb, 5, none⟩, .int .i64 (l : Int)), (⟨Mb, 6, none⟩, .int .i64 m.part), (⟨Mb, 7, none⟩, .int .i64 1), (⟨Mb, 8, none⟩, .slice (some ⟨gc, oc, none⟩) 16 p.cc), (⟨g, o + j, none⟩, .int .u8 (x : Int))]) (by kernel_rfl) (List.take_append_drop 17 _).symm (by kernel_rfl) (by kernel_rfl) (by kernel_rfl) (by kernel_rfl) (hC) (fun Y Q4 F4 hY hF => ?_)
          simp only [phasedU, List.flatMap_cons, List.flatMap_nil, List.take_succ_cons, List.take_zero, List.drop_succ_cons, List.drop_zero, sel_true, sel_false, sel_nil, List.map_cons, List.map_nil, List.cons_append, List.nil_append, List.append_nil]
          repeat
            first
              | (apply wpSeqU_pure (by first | rfl | (rw [hY]; rfl))
                 · intro w2
                   go_simp
                   with_reducible rfl
                 simp only [Act.put, List.setIfInBounds_toArray, List.set_cons_zero, List.set_cons_succ])
              | (apply wpSeqU_read (by first | rfl | (rw [hY]; rfl))
                 · intro w2 hS2
                   (try simp only [Keeps, Cells] at hS2)
                   (try simp only [HasC, Cells] at hS2)
                   go_simp
                   with_reducible rfl
                 simp only [Act.put, List.setIfInBounds_toArray, List.set_cons_zero, List.set_cons_succ])
          simp only [wrap_i64_nat (show x < 9223372036854775808 by omega), hand]
          apply wpSeqU_call (by first | rfl | (rw [hY]; rfl))
          · go_simp
            with_reducible exact ⟨rfl, rfl⟩
          refine (HBt.out _ (HMk.out.step (below_trans hE6 (below_drew _ w6)))).mono ?_
          rintro e w9 ⟨px, rfl, hMx, hFx, hb9⟩
          have hE9 := below_trans hE6 (below_trans (below_drew _ w6) hb9)
          refine ⟨_, rfl, Cells.step (below_trans (below_drew _ w6) hb9) hC, ?_⟩
          simp only [Act.put, List.setIfInBounds_toArray, List.set_cons_zero, List.set_cons_succ]
          have R9 := Rb.step hE9
          obtain ⟨x0, x1, x2, x3, x4, x5, x6, x7, x8⟩ := R9.nine
          have f0 := R9.free 0
          have f1 := R9.free 1
          have f2 := R9.free 2
          have f3 := R9.free 3
          have f4 := R9.free 4
          have f5 := R9.free 5
          have f6 := R9.free 6
          have f7 := R9.free 7
          have f8 := R9.free 8
          repeat
            first
              | (apply wpSeqU_pure (by first | rfl | (rw [hY]; rfl))
                 · intro w2
                   go_simp
                   with_reducible rfl
                 simp only [Act.put, List.setIfInBounds_toArray, List.set_cons_zero, List.set_cons_succ])
              | (apply wpSeqU_read (by first | rfl | (rw [hY]; rfl))
                 · intro w2 hS2
                   (try simp only [Keeps, Cells] at hS2)
                   (try simp only [HasC, Cells] at hS2)
                   go_simp
                   with_reducible rfl
                 simp only [Act.put, List.setIfInBounds_toArray, List.set_cons_zero, List.set_cons_succ])
          refine wpSeqU_last_store (by first | rfl | (rw [hY]; rfl)) (by go_simp; first | with_reducible exact ⟨rfl, rfl⟩ | with_reducible rfl) ?_
          simp only [Act.put, List.setIfInBounds_toArray, List.set_cons_zero, List.set_cons_succ]
          refine wpSeqU_done (hF.out _ _ (fun K hK => ?_))
          clear hF hY
          have hlM : Mb < (w6.drew).heap.size := (Rb.step hE6).lt
          have HR9 := Lib.hid (show BitR (nb : Int) (n : Int) xs m0 Mb w _ (i + 1) px from ⟨by rw [Hn.out]; exact R9.put9 (.int .i64 n'.bits) (.int .i64 n'.least) (.slice px.ah n'.heads.length px.ch) (.slice px.ab n'.bytes.length px.cb) (.int .i64 n'.at_) (.int .i64 n'.len) (.int .i64 n'.part) (.int .i64 n'.bit) (.slice px.ac n'.ctrs.length px.cc), by rw [Hn.out]; exact hMx.put9f hFx hlM (.int .i64 n'.bits) (.int .i64 n'.least) (.slice px.ah n'.heads.length px.ch) (.slice px.ab n'.bytes.length px.cb) (.int .i64 n'.at_) (.int .i64 n'.len) (.int .i64 n'.part) (.int .i64 n'.bit) (.slice px.ac n'.ctrs.length px.cc), below_put9 (below_trans hBk hE9) hwM (.int .i64 n'.bits) (.int .i64 n'.least) (.slice px.ah n'.heads.length px.ch) (.slice px.ab n'.bytes.length px.cb) (.int .i64 n'.at_) (.int .i64 n'.len) (.int .i64 n'.part) (.int .i64 n'.bit) (.slice px.ac n'.ctrs.length px.cc), by rw [Hn.out]; exact Hnx.out⟩)
          go_wp2_with fail
          refine OnlyK.mk (hK.out _ _ ?_)
          clear hK x0 x1 x2 x3 x4 x5 x6 x7 x8 f0 f1 f2 f3 f4 f5 f6 f7 f8 R9 hC hMx hFx Rb hBk
          obtain ⟨wA, hwA⟩ : ∃ wA, (((((((((w9.setCell ⟨Mb, 0, none⟩ (.int .i64 n'.bits)).setCell ⟨Mb, 1, none⟩ (.int .i64 n'.least)).setCell ⟨Mb, 2, none⟩ (.slice px.ah n'.heads.length px.ch)).setCell ⟨Mb, 3, none⟩ (.slice px.ab n'.bytes.length px.cb)).setCell ⟨Mb, 4, none⟩ (.int .i64 n'.at_)).setCell ⟨Mb, 5, none⟩ (.int .i64 n'.len)).setCell ⟨Mb, 6, none⟩ (.int .i64 n'.part)).setCell ⟨Mb, 7, none⟩ (.int .i64 n'.bit)).setCell ⟨Mb, 8, none⟩ (.slice px.ac n'.ctrs.length px.cc)) = wA := ⟨_, rfl⟩
          rw [hwA] at HR9 ⊢
          clear hwA
          go_wp2_with fail
          go_roundw
          case rel => exact ⟨i + 1, px, by omega, rfl, by go_num, HR9.out⟩
          case measure => simp [intOf]; omega
        by_cases hv : bv = 1 ∧ (decide (32768 ≤ c0) = false)
        · obtain ⟨rfl, dC⟩ := hv
          have hcc : ¬ 32768 ≤ c0 := of_decide_eq_false dC
          have dP := decide_eq_false (show ¬ 2048 ≤ P by have h1 := HP3.out; have h2 := Hrng.out; rw [if_neg (show ¬ ((1 : Nat) : Int) = 0 by decide)] at h1; omega)
          clear HP3 Hrng hcc hbv2
          simp only [show ((1 : Nat) : Int) = (1 : Int) from rfl] at hand2 HBt Rb x7 u7
          go_wp2_with fail
          have hC : HasC [(⟨Mb, 0, none⟩, .int .i64 m.bits), (⟨Mb, 1, none⟩, .int .i64 m.least), (⟨Mb, 2, none⟩, .slice p.ah m.heads.length p.ch), (⟨Mb, 3, none⟩, .slice p.ab m.bytes.length p.cb), (⟨Mb, 4, none⟩, .int .i64 (q : Int)), (⟨Mb, 5, none⟩, .int .i64 (l : Int)), (⟨Mb, 6, none⟩, .int .i64 m.part), (⟨Mb, 7, none⟩, .int .i64 1), (⟨Mb, 8, none⟩, .slice (some ⟨gc, oc, none⟩) 16 p.cc), (⟨g, o + j, none⟩, .int .u8 (x : Int))] w6 := ⟨(Rb.step hE6).cell 0, (Rb.step hE6).cell 1, (Rb.step hE6).cell 2, (Rb.step hE6).cell 3, (Rb.step hE6).cell 4, (Rb.step hE6).cell 5, (Rb.step hE6).cell 6, (Rb.step hE6).cell 7, (Rb.step hE6).cell 8, ((hBk.trans (hE6.mono hBk.size)).cell (p := ⟨g, o + j, none⟩) (block_lt_of_cell y0)).trans y0, trivial⟩
          go_wp2_with fail
          refine wp_region_useq 16 17 1 [(.r, [true]), (.p, [false, true, true, true, true]), (.r, [false, false, false, false, false, true]), (.p, [false, false, false, false, false, false, true, true, true, true, true, true]), (.e, [false, false, false, false, false, false, false, false, false, false, false, false, true]), (.p, [false, false, false, false, false, false, false, false, false, false, false, false, false, true, true, true]), (.l, [false, false, false, false, false, false, false, false, false, false, false, false, false, false, false, false, true])] _ _ (HasC [(⟨Mb, 0, none⟩, .int .i64 m.bits), (⟨Mb, 1, none⟩, .int .i64 m.least), (⟨Mb, 2, none⟩, .slice p.ah m.heads.length p.ch), (⟨Mb, 3, none⟩, .slice p.ab m.bytes.length p.cb), (⟨Mb, 4, none⟩, .int .i64 (q : Int)), (⟨Mb, 5, none⟩, .int .i64 (l : Int)), (⟨Mb, 6, none⟩, .int .i64 m.part), (⟨Mb, 7, none⟩, .int .i64 1), (⟨Mb, 8, none⟩, .slice (some ⟨gc, oc, none⟩) 16 p.cc), (⟨g, o + j, none⟩, .int .u8 (x : Int))]) (by kernel_rfl) (List.take_append_drop 17 _).symm (by kernel_rfl) (by kernel_rfl) (by kernel_rfl) (by kernel_rfl) (hC) (fun Y Q4 F4 hY hF => ?_)
          simp only [phasedU, List.flatMap_cons, List.flatMap_nil, List.take_succ_cons, List.take_zero, List.drop_succ_cons, List.drop_zero, sel_true, sel_false, sel_nil, List.map_cons, List.map_nil, List.cons_append, List.nil_append, List.append_nil]
          repeat
            first
              | (apply wpSeqU_pure (by first | rfl | (rw [hY]; rfl))
                 · intro w2
                   go_simp
                   with_reducible rfl
                 simp only [Act.put, List.setIfInBounds_toArray, List.set_cons_zero, List.set_cons_succ])
              | (apply wpSeqU_read (by first | rfl | (rw [hY]; rfl))
                 · intro w2 hS2
                   (try simp only [Keeps, Cells] at hS2)
                   (try simp only [HasC, Cells] at hS2)
                   go_simp
                   with_reducible rfl
                 simp only [Act.put, List.setIfInBounds_toArray, List.set_cons_zero, List.set_cons_succ])
          simp only [wrap_i64_nat (show x < 9223372036854775808 by omega), hand]
          apply wpSeqU_call (by first | rfl | (rw [hY]; rfl))
          · go_simp
            with_reducible exact ⟨rfl, rfl⟩
          refine (HBt.out _ (HMk.out.step (below_trans hE6 (below_drew _ w6)))).mono ?_
          rintro e w9 ⟨px, rfl, hMx, hFx, hb9⟩
          have hE9 := below_trans hE6 (below_trans (below_drew _ w6) hb9)
          refine ⟨_, rfl, Cells.step (below_trans (below_drew _ w6) hb9) hC, ?_⟩
          simp only [Act.put, List.setIfInBounds_toArray, List.set_cons_zero, List.set_cons_succ]
          have R9 := Rb.step hE9
          obtain ⟨x0, x1, x2, x3, x4, x5, x6, x7, x8⟩ := R9.nine
          have f0 := R9.free 0
          have f1 := R9.free 1
          have f2 := R9.free 2
          have f3 := R9.free 3
          have f4 := R9.free 4
          have f5 := R9.free 5
          have f6 := R9.free 6
          have f7 := R9.free 7
          have f8 := R9.free 8
          repeat
            first
              | (apply wpSeqU_pure (by first | rfl | (rw [hY]; rfl))
                 · intro w2
                   go_simp
                   with_reducible rfl
                 simp only [Act.put, List.setIfInBounds_toArray, List.set_cons_zero, List.set_cons_succ])
              | (apply wpSeqU_read (by first | rfl | (rw [hY]; rfl))
                 · intro w2 hS2
                   (try simp only [Keeps, Cells] at hS2)
                   (try simp only [HasC, Cells] at hS2)
                   go_simp
                   with_reducible rfl
                 simp only [Act.put, List.setIfInBounds_toArray, List.set_cons_zero, List.set_cons_succ])
          refine wpSeqU_last_store (by first | rfl | (rw [hY]; rfl)) (by go_simp; first | with_reducible exact ⟨rfl, rfl⟩ | with_reducible rfl) ?_
          simp only [Act.put, List.setIfInBounds_toArray, List.set_cons_zero, List.set_cons_succ]
          refine wpSeqU_done (hF.out _ _ (fun K hK => ?_))
          clear hF hY
          have hlM : Mb < (w6.drew).heap.size := (Rb.step hE6).lt
          have HR9 := Lib.hid (show BitR (nb : Int) (n : Int) xs m0 Mb w _ (i + 1) px from ⟨by rw [Hn.out]; exact R9.put9 (.int .i64 n'.bits) (.int .i64 n'.least) (.slice px.ah n'.heads.length px.ch) (.slice px.ab n'.bytes.length px.cb) (.int .i64 n'.at_) (.int .i64 n'.len) (.int .i64 n'.part) (.int .i64 n'.bit) (.slice px.ac n'.ctrs.length px.cc), by rw [Hn.out]; exact hMx.put9f hFx hlM (.int .i64 n'.bits) (.int .i64 n'.least) (.slice px.ah n'.heads.length px.ch) (.slice px.ab n'.bytes.length px.cb) (.int .i64 n'.at_) (.int .i64 n'.len) (.int .i64 n'.part) (.int .i64 n'.bit) (.slice px.ac n'.ctrs.length px.cc), below_put9 (below_trans hBk hE9) hwM (.int .i64 n'.bits) (.int .i64 n'.least) (.slice px.ah n'.heads.length px.ch) (.slice px.ab n'.bytes.length px.cb) (.int .i64 n'.at_) (.int .i64 n'.len) (.int .i64 n'.part) (.int .i64 n'.bit) (.slice px.ac n'.ctrs.length px.cc), by rw [Hn.out]; exact Hnx.out⟩)
          go_wp2_with fail
          refine OnlyK.mk (hK.out _ _ ?_)
          clear hK x0 x1 x2 x3 x4 x5 x6 x7 x8 f0 f1 f2 f3 f4 f5 f6 f7 f8 R9 hC hMx hFx Rb hBk
          obtain ⟨wA, hwA⟩ : ∃ wA, (((((((((w9.setCell ⟨Mb, 0, none⟩ (.int .i64 n'.bits)).setCell ⟨Mb, 1, none⟩ (.int .i64 n'.least)).setCell ⟨Mb, 2, none⟩ (.slice px.ah n'.heads.length px.ch)).setCell ⟨Mb, 3, none⟩ (.slice px.ab n'.bytes.length px.cb)).setCell ⟨Mb, 4, none⟩ (.int .i64 n'.at_)).setCell ⟨Mb, 5, none⟩ (.int .i64 n'.len)).setCell ⟨Mb, 6, none⟩ (.int .i64 n'.part)).setCell ⟨Mb, 7, none⟩ (.int .i64 n'.bit)).setCell ⟨Mb, 8, none⟩ (.slice px.ac n'.ctrs.length px.cc)) = wA := ⟨_, rfl⟩
          rw [hwA] at HR9 ⊢
          clear hwA
          go_wp2_with fail
          go_roundw
          case rel => exact ⟨i + 1, px, by omega, rfl, by go_num, HR9.out⟩
          case measure => simp [intOf]; omega
        exfalso
        rcases hbv2 with rfl | rfl
        all_goals (cases hd : decide (32768 ≤ c0) <;> simp [hd] at *)
    · obtain rfl : i = 8 * N := by omega
      have hBk := R.bel
      have dlt : decide (((8 * N : Nat) : Int) < 8 * (N : Int)) = false := decide_eq_false (by omega)
      clear R
      go_wp2_with fail
      refine (HA.out _).mono ?_
      rintro e w6 ⟨rfl, hb6⟩
      have hB6 := below_trans hBk hb6
      go_wp2_with fail
      go_returns
      exact ⟨rfl, hB6⟩
end Go.Proofs.Ytbfgdaijpcbddaa
