/- The law MatchExpects, walked. No condition. -/
import Derived.Test.YtbfgdaijpcbddaaW12w
import Derived.Test.YtbfgdaijpcbddaaSpec12f
set_option linter.unusedSimpArgs false
set_option linter.unusedVariables false
set_option linter.unusedSectionVars false
namespace Go.Proofs.Ytbfgdaijpcbddaa
open Go.RowKit

/-- What a round of MatchExpects shows of the model behind a bit. -/
structure S12.Step (bs : List Int) (f k : Nat) (m x : S12.M) (bt : Nat) : Prop where
  miss : ¬ bt = f / 2 ^ k % 2 → 1 ≤ k → x.len = 0
  hit : bt = f / 2 ^ k % 2 → m.len ≤ x.len
  next : bt = f / 2 ^ k % 2 → ∀ j, k = j + 1 → x.len = m.len ∧ x.at_ = m.at_
theorem S12.Mid.part_ge {nb least : Int} {bs : List Int} {x k : Nat} {m : S12.M} (h : S12.Mid nb least bs x k m) : (k = 1 → 128 ≤ m.part) := fun hk => by
  have := h.part
  subst hk
  rw [this]
  omega
theorem S12.Mid.part_le {nb least : Int} {bs : List Int} {x k : Nat} {m : S12.M} (h : S12.Mid nb least bs x k m) (hx : x < 256) (hk : 2 ≤ k) : m.part ≤ 127 := by
  rw [h.part]
  have := S12.part_lt hx hk
  omega

theorem S12.Mid.step {nb least : Int} {bs : List Int} {x k : Nat} {m : S12.M} (h : S12.Mid nb least bs x (k + 1) m) (hx : x < 256) (hk : k ≤ 7) (hB : S12.Byt bs) (h0 : m.len ≠ 0) {f : Nat} (hf : m.bit = ((f / 2 ^ k % 2 : Nat) : Int)) (bt : Nat) (hbt : bt < 2) :
    S12.Step bs f k m (S12.bitM m (bt : Int)) bt := by
  refine ⟨fun hne h1 => ?_, fun he => ?_, fun he j hj => ?_⟩
  · exact S12.bit_miss h0 (by rw [hf]; intro h; exact hne (by exact_mod_cast h)) (by omega) (h.part_le hx (by omega))
  · have hb : (bt : Int) = m.bit := by rw [hf, he]
    cases k with
    | zero => exact (S12.bit_hit_full h.wf h0 hb (by omega) (h.part_ge rfl)).1
    | succ j => rw [(S12.bit_hit (.inr hb) (by omega) (h.part_le hx (by omega))).1]; exact Int.le_refl _
  · have hb : (bt : Int) = m.bit := by rw [hf, he]
    subst hj
    have := S12.bit_hit (.inr hb) (by omega) (h.part_le hx (by omega))
    exact ⟨this.1, this.2.1⟩

/-- The loop's relation: k bits are still to come. -/
structure ExpR (nb least : Int) (xs : List Int) (f q Mb : Nat) (w wr : World) (k : Nat) (m : S12.M) (p : Pl) : Prop where
  blk : Blk wr Mb (MVals m p) 27
  mis : MIs m p wr
  bel : Below w.heap.size w wr
  len : m.len ≠ 0
  mid : 1 ≤ k → S12.Mid nb least xs f k m ∧ m.at_ = q
  fin : k = 0 → S12.WF m

set_option maxRecDepth 100000 in
set_option maxHeartbeats 2000000 in
theorem matchExpects_any (xs : List Int) (hX : S12.Byt xs) (hl63 : xs.length ≤ 9223372036854775807) (b1 b2 : Nat) (hb1 : b1 < 256) (hb2 : b2 < 256) (a : Option Addr) (cap : Nat) (w : World) (hrd : Rd w a (Bts xs)) :
    Calls Try.prog 8 #[.slice a xs.length cap, .int .u8 (b1 : Int), .int .u8 (b2 : Int)] w fun e w' => e = .returned (.bool true) ∧ Below w.heap.size w w' := by
  have HA := Lib.hid fun W => awake12_any W
  have HS := Lib.hid fun W => small12_any xs.length a cap W
  by_cases hs : ¬ xs.length ≤ 60
  · rw [decide_eq_false hs] at HS
    clear hs
    go_enter Try.func8, Try.ntmps8
    go_wp2_with fail
    refine (HS.out _).mono ?_
    rintro e w1 ⟨rfl, hb1⟩
    go_wp2_with fail
    refine (HA.out _).mono ?_
    rintro e w2 ⟨rfl, hb2⟩
    have hB2 := below_trans hb1 hb2
    go_wp2_with fail
    go_returns
    exact ⟨rfl, hB2⟩
  replace hs := Classical.not_not.1 hs
  rw [decide_eq_true hs] at HS
  obtain ⟨n, hn⟩ : ∃ n : Nat, 1 + b2 % 4 = n := ⟨_, rfl⟩
  have en : (1 : Int) + (b2 : Int) % 4 = (n : Int) := by omega
  have h1 : 1 ≤ (6 : Int) ∧ (6 : Int) ≤ 16 := by omega
  have h2 : 1 ≤ (n : Int) ∧ (n : Int) ≤ 32 := by omega
  have hF := S12.fed_ok h1 h2 hX (by omega)
  have HFd := Lib.hid fun W (h : Rd W a (Bts xs)) => fed12_any 6 (n : Int) h1 h2 xs hX (by omega) a cap W h
  obtain ⟨m0, hm⟩ : ∃ m, S12.fedM (S12.start 6 (n : Int)) xs = m := ⟨_, rfl⟩
  rw [hm] at hF HFd
  have Hrd := Lib.hid hrd
  have HF := Lib.hid hF
  have HX := Lib.hid hX
  have Hs := Lib.hid hs
  have hs9 : xs.length < 9223372036854775808 := by omega
  have HP0 := Lib.hid fun p W (h : MIs m0 p W) => predict12_any m0 p W h
  clear hm hrd hF hn h1 h2 hs hl63 hX
  unfold MV MVals at HFd
  go_enter Try.func8, Try.ntmps8
  go_wp2_with fail
  refine (HS.out _).mono ?_
  rintro e w1 ⟨rfl, hb1'⟩
  go_wp2_with fail
  refine (HFd.out _ (Hrd.out.step hb1')).mono ?_
  rintro e w2 ⟨p, rfl, hM2, hF2, hb2'⟩
  have hB2 := below_trans hb1' hb2'
  obtain ⟨w3, hw3⟩ : ∃ w3, w2.alloc (.cells #[.int .i64 m0.bits, .int .i64 m0.least, .slice p.ah m0.heads.length p.ch, .slice p.ab m0.bytes.length p.cb, .int .i64 m0.at_, .int .i64 m0.len, .int .i64 m0.part, .int .i64 m0.bit, .slice p.ac m0.ctrs.length p.cc] 27) = w3 := ⟨_, rfl⟩
  have hb3 : Below w2.heap.size w2 w3 := by rw [← hw3]; exact (Below.refl _ _).alloc (Nat.le_refl _) _
  obtain ⟨Mb, hMb⟩ : ∃ Mb, w2.heap.size = Mb := ⟨_, rfl⟩
  have B3 : Blk w3 Mb (MVals m0 p) 27 := by rw [← hw3, ← hMb]; exact Blk.new w2 _ _
  have hB3 := below_trans hB2 hb3
  have HM3 := Lib.hid (hM2.step hb3)
  have hwM : w.heap.size ≤ Mb := by rw [← hMb]; exact hB2.size
  have B3' := B3
  unfold MVals at B3'
  obtain ⟨x0, x1, x2, x3, x4, x5, x6, x7, x8⟩ := B3'.nine
  clear hM2 B3'
  by_cases h0 : m0.len = 0
  · have e0 : (m0.len == 0) = true := by simp [h0]
    have hp := HF.out.wf.pred0 h0
    rw [hp.1, hp.2] at HP0
    unfold MV MVals at HP0
    clear hp h0
    go_wp2_with fail
    refine (HP0.out p _ HM3.out).mono ?_
    rintro e w4 ⟨rfl, hb4⟩
    have hB4 := below_trans hB3 hb4
    go_wp2_with fail
    refine (HA.out _).mono ?_
    rintro e w5 ⟨rfl, hb5⟩
    have hB5 := below_trans hB4 hb5
    go_wp2_with fail
    go_returns
    exact ⟨rfl, hB5⟩
  have e0 : (m0.len == 0) = false := by simp [h0]
  have hqf : ∃ q f : Nat, m0.at_ = q ∧ q < xs.length ∧ xs.getD q 0 = f ∧ f < 256 := by
    obtain ⟨_, q, f, _, hqq, _, _, _, _, hql, hqf, hf2, _, _, _⟩ := (HF.out.mid (x := 0) (by omega)).bit (by omega) (by omega) HX.out h0
    exact ⟨q, f, hqq, hql, hqf, hf2⟩
  obtain ⟨q, f, hqq, hql, hqf, hf2⟩ := hqf
  have HMid := Lib.hid (HF.out.mid hf2)
  rw [hqq] at x4
  have hcf : ∃ g o, a = some ⟨g, o, none⟩ ∧ w.cell? ⟨g, o + q, none⟩ = some (.int .u8 (f : Int)) := by
    obtain ⟨g, o, e, hcs⟩ := Bts_at Hrd.out (i := q) hql
    exact ⟨g, o, e, by rw [hcs q hql, hqf]⟩
  obtain ⟨g, o, hga, hcf⟩ := hcf
  subst hga
  have yf := (hB3.cell (p := ⟨g, o + q, none⟩) (block_lt_of_cell hcf)).trans hcf
  have e1 : ¬ xs.length ≤ q := by omega
  have Hqq := Lib.hid hqq
  have Hqf := Lib.hid hqf
  have hR0 : ExpR 6 (n : Int) xs f q Mb w w3 8 m0 p := ⟨B3, HM3.out, hB3, h0, fun _ => ⟨HMid.out, hqq⟩, fun h => by omega⟩
  clear B3 HMid hqf hcf hqq HP0
  go_wp2_with fail
  clear x0 x1 x2 x3 x4 x5 x6 x7 x8 yf e0 hw3 hMb
  go_loopw [12] (fun kk wr => ∃ (k : Nat) (m : S12.M) (p : Pl), k ≤ 8 ∧ kk = .int .i64 ((k : Int) - 1) ∧ ExpR 6 (n : Int) xs f q Mb w wr k m p) (fun kk _ => (intOf kk + 1).toNat)
  case atStart => exact ⟨8, m0, p, by omega, rfl, hR0⟩
  case round =>
    obtain ⟨k, m, p', hk, rfl, R⟩ := hrel
    clear hR0
    cases k with
    | zero =>
      have hfin := (R.fin rfl).Mat R.len
      have hft := hfin.at_
      have y4 := R.blk.cell 4
      have y3 := R.blk.cell 3
      have Hft := Lib.hid hft
      have HR := Lib.hid R
      clear hfin hft
      unfold MVals at y3 y4
      simp only [List.getElem?_cons_zero, List.getElem?_cons_succ] at y3 y4
      have hB0 := R.bel
      have hRm := R.mis.lb
      clear R
      go_wp2_with fail
      refine (HA.out _).mono ?_
      rintro e w4 ⟨rfl, hb4⟩
      have B4 := HR.out.blk.step hb4
      have z4 : w4.cell? ⟨Mb, 4, none⟩ = some (.int .i64 m.at_) := B4.cell 4
      have z3 : w4.cell? ⟨Mb, 3, none⟩ = some (.slice p'.ab m.bytes.length p'.cb) := B4.cell 3
      have hB4 := below_trans hB0 hb4
      have d4 : decide (m.at_ < (m.bytes.length : Int)) = true := decide_eq_true (by have := Hft.out; omega)
      clear y3 y4
      go_wp2_with fail
      go_returns
      exact ⟨rfl, hB4⟩
    | succ k =>
      have hkk : (((k + 1 : Nat) : Int) - 1) = (k : Int) := by omega
      rw [hkk]
      obtain ⟨hmid, hat⟩ := R.mid (by omega)
      have hbit : m.bit = ((f / 2 ^ k % 2 : Nat) : Int) := by
        obtain ⟨_, q2, f2, _, e2, _, _, _, _, _, e3, _, e4, _, _⟩ := hmid.bit hf2 (by omega) HX.out R.len
        have : q2 = q := by have := e2.symm.trans hat; exact_mod_cast this
        subst this
        have : f2 = f := by have := e3.symm.trans Hqf.out; exact_mod_cast this
        subst this
        exact e4
      obtain ⟨bt, hbt⟩ : ∃ bt : Nat, b1 / 2 ^ k % 2 = bt := ⟨_, rfl⟩
      have hbt2 : bt < 2 := by omega
      have hst := hmid.step hf2 (by omega) HX.out R.len hbit bt hbt2
      have hln2 : m.bytes.length < 65536 := by rw [hmid.bytes]; have := Hs.out; omega
      have HBt := Lib.hid fun W (h : MIs m p' W) => bit12_good (b := (bt : Int)) h hmid.wf (by omega) hln2
      have HPr := Lib.hid fun W (h : MIs m p' W) => predict12_any m p' W h
      have hpr := hmid.wf.pred1 R.len
      rw [hpr.1] at HPr
      have hnx : bt = f / 2 ^ k % 2 → ∀ j, k = j + 1 → S12.Mid 6 (n : Int) xs f k (S12.bitM m (bt : Int)) := fun he j hj => by
        subst hj
        have := hmid.within hf2 (by omega) HX.out (by have := Hs.out; omega)
        rw [he]; exact this
      have hfi : bt = f / 2 ^ k % 2 → k = 0 → S12.WF (S12.bitM m (bt : Int)) := fun he hj => by
        subst hj
        have := hmid.last hf2 HX.out (by have := Hs.out; omega)
        rw [he]; exact this.wf
      obtain ⟨wt, hwt⟩ : ∃ wt : Nat, f / 2 ^ k % 2 = wt := ⟨_, rfl⟩
      have Hst := Lib.hid hst
      rw [hwt] at hbit hnx hfi
      obtain ⟨x, hx⟩ : ∃ x, S12.bitM m (bt : Int) = x := ⟨_, rfl⟩
      rw [hx] at HBt Hst hnx hfi
      obtain ⟨P, hP⟩ : ∃ P, S12.predP m = P := ⟨_, rfl⟩
      rw [hP] at HPr hpr
      have hP1 := hpr.2.1
      have hP2 := hpr.2.2.1
      have hand1 : bits .and .i64 ((f : Int) / 2 ^ k) 1 = (wt : Int) := by rw [div_cast, bits_and_1 _ (Nat.lt_of_le_of_lt (Nat.div_le_self _ _) (by omega)), hwt]
      have hand2 : bits .and .i64 ((b1 : Int) / 2 ^ k) 1 = (bt : Int) := by rw [div_cast, bits_and_1 _ (Nat.lt_of_le_of_lt (Nat.div_le_self _ _) (by omega)), hbt]
      have Bk := R.blk
      have HMk := Lib.hid R.mis
      have hBk := R.bel
      have hl0 := R.len
      have Hnx := Lib.hid hnx
      have Hfi := Lib.hid hfi
      have Hmiss := Lib.hid (show ¬ bt = wt → 1 ≤ k → x.len = 0 by rw [← hwt]; exact Hst.out.miss)
      have Hhit := Lib.hid (show bt = wt → m.len ≤ x.len by rw [← hwt]; exact Hst.out.hit)
      have Hnext := Lib.hid (show bt = wt → ∀ j, k = j + 1 → x.len = m.len ∧ x.at_ = m.at_ by rw [← hwt]; exact Hst.out.next)
      have Hat := Lib.hid hat
      have Hpos := Lib.hid (hmid.wf.Mat hl0).len.1
      clear hst hmid hat hnx hfi hpr hP hx hkk R hwt hbt Hst hl0
      unfold MV MVals at HBt HPr
      have Bk0 := Bk
      unfold MVals at Bk
      rw [hbit] at HBt HPr Bk
      obtain ⟨x0, x1, x2, x3, x4, x5, x6, x7, x8⟩ := Bk.nine
      have hC : Cells wr [] := trivial
      go_wp2_with fail
      refine wp_region_seq 11 1 [(true, [true, true, true, true, true, true, true, true, true, true]), (false, [false, false, false, false, false, false, false, false, false, false, true])] _ _ (Keeps wr []) (by kernel_rfl) (List.take_append_drop 11 _).symm (by kernel_rfl) (by kernel_rfl) (by kernel_rfl) (by kernel_rfl) (Keeps.start hC) (fun Y Q4 F4 hY hF => ?_)
      simp only [phased, List.flatMap_cons, List.flatMap_nil, List.take_succ_cons, List.take_zero, List.drop_succ_cons, List.drop_zero, sel_true, sel_false, sel_nil, List.map_cons, List.map_nil, List.cons_append, List.nil_append, List.append_nil]
      repeat
        apply wpSeq_read (by first | rfl | (rw [hY]; rfl))
        · intro w2 hS2
          (try simp only [Keeps, Cells] at hS2)
          (try simp only [HasC, Cells] at hS2)
          go_simp
          with_reducible rfl
        simp only [Act.put, List.setIfInBounds_toArray, List.set_cons_zero, List.set_cons_succ]
      simp only [wrap_i64_nat (show f < 9223372036854775808 by omega), wrap_i64_nat (show b1 < 9223372036854775808 by omega), hand1, hand2]
      refine wpSeq_value (by first | rfl | (rw [hY]; rfl)) (by go_simp; first | with_reducible exact ⟨rfl, rfl⟩ | with_reducible rfl) (Keeps.start hC) ?_
      simp only [Act.put, List.setIfInBounds_toArray, List.set_cons_zero, List.set_cons_succ]
      refine wpSeq_done (hF.out _ _ (fun K hK => ?_))
      clear hF hY
      go_wp2_with fail
      refine OnlyK.mk (hK.out _ _ ?_)
      clear hK hC
      obtain ⟨w4, hw4⟩ : ∃ w4, wr.drew = w4 := ⟨_, rfl⟩
      have hE4 : Below wr.heap.size wr w4 := by rw [← hw4]; exact below_drew _ wr
      rw [hw4]
      clear hw4 x0 x1 x2 x3 x4 x5 x6 x7 x8
      obtain ⟨x0, x1, x2, x3, x4, x5, x6, x7, x8⟩ := (Bk.step hE4).nine
      go_wp2_with fail
      refine (HPr.out w4 (HMk.out.step hE4)).mono ?_
      rintro e w5 ⟨rfl, hb5⟩
      have hE5 := below_trans hE4 hb5
      clear x0 x1 x2 x3 x4 x5 x6 x7 x8
      obtain ⟨x0, x1, x2, x3, x4, x5, x6, x7, x8⟩ := (Bk.step hE5).nine
      have dP1 : decide (P < 1) = false := decide_eq_false (by omega)
      have dP2 : decide (4095 < P) = false := decide_eq_false (by omega)
      have eww : (((wt : Nat) : Int) != (wt : Int)) = false := by simp
      go_wp2_with fail
      refine (HBt.out w5 (HMk.out.step hE5)).mono ?_
      rintro e w6 ⟨px, rfl, hMx, hFx, hb6⟩
      have hE6 := below_trans hE5 hb6
      obtain ⟨Xb, hXb⟩ : ∃ Xb, w6.heap.size = Xb := ⟨_, rfl⟩
      obtain ⟨w7, hw7⟩ : ∃ w7, w6.alloc (.cells #[.int .i64 x.bits, .int .i64 x.least, .slice px.ah x.heads.length px.ch, .slice px.ab x.bytes.length px.cb, .int .i64 x.at_, .int .i64 x.len, .int .i64 x.part, .int .i64 x.bit, .slice px.ac x.ctrs.length px.cc] 27) = w7 := ⟨_, rfl⟩
      have hE7' : Below w6.heap.size w6 w7 := by rw [← hw7]; exact (Below.refl _ _).alloc (Nat.le_refl _) _
      have X7 : Blk w7 Xb [.int .i64 x.bits, .int .i64 x.least, .slice px.ah x.heads.length px.ch, .slice px.ab x.bytes.length px.cb, .int .i64 x.at_, .int .i64 x.len, .int .i64 x.part, .int .i64 x.bit, .slice px.ac x.ctrs.length px.cc] 27 := by rw [← hw7, ← hXb]; exact Blk.new w6 _ _
      have hE7 := below_trans hE6 hE7'
      have hB7 := below_trans hBk hE7
      have B7 := Bk.step hE7
      have B70 := Bk0.step hE7
      have HMx := Lib.hid (hMx.step hE7')
      have hFx7 := hFx
      have hlM : Mb < w5.heap.size := (Bk.step hE5).lt
      clear x0 x1 x2 x3 x4 x5 x6 x7 x8 hMx
      have u5 := X7.cell 5
      have v5 := B7.cell 5
      simp only [List.getElem?_cons_zero, List.getElem?_cons_succ] at u5 v5
      by_cases heq : bt = wt
      · subst heq
        have hle := Hhit.out rfl
        have dlt : decide (x.len < m.len) = false := decide_eq_false (by omega)
        have hne : x.len ≠ 0 := by have := Hpos.out; omega
        have hR8 : ExpR 6 (n : Int) xs f q Mb w _ k x px := ⟨B7.put9 (.int .i64 x.bits) (.int .i64 x.least) (.slice px.ah x.heads.length px.ch) (.slice px.ab x.bytes.length px.cb) (.int .i64 x.at_) (.int .i64 x.len) (.int .i64 x.part) (.int .i64 x.bit) (.slice px.ac x.ctrs.length px.cc), HMx.out.put9f hFx7 hlM (.int .i64 x.bits) (.int .i64 x.least) (.slice px.ah x.heads.length px.ch) (.slice px.ab x.bytes.length px.cb) (.int .i64 x.at_) (.int .i64 x.len) (.int .i64 x.part) (.int .i64 x.bit) (.slice px.ac x.ctrs.length px.cc), below_put9 hB7 hwM (.int .i64 x.bits) (.int .i64 x.least) (.slice px.ah x.heads.length px.ch) (.slice px.ab x.bytes.length px.cb) (.int .i64 x.at_) (.int .i64 x.len) (.int .i64 x.part) (.int .i64 x.bit) (.slice px.ac x.ctrs.length px.cc), hne, fun hk1 => ⟨Hnx.out rfl (k - 1) (by omega), ((Hnext.out rfl (k - 1) (by omega)).2).trans Hat.out⟩, fun hk0 => Hfi.out rfl hk0⟩
        have HR8 := Lib.hid hR8
        obtain ⟨x0, x1, x2, x3, x4, x5, x6, x7, x8⟩ := X7.nine
        obtain ⟨z0, z1, z2, z3, z4, z5, z6, z7, z8⟩ := B7.nine
        have f0 := B7.free 0
        have f1 := B7.free 1
        have f2 := B7.free 2
        have f3 := B7.free 3
        have f4 := B7.free 4
        have f5 := B7.free 5
        have f6 := B7.free 6
        have f7 := B7.free 7
        have f8 := B7.free 8
        have hXM : ¬ Xb = Mb := by have := hE6.size; have := hb6.size; omega
        have hMX : ¬ Mb = Xb := fun e => hXM e.symm
        clear hR8 hle hne
        go_wp2_with fail
        go_roundw
        case rel => exact ⟨k, x, px, by omega, by go_num, HR8.out⟩
        case measure => simp [intOf]
      · have e1' : ((bt : Int) != (wt : Int)) = true := by simp; omega
        have e2' : ((bt : Int) == (wt : Int)) = false := by simp; omega
        have hx3 : (x.len != 0) = false ∨ ((x.len != 0) = true ∧ k = 0) := by
          cases hxl : (x.len != 0) with
          | false => exact .inl rfl
          | true =>
            refine .inr ⟨rfl, ?_⟩
            have := Hmiss.out heq
            simp at hxl
            omega
        rcases hx3 with hx3 | ⟨hx3, rfl⟩
        · go_wp2_with fail
          refine (HA.out _).mono ?_
          rintro e w8 ⟨rfl, hb8⟩
          have hB8 := below_trans hB7 hb8
          go_wp2_with fail
          go_returns
          exact ⟨rfl, hB8⟩
        · go_wp2_with fail
          refine (HA.out _).mono ?_
          rintro e w8 ⟨rfl, hb8⟩
          have hB8 := below_trans hB7 hb8
          go_wp2_with fail
          go_returns
          exact ⟨rfl, hB8⟩
end Go.Proofs.Ytbfgdaijpcbddaa
