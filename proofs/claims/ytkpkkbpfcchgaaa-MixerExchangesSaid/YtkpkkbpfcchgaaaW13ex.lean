/- MixerExchanges (law 13). No condition. -/
import Derived.Test.YtkpkkbpfcchgaaaW13y
set_option linter.unusedSimpArgs false
set_option linter.unusedVariables false
set_option linter.unusedSectionVars false
namespace Go.Proofs.Ytkpkkbpfcchgaaa
open Go.RowKit

theorem rev3_at {l : List Int} (h : l.length = 3) {k : Nat} (hk : k < 3) : l.reverse[2 - k]? = l[k]? := by
  obtain ⟨a, b, c, rfl⟩ := S13.three h
  rcases (show k = 0 ∨ k = 1 ∨ k = 2 by omega) with rfl | rfl | rfl <;> rfl

set_option maxHeartbeats 4000000 in
theorem mixerExchanges_any (xs : List Lsn) (a : Option Addr) (cap : Nat) (x : Lsn) (w : World) (hlen : xs.length ≤ 9223372036854775807) (hrd : Rd w a (Lsns xs)) (hok : ∀ x ∈ xs, x.ok) (hx : x.ok) :
    Calls Try.prog 9 #[.slice a xs.length cap, x.val] w fun e w' => e = .returned (.bool true) ∧ Below w.heap.size w w' := by
  by_cases hlong : 60 < xs.length
  · have hl3 : (60 : Int) < (xs.length : Int) := by omega
    go_enter Try.func9, Try.ntmps9
    go_wp2_with fail
    refine (awake13_any _).mono ?_
    rintro e w1 ⟨rfl, hb1⟩
    have hB1 : Below w.heap.size w w1 := below_trans (by go_grown) hb1
    have z1 : w.heap.size ≤ w1.heap.size := hB1.size
    go_wp2
    go_returns
    exact ⟨rfl, hB1⟩
  · have hl3 : ¬ (60 : Int) < (xs.length : Int) := by omega
    have hrdb : ∀ W, Below w.heap.size w W → Rd W a (Lsns xs) := fun W hb => Rd.below hrd hb (fun b o e hne => by
      obtain ⟨b', o', e', hc⟩ := hrd hne
      rw [e] at e'; cases e'
      cases hxs : Lsns xs with
      | nil => exact absurd hxs hne
      | cons v vs => exact block_lt_of_cell (hc 0 v (by rw [hxs]; rfl)))
    have HL1 := Lib.hid fun W (hb : Below w.heap.size w W) => learned13_any false xs a cap W hlen (hrdb W hb) hok
    have HL2 := Lib.hid fun W (hb : Below w.heap.size w W) => learned13_any true xs a cap W hlen (hrdb W hb) hok
    have hf := S13.fit_lrn false xs
    rw [S13.lrn_back] at HL2
    have hf2 : S13.fit ((S13.lrn false xs).map List.reverse) := by rw [← S13.lrn_back]; exact S13.fit_lrn true xs
    obtain ⟨x1, x2, _⟩ := id hx
    have hr3 := S13.fit_row hf (c := (x.ctx % 2).toNat) (by omega)
    have hmb := S13.mix_back hr3.2.1 x
    rw [← S13.getD_rev] at hmb
    generalize S13.lrn false xs = L at *
    clear hrdb hr3
    have HI1 := Lib.hid fun W => inputs13_any x false W hx
    have HI2 := Lib.hid fun W => inputs13_any x true W hx
    have HR1 := Lib.hid fun V a cap W (hV : MixIs 3 L V W) (hr : Rd W a (Ints (S13.ins false x))) => mixFit13_any L V (x.ctx % 2) (S13.ins false x) a cap W hf (by omega) (by omega) (S13.ins_length _ _) (S13.ins_weak _ _) hV hr
    have HR2 := Lib.hid fun V a cap W (hV : MixIs 3 (L.map List.reverse) V W) (hr : Rd W a (Ints (S13.ins true x))) => mixFit13_any (L.map List.reverse) V (x.ctx % 2) (S13.ins true x) a cap W hf2 (by omega) (by omega) (S13.ins_length _ _) (S13.ins_weak _ _) hV hr
    rw [hmb] at HR2
    generalize S13.mix (L.getD (x.ctx % 2).toNat []) (S13.ins false x) = p at *
    have Hf := Lib.hid hf
    clear hmb hf hf2
    have e1 : IntKind.i64.wrap (x.ctx.tmod 2) = x.ctx % 2 := by rw [Int.tmod_eq_emod_of_nonneg x1]; exact IntWalk.i64_in _ (by omega)
    have e1' : IntKind.u8.wrap (x.ctx.tmod 2) = x.ctx % 2 := by rw [Int.tmod_eq_emod_of_nonneg x1, IntKind.wrap_u8]; omega
    have e1'' : IntKind.i64.wrap (x.ctx % 2) = x.ctx % 2 := IntWalk.i64_in _ (by omega)
    simp only [Lsn.val]
    go_enter Try.func9, Try.ntmps9
    go_wp2_with fail
    refine (HL1.out _ (by go_grown)).mono ?_
    rintro e w1 ⟨a1, cap1, rfl, hM1, hb1⟩
    have hB1 : Below w.heap.size w w1 := below_trans (by go_grown) hb1
    have z1 : w.heap.size ≤ w1.heap.size := hB1.size
    have HM1 := Lib.hid fun (W : World) (hb : Below w1.heap.size w1 W) => hM1.mix.step hb
    have Hx1 := Lib.hid (((Blk.new w x.cells 50).step hb1).alloc (Obj.cells #[.int .i64 3, .slice a1 2 cap1] 24))
    have Hm1 := Lib.hid (Blk.new w1 [.int .i64 3, .slice a1 2 cap1] 24)
    clear hM1
    go_wp2_with fail
    refine (HL2.out _ (by go_grown)).mono ?_
    rintro e w2 ⟨a2, cap2, rfl, hM2, hb2⟩
    have hB2 : Below w.heap.size w w2 := below_trans (by go_grown) hb2
    have hC2 : Below w1.heap.size w1 w2 := below_trans (by go_grown) hb2
    have HM2 := Lib.hid fun (W : World) (hb : Below w2.heap.size w2 W) => hM2.mix.step hb
    clear hM2
    have z2 : w.heap.size ≤ w2.heap.size := hB2.size
    have z12 : w1.heap.size ≤ w2.heap.size := hC2.size
    obtain ⟨w4, hw4⟩ : ∃ w4, w4 = w2.alloc (Obj.cells #[.int .i64 3, .slice a2 2 cap2] 24) := ⟨_, rfl⟩
    have Hm4 := Lib.hid (show Blk w4 w1.heap.size [.int .i64 3, .slice a1 2 cap1] 24 by rw [hw4]; exact (Hm1.out.step hb2).alloc _)
    have Hx4 := Lib.hid (show Blk w4 w.heap.size x.cells 50 by rw [hw4]; exact (Hx1.out.step hb2).alloc _)
    have Hn4 := Lib.hid (show Blk w4 w2.heap.size [.int .i64 3, .slice a2 2 cap2] 24 by rw [hw4]; exact Blk.new w2 _ _)
    have hB4 : Below w.heap.size w w4 := by rw [hw4]; go_grown
    have hC4 : Below w1.heap.size w1 w4 := by rw [hw4]; go_grown
    have hD4 : Below w2.heap.size w2 w4 := by rw [hw4]; go_grown
    have hcs : Cells w4 [(⟨w1.heap.size, 0, none⟩, .int .i64 3), (⟨w1.heap.size, 1, none⟩, .slice a1 2 cap1), (⟨w2.heap.size, 0, none⟩, .int .i64 3), (⟨w2.heap.size, 1, none⟩, .slice a2 2 cap2), (⟨w.heap.size, 0, none⟩, .int .u8 x.ctx), (⟨w.heap.size, 1, none⟩, .int .u8 x.rate), (⟨w.heap.size, 2, none⟩, .bool x.bit), (⟨w.heap.size, 3, none⟩, .int .i16 x.i0), (⟨w.heap.size, 4, none⟩, .int .i16 x.i1), (⟨w.heap.size, 5, none⟩, .int .i16 x.i2)] := ⟨Hm4.out.cell 0, Hm4.out.cell 1, Hn4.out.cell 0, Hn4.out.cell 1, Hx4.out.cell 0, Hx4.out.cell 1, Hx4.out.cell 2, Hx4.out.cell 3, Hx4.out.cell 4, Hx4.out.cell 5, trivial⟩
    have hk4 := Keeps.start hcs
    clear hcs
    go_wp2
    rw [← hw4]
    clear hw4 hb2 hb1
    refine wp_region_seq 12 1 [(true, [true, true, true, true, true, true]), (false, [false, false, false, false, false, false, true]), (false, [false, false, false, false, false, false, false, true]), (true, [false, false, false, false, false, false, false, false, true, true, true]), (false, [false, false, false, false, false, false, false, false, false, false, false, true])] _ _ (Keeps w4 [(⟨w1.heap.size, 0, none⟩, .int .i64 3), (⟨w1.heap.size, 1, none⟩, .slice a1 2 cap1), (⟨w2.heap.size, 0, none⟩, .int .i64 3), (⟨w2.heap.size, 1, none⟩, .slice a2 2 cap2), (⟨w.heap.size, 0, none⟩, .int .u8 x.ctx), (⟨w.heap.size, 1, none⟩, .int .u8 x.rate), (⟨w.heap.size, 2, none⟩, .bool x.bit), (⟨w.heap.size, 3, none⟩, .int .i16 x.i0), (⟨w.heap.size, 4, none⟩, .int .i16 x.i1), (⟨w.heap.size, 5, none⟩, .int .i16 x.i2)]) (by kernel_rfl) (List.take_append_drop 12 _).symm rfl rfl (by kernel_rfl) (by kernel_rfl) (hk4) (fun Y Q4 F4 hY hF => ?_)
    simp only [phased, List.flatMap_cons, List.flatMap_nil, List.take_succ_cons, List.take_zero, List.drop_succ_cons, List.drop_zero, sel_true, sel_false, sel_nil, List.map_cons, List.map_nil, List.cons_append, List.nil_append, List.append_nil]
    repeat
      apply wpSeq_read (by first | rfl | (rw [hY]; rfl))
      · intro w2 hS2
        (try simp only [Keeps, Cells] at hS2)
        go_simp
        with_reducible rfl
      simp only [Act.put, List.setIfInBounds_toArray, List.set_cons_zero, List.set_cons_succ]
    apply wpSeq_call (by first | rfl | (rw [hY]; rfl))
    · go_simp
      with_reducible exact ⟨rfl, rfl⟩
    refine (HI1.out _).mono ?_
    rintro e w5 ⟨ai, pi, rfl, hr5, hb5⟩
    have hk5 := hk4.step hb5
    refine ⟨_, rfl, hk5, ?_⟩
    simp only [Act.put, List.setIfInBounds_toArray, List.set_cons_zero, List.set_cons_succ]
    apply wpSeq_call (by first | rfl | (rw [hY]; rfl))
    · go_simp
      with_reducible exact ⟨rfl, rfl⟩
    refine (HR1.out _ _ _ _ (HM1.out _ (below_trans hC4 hk5.1)) hr5).mono ?_
    rintro e w6 ⟨rfl, hb6⟩
    have hk6 := hk5.step hb6
    refine ⟨_, rfl, hk6, ?_⟩
    simp only [Act.put, List.setIfInBounds_toArray, List.set_cons_zero, List.set_cons_succ]
    repeat
      apply wpSeq_read (by first | rfl | (rw [hY]; rfl))
      · intro w2 hS2
        (try simp only [Keeps, Cells] at hS2)
        go_simp
        with_reducible rfl
      simp only [Act.put, List.setIfInBounds_toArray, List.set_cons_zero, List.set_cons_succ]
    refine wpSeq_value (by first | rfl | (rw [hY]; rfl)) (by go_simp; first | with_reducible exact ⟨rfl, rfl⟩ | with_reducible rfl) (hk6) ?_
    simp only [Act.put, List.setIfInBounds_toArray, List.set_cons_zero, List.set_cons_succ]
    refine wpSeq_done (hF.out _ _ (fun K hK => ?_))
    clear hF hY
    go_wp2_with fail
    refine OnlyK.mk (hK.out _ _ ?_)
    have hk6' := hk6.step ((Below.refl w6.heap.size w6).drew)
    clear hK hb5 hb6 hk5 hk4 hr5
    go_wp2
    refine wp_region_seq 12 1 [(true, [true, true, true, true, true, true]), (false, [false, false, false, false, false, false, true]), (false, [false, false, false, false, false, false, false, true]), (true, [false, false, false, false, false, false, false, false, true, true, true]), (false, [false, false, false, false, false, false, false, false, false, false, false, true])] _ _ (Keeps w4 [(⟨w1.heap.size, 0, none⟩, .int .i64 3), (⟨w1.heap.size, 1, none⟩, .slice a1 2 cap1), (⟨w2.heap.size, 0, none⟩, .int .i64 3), (⟨w2.heap.size, 1, none⟩, .slice a2 2 cap2), (⟨w.heap.size, 0, none⟩, .int .u8 x.ctx), (⟨w.heap.size, 1, none⟩, .int .u8 x.rate), (⟨w.heap.size, 2, none⟩, .bool x.bit), (⟨w.heap.size, 3, none⟩, .int .i16 x.i0), (⟨w.heap.size, 4, none⟩, .int .i16 x.i1), (⟨w.heap.size, 5, none⟩, .int .i16 x.i2)]) (by kernel_rfl) (List.take_append_drop 12 _).symm rfl rfl (by kernel_rfl) (by kernel_rfl) (hk6') (fun Y Q4 F4 hY hF => ?_)
    simp only [phased, List.flatMap_cons, List.flatMap_nil, List.take_succ_cons, List.take_zero, List.drop_succ_cons, List.drop_zero, sel_true, sel_false, sel_nil, List.map_cons, List.map_nil, List.cons_append, List.nil_append, List.append_nil]
    repeat
      apply wpSeq_read (by first | rfl | (rw [hY]; rfl))
      · intro w2 hS2
        (try simp only [Keeps, Cells] at hS2)
        go_simp
        with_reducible rfl
      simp only [Act.put, List.setIfInBounds_toArray, List.set_cons_zero, List.set_cons_succ]
    apply wpSeq_call (by first | rfl | (rw [hY]; rfl))
    · go_simp
      with_reducible exact ⟨rfl, rfl⟩
    refine (HI2.out _).mono ?_
    rintro e w7 ⟨ai, pi, rfl, hr7, hb7⟩
    have hk7 := hk6'.step hb7
    refine ⟨_, rfl, hk7, ?_⟩
    simp only [Act.put, List.setIfInBounds_toArray, List.set_cons_zero, List.set_cons_succ]
    apply wpSeq_call (by first | rfl | (rw [hY]; rfl))
    · go_simp
      with_reducible exact ⟨rfl, rfl⟩
    refine (HR2.out _ _ _ _ (HM2.out _ (below_trans hD4 hk7.1)) hr7).mono ?_
    rintro e w8 ⟨rfl, hb8⟩
    have hk8 := hk7.step hb8
    refine ⟨_, rfl, hk8, ?_⟩
    simp only [Act.put, List.setIfInBounds_toArray, List.set_cons_zero, List.set_cons_succ]
    repeat
      apply wpSeq_read (by first | rfl | (rw [hY]; rfl))
      · intro w2 hS2
        (try simp only [Keeps, Cells] at hS2)
        go_simp
        with_reducible rfl
      simp only [Act.put, List.setIfInBounds_toArray, List.set_cons_zero, List.set_cons_succ]
    refine wpSeq_value (by first | rfl | (rw [hY]; rfl)) (by go_simp; first | with_reducible exact ⟨rfl, rfl⟩ | with_reducible rfl) (hk8) ?_
    simp only [Act.put, List.setIfInBounds_toArray, List.set_cons_zero, List.set_cons_succ]
    refine wpSeq_done (hF.out _ _ (fun K hK => ?_))
    clear hF hY
    go_wp2_with fail
    refine OnlyK.mk (hK.out _ _ ?_)
    have hB8 : Below w.heap.size w w8 := below_trans hB4 hk8.1
    have HM18 := Lib.hid (HM1.out _ (below_trans hC4 hk8.1))
    have HM28 := Lib.hid (HM2.out _ (below_trans hD4 hk8.1))
    have m80 := hk8.2.1
    have m81 := hk8.2.2.1
    have n80 := hk8.2.2.2.1
    have n81 := hk8.2.2.2.2.1
    have hpp : (p != p) = false := by simp
    clear hK hb7 hb8 hk7 hk8 hk6' hk6 hr7
    obtain ⟨R1, ra1, rc1, hL1, hV1, s1, s2, hrm1, hok1⟩ := HM18.out
    obtain ⟨R2, ra2, rc2, hL2, hV2, s3, s4, hrm2, hok2⟩ := HM28.out
    simp at hV1 hV2
    obtain ⟨rfl, hRl1, rfl⟩ := hV1
    obtain ⟨rfl, hRl2, rfl⟩ := hV2
    have HL1' := Lib.hid hL1
    have HL2' := Lib.hid hL2
    have HRl1 := Lib.hid hRl1
    have HRl2 := Lib.hid hRl2
    have Hrm1 := Lib.hid hrm1
    have Hrm2 := Lib.hid hrm2
    have Hok1 := Lib.hid hok1
    have Hok2 := Lib.hid hok2
    clear hL1 hL2 hRl1 hRl2 hrm1 hrm2 hok1 hok2 s1 s2 s3 s4
    go_wp2
    go_loopw [13] (fun i wr => ∃ i' : Nat, i' ≤ 2 ∧ i = .int .i64 i' ∧ Below w8.heap.size w8 wr) (fun i _ => 2 - (intOf i).toNat)
    case atStart => exact ⟨0, by omega, rfl, Below.refl _ _⟩
    case round =>
      obtain ⟨wo, rfl⟩ : ∃ wo : World, wo = wr := ⟨_, rfl⟩
      obtain ⟨i, hi, rfl, hE⟩ := hrel
      by_cases hil : i < 2
      · have hil2 : (i : Int) ≤ 1 := by omega
        have hi0 : (0 : Int) ≤ (i : Int) := by omega
        have hi2 : (i : Int) < 2 := by omega
        obtain ⟨r1, g1, o1, hRr1, hra1, hcell1, hro1, hgl1⟩ := row13_at Hrm1.out Hok1.out (k := i) (by rw [← HRl1.out]; exact hil)
        obtain ⟨r2, g2, o2, hRr2, hra2, hcell2, hro2, hgl2⟩ := row13_at Hrm2.out Hok2.out (k := i) (by rw [← HRl2.out]; exact hil)
        subst hra1 hra2
        have hl1 : r1.l = L.getD i [] := by rw [HL1'.out]; exact hgl1.symm
        have hl2 : r2.l = (L.getD i []).reverse := by rw [← S13.getD_rev, HL2'.out]; exact hgl2.symm
        have hr3 := (S13.fit_row Hf.out (c := i) hil).2.1
        have hn1 : r1.l.length = 3 := by rw [hl1]; exact hr3
        have hn2 : r2.l.length = 3 := by rw [hl2, List.length_reverse]; exact hr3
        rw [hn1] at hcell1
        rw [hn2] at hcell2
        have hg1 := block_lt_of_cell hcell1
        have hg2 := block_lt_of_cell hcell2
        have hm1 := block_lt_of_cell m81
        have hm2 := block_lt_of_cell n81
        have Hro1 := Lib.hid hro1.2.2
        have Hro2 := Lib.hid hro2.2.2
        have Hl12 := Lib.hid (show ∀ k, k < 3 → r2.l[2 - k]? = r1.l[k]? by intro k hk; rw [hl1, hl2]; exact rev3_at hr3 hk)
        clear hgl1 hgl2 hro1 hro2 hRr1 hRr2 hl1 hl2
        go_wp2
        go_loopw [14] (fun k wr => ∃ k' : Nat, k' ≤ 3 ∧ k = .int .i64 k' ∧ Below w8.heap.size w8 wr) (fun k _ => 3 - (intOf k).toNat)
        case atStart => exact ⟨0, by omega, rfl, hE⟩
        case round =>
          obtain ⟨k, hk, rfl, hE2⟩ := hrel
          by_cases hkl : k < 3
          · have hkl2 : (k : Int) ≤ 2 := by omega
            have hk0 : (0 : Int) ≤ (k : Int) := by omega
            have hk3 : (k : Int) < 3 := by omega
            obtain ⟨h1, q1, hra, hcs1⟩ := Hro1.out.at (i := 0) (by rw [Ints_length, hn1]; omega)
            obtain ⟨h2, q2, hrb, hcs2⟩ := Hro2.out.at (i := 0) (by rw [Ints_length, hn2]; omega)
            obtain ⟨v, hv⟩ : ∃ v, r1.l[k]? = some v := ⟨_, List.getElem?_eq_getElem (by rw [hn1]; exact hkl)⟩
            have hv2 := (Hl12.out k hkl).trans hv
            have d1 : w8.cell? ⟨h1, q1 + k, none⟩ = some (.int .i64 v) := by
              rw [hcs1 k (by rw [Ints_length, hn1]; exact hkl)]
              have := (List.getElem?_eq_some_iff.1 hv).2
              simp [Ints, this]
            have d2 : w8.cell? ⟨h2, q2 + (2 - k), none⟩ = some (.int .i64 v) := by
              rw [hcs2 (2 - k) (by rw [Ints_length, hn2]; omega)]
              have := (List.getElem?_eq_some_iff.1 hv2).2
              simp [Ints, this]
            rw [hra] at hcell1
            rw [hrb] at hcell2
            have hh1 := block_lt_of_cell d1
            have hh2 := block_lt_of_cell d2
            have hw2 : IntKind.i64.wrap (2 - (k : Int)) = 2 - (k : Int) := IntWalk.i64_in _ (by omega)
            have hq0 : (0 : Int) ≤ 2 - (k : Int) := by omega
            have hq1 : 2 - (k : Int) < 3 := by omega
            have hq2 : (2 - (k : Int)).toNat = 2 - k := by omega
            have hvv : (v != v) = false := by simp
            have c1 := (hE2.cell (p := ⟨w1.heap.size, 1, none⟩) hm1).trans m81
            have c2 := (hE2.cell (p := ⟨w2.heap.size, 1, none⟩) hm2).trans n81
            have c3 := (hE2.cell (p := ⟨g1, o1 + i, none⟩) hg1).trans hcell1
            have c4 := (hE2.cell (p := ⟨g2, o2 + i, none⟩) hg2).trans hcell2
            have c5 := (hE2.cell (p := ⟨h1, q1 + k, none⟩) hh1).trans d1
            have c6 := (hE2.cell (p := ⟨h2, q2 + (2 - k), none⟩) hh2).trans d2
            clear hcs1 hcs2 hv hv2 d1 d2
            go_wp2
            refine wp_region_all 36 (Keeps wr [(⟨w1.heap.size, 1, none⟩, .slice (some ⟨g1, o1, none⟩) 2 cap1), (⟨w2.heap.size, 1, none⟩, .slice (some ⟨g2, o2, none⟩) 2 cap2), (⟨g1, o1 + i, none⟩, .slice (some ⟨h1, q1, none⟩) 3 r1.cap), (⟨g2, o2 + i, none⟩, .slice (some ⟨h2, q2, none⟩) 3 r2.cap), (⟨h1, q1 + k, none⟩, .int .i64 v), (⟨h2, q2 + (2 - k), none⟩, .int .i64 v)]) (by kernel_rfl) rfl (by kernel_rfl) (Keeps.start (by simp only [Cells]; exact ⟨c1, c2, c3, c4, c5, c6, trivial⟩)) (fun Y F hY hF => ?_)
            repeat
              apply wpSteady_value (by first | rfl | (rw [hY]; rfl))
              · intro w2 ⟨hB2, hk2⟩
                simp only [Cells] at hk2
                go_simp
                with_reducible rfl
              simp only [Act.put, List.setIfInBounds_toArray, List.set_cons_zero, List.set_cons_succ]
            refine hF.out _ (fun w9 hS9 => ?_)
            clear hF hY
            have hE9 : Below w8.heap.size w8 w9 := below_trans hE2 hS9.1
            clear hS9 c1 c2 c3 c4 c5 c6
            go_wp2
            go_roundw
            case rel => exact ⟨k + 1, by omega, by go_num, hE9⟩
            case measure => simp [intOf]; omega
          · obtain rfl : k = 3 := by omega
            go_wp2
            go_roundw
            case rel => exact ⟨i + 1, by omega, by go_num, hE2⟩
            case measure => simp [intOf]; omega
      · obtain rfl : i = 2 := by omega
        go_wp2_with fail
        refine (awake13_any _).mono ?_
        rintro e wz ⟨rfl, hbz⟩
        have hBz : Below w.heap.size w wz := below_trans (below_trans hB8 hE) hbz
        go_wp2
        go_returns
        exact ⟨rfl, hBz⟩
end Go.Proofs.Ytkpkkbpfcchgaaa
