/- ApmKeeps (law 11). No condition. -/
import Derived.Test.YtojdbhcgppcgkaaW11m
set_option linter.unusedSimpArgs false
set_option linter.unusedVariables false
set_option linter.unusedSectionVars false
namespace Go.Proofs.Ytojdbhcgppcgkaa
open Go.RowKit

set_option maxHeartbeats 4000000 in
theorem apmKeeps_any (xs : List Lsn) (a : Option Addr) (cap : Nat) (x : Lsn) (o0 o1 : Int) (w : World) (hlen : xs.length ≤ 9223372036854775807) (hrd : Rd w a (Lsns xs)) (hok : ∀ x ∈ xs, x.ok) (hx : x.ok) (po0 : 0 ≤ o0) (po1 : o0 ≤ 65535) (po2 : 0 ≤ o1) (po3 : o1 ≤ 65535) :
    Calls Try.prog 9 #[.slice a xs.length cap, x.val, .agg #[.int .u16 o0, .int .u16 o1]] w fun e w' => e = .returned (.bool true) ∧ Below w.heap.size w w' := by
  by_cases hlong : 60 < xs.length
  · have hl3 : (60 : Int) < (xs.length : Int) := by omega
    go_enter Try.func9, Try.ntmps9
    go_wp2_with fail
    refine (awake11_any _).mono ?_
    rintro e w1 ⟨rfl, hb1⟩
    have hB1 : Below w.heap.size w w1 := below_trans (by go_grown) hb1
    have z1 : w.heap.size ≤ w1.heap.size := hB1.size
    go_wp2
    go_returns
    exact ⟨rfl, hB1⟩
  · have hl3 : ¬ (60 : Int) < (xs.length : Int) := by omega
    have HL := Lib.hid fun W (hb : Below w.heap.size w W) => learnedM11_any xs _ W ⟨a, cap, rfl, Rd.below hrd hb (fun b o e hne => by
      obtain ⟨b', o', e', hc⟩ := hrd hne
      rw [e] at e'; cases e'
      cases hxs : Lsns xs with
      | nil => exact absurd hxs hne
      | cons v vs => exact block_lt_of_cell (hc 0 v (by rw [hxs]; rfl)))⟩ hlen hok
    have HRd := Lib.hid fun W (hb : Below w.heap.size w W) => Rd.below hrd hb (fun b o e hne => by
      obtain ⟨b', o', e', hc⟩ := hrd hne
      rw [e] at e'; cases e'
      cases hxs : Lsns xs with
      | nil => exact absurd hxs hne
      | cons v vs => exact block_lt_of_cell (hc 0 v (by rw [hxs]; rfl)))
    simp only [Lsn.val]
    go_enter Try.func9, Try.ntmps9
    go_wp2_with fail
    refine (HL.out _ (by go_grown)).mono ?_
    rintro e w1 ⟨a1, cap1, rfl, hM1, hb1⟩
    have HM1 := Lib.hid fun (W : World) (hb : Below w1.heap.size w1 W) => hM1.step hb
    clear hM1
    have hB1 : Below w.heap.size w w1 := below_trans (by go_grown) hb1
    have z1 : w.heap.size + 1 < w1.heap.size := by have := hb1.size; simp at this; omega
    have z1' : w.heap.size < w1.heap.size := by omega
    go_wp2
    have hB0 : Below w.heap.size w (w1.alloc (Obj.cells #[.slice a1 99 cap1] 24)) := by go_grown
    have hv0 : Blk (w1.alloc (Obj.cells #[.slice a1 99 cap1] 24)) w1.heap.size [.slice a1 99 cap1] 24 := Blk.new w1 _ _
    have hbx : Blk (w1.alloc (Obj.cells #[.slice a1 99 cap1] 24)) w.heap.size x.cells 53 := (((Blk.new w _ _).alloc _).step hb1).alloc _
    have hbo0 := Blk.new (w.alloc (Obj.cells #[.int .u8 x.ctx, .int .u8 x.rate, .int .u16 x.prob, .bool x.bit] 53)) [.int .u16 o0, .int .u16 o1] 57
    rw [show (w.alloc (Obj.cells #[.int .u8 x.ctx, .int .u8 x.rate, .int .u16 x.prob, .bool x.bit] 53)).heap.size = w.heap.size + 1 by simp] at hbo0
    have hbo : Blk (w1.alloc (Obj.cells #[.slice a1 99 cap1] 24)) (w.heap.size + 1) [.int .u16 o0, .int .u16 o1] 57 := (hbo0.step hb1).alloc _
    clear hbo0
    have HM0 := Lib.hid fun (W : World) (hb : Below (w1.alloc (Obj.cells #[.slice a1 99 cap1] 24)).heap.size (w1.alloc (Obj.cells #[.slice a1 99 cap1] 24)) W) => (HM1.out _ ((Below.refl _ _).alloc (Nat.le_refl _) _)).step hb
    generalize w1.alloc (Obj.cells #[.slice a1 99 cap1] 24) = W0 at *
    have hbl := hbx.lt
    have hrd0 := HRd.out W0 hB0
    have c0 := hbx.cell 0
    have c1 := hbx.cell 1
    have c2 := hbx.cell 2
    have c3 := hbx.cell 3
    simp only [Lsn.cells, List.getElem?_cons_zero, List.getElem?_cons_succ] at c0 c1 c2 c3
    have hcs : Cells W0 [(⟨w.heap.size, 0, none⟩, .int .u8 x.ctx), (⟨w.heap.size, 1, none⟩, .int .u8 x.rate), (⟨w.heap.size, 2, none⟩, .int .u16 x.prob), (⟨w.heap.size, 3, none⟩, .bool x.bit)] := ⟨c0, c1, c2, c3, trivial⟩
    refine wp_region_fresh 11 2 _ _ (Keeps W0 [(⟨w.heap.size, 0, none⟩, .int .u8 x.ctx), (⟨w.heap.size, 1, none⟩, .int .u8 x.rate), (⟨w.heap.size, 2, none⟩, .int .u16 x.prob), (⟨w.heap.size, 3, none⟩, .bool x.bit)]) (S11.both xs x W0.heap.size) (by kernel_rfl) (List.take_append_drop 11 _).symm rfl rfl (by kernel_rfl) (Keeps.start hcs) (fun _ _ h hb => h.step hb) (S11.both_stable _ _ _) (S11.both_some _ _ _) (fun Y F hY hF => ?_)
    simp only [List.take_succ_cons, List.take_zero, List.drop_succ_cons, List.drop_zero]
    repeat
      first
        | apply wpC_skip (by rfl)
        | (apply wpC_value (by rfl) (by first | rfl | (rw [hY]; rfl))
           · intro w2 ⟨hB2, hk2⟩
             simp only [Cells] at hk2
             go_simp
             with_reducible rfl
           simp only [Act.put, List.setIfInBounds_toArray, List.set_cons_zero, List.set_cons_succ])
    intro c hc
    obtain ⟨g0, q0⟩ : ∃ g, c 0 = .slice (some ⟨g, 0, none⟩) 0 0 := hc 0 (by simp [S11.both])
    obtain ⟨a2, p2, q2⟩ : ∃ a cp, c 2 = .slice a xs.length cp := hc 2 (by simp [S11.both])
    obtain ⟨g4, q4⟩ : ∃ g, c 4 = .slice (some ⟨g, 0, none⟩) 1 1 := hc 4 (by simp [S11.both])
    obtain ⟨a5, p5, q5⟩ : ∃ a cp, c 5 = .slice a (xs.length + 1) cp := hc 5 (by simp [S11.both])
    obtain ⟨a6, p6, q6⟩ : ∃ a cp, c 6 = .tuple #[.agg #[.slice a 99 cp], .bool true] := hc 6 (by simp [S11.both])
    obtain ⟨b10, q10⟩ : ∃ b, c 10 = .pointer (some ⟨b, 0, none⟩) := hc 10 (by simp [S11.both])
    clear hc
    -- an empty slice
    refine wpN_value (by rfl) (by rfl) (by first | rfl | (rw [hY]; rfl)) (fun _ _ h hb => h.step hb) (S11.both_stable _ _ _) (fun w2 hS2 _ => ⟨.slice (some ⟨w2.heap.size, 0, none⟩) 0 0, w2.alloc (.cells #[] 53), ?_, ⟨_, rfl⟩, ⟨_, rfl, hS2.1.size, Blk.new w2 [] _⟩, (Below.refl _ _).alloc (Nat.le_refl _) _⟩) ?_
    · go_simp
    simp only [Act.put, List.setIfInBounds_toArray, List.set_cons_zero, List.set_cons_succ]
    rw [q0]
    repeat
      first
        | apply wpN_skip (by rfl)
        | (apply wpN_pure (by rfl) (by rfl) (by first | rfl | (rw [hY]; rfl))
           · intro w2
             go_simp
             with_reducible rfl
           simp only [Act.put, List.setIfInBounds_toArray, List.set_cons_zero, List.set_cons_succ])
    -- the lessons in it
    refine wpN_append (.tmp 28) (.tmp 29) 51 53 4 6 _ W0.heap.size elems_lsn (.slice (some ⟨g0, 0, none⟩) 0 0) 0 [] a xs.length cap (Lsns xs) (by rfl) (by rfl) (by first | rfl | (rw [hY]; rfl)) (by rfl) (by rfl) (by rfl) (by rw [Lsns_length]; omega) (Lsns_one xs) (by simp only [maxLen]; omega) (by omega) (fun w2 hS2 hD => ?_) ?_
    · obtain ⟨⟨g, e, hg, hblk⟩, -⟩ := hD
      obtain rfl : g = g0 := by rw [q0] at e; simpa using e.symm
      refine ⟨⟨rfl, .inr ⟨g, 0, #[], rfl, hg, hblk, Nat.le_refl _, Nat.zero_le _, rfl, rfl⟩⟩, hrd0.step hS2.1, hS2.1.size, fun a' cap' w' hown hgr => ?_⟩
      rw [show 0 + xs.length = xs.length from Nat.zero_add _] at hown ⊢
      refine ⟨⟨_, _, rfl⟩, hown, Keeps.of hcs (grown_keeps hS2.1 hgr (fun k e => by simp [Value.ownBlock] at e; omega)), ?_⟩
      intro j hj hex hlat u _ hR
      have hj4 : j = 4 ∨ j = 10 := by
        simp [S11.both] at hj hex hlat
        omega
      rcases hj4 with rfl | rfl
      · obtain ⟨g', e', h2⟩ := hR
        refine ⟨g', e', h2.grown hgr fun e2 => ?_⟩
        simp only [Value.ownBlock, Option.some.injEq] at e2
        subst e2
        exact (Blk.ne_nil h2 hblk (by simp [Lsn.cells])).elim
      · obtain ⟨g', e', hg', h2⟩ := hR
        refine ⟨g', e', hg', h2.grown hgr fun e2 => ?_⟩
        simp only [Value.ownBlock, Option.some.injEq] at e2
        subst e2
        exact (Blk.ne_nil h2 hblk (by simp)).elim
    simp only [Act.put, List.setIfInBounds_toArray, List.set_cons_zero, List.set_cons_succ]
    rw [show (0 + 1 + 1) = 2 from rfl, q2]
    repeat
      first
        | apply wpN_skip (by rfl)
        | (apply wpN_pure (by rfl) (by rfl) (by first | rfl | (rw [hY]; rfl))
           · intro w2
             go_simp
             with_reducible rfl
           simp only [Act.put, List.setIfInBounds_toArray, List.set_cons_zero, List.set_cons_succ])
    -- the lesson that is added
    refine wpN_value (by rfl) (by rfl) (by first | rfl | (rw [hY]; rfl)) (fun _ _ h hb => h.step hb) (S11.both_stable _ _ _) (fun w2 hS2 _ => ⟨.slice (some ⟨w2.heap.size, 0, none⟩) 1 1, w2.alloc (.cells x.cells.toArray 53), ?_, ⟨_, rfl⟩, ⟨_, rfl, Blk.new w2 x.cells _⟩, (Below.refl _ _).alloc (Nat.le_refl _) _⟩) ?_
    · go_simp
      rfl
    simp only [Act.put, List.setIfInBounds_toArray, List.set_cons_zero, List.set_cons_succ]
    rw [show 2 + 1 + 1 = 4 from rfl, q4]
    refine wpN_append (.tmp 30) (.tmp 32) 51 53 4 6 _ W0.heap.size elems_lsn (.slice a2 xs.length p2) xs.length (Lsns xs) (some ⟨g4, 0, none⟩) 1 1 x.cells (by rfl) (by rfl) (by first | rfl | (rw [hY]; rfl)) (by rfl) (by rfl) (by rfl) rfl (by simpa [Lsns] using Lsns_one [x]) (by simp only [maxLen]; omega) (by omega) (fun w2 hS2 hD => ?_) ?_
    · obtain ⟨hown2, ⟨g, e, hblk⟩, -⟩ := hD
      obtain rfl : g = g4 := by rw [q4] at e; simpa using e.symm
      rw [q2] at hown2
      refine ⟨hown2, (fun _ => ⟨g, 0, rfl, hblk.cells⟩), hS2.1.size, fun a' cap' w' hown hgr => ?_⟩
      refine ⟨⟨_, _, rfl⟩, ⟨_, _, rfl, ?_⟩, Keeps.of hcs (grown_keeps hS2.1 hgr (fun k e => (owns_block hown2 e).1)), ?_⟩
      · have := Rd.of_owns hown
        rw [Lsns_append]
        simpa [Lsns] using this
      intro j hj hex hlat u _ hR
      have hj4 : j = 10 := by
        simp [S11.both] at hj hex hlat
        omega
      subst hj4
      obtain ⟨g', e', hg', h2⟩ := hR
      refine ⟨g', e', hg', h2.grown hgr fun e2 => ?_⟩
      obtain ⟨_, cur, hcur⟩ := owns_block hown2 e2.symm
      exact (h2.ne_type hcur (by decide)).elim
    simp only [Act.put, List.setIfInBounds_toArray, List.set_cons_zero, List.set_cons_succ]
    rw [show 4 + 1 = 5 from rfl, q5]
    -- behind it
    apply wpN_call (by rfl) (by rfl) (by first | rfl | (rw [hY]; rfl)) (fun _ _ h hb => h.step hb) (S11.both_stable _ _ _)
    · intro w2 ⟨hB2, hk2⟩ _
      simp only [Cells] at hk2
      go_simp
      with_reducible exact ⟨rfl, rfl⟩
    · intro w2 hS2 hD
      obtain ⟨⟨a', cap', e, hrd2⟩, -⟩ := hD
      rw [q5] at e
      simp only [Value.slice.injEq, true_and] at e
      obtain ⟨rfl, rfl⟩ := e
      refine (learnedM11_any (xs ++ [x]) (.slice a5 (xs.length + 1) p5) w2 ⟨a5, p5, by simp, hrd2⟩ (by simp; omega) (fun y hy => ?_)).mono ?_
      · rcases List.mem_append.1 hy with h | h
        · exact hok y h
        · rw [List.mem_singleton.1 h]; exact hx
      · rintro e w3 ⟨a3, cap3, rfl, hM3, hb3⟩
        exact ⟨_, rfl, ⟨a3, cap3, rfl⟩, ⟨_, rfl, hM3⟩, hb3⟩
    simp only [Act.put, List.setIfInBounds_toArray, List.set_cons_zero, List.set_cons_succ]
    rw [show 5 + 1 = 6 from rfl, q6]
    repeat
      first
        | apply wpN_skip (by rfl)
        | (apply wpN_pure (by rfl) (by rfl) (by first | rfl | (rw [hY]; rfl))
           · intro w2
             go_simp
             with_reducible rfl
           simp only [Act.put, List.setIfInBounds_toArray, List.set_cons_zero, List.set_cons_succ])
    refine wpN_value (by rfl) (by rfl) (by first | rfl | (rw [hY]; rfl)) (fun _ _ h hb => h.step hb) (S11.both_stable _ _ _) (fun w2 hS2 _ => ⟨.pointer (some ⟨w2.heap.size, 0, none⟩), w2.alloc (.cells #[.slice none 0 0] 24), ?_, ⟨_, rfl⟩, ⟨_, rfl, hS2.1.size, Blk.new w2 _ _⟩, (Below.refl _ _).alloc (Nat.le_refl _) _⟩) ?_
    · go_simp
    simp only [Act.put, List.setIfInBounds_toArray, List.set_cons_zero, List.set_cons_succ]
    rw [show 6 + 1 + 1 + 1 + 1 = 10 from rfl, q10]
    refine hF.out c _ (fun K w3 hK hS3 hR3 => ?_)
    obtain ⟨⟨V3, e4, hM3⟩, ⟨b3, e5, hb3, hv3⟩, -⟩ := hR3
    obtain rfl : b3 = b10 := by rw [q10] at e5; simpa using e5.symm
    obtain rfl : V3 = .agg #[.slice a6 99 p6] := by rw [q6] at e4; simpa using e4.symm
    clear hF hY e4 e5 q0 q2 q4 q5 q6 q10
    simp only [List.drop_succ_cons, List.drop_zero]
    have hB3 : Below w.heap.size w w3 := below_trans hB0 hS3.1
    have hv13 := hv0.step hS3.1
    have hbx3 := hbx.step hS3.1
    have hbo3 := hbo.step hS3.1
    have HM03 := Lib.hid fun (W : World) (hb : Below w3.heap.size w3 W) => HM0.out W (hS3.1.trans (hb.mono hS3.1.size))
    have d0 := hv3.cell 0
    have d1 := hv3.free 0
    have d2 := hv3.lt
    have d3 := hv13.lt
    have d4 := hv0.lt
    have d5 := hbx3.lt
    simp only [List.getElem?_cons_zero] at d0
    clear c0 c1 c2 c3 hcs hrd0
    go_wp2_with fail
    refine OnlyK.mk (hK.out _ _ ?_)
    have hv4 := hv3.set 0 (.slice a6 99 p6)
    have hw4 := hv13.other b3 0 (.slice a6 99 p6) (by omega)
    have hbx4 := hbx3.other b3 0 (.slice a6 99 p6) (by omega)
    have hbo4 := hbo3.other b3 0 (.slice a6 99 p6) (by omega)
    have hM1 := (HM03.out w3 (Below.refl _ _)).setOther (i := 0) (v := .slice a6 99 p6) hv3
    have hM2 := hM3.setOther (i := 0) (v := .slice a6 99 p6) hv3
    have hB4 : Below w.heap.size w (w3.setCell ⟨b3, 0, none⟩ (.slice a6 99 p6)) := hB3.setCell (by simp; omega) _
    simp only [List.set_cons_zero] at hv4
    clear d0 d1 d2 d3 d4 d5 hv3 hv13 hbx3 hbo3 hM3 hB3 hK hS3 HM03 HM0 hv0 hbx hbo hB0 HM1 HL HRd hbl
    generalize w3.setCell ⟨b3, 0, none⟩ (.slice a6 99 p6) = w4 at *
    have hf1 := S11.fit_lrn xs hok
    have hf2 : S11.fit (S11.lrn (xs ++ [x])) := by rw [S11.lrn_snoc]; exact S11.fit_tell hf1 x hx
    obtain ⟨x1, x2, x3, x4, x5, x6⟩ := id hx
    have hu1 := S11.fit_usable hf1 (o0 % 3) o1 (by omega) (by omega)
    have hu2 := S11.fit_usable hf2 (o0 % 3) o1 (by omega) (by omega)
    have HR1 := Lib.hid fun W (hb : Below w4.heap.size w4 W) => refineM11_any _ _ (o0 % 3) (S11.ch o1) W (hM1.step hb)
    have HR2 := Lib.hid fun W (hb : Below w4.heap.size w4 W) => refineM11_any _ _ (o0 % 3) (S11.ch o1) W (hM2.step hb)
    have hkp := S11.tell_keeps hf1 x hx (o0 % 3) (S11.ch o1) (by omega)
    rw [← S11.lrn_snoc] at hkp
    have r1 : S11.refineR (S11.lrn xs) (o0 % 3) (S11.ch o1) = S11.refine (S11.lrn xs) (o0 % 3).toNat (S11.ch o1) := by unfold S11.refineR; rw [if_pos hu1]
    have r2 : S11.refineR (S11.lrn (xs ++ [x])) (o0 % 3) (S11.ch o1) = S11.refine (S11.lrn (xs ++ [x])) (o0 % 3).toNat (S11.ch o1) := by unfold S11.refineR; rw [if_pos hu2]
    rw [hu1, r1] at HR1
    rw [hu2, r2] at HR2
    generalize S11.refine (S11.lrn xs) (o0 % 3).toNat (S11.ch o1) = y1 at *
    generalize S11.refine (S11.lrn (xs ++ [x])) (o0 % 3).toNat (S11.ch o1) = y2 at *
    clear hf1 hf2 hu1 hu2 r1 r2 hM1 hM2
    have Hkp := Lib.hid hkp
    clear hkp
    have s1 := S06.stretch_bounds (S11.ch o1)
    have s2 := S06.stretch_bounds (S11.ch x.prob)
    have e1 : IntKind.i64.wrap (o0.tmod 3) = o0 % 3 := by rw [Int.tmod_eq_emod_of_nonneg po0]; exact IntWalk.i64_in _ (by omega)
    have e2 : IntKind.i64.wrap (S06.stretch (S11.ch o1) - S06.stretch (S11.ch x.prob)) = S06.stretch (S11.ch o1) - S06.stretch (S11.ch x.prob) := IntWalk.i64_in _ (by omega)
    have HS1 := Lib.hid fun W => stretch06_any (S11.ch o1) W
    have HS2 := Lib.hid fun W => stretch06_any (S11.ch x.prob) W
    generalize S06.stretch (S11.ch o1) = t1 at *
    generalize S06.stretch (S11.ch x.prob) = t2 at *
    have c0 := hbx4.cell 0
    have c2 := hbx4.cell 2
    have b0 := hbo4.cell 0
    have b1 := hbo4.cell 1
    have m0 := hw4.cell 0
    have n0 := hv4.cell 0
    simp only [Lsn.cells, List.getElem?_cons_zero, List.getElem?_cons_succ] at c0 c2 b0 b1 m0 n0
    have hcs : Cells w4 [(⟨w1.heap.size, 0, none⟩, .slice a1 99 cap1), (⟨b3, 0, none⟩, .slice a6 99 p6), (⟨w.heap.size, 0, none⟩, .int .u8 x.ctx), (⟨w.heap.size, 2, none⟩, .int .u16 x.prob), (⟨w.heap.size + 1, 0, none⟩, .int .u16 o0), (⟨w.heap.size + 1, 1, none⟩, .int .u16 o1)] := ⟨m0, n0, c0, c2, b0, b1, trivial⟩
    clear c0 c2 b0 b1 m0 n0 hv4 hw4 hbx4 hbo4
    go_wp2
    refine wp_region_all 9 (Keeps w4 [(⟨w1.heap.size, 0, none⟩, .slice a1 99 cap1), (⟨b3, 0, none⟩, .slice a6 99 p6), (⟨w.heap.size, 0, none⟩, .int .u8 x.ctx), (⟨w.heap.size, 2, none⟩, .int .u16 x.prob), (⟨w.heap.size + 1, 0, none⟩, .int .u16 o0), (⟨w.heap.size + 1, 1, none⟩, .int .u16 o1)]) (by kernel_rfl) rfl (by kernel_rfl) (Keeps.start hcs) (fun Y F hY hF => ?_)
    repeat
      apply wpSteady_value (by first | rfl | (rw [hY]; rfl))
      · intro w2 ⟨hB2, hk2⟩
        simp only [Cells] at hk2
        go_simp
        with_reducible rfl
      simp only [Act.put, List.setIfInBounds_toArray, List.set_cons_zero, List.set_cons_succ]
    apply wpSteady_call (by first | rfl | (rw [hY]; rfl))
    · intro w2 ⟨hB2, hk2⟩
      simp only [Cells] at hk2
      go_simp
      with_reducible exact ⟨rfl, rfl⟩
    · intro w2 hS2
      have hk2 := hS2.2
      simp only [Cells] at hk2
      refine (lawChance11_any o1 _ po2 po3).mono ?_
      rintro e w3 ⟨rfl, hb3⟩
      exact ⟨rfl, hS2.step hb3⟩
    simp only [Act.put, List.setIfInBounds_toArray, List.set_cons_zero, List.set_cons_succ]
    repeat
      apply wpSteady_value (by first | rfl | (rw [hY]; rfl))
      · intro w2 ⟨hB2, hk2⟩
        simp only [Cells] at hk2
        go_simp
        with_reducible rfl
      simp only [Act.put, List.setIfInBounds_toArray, List.set_cons_zero, List.set_cons_succ]
    refine hF.out _ (fun w5 hS5 => ?_)
    clear hF hY
    have Hb5 := Lib.hid hS5.1
    have hcs5 := hS5.2
    clear hS5 hcs
    go_wp2
    refine wp_region_all 8 (Keeps w5 [(⟨w1.heap.size, 0, none⟩, .slice a1 99 cap1), (⟨b3, 0, none⟩, .slice a6 99 p6), (⟨w.heap.size, 0, none⟩, .int .u8 x.ctx), (⟨w.heap.size, 2, none⟩, .int .u16 x.prob), (⟨w.heap.size + 1, 0, none⟩, .int .u16 o0), (⟨w.heap.size + 1, 1, none⟩, .int .u16 o1)]) (by kernel_rfl) rfl (by kernel_rfl) (Keeps.start hcs5) (fun Y F hY hF => ?_)
    repeat
      apply wpSteady_value (by first | rfl | (rw [hY]; rfl))
      · intro w2 ⟨hB2, hk2⟩
        simp only [Cells] at hk2
        go_simp
        with_reducible rfl
      simp only [Act.put, List.setIfInBounds_toArray, List.set_cons_zero, List.set_cons_succ]
    apply wpSteady_call (by first | rfl | (rw [hY]; rfl))
    · intro w2 ⟨hB2, hk2⟩
      simp only [Cells] at hk2
      go_simp
      with_reducible exact ⟨rfl, rfl⟩
    · intro w2 hS2
      have hk2 := hS2.2
      simp only [Cells] at hk2
      refine (HS1.out _).mono ?_
      rintro e w3 ⟨rfl, hb3⟩
      exact ⟨rfl, hS2.step hb3⟩
    simp only [Act.put, List.setIfInBounds_toArray, List.set_cons_zero, List.set_cons_succ]
    repeat
      apply wpSteady_value (by first | rfl | (rw [hY]; rfl))
      · intro w2 ⟨hB2, hk2⟩
        simp only [Cells] at hk2
        go_simp
        with_reducible rfl
      simp only [Act.put, List.setIfInBounds_toArray, List.set_cons_zero, List.set_cons_succ]
    apply wpSteady_call (by first | rfl | (rw [hY]; rfl))
    · intro w2 ⟨hB2, hk2⟩
      simp only [Cells] at hk2
      go_simp
      with_reducible exact ⟨rfl, rfl⟩
    · intro w2 hS2
      have hk2 := hS2.2
      simp only [Cells] at hk2
      refine (lawChance11_any x.prob _ x5 x6).mono ?_
      rintro e w3 ⟨rfl, hb3⟩
      exact ⟨rfl, hS2.step hb3⟩
    simp only [Act.put, List.setIfInBounds_toArray, List.set_cons_zero, List.set_cons_succ]
    repeat
      apply wpSteady_value (by first | rfl | (rw [hY]; rfl))
      · intro w2 ⟨hB2, hk2⟩
        simp only [Cells] at hk2
        go_simp
        with_reducible rfl
      simp only [Act.put, List.setIfInBounds_toArray, List.set_cons_zero, List.set_cons_succ]
    apply wpSteady_call (by first | rfl | (rw [hY]; rfl))
    · intro w2 ⟨hB2, hk2⟩
      simp only [Cells] at hk2
      go_simp
      with_reducible exact ⟨rfl, rfl⟩
    · intro w2 hS2
      have hk2 := hS2.2
      simp only [Cells] at hk2
      refine (HS2.out _).mono ?_
      rintro e w3 ⟨rfl, hb3⟩
      exact ⟨rfl, hS2.step hb3⟩
    simp only [Act.put, List.setIfInBounds_toArray, List.set_cons_zero, List.set_cons_succ]
    repeat
      apply wpSteady_value (by first | rfl | (rw [hY]; rfl))
      · intro w2 ⟨hB2, hk2⟩
        simp only [Cells] at hk2
        go_simp
        with_reducible rfl
      simp only [Act.put, List.setIfInBounds_toArray, List.set_cons_zero, List.set_cons_succ]
    refine hF.out _ (fun w6 hS6 => ?_)
    clear hF hY
    have Hb6 := Lib.hid (Hb5.out.trans (hS6.1.mono Hb5.out.size))
    have hB6 : Below w.heap.size w w6 := below_trans hB4 Hb6.out
    have hcs6 := hS6.2
    clear hS6 hcs5
    obtain ⟨m6, n6, cx6, _⟩ := id hcs6
    by_cases hctx : o0 % 3 = x.ctx % 3
    · by_cases h1 : t1 - t2 < 384
      · by_cases h2 : -384 < t1 - t2
        · clear Hkp
          go_wp2_with fail
          refine (awake11_any _).mono ?_
          rintro e w7 ⟨rfl, hb7⟩
          have hB7 : Below w.heap.size w w7 := below_trans (by go_grown) hb7
          have z7 : w.heap.size ≤ w7.heap.size := hB7.size
          go_wp2
          go_returns
          exact ⟨rfl, hB7⟩
        · obtain rfl : y2 = y1 := Hkp.out (by omega)
          rw [hctx] at HR1 HR2
          go_wp2_with fail
          refine (HR1.out _ Hb6.out).mono ?_
          rintro e w7 ⟨rfl, hb7⟩
          have hB7 : Below w.heap.size w w7 := below_trans (by go_grown) hb7
          have z7 : w.heap.size ≤ w7.heap.size := hB7.size
          have n7 := (hcs6.step hb7).2.1
          go_wp2_with fail
          refine (HR2.out _ (Hb6.out.trans (hb7.mono Hb6.out.size))).mono ?_
          rintro e w8 ⟨rfl, hb8⟩
          have hB8 : Below w.heap.size w w8 := below_trans hB7 hb8
          go_wp2_with fail
          refine (awake11_any _).mono ?_
          rintro e w9 ⟨rfl, hb9⟩
          have hB9 : Below w.heap.size w w9 := below_trans (by go_grown) hb9
          have z9 : w.heap.size ≤ w9.heap.size := hB9.size
          go_wp2
          go_returns
          exact ⟨rfl, hB9⟩
      · obtain rfl : y2 = y1 := Hkp.out (by omega)
        rw [hctx] at HR1 HR2
        go_wp2_with fail
        refine (HR1.out _ Hb6.out).mono ?_
        rintro e w7 ⟨rfl, hb7⟩
        have hB7 : Below w.heap.size w w7 := below_trans (by go_grown) hb7
        have z7 : w.heap.size ≤ w7.heap.size := hB7.size
        have n7 := (hcs6.step hb7).2.1
        go_wp2_with fail
        refine (HR2.out _ (Hb6.out.trans (hb7.mono Hb6.out.size))).mono ?_
        rintro e w8 ⟨rfl, hb8⟩
        have hB8 : Below w.heap.size w w8 := below_trans hB7 hb8
        go_wp2_with fail
        refine (awake11_any _).mono ?_
        rintro e w9 ⟨rfl, hb9⟩
        have hB9 : Below w.heap.size w w9 := below_trans (by go_grown) hb9
        have z9 : w.heap.size ≤ w9.heap.size := hB9.size
        go_wp2
        go_returns
        exact ⟨rfl, hB9⟩
    · obtain rfl : y2 = y1 := Hkp.out (by omega)
      go_wp2_with fail
      refine (HR1.out _ Hb6.out).mono ?_
      rintro e w7 ⟨rfl, hb7⟩
      have hB7 : Below w.heap.size w w7 := below_trans (by go_grown) hb7
      have z7 : w.heap.size ≤ w7.heap.size := hB7.size
      have n7 := (hcs6.step hb7).2.1
      go_wp2_with fail
      refine (HR2.out _ (Hb6.out.trans (hb7.mono Hb6.out.size))).mono ?_
      rintro e w8 ⟨rfl, hb8⟩
      have hB8 : Below w.heap.size w w8 := below_trans hB7 hb8
      go_wp2_with fail
      refine (awake11_any _).mono ?_
      rintro e w9 ⟨rfl, hb9⟩
      have hB9 : Below w.heap.size w w9 := below_trans (by go_grown) hb9
      have z9 : w.heap.size ≤ w9.heap.size := hB9.size
      go_wp2
      go_returns
      exact ⟨rfl, hB9⟩
end Go.Proofs.Ytojdbhcgppcgkaa
