/- MixerKeeps (law 13). No condition. -/
import Derived.Test.YtkpkkbpfcchgaaaW13y
set_option linter.unusedSimpArgs false
set_option linter.unusedVariables false
set_option linter.unusedSectionVars false
namespace Go.Proofs.Ytkpkkbpfcchgaaa
open Go.RowKit

set_option maxHeartbeats 4000000 in
theorem mixerKeeps_any (xs : List Lsn) (a : Option Addr) (cap : Nat) (x : Lsn) (y0 y1 y2 : Int) (w : World) (hlen : xs.length ≤ 9223372036854775807) (hrd : Rd w a (Lsns xs)) (hok : ∀ x ∈ xs, x.ok) (hx : x.ok) (hy : (Lsn.mk 0 0 false y0 y1 y2).ok) :
    Calls Try.prog 8 #[.slice a xs.length cap, x.val, .agg #[.int .i16 y0, .int .i16 y1, .int .i16 y2]] w fun e w' => e = .returned (.bool true) ∧ Below w.heap.size w w' := by
  by_cases hlong : 60 < xs.length
  · have hl3 : (60 : Int) < (xs.length : Int) := by omega
    go_enter Try.func8, Try.ntmps8
    go_wp2_with fail
    refine (awake13_any _).mono ?_
    rintro e w1 ⟨rfl, hb1⟩
    have hB1 : Below w.heap.size w w1 := below_trans (by go_grown) hb1
    have z1 : w.heap.size ≤ w1.heap.size := hB1.size
    go_wp2
    go_returns
    exact ⟨rfl, hB1⟩
  · have hl3 : ¬ (60 : Int) < (xs.length : Int) := by omega
    have hrdb : ∀ W, Below w.heap.size w W → Rd W a (Lsns xs) := fun W hb => Rd.below hrd hb (fun b o e hne => by
      obtain ⟨b', o', e', hc⟩ := hrd hne
      rw [e] at e'; cases e'
      cases hxs : Lsns xs with
      | nil => exact absurd hxs hne
      | cons v vs => exact block_lt_of_cell (hc 0 v (by rw [hxs]; rfl)))
    have HL := Lib.hid fun W (hb : Below w.heap.size w W) => learned13_any false xs a cap W hlen (hrdb W hb) hok
    have HRd := Lib.hid hrdb
    clear hrdb
    simp only [Lsn.val]
    go_enter Try.func8, Try.ntmps8
    go_wp2_with fail
    refine (HL.out _ (by go_grown)).mono ?_
    rintro e w1 ⟨a1, cap1, rfl, hM1, hb1⟩
    have HM1 := Lib.hid fun (W : World) (hb : Below w1.heap.size w1 W) => hM1.step hb
    clear hM1
    have hB1 : Below w.heap.size w w1 := below_trans (by go_grown) hb1
    have z1 : w.heap.size < w1.heap.size := by have := hb1.size; simp at this; omega
    have Hy1 := Lib.hid (show Blk w1 (w.heap.size + 1) [.int .i16 y0, .int .i16 y1, .int .i16 y2] 48 by
      have := (Blk.new (w.alloc (Obj.cells #[.int .u8 x.ctx, .int .u8 x.rate, .bool x.bit, .int .i16 x.i0, .int .i16 x.i1, .int .i16 x.i2] 50)) [.int .i16 y0, .int .i16 y1, .int .i16 y2] 48).step hb1
      simpa using this)
    go_wp2
    have hB0 : Below w.heap.size w (w1.alloc (Obj.cells #[.int .i64 3, .slice a1 2 cap1] 24)) := by go_grown
    have hv0 : Blk (w1.alloc (Obj.cells #[.int .i64 3, .slice a1 2 cap1] 24)) w1.heap.size [.int .i64 3, .slice a1 2 cap1] 24 := Blk.new w1 _ _
    have hbx : Blk (w1.alloc (Obj.cells #[.int .i64 3, .slice a1 2 cap1] 24)) w.heap.size x.cells 50 := (((Blk.new w _ _).alloc _).step hb1).alloc _
    have HM0 := Lib.hid fun (W : World) (hb : Below (w1.alloc (Obj.cells #[.int .i64 3, .slice a1 2 cap1] 24)).heap.size (w1.alloc (Obj.cells #[.int .i64 3, .slice a1 2 cap1] 24)) W) => (HM1.out _ ((Below.refl _ _).alloc (Nat.le_refl _) _)).step hb
    have Hy0 := Lib.hid (Hy1.out.alloc (Obj.cells #[.int .i64 3, .slice a1 2 cap1] 24))
    generalize w1.alloc (Obj.cells #[.int .i64 3, .slice a1 2 cap1] 24) = W0 at *
    have hbl := hbx.lt
    have hrd0 := HRd.out W0 hB0
    have hcs : Cells W0 [(⟨w.heap.size, 0, none⟩, .int .u8 x.ctx), (⟨w.heap.size, 1, none⟩, .int .u8 x.rate), (⟨w.heap.size, 2, none⟩, .bool x.bit), (⟨w.heap.size, 3, none⟩, .int .i16 x.i0), (⟨w.heap.size, 4, none⟩, .int .i16 x.i1), (⟨w.heap.size, 5, none⟩, .int .i16 x.i2)] := ⟨hbx.cell 0, hbx.cell 1, hbx.cell 2, hbx.cell 3, hbx.cell 4, hbx.cell 5, trivial⟩
    refine wp_region_fresh 11 2 _ _ (Keeps W0 [(⟨w.heap.size, 0, none⟩, .int .u8 x.ctx), (⟨w.heap.size, 1, none⟩, .int .u8 x.rate), (⟨w.heap.size, 2, none⟩, .bool x.bit), (⟨w.heap.size, 3, none⟩, .int .i16 x.i0), (⟨w.heap.size, 4, none⟩, .int .i16 x.i1), (⟨w.heap.size, 5, none⟩, .int .i16 x.i2)]) (S13.both xs x W0.heap.size) (by kernel_rfl) (List.take_append_drop 11 _).symm rfl rfl (by kernel_rfl) (Keeps.start hcs) (fun _ _ h hb => h.step hb) (S13.both_stable _ _ _) (S13.both_some _ _ _) (fun Y F hY hF => ?_)
    simp only [List.take_succ_cons, List.take_zero, List.drop_succ_cons, List.drop_zero]
    repeat
      first
        | apply wpC_skip (by rfl)
        | (apply wpC_value (by rfl) (by first | rfl | (rw [hY]; rfl))
           · intro w2 ⟨hB2, hk2⟩
             simp only [Cells] at hk2
             go_simp
             with_reducible rfl
           simp only [Act.put, List.setIfInBounds_toArray, List.set_cons_zero, List.set_cons_succ])
    intro c hc
    obtain ⟨g0, q0⟩ : ∃ g, c 0 = .slice (some ⟨g, 0, none⟩) 0 0 := hc 0 (by simp [S13.both])
    obtain ⟨a2, p2, q2⟩ : ∃ a cp, c 2 = .slice a xs.length cp := hc 2 (by simp [S13.both])
    obtain ⟨g4, q4⟩ : ∃ g, c 4 = .slice (some ⟨g, 0, none⟩) 1 1 := hc 4 (by simp [S13.both])
    obtain ⟨a5, p5, q5⟩ : ∃ a cp, c 5 = .slice a (xs.length + 1) cp := hc 5 (by simp [S13.both])
    obtain ⟨a6, p6, q6⟩ : ∃ a cp, c 6 = .tuple #[.agg #[.int .i64 3, .slice a 2 cp], .bool true] := hc 6 (by simp [S13.both])
    obtain ⟨b10, q10⟩ : ∃ b, c 10 = .pointer (some ⟨b, 0, none⟩) := hc 10 (by simp [S13.both])
    clear hc
    -- an empty slice
    refine wpN_value (by rfl) (by rfl) (by first | rfl | (rw [hY]; rfl)) (fun _ _ h hb => h.step hb) (S13.both_stable _ _ _) (fun w2 hS2 _ => ⟨.slice (some ⟨w2.heap.size, 0, none⟩) 0 0, w2.alloc (.cells #[] 50), ?_, ⟨_, rfl⟩, ⟨_, rfl, hS2.1.size, Blk.new w2 [] _⟩, (Below.refl _ _).alloc (Nat.le_refl _) _⟩) ?_
    · go_simp
    simp only [Act.put, List.setIfInBounds_toArray, List.set_cons_zero, List.set_cons_succ]
    rw [q0]
    repeat
      first
        | apply wpN_skip (by rfl)
        | (apply wpN_pure (by rfl) (by rfl) (by first | rfl | (rw [hY]; rfl))
           · intro w2
             go_simp
             with_reducible rfl
           simp only [Act.put, List.setIfInBounds_toArray, List.set_cons_zero, List.set_cons_succ])
    -- the lessons in it
    refine wpN_append (.tmp 26) (.tmp 27) 52 50 6 10 _ W0.heap.size elems_lsn (.slice (some ⟨g0, 0, none⟩) 0 0) 0 [] a xs.length cap (Lsns xs) (by rfl) (by rfl) (by first | rfl | (rw [hY]; rfl)) (by rfl) (by rfl) (by rfl) (by rw [Lsns_length]; omega) (Lsns_one xs) (by simp only [maxLen]; omega) (by omega) (fun w2 hS2 hD => ?_) ?_
    · obtain ⟨⟨g, e, hg, hblk⟩, -⟩ := hD
      obtain rfl : g = g0 := by rw [q0] at e; simpa using e.symm
      refine ⟨⟨rfl, .inr ⟨g, 0, #[], rfl, hg, hblk, Nat.le_refl _, Nat.zero_le _, rfl, rfl⟩⟩, hrd0.step hS2.1, hS2.1.size, fun a' cap' w' hown hgr => ?_⟩
      rw [show 0 + xs.length = xs.length from Nat.zero_add _] at hown ⊢
      refine ⟨⟨_, _, rfl⟩, hown, Keeps.of hcs (grown_keeps hS2.1 hgr (fun k e => by simp [Value.ownBlock] at e; omega)), ?_⟩
      intro j hj hex hlat u _ hR
      have hj4 : j = 4 ∨ j = 10 := by
        simp [S13.both] at hj hex hlat
        omega
      rcases hj4 with rfl | rfl
      · obtain ⟨g', e', h2⟩ := hR
        refine ⟨g', e', h2.grown hgr fun e2 => ?_⟩
        simp only [Value.ownBlock, Option.some.injEq] at e2
        subst e2
        exact (Blk.ne_nil h2 hblk (by simp [Lsn.cells])).elim
      · obtain ⟨g', e', hg', h2⟩ := hR
        refine ⟨g', e', hg', h2.grown hgr fun e2 => ?_⟩
        simp only [Value.ownBlock, Option.some.injEq] at e2
        subst e2
        exact (Blk.ne_nil h2 hblk (by simp)).elim
    simp only [Act.put, List.setIfInBounds_toArray, List.set_cons_zero, List.set_cons_succ]
    rw [show (0 + 1 + 1) = 2 from rfl, q2]
    repeat
      first
        | apply wpN_skip (by rfl)
        | (apply wpN_pure (by rfl) (by rfl) (by first | rfl | (rw [hY]; rfl))
           · intro w2
             go_simp
             with_reducible rfl
           simp only [Act.put, List.setIfInBounds_toArray, List.set_cons_zero, List.set_cons_succ])
    -- the lesson that is added
    refine wpN_value (by rfl) (by rfl) (by first | rfl | (rw [hY]; rfl)) (fun _ _ h hb => h.step hb) (S13.both_stable _ _ _) (fun w2 hS2 _ => ⟨.slice (some ⟨w2.heap.size, 0, none⟩) 1 1, w2.alloc (.cells x.cells.toArray 50), ?_, ⟨_, rfl⟩, ⟨_, rfl, Blk.new w2 x.cells _⟩, (Below.refl _ _).alloc (Nat.le_refl _) _⟩) ?_
    · go_simp
      rfl
    simp only [Act.put, List.setIfInBounds_toArray, List.set_cons_zero, List.set_cons_succ]
    rw [show 2 + 1 + 1 = 4 from rfl, q4]
    refine wpN_append (.tmp 28) (.tmp 30) 52 50 6 10 _ W0.heap.size elems_lsn (.slice a2 xs.length p2) xs.length (Lsns xs) (some ⟨g4, 0, none⟩) 1 1 x.cells (by rfl) (by rfl) (by first | rfl | (rw [hY]; rfl)) (by rfl) (by rfl) (by rfl) rfl (by simpa [Lsns] using Lsns_one [x]) (by simp only [maxLen]; omega) (by omega) (fun w2 hS2 hD => ?_) ?_
    · obtain ⟨hown2, ⟨g, e, hblk⟩, -⟩ := hD
      obtain rfl : g = g4 := by rw [q4] at e; simpa using e.symm
      rw [q2] at hown2
      refine ⟨hown2, (fun _ => ⟨g, 0, rfl, hblk.cells⟩), hS2.1.size, fun a' cap' w' hown hgr => ?_⟩
      refine ⟨⟨_, _, rfl⟩, ⟨_, _, rfl, ?_⟩, Keeps.of hcs (grown_keeps hS2.1 hgr (fun k e => (owns_block hown2 e).1)), ?_⟩
      · have := Rd.of_owns hown
        rw [Lsns_append]
        simpa [Lsns] using this
      intro j hj hex hlat u _ hR
      have hj4 : j = 10 := by
        simp [S13.both] at hj hex hlat
        omega
      subst hj4
      obtain ⟨g', e', hg', h2⟩ := hR
      refine ⟨g', e', hg', h2.grown hgr fun e2 => ?_⟩
      obtain ⟨_, cur, hcur⟩ := owns_block hown2 e2.symm
      exact (h2.ne_type hcur (by decide)).elim
    simp only [Act.put, List.setIfInBounds_toArray, List.set_cons_zero, List.set_cons_succ]
    rw [show 4 + 1 = 5 from rfl, q5]
    -- behind it
    apply wpN_call (by rfl) (by rfl) (by first | rfl | (rw [hY]; rfl)) (fun _ _ h hb => h.step hb) (S13.both_stable _ _ _)
    · intro w2 ⟨hB2, hk2⟩ _
      simp only [Cells] at hk2
      go_simp
      with_reducible exact ⟨rfl, rfl⟩
    · intro w2 hS2 hD
      obtain ⟨⟨a', cap', e, hrd2⟩, -⟩ := hD
      rw [q5] at e
      simp only [Value.slice.injEq, true_and] at e
      obtain ⟨rfl, rfl⟩ := e
      have hlx := learned13_any false (xs ++ [x]) a5 p5 w2 (by simp; omega) hrd2 (fun y hy => by
        rcases List.mem_append.1 hy with h | h
        · exact hok y h
        · rw [List.mem_singleton.1 h]; exact hx)
      rw [show (xs ++ [x]).length = xs.length + 1 by simp] at hlx
      refine hlx.mono ?_
      rintro e w3 ⟨a3, cap3, rfl, hM3, hb3⟩
      exact ⟨_, rfl, ⟨a3, cap3, rfl⟩, ⟨_, rfl, hM3⟩, hb3⟩
    simp only [Act.put, List.setIfInBounds_toArray, List.set_cons_zero, List.set_cons_succ]
    rw [show 5 + 1 = 6 from rfl, q6]
    repeat
      first
        | apply wpN_skip (by rfl)
        | (apply wpN_pure (by rfl) (by rfl) (by first | rfl | (rw [hY]; rfl))
           · intro w2
             go_simp
             with_reducible rfl
           simp only [Act.put, List.setIfInBounds_toArray, List.set_cons_zero, List.set_cons_succ])
    refine wpN_value (by rfl) (by rfl) (by first | rfl | (rw [hY]; rfl)) (fun _ _ h hb => h.step hb) (S13.both_stable _ _ _) (fun w2 hS2 _ => ⟨.pointer (some ⟨w2.heap.size, 0, none⟩), w2.alloc (.cells #[.int .i64 0, .slice none 0 0] 24), ?_, ⟨_, rfl⟩, ⟨_, rfl, hS2.1.size, Blk.new w2 _ _⟩, (Below.refl _ _).alloc (Nat.le_refl _) _⟩) ?_
    · go_simp
    simp only [Act.put, List.setIfInBounds_toArray, List.set_cons_zero, List.set_cons_succ]
    rw [show 6 + 1 + 1 + 1 + 1 = 10 from rfl, q10]
    refine hF.out c _ (fun K w3 hK hS3 hR3 => ?_)
    obtain ⟨⟨V3, e4, hM3⟩, ⟨b3, e5, hb3, hv3⟩, -⟩ := hR3
    obtain rfl : b3 = b10 := by rw [q10] at e5; simpa using e5.symm
    obtain rfl : V3 = .agg #[.int .i64 3, .slice a6 2 p6] := by rw [q6] at e4; simpa using e4.symm
    clear hF hY e4 e5 q0 q2 q4 q5 q6 q10
    simp only [List.drop_succ_cons, List.drop_zero]
    have hB3 : Below w.heap.size w w3 := below_trans hB0 hS3.1
    have hv13 := hv0.step hS3.1
    have hbx3 := hbx.step hS3.1
    have HM03 := Lib.hid fun (W : World) (hb : Below w3.heap.size w3 W) => HM0.out W (hS3.1.trans (hb.mono hS3.1.size))
    have d0 := hv3.cell 0
    have d1 := hv3.cell 1
    have d2 := hv3.free 0
    have d3 := hv3.free 1
    have d4 := hv3.lt
    have d5 := hv13.lt
    have d6 := hv0.lt
    have d7 := hbx3.lt
    simp only [List.getElem?_cons_zero, List.getElem?_cons_succ] at d0 d1
    obtain ⟨w4, hw4⟩ : ∃ w4, w4 = (w3.setCell ⟨b3, 0, none⟩ (.int .i64 3)).setCell ⟨b3, 1, none⟩ (.slice a6 2 p6) := ⟨_, rfl⟩
    have Hv4 := Lib.hid (show Blk w4 b3 [.int .i64 3, .slice a6 2 p6] 24 by rw [hw4]; exact (hv3.set 0 (.int .i64 3)).set 1 (.slice a6 2 p6))
    have Hw4 := Lib.hid (show Blk w4 w1.heap.size [.int .i64 3, .slice a1 2 cap1] 24 by rw [hw4]; exact (hv13.other b3 0 _ (by omega)).other b3 1 _ (by omega))
    have Hbx4 := Lib.hid (show Blk w4 w.heap.size x.cells 50 by rw [hw4]; exact (hbx3.other b3 0 _ (by omega)).other b3 1 _ (by omega))
    have HM1' := Lib.hid (show MixOwn 3 (S13.lrn false xs) (.agg #[.int .i64 3, .slice a1 2 cap1]) w4 by rw [hw4]; exact ((HM03.out w3 (Below.refl _ _)).other hv3 (by decide) (by decide)).other (hv3.set 0 (.int .i64 3)) (by decide) (by decide))
    have HM2' := Lib.hid (show MixOwn 3 (S13.lrn false (xs ++ [x])) (.agg #[.int .i64 3, .slice a6 2 p6]) w4 by rw [hw4]; exact (hM3.other hv3 (by decide) (by decide)).other (hv3.set 0 (.int .i64 3)) (by decide) (by decide))
    have hB4 : Below w.heap.size w w4 := by rw [hw4]; exact (hB3.setCell (by simp only; omega) _).setCell (by simp only; omega) _
    have hy3 := Hy0.out.step hS3.1
    have d8 := hy3.lt
    have d9 := Hy0.out.lt
    have Hy4 := Lib.hid (show Blk w4 (w.heap.size + 1) [.int .i16 y0, .int .i16 y1, .int .i16 y2] 48 by rw [hw4]; exact (hy3.other b3 0 _ (by omega)).other b3 1 _ (by omega))
    clear hy3
    clear hcs hrd0
    go_wp2_with fail
    rw [← hw4]
    refine OnlyK.mk (hK.out _ _ ?_)
    clear hw4 d0 d1 d2 d3 d4 d5 d6 d7 hv3 hv13 hbx3 hM3 hB3 hK hS3 HM03 HM0 hv0 hbx hB0 HM1 HL HRd hbl
    have hf1 := S13.fit_lrn false xs
    have hf2 := S13.fit_lrn false (xs ++ [x])
    have hkp := S13.keeps hf1 x hx
    rw [← S13.lrn_snoc] at hkp
    have HI := Lib.hid fun W => inputs13_any ⟨0, 0, false, y0, y1, y2⟩ false W hy
    simp only at HI
    obtain ⟨x1, x2, _⟩ := id hx
    obtain ⟨os, hos⟩ : ∃ os, S13.ins false ⟨0, 0, false, y0, y1, y2⟩ = os := ⟨_, rfl⟩
    have hol : os.length = 3 := by rw [← hos]; exact S13.ins_length _ _
    have hoz : os.any S13.strong = false := by rw [← hos]; exact S13.ins_weak _ _
    rw [hos] at HI
    have HR1 := Lib.hid fun a cap W (hb : Below w4.heap.size w4 W) (hr : Rd W a (Ints os)) => mixFit13_any _ _ (1 - x.ctx % 2) os a cap W hf1 (by omega) (by omega) hol hoz (HM1'.out.mix.step hb) hr
    have HR2 := Lib.hid fun a cap W (hb : Below w4.heap.size w4 W) (hr : Rd W a (Ints os)) => mixFit13_any _ _ (1 - x.ctx % 2) os a cap W hf2 (by omega) (by omega) hol hoz (HM2'.out.mix.step hb) hr
    rw [hkp] at HR2
    generalize S13.mix ((S13.lrn false xs).getD (1 - x.ctx % 2).toNat []) os = p at *
    clear hkp hos hol hoz hf1 hf2
    have e1 : IntKind.i64.wrap (x.ctx.tmod 2) = x.ctx % 2 := by rw [Int.tmod_eq_emod_of_nonneg x1]; exact IntWalk.i64_in _ (by omega)
    have e1' : IntKind.u8.wrap (x.ctx.tmod 2) = x.ctx % 2 := by rw [Int.tmod_eq_emod_of_nonneg x1, IntKind.wrap_u8]; omega
    have e1'' : IntKind.i64.wrap (x.ctx % 2) = x.ctx % 2 := IntWalk.i64_in _ (by omega)
    have e2 : IntKind.i64.wrap (1 - x.ctx % 2) = 1 - x.ctx % 2 := IntWalk.i64_in _ (by omega)
    have e3 : x.ctx.tmod 2 = x.ctx % 2 := Int.tmod_eq_emod_of_nonneg x1
    have y40 := Hy4.out.cell 0
    have y41 := Hy4.out.cell 1
    have y42 := Hy4.out.cell 2
    simp only [List.getElem?_cons_zero, List.getElem?_cons_succ] at y40 y41 y42
    go_wp2_with fail
    refine (HI.out _).mono ?_
    rintro e w5 ⟨ai, pi, rfl, hr5, hb5⟩
    have hC5 : Below w4.heap.size w4 w5 := hb5
    have hB5 : Below w.heap.size w w5 := below_trans hB4 hC5
    have v50 := (Hw4.out.step hC5).cell 0
    have v51 := (Hw4.out.step hC5).cell 1
    have x50 := (Hbx4.out.step hC5).cell 0
    simp only [Lsn.cells, List.getElem?_cons_zero, List.getElem?_cons_succ] at v50 v51 x50
    have HRd5 := Lib.hid fun (W : World) (hb : Below w5.heap.size w5 W) => hr5.step hb
    clear hr5
    go_wp2_with fail
    refine (HR1.out _ _ _ hC5 (HRd5.out _ (Below.refl _ _))).mono ?_
    rintro e w6 ⟨rfl, hb6⟩
    have hC6 : Below w4.heap.size w4 w6 := below_trans hC5 hb6
    have hB6 : Below w.heap.size w w6 := below_trans hB4 hC6
    have v60 := (Hv4.out.step hC6).cell 0
    have v61 := (Hv4.out.step hC6).cell 1
    have x60 := (Hbx4.out.step hC6).cell 0
    simp only [Lsn.cells, List.getElem?_cons_zero, List.getElem?_cons_succ] at v60 v61 x60
    go_wp2_with fail
    refine (HR2.out _ _ _ hC6 (HRd5.out _ hb6)).mono ?_
    rintro e w7 ⟨rfl, hb7⟩
    have hB7 : Below w.heap.size w w7 := below_trans hB6 hb7
    go_wp2_with fail
    refine (awake13_any _).mono ?_
    rintro e wz ⟨rfl, hbz⟩
    have hBz : Below w.heap.size w wz := below_trans hB7 hbz
    go_wp2
    go_returns
    exact ⟨rfl, hBz⟩
end Go.Proofs.Ytkpkkbpfcchgaaa
