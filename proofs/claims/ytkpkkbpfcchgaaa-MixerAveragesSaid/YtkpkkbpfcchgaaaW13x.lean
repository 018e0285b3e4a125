/- learned (law 13): a mixer behind lessons. No condition. -/
import Derived.Test.YtkpkkbpfcchgaaaW13w
set_option linter.unusedSimpArgs false
set_option linter.unusedVariables false
set_option linter.unusedSectionVars false
namespace Go.Proofs.Ytkpkkbpfcchgaaa
open Go.RowKit

theorem own_open2 {L : List (List Int)} {V : Value} {w : World} (h : MixOwn 3 L V w) (hl : L.length = 2) : ∃ a cap, V = .agg #[.int .i64 3, .slice a 2 cap] ∧ MixOwn 3 L (.agg #[.int .i64 3, .slice a 2 cap]) w := by
  obtain ⟨R, a, cap, base, h0, rfl, h1, h2⟩ := h
  have : R.length = 2 := by rw [← hl, h0, List.length_map]
  rw [this] at h1
  refine ⟨a, cap, by rw [this], R, a, cap, base, h0, by rw [this], by rw [this]; exact h1, h2⟩
theorem newTwo13 (back : Bool) (w : World) : Calls Try.prog 12 #[.int .i64 3, .int .i64 2] w fun e w' => ∃ a cap, e = .returned (.tuple #[.agg #[.int .i64 3, .slice a 2 cap], .int .i64 0]) ∧ MixOwn 3 (S13.lrn back []) (.agg #[.int .i64 3, .slice a 2 cap]) w' ∧ Below w.heap.size w w' := by
  refine (new13_own 3 2 w (by omega) (by omega) (by omega) (by omega)).mono ?_
  rintro e w' ⟨V, rfl, hM, hb⟩
  have e1 : List.replicate 2 (List.replicate 3 (65536 / ((3 : Nat) : Int))) = S13.lrn back [] := by
    show _ = S13.newL 3 2
    decide +kernel
  rw [e1] at hM
  obtain ⟨a, cap, rfl, hM1⟩ := own_open2 hM (S13.fit_lrn back []).1
  exact ⟨a, cap, rfl, hM1, hb⟩
theorem tell13_any (back : Bool) (L : List (List Int)) (V : Value) (x : Lsn) (a : Option Addr) (cap : Nat) (w : World) (h : S13.fit L) (hx : x.ok) (hV : MixIs 3 L V w) (hrd : Rd w a (Ints (S13.ins back x))) :
    Calls Try.prog 19 #[V, .int .i64 (x.ctx % 2), .slice a 3 cap, .int .i64 (bitOf x.bit), .int .i64 (1 + x.rate % 255)] w fun e w' =>
      ∃ a cap, e = .returned (.tuple #[.agg #[.int .i64 3, .slice a 2 cap], .int .i64 0]) ∧ MixOwn 3 (S13.tell back L x) (.agg #[.int .i64 3, .slice a 2 cap]) w' ∧ Below w.heap.size w w' := by
  obtain ⟨hc1, _, _, _⟩ := hx
  obtain ⟨ma, mc, rfl, m1, m2, hM⟩ := mixOpen hV
  obtain ⟨c, hc⟩ := Int.eq_ofNat_of_zero_le (show 0 ≤ x.ctx % 2 by omega)
  have hu := S13.fit_usable_ins h back x (x.ctx % 2) (by omega) (by omega)
  have ht : S13.tell back L x = S13.learnL L c (S13.ins back x) (bitOf x.bit) (1 + x.rate % 255) := by unfold S13.tell; rw [hc]; rfl
  rw [ht, hc]
  rw [hc] at hu
  have := learn13_own 3 L ma mc c (S13.ins back x) a cap (bitOf x.bit) (1 + x.rate % 255) w hM hrd hu (bitOf_bounds _) (by omega)
  rw [S13.ins_length] at this
  refine this.mono ?_
  rintro e w' ⟨V, rfl, hM2, hb⟩
  have hf := S13.fit_tell h back x
  rw [ht] at hf
  obtain ⟨a, cap, rfl, hM3⟩ := own_open2 hM2 hf.1
  exact ⟨a, cap, rfl, hM3, hb⟩
theorem checkFit13_any (L : List (List Int)) (V : Value) (w : World) (h : S13.fit L) (hV : MixIs 3 L V w) :
    Calls Try.prog 15 #[V] w fun e w' => e = .returned (.int .i64 0) ∧ Below w.heap.size w w' := by
  have := check13_any 3 L V w hV
  rw [S13.fit_check h] at this
  exact this

/-- What a round makes: the inputs, the mixer that has learned, and a new variable. -/
def S13.made (xs : List Int) (L : List (List Int)) (B : Nat) : Fresh where
  nd := [13, 23, 27]
  dv := [24, 25, 26]
  Sh := fun k u => if k = 13 then ∃ a cap, u = .slice a 3 cap else if k = 23 then ∃ a cap, u = .tuple #[.agg #[.int .i64 3, .slice a 2 cap], .int .i64 0] else ∃ b, u = .pointer (some ⟨b, 0, none⟩)
  R := fun k u w => if k = 13 then ∃ a cap, u = .slice a 3 cap ∧ Rd w a (Ints xs) else if k = 23 then ∃ V, u = .tuple #[V, .int .i64 0] ∧ MixOwn 3 L V w else ∃ b, u = .pointer (some ⟨b, 0, none⟩) ∧ B ≤ b ∧ Blk w b [.int .i64 0, .slice none 0 0] 24
  D := fun k => if k = 23 then [13] else []
  ex := fun _ => []
  lat := fun _ => []
  fin := [23, 27]
theorem S13.made_stable (xs : List Int) (L : List (List Int)) (B : Nat) : ∀ k ∈ (S13.made xs L B).nd, ∀ u w w', (S13.made xs L B).R k u w → Below w.heap.size w w' → (S13.made xs L B).R k u w' := by
  intro k hk u w w' h hb
  simp only [S13.made] at *
  split at h
  · rename_i hk'
    rw [if_pos hk']
    obtain ⟨a, cap, e, hr⟩ := h
    exact ⟨a, cap, e, hr.step hb⟩
  · rename_i hk'
    rw [if_neg hk']
    split at h
    · rename_i hk2
      rw [if_pos hk2]
      obtain ⟨V, e, hM⟩ := h
      exact ⟨V, e, hM.step hb⟩
    · rename_i hk2
      rw [if_neg hk2]
      obtain ⟨b, e, h1, h2⟩ := h
      exact ⟨b, e, h1, h2.step hb⟩
theorem S13.made_some (xs : List Int) (L : List (List Int)) (B : Nat) : ∃ c : Nat → Value, ∀ k ∈ (S13.made xs L B).nd, (S13.made xs L B).Sh k (c k) :=
  ⟨fun k => if k = 13 then .slice none 3 0 else if k = 23 then .tuple #[.agg #[.int .i64 3, .slice none 2 0], .int .i64 0] else .pointer (some ⟨0, 0, none⟩), fun k _ => by
    simp only [S13.made]
    split
    · exact ⟨_, _, rfl⟩
    · split
      · exact ⟨_, _, rfl⟩
      · exact ⟨_, rfl⟩⟩

set_option maxHeartbeats 4000000 in
theorem learned13_any (back : Bool) (xs : List Lsn) (a : Option Addr) (cap : Nat) (w : World) (hlen : xs.length ≤ 9223372036854775807) (hrd : Rd w a (Lsns xs)) (hok : ∀ x ∈ xs, x.ok) :
    Calls Try.prog 21 #[.slice a xs.length cap, .bool back] w fun e w' => ∃ a cap, e = .returned (.tuple #[.agg #[.int .i64 3, .slice a 2 cap], .bool true]) ∧ MixOwn 3 (S13.lrn back xs) (.agg #[.int .i64 3, .slice a 2 cap]) w' ∧ Below w.heap.size w w' := by
  have HN := Lib.hid fun W => newTwo13 back W
  go_enter Try.func21, Try.ntmps21
  go_wp2_with fail
  refine (HN.out _).mono ?_
  rintro e w1 ⟨a1, cap1, rfl, hM1, hb1⟩
  have HM1 := Lib.hid hM1
  clear hM1
  have hB1 : Below w.heap.size w w1 := below_trans (by go_grown) hb1
  have z1 : w.heap.size < w1.heap.size := by have := hb1.size; simp at this; omega
  have hr1 := (Blk.new w [.int .i64 0, .slice none 0 0] 24).step hb1
  have Hr1 := Lib.hid hr1
  clear hr1
  go_wp2
  go_loopw [8, 9] (fun ok i wr => ∃ (k : Nat) (a' : Option Addr) (cap' : Nat), k ≤ xs.length ∧ ok = .bool true ∧ i = .int .i64 k ∧ MixOwn 3 (S13.lrn back (xs.take k)) (.agg #[.int .i64 3, .slice a' 2 cap']) wr ∧ Blk wr w1.heap.size [.int .i64 3, .slice a' 2 cap'] 24 ∧ Blk wr w.heap.size [.int .i64 0, .slice none 0 0] 24 ∧ Below w.heap.size w wr) (fun _ i _ => xs.length - (intOf i).toNat)
  case atStart =>
    refine ⟨0, a1, cap1, by omega, rfl, rfl, ?_, Blk.new w1 _ _, Hr1.out.alloc _, by go_grown⟩
    exact HM1.out.step ((Below.refl _ _).alloc (Nat.le_refl _) _)
  case round =>
    obtain ⟨k, a', cap', hk, rfl, rfl, hM, hv, hr, hB⟩ := hrel
    have zr : w.heap.size ≤ wr.heap.size := hB.size
    have hvl := hv.lt
    have hrl := hr.lt
    have hv0 := hv.cell 0
    have hv1 := hv.cell 1
    have hr0 := hr.cell 0
    simp only [List.getElem?_cons_zero, List.getElem?_cons_succ] at hv0 hv1 hr0
    by_cases hlt : k < xs.length
    · have hlt2 : (k : Int) < xs.length := by omega
      obtain ⟨x, hx⟩ : ∃ x, xs[k]? = some x := ⟨xs[k], List.getElem?_eq_getElem hlt⟩
      have hxo : x.ok := hok x (List.mem_of_getElem? hx)
      have hfit : S13.fit (S13.lrn back (xs.take k)) := S13.fit_lrn back _
      have hfit2 : S13.fit (S13.lrn back (xs.take (k + 1))) := S13.fit_lrn back _
      have hnext : S13.tell back (S13.lrn back (xs.take k)) x = S13.lrn back (xs.take (k + 1)) := by
        rw [← S13.lrn_snoc, List.take_add_one, hx]; rfl
      have HU := Lib.hid fun a cap W (hb : Below wr.heap.size wr W) (hr : Rd W a (Ints (S13.ins back x))) => tell13_any back _ _ x a cap W hfit hxo (hM.mix.step hb) hr
      have HI := Lib.hid fun W => inputs13_any x back W hxo
      rw [hnext] at HU
      have HM := Lib.hid hM
      have Hv := Lib.hid hv
      have Hr := Lib.hid hr
      obtain ⟨g, o, rfl, hc⟩ := Lsns_cells (hrd) hx
      have hc' := fun (p : Addr) (v : Value) (h : w.cell? p = some v) => ((hB.cell (block_lt_of_cell h)).trans h : wr.cell? p = some v)
      have c0 := hc' _ _ hc.1
      have c1 := hc' _ _ hc.2.1
      have c2 := hc' _ _ hc.2.2.1
      have c3 := hc' _ _ hc.2.2.2.1
      have c4 := hc' _ _ hc.2.2.2.2.1
      have c5 := hc' _ _ hc.2.2.2.2.2
      have hgl := block_lt_of_cell c0
      generalize hins : S13.ins back x = ins at *
      obtain ⟨xc, xr, xb, y0, y1, y2⟩ := x
      obtain ⟨x1, x2, x3, x4, x5, x6⟩ := hxo
      simp only at *
      clear hc hc' hnext hins hM hv hr hfit x6
      have e1 : IntKind.i64.wrap (xc.tmod 2) = xc % 2 := by rw [Int.tmod_eq_emod_of_nonneg x1]; exact IntWalk.i64_in _ (by omega)
      have e1' : IntKind.u8.wrap (xc.tmod 2) = xc % 2 := by rw [Int.tmod_eq_emod_of_nonneg x1, IntKind.wrap_u8]; omega
      have e1'' : IntKind.i64.wrap (xc % 2) = xc % 2 := IntWalk.i64_in _ (by omega)
      have e2 : IntKind.i64.wrap xr = xr := IntWalk.i64_in _ (by omega)
      have e3 : IntKind.i64.wrap (1 + xr.tmod 255) = 1 + xr % 255 := by rw [Int.tmod_eq_emod_of_nonneg x3]; exact IntWalk.i64_in _ (by omega)
      cases xb
      · go_wp2
        refine wp_region_fresh 28 2 _ _ (Keeps wr [(⟨w1.heap.size, 0, none⟩, .int .i64 3), (⟨w1.heap.size, 1, none⟩, .slice a' 2 cap'), (⟨g, o + k * 6, none⟩, .int .u8 xc), (⟨g, o + k * 6 + 1, none⟩, .int .u8 xr), (⟨g, o + k * 6 + 2, none⟩, .bool false), (⟨g, o + k * 6 + 3, none⟩, .int .i16 y0), (⟨g, o + k * 6 + 4, none⟩, .int .i16 y1), (⟨g, o + k * 6 + 5, none⟩, .int .i16 y2)]) (S13.made ins (S13.lrn back (xs.take (k + 1))) wr.heap.size) (by kernel_rfl) (List.take_append_drop 28 _).symm rfl rfl (by kernel_rfl) (Keeps.start (by simp only [Cells]; exact ⟨hv0, hv1, c0, c1, c2, c3, c4, c5, trivial⟩)) (fun _ _ h hb => h.step hb) (S13.made_stable _ _ _) (S13.made_some _ _ _) (fun Y F hY hF => ?_)
        simp only [List.take_succ_cons, List.take_zero, List.drop_succ_cons, List.drop_zero]
        repeat
          first
            | apply wpC_skip (by rfl)
            | (apply wpC_value (by rfl) (by first | rfl | (rw [hY]; rfl))
               · intro w2 ⟨hB2, hk2⟩
                 simp only [Cells] at hk2
                 go_simp
                 with_reducible rfl
               simp only [Act.put, List.setIfInBounds_toArray, List.set_cons_zero, List.set_cons_succ])
        intro c hc
        have hc0 := hc 13 (by simp [S13.made])
        have hc1 := hc 23 (by simp [S13.made])
        have hc2 := hc 27 (by simp [S13.made])
        simp only [S13.made, if_true] at hc0 hc1 hc2
        rw [if_neg (by omega)] at hc1
        rw [if_neg (by omega), if_neg (by omega)] at hc2
        obtain ⟨ai, capi, hc0⟩ := hc0
        obtain ⟨a2, cap2, hc1⟩ := hc1
        obtain ⟨b2, hc2⟩ := hc2
        repeat
          first
            | apply wpN_skip (by rfl)
            | (apply wpN_pure (by rfl) (by rfl) (by first | rfl | (rw [hY]; rfl))
               · intro w2
                 go_simp
                 with_reducible rfl
               simp only [Act.put, List.setIfInBounds_toArray, List.set_cons_zero, List.set_cons_succ])
        apply wpN_call (by rfl) (by rfl) (by first | rfl | (rw [hY]; rfl)) (fun _ _ h hb => h.step hb) (S13.made_stable _ _ _)
        · intro w2 ⟨hB2, hk2⟩ _
          simp only [Cells] at hk2
          go_simp
          with_reducible exact ⟨rfl, rfl⟩
        · intro w2 hS2 _
          refine (HI.out _).mono ?_
          rintro e w3 ⟨a3, cap3, rfl, hr3, hb3⟩
          exact ⟨_, rfl, ⟨a3, cap3, rfl⟩, ⟨a3, cap3, rfl, hr3⟩, hb3⟩
        simp only [Act.put, List.setIfInBounds_toArray, List.set_cons_zero, List.set_cons_succ]
        simp only [Nat.zero_add, Nat.reduceAdd, hc0]
        repeat
          first
            | apply wpN_skip (by rfl)
            | (apply wpN_pure (by rfl) (by rfl) (by first | rfl | (rw [hY]; rfl))
               · intro w2
                 go_simp
                 with_reducible rfl
               simp only [Act.put, List.setIfInBounds_toArray, List.set_cons_zero, List.set_cons_succ])
        apply wpN_call (by rfl) (by rfl) (by first | rfl | (rw [hY]; rfl)) (fun _ _ h hb => h.step hb) (S13.made_stable _ _ _)
        · intro w2 ⟨hB2, hk2⟩ _
          simp only [Cells] at hk2
          go_simp
          with_reducible exact ⟨rfl, rfl⟩
        · intro w2 hS2 hD2
          have hD3 := hD2.1
          simp only [S13.made, if_true] at hD3
          rw [hc0] at hD3
          obtain ⟨ai', capi', hai, hri⟩ := hD3
          obtain ⟨rfl, -, rfl⟩ : ai = ai' ∧ True ∧ capi = capi' := by simpa using hai
          refine (HU.out _ _ _ hS2.1 hri).mono ?_
          rintro e w3 ⟨a3, cap3, rfl, hM3, hb3⟩
          exact ⟨_, rfl, ⟨a3, cap3, rfl⟩, ⟨_, rfl, hM3⟩, hb3⟩
        simp only [Act.put, List.setIfInBounds_toArray, List.set_cons_zero, List.set_cons_succ]
        simp only [Nat.zero_add, Nat.reduceAdd, hc1]
        repeat
          first
            | apply wpN_skip (by rfl)
            | (apply wpN_pure (by rfl) (by rfl) (by first | rfl | (rw [hY]; rfl))
               · intro w2
                 go_simp
                 with_reducible rfl
               simp only [Act.put, List.setIfInBounds_toArray, List.set_cons_zero, List.set_cons_succ])
        refine wpN_value (by rfl) (by rfl) (by first | rfl | (rw [hY]; rfl)) (fun _ _ h hb => h.step hb) (S13.made_stable _ _ _) (fun w2 hS2 _ => ⟨.pointer (some ⟨w2.heap.size, 0, none⟩), w2.alloc (.cells #[.int .i64 0, .slice none 0 0] 24), ?_, ⟨_, rfl⟩, ⟨_, rfl, hS2.1.size, Blk.new w2 _ _⟩, (Below.refl _ _).alloc (Nat.le_refl _) _⟩) ?_
        · go_simp
        simp only [Act.put, List.setIfInBounds_toArray, List.set_cons_zero, List.set_cons_succ]
        simp only [Nat.zero_add, Nat.reduceAdd, hc2]
        refine hF.out c _ (fun K w3 hK hS3 hR3 => ?_)
        obtain ⟨h23, h27, -⟩ := hR3
        simp only [S13.made, if_true] at h23 h27
        rw [if_neg (by omega)] at h23
        rw [if_neg (by omega), if_neg (by omega)] at h27
        rw [hc1] at h23
        rw [hc2] at h27
        obtain ⟨V3, e4, hM3⟩ := h23
        obtain ⟨b3, e5, hb3, hv3⟩ := h27
        obtain rfl : b3 = b2 := by simpa using e5.symm
        obtain rfl : V3 = .agg #[.int .i64 3, .slice a2 2 cap2] := by simpa using e4.symm
        clear hF hY e4 e5 hc0 hc1 hc2 hc
        have hB3 : Below w.heap.size w w3 := below_trans hB hS3.1
        have hold3 := Hv.out.step hS3.1
        have hres3 := Hr.out.step hS3.1
        clear hS3
        have d0 := hv3.cell 0
        have d1 := hv3.cell 1
        have d2 := hv3.free 0
        have d3 := hv3.free 1
        have d4 := hv3.lt
        simp only [List.getElem?_cons_zero, List.getElem?_cons_succ] at d0 d1
        have hb3' : w1.heap.size < b3 := by omega
        have hw3 : w.heap.size < b3 := by omega
        obtain ⟨w4, hw4⟩ : ∃ w4, w4 = (w3.setCell ⟨b3, 0, none⟩ (.int .i64 3)).setCell ⟨b3, 1, none⟩ (.slice a2 2 cap2) := ⟨_, rfl⟩
        have Hv4 := Lib.hid (show Blk w4 b3 [.int .i64 3, .slice a2 2 cap2] 24 by rw [hw4]; exact (hv3.set 0 (.int .i64 3)).set 1 (.slice a2 2 cap2))
        have Hold4 := Lib.hid (show Blk w4 w1.heap.size [.int .i64 3, .slice a' 2 cap'] 24 by rw [hw4]; exact (hold3.other b3 0 _ (by omega)).other b3 1 _ (by omega))
        have Hres4 := Lib.hid (show Blk w4 w.heap.size [.int .i64 0, .slice none 0 0] 24 by rw [hw4]; exact (hres3.other b3 0 _ (by omega)).other b3 1 _ (by omega))
        have HM4 := Lib.hid (show MixOwn 3 (S13.lrn back (xs.take (k + 1))) (.agg #[.int .i64 3, .slice a2 2 cap2]) w4 by rw [hw4]; exact (hM3.other hv3 (by decide) (by decide)).other (hv3.set 0 (.int .i64 3)) (by decide) (by decide))
        have hB4 : Below w.heap.size w w4 := by rw [hw4]; exact (hB3.setCell (by simp only; omega) _).setCell (by simp only; omega) _
        have f0 := Hv4.out.cell 0
        have f1 := Hv4.out.cell 1
        have f2 := Hv4.out.lt
        simp only [List.getElem?_cons_zero, List.getElem?_cons_succ] at f0 f1
        have HCk := Lib.hid (checkFit13_any _ _ w4 hfit2 HM4.out.mix)
        clear hv3 hold3 hres3 hM3 hB3
        go_wp2_with fail
        rw [← hw4]
        refine OnlyK.mk (hK.out _ _ ?_)
        clear hK hw4 d0 d1 d2 d3 d4
        go_wp2_with fail
        refine HCk.out.mono ?_
        rintro e w5 ⟨rfl, hb5⟩
        have hv5 := Hv4.out.step hb5
        have hold5 := Hold4.out.step hb5
        have hres5 := Hres4.out.step hb5
        have hM5 := HM4.out.step hb5
        have hB5 : Below w.heap.size w w5 := below_trans hB4 hb5
        have g0 := hv5.cell 0
        have g1 := hv5.cell 1
        have o0 := hold5.cell 0
        have o1 := hold5.cell 1
        have o2 := hold5.free 0
        have o3 := hold5.free 1
        simp only [List.getElem?_cons_zero, List.getElem?_cons_succ] at g0 g1 o0 o1
        have hrel := Lib.hid (And.intro ((hM5.other (i := 0) (v := .int .i64 3) hold5 (by decide) (by decide)).other (i := 1) (v := .slice a2 2 cap2) (hold5.set 0 (.int .i64 3)) (by decide) (by decide)) (And.intro ((hold5.set 0 (.int .i64 3)).set 1 (.slice a2 2 cap2)) (And.intro ((hres5.other w1.heap.size 0 (.int .i64 3) (by omega)).other w1.heap.size 1 (.slice a2 2 cap2) (by omega)) ((hB5.setCell (p := ⟨w1.heap.size, 0, none⟩) (by simp only; omega) (.int .i64 3)).setCell (p := ⟨w1.heap.size, 1, none⟩) (by simp only; omega) (.slice a2 2 cap2)))))
        clear hM5 hold5 hres5 hv5 hb5 f0 f1
        go_wp2
        go_roundw
        case rel => exact ⟨k + 1, a2, cap2, by omega, rfl, by go_num, hrel.out⟩
        case measure => simp [intOf]; omega
      · go_wp2
        refine wp_region_fresh 28 2 _ _ (Keeps wr [(⟨w1.heap.size, 0, none⟩, .int .i64 3), (⟨w1.heap.size, 1, none⟩, .slice a' 2 cap'), (⟨g, o + k * 6, none⟩, .int .u8 xc), (⟨g, o + k * 6 + 1, none⟩, .int .u8 xr), (⟨g, o + k * 6 + 2, none⟩, .bool true), (⟨g, o + k * 6 + 3, none⟩, .int .i16 y0), (⟨g, o + k * 6 + 4, none⟩, .int .i16 y1), (⟨g, o + k * 6 + 5, none⟩, .int .i16 y2)]) (S13.made ins (S13.lrn back (xs.take (k + 1))) wr.heap.size) (by kernel_rfl) (List.take_append_drop 28 _).symm rfl rfl (by kernel_rfl) (Keeps.start (by simp only [Cells]; exact ⟨hv0, hv1, c0, c1, c2, c3, c4, c5, trivial⟩)) (fun _ _ h hb => h.step hb) (S13.made_stable _ _ _) (S13.made_some _ _ _) (fun Y F hY hF => ?_)
        simp only [List.take_succ_cons, List.take_zero, List.drop_succ_cons, List.drop_zero]
        repeat
          first
            | apply wpC_skip (by rfl)
            | (apply wpC_value (by rfl) (by first | rfl | (rw [hY]; rfl))
               · intro w2 ⟨hB2, hk2⟩
                 simp only [Cells] at hk2
                 go_simp
                 with_reducible rfl
               simp only [Act.put, List.setIfInBounds_toArray, List.set_cons_zero, List.set_cons_succ])
        intro c hc
        have hc0 := hc 13 (by simp [S13.made])
        have hc1 := hc 23 (by simp [S13.made])
        have hc2 := hc 27 (by simp [S13.made])
        simp only [S13.made, if_true] at hc0 hc1 hc2
        rw [if_neg (by omega)] at hc1
        rw [if_neg (by omega), if_neg (by omega)] at hc2
        obtain ⟨ai, capi, hc0⟩ := hc0
        obtain ⟨a2, cap2, hc1⟩ := hc1
        obtain ⟨b2, hc2⟩ := hc2
        repeat
          first
            | apply wpN_skip (by rfl)
            | (apply wpN_pure (by rfl) (by rfl) (by first | rfl | (rw [hY]; rfl))
               · intro w2
                 go_simp
                 with_reducible rfl
               simp only [Act.put, List.setIfInBounds_toArray, List.set_cons_zero, List.set_cons_succ])
        apply wpN_call (by rfl) (by rfl) (by first | rfl | (rw [hY]; rfl)) (fun _ _ h hb => h.step hb) (S13.made_stable _ _ _)
        · intro w2 ⟨hB2, hk2⟩ _
          simp only [Cells] at hk2
          go_simp
          with_reducible exact ⟨rfl, rfl⟩
        · intro w2 hS2 _
          refine (HI.out _).mono ?_
          rintro e w3 ⟨a3, cap3, rfl, hr3, hb3⟩
          exact ⟨_, rfl, ⟨a3, cap3, rfl⟩, ⟨a3, cap3, rfl, hr3⟩, hb3⟩
        simp only [Act.put, List.setIfInBounds_toArray, List.set_cons_zero, List.set_cons_succ]
        simp only [Nat.zero_add, Nat.reduceAdd, hc0]
        repeat
          first
            | apply wpN_skip (by rfl)
            | (apply wpN_pure (by rfl) (by rfl) (by first | rfl | (rw [hY]; rfl))
               · intro w2
                 go_simp
                 with_reducible rfl
               simp only [Act.put, List.setIfInBounds_toArray, List.set_cons_zero, List.set_cons_succ])
        apply wpN_call (by rfl) (by rfl) (by first | rfl | (rw [hY]; rfl)) (fun _ _ h hb => h.step hb) (S13.made_stable _ _ _)
        · intro w2 ⟨hB2, hk2⟩ _
          simp only [Cells] at hk2
          go_simp
          with_reducible exact ⟨rfl, rfl⟩
        · intro w2 hS2 hD2
          have hD3 := hD2.1
          simp only [S13.made, if_true] at hD3
          rw [hc0] at hD3
          obtain ⟨ai', capi', hai, hri⟩ := hD3
          obtain ⟨rfl, -, rfl⟩ : ai = ai' ∧ True ∧ capi = capi' := by simpa using hai
          refine (HU.out _ _ _ hS2.1 hri).mono ?_
          rintro e w3 ⟨a3, cap3, rfl, hM3, hb3⟩
          exact ⟨_, rfl, ⟨a3, cap3, rfl⟩, ⟨_, rfl, hM3⟩, hb3⟩
        simp only [Act.put, List.setIfInBounds_toArray, List.set_cons_zero, List.set_cons_succ]
        simp only [Nat.zero_add, Nat.reduceAdd, hc1]
        repeat
          first
            | apply wpN_skip (by rfl)
            | (apply wpN_pure (by rfl) (by rfl) (by first | rfl | (rw [hY]; rfl))
               · intro w2
                 go_simp
                 with_reducible rfl
               simp only [Act.put, List.setIfInBounds_toArray, List.set_cons_zero, List.set_cons_succ])
        refine wpN_value (by rfl) (by rfl) (by first | rfl | (rw [hY]; rfl)) (fun _ _ h hb => h.step hb) (S13.made_stable _ _ _) (fun w2 hS2 _ => ⟨.pointer (some ⟨w2.heap.size, 0, none⟩), w2.alloc (.cells #[.int .i64 0, .slice none 0 0] 24), ?_, ⟨_, rfl⟩, ⟨_, rfl, hS2.1.size, Blk.new w2 _ _⟩, (Below.refl _ _).alloc (Nat.le_refl _) _⟩) ?_
        · go_simp
        simp only [Act.put, List.setIfInBounds_toArray, List.set_cons_zero, List.set_cons_succ]
        simp only [Nat.zero_add, Nat.reduceAdd, hc2]
        refine hF.out c _ (fun K w3 hK hS3 hR3 => ?_)
        obtain ⟨h23, h27, -⟩ := hR3
        simp only [S13.made, if_true] at h23 h27
        rw [if_neg (by omega)] at h23
        rw [if_neg (by omega), if_neg (by omega)] at h27
        rw [hc1] at h23
        rw [hc2] at h27
        obtain ⟨V3, e4, hM3⟩ := h23
        obtain ⟨b3, e5, hb3, hv3⟩ := h27
        obtain rfl : b3 = b2 := by simpa using e5.symm
        obtain rfl : V3 = .agg #[.int .i64 3, .slice a2 2 cap2] := by simpa using e4.symm
        clear hF hY e4 e5 hc0 hc1 hc2 hc
        have hB3 : Below w.heap.size w w3 := below_trans hB hS3.1
        have hold3 := Hv.out.step hS3.1
        have hres3 := Hr.out.step hS3.1
        clear hS3
        have d0 := hv3.cell 0
        have d1 := hv3.cell 1
        have d2 := hv3.free 0
        have d3 := hv3.free 1
        have d4 := hv3.lt
        simp only [List.getElem?_cons_zero, List.getElem?_cons_succ] at d0 d1
        have hb3' : w1.heap.size < b3 := by omega
        have hw3 : w.heap.size < b3 := by omega
        obtain ⟨w4, hw4⟩ : ∃ w4, w4 = (w3.setCell ⟨b3, 0, none⟩ (.int .i64 3)).setCell ⟨b3, 1, none⟩ (.slice a2 2 cap2) := ⟨_, rfl⟩
        have Hv4 := Lib.hid (show Blk w4 b3 [.int .i64 3, .slice a2 2 cap2] 24 by rw [hw4]; exact (hv3.set 0 (.int .i64 3)).set 1 (.slice a2 2 cap2))
        have Hold4 := Lib.hid (show Blk w4 w1.heap.size [.int .i64 3, .slice a' 2 cap'] 24 by rw [hw4]; exact (hold3.other b3 0 _ (by omega)).other b3 1 _ (by omega))
        have Hres4 := Lib.hid (show Blk w4 w.heap.size [.int .i64 0, .slice none 0 0] 24 by rw [hw4]; exact (hres3.other b3 0 _ (by omega)).other b3 1 _ (by omega))
        have HM4 := Lib.hid (show MixOwn 3 (S13.lrn back (xs.take (k + 1))) (.agg #[.int .i64 3, .slice a2 2 cap2]) w4 by rw [hw4]; exact (hM3.other hv3 (by decide) (by decide)).other (hv3.set 0 (.int .i64 3)) (by decide) (by decide))
        have hB4 : Below w.heap.size w w4 := by rw [hw4]; exact (hB3.setCell (by simp only; omega) _).setCell (by simp only; omega) _
        have f0 := Hv4.out.cell 0
        have f1 := Hv4.out.cell 1
        have f2 := Hv4.out.lt
        simp only [List.getElem?_cons_zero, List.getElem?_cons_succ] at f0 f1
        have HCk := Lib.hid (checkFit13_any _ _ w4 hfit2 HM4.out.mix)
        clear hv3 hold3 hres3 hM3 hB3
        go_wp2_with fail
        rw [← hw4]
        refine OnlyK.mk (hK.out _ _ ?_)
        clear hK hw4 d0 d1 d2 d3 d4
        go_wp2_with fail
        refine HCk.out.mono ?_
        rintro e w5 ⟨rfl, hb5⟩
        have hv5 := Hv4.out.step hb5
        have hold5 := Hold4.out.step hb5
        have hres5 := Hres4.out.step hb5
        have hM5 := HM4.out.step hb5
        have hB5 : Below w.heap.size w w5 := below_trans hB4 hb5
        have g0 := hv5.cell 0
        have g1 := hv5.cell 1
        have o0 := hold5.cell 0
        have o1 := hold5.cell 1
        have o2 := hold5.free 0
        have o3 := hold5.free 1
        simp only [List.getElem?_cons_zero, List.getElem?_cons_succ] at g0 g1 o0 o1
        have hrel := Lib.hid (And.intro ((hM5.other (i := 0) (v := .int .i64 3) hold5 (by decide) (by decide)).other (i := 1) (v := .slice a2 2 cap2) (hold5.set 0 (.int .i64 3)) (by decide) (by decide)) (And.intro ((hold5.set 0 (.int .i64 3)).set 1 (.slice a2 2 cap2)) (And.intro ((hres5.other w1.heap.size 0 (.int .i64 3) (by omega)).other w1.heap.size 1 (.slice a2 2 cap2) (by omega)) ((hB5.setCell (p := ⟨w1.heap.size, 0, none⟩) (by simp only; omega) (.int .i64 3)).setCell (p := ⟨w1.heap.size, 1, none⟩) (by simp only; omega) (.slice a2 2 cap2)))))
        clear hM5 hold5 hres5 hv5 hb5 f0 f1
        go_wp2
        go_roundw
        case rel => exact ⟨k + 1, a2, cap2, by omega, rfl, by go_num, hrel.out⟩
        case measure => simp [intOf]; omega
    · obtain rfl : k = xs.length := by omega
      rw [List.take_length] at hM
      have r0 := hr.cell 0
      have r1 := hr.cell 1
      have q0 := hr.free 0
      have q1 := hr.free 1
      have s1 := ((hr.set 0 (.int .i64 3)).set 1 (.slice a' 2 cap')).cell 0
      have s2 := ((hr.set 0 (.int .i64 3)).set 1 (.slice a' 2 cap')).cell 1
      simp only [List.set_cons_zero, List.set_cons_succ, List.getElem?_cons_zero, List.getElem?_cons_succ] at r0 r1 s1 s2
      have hM2 := Lib.hid ((hM.other (i := 0) (v := .int .i64 3) hr (by decide) (by decide)).other (i := 1) (v := .slice a' 2 cap') (hr.set 0 (.int .i64 3)) (by decide) (by decide))
      clear hM hv hr
      go_wp2
      refine bodyPost_ret (v := .tuple #[.agg #[.int .i64 3, .slice a' 2 cap'], .bool true]) (by simp [results, Try.results21, go_sem, s1, s2]) rfl ⟨_, _, rfl, hM2.out, ?_⟩
      exact (hB.setCell (Nat.le_refl _) _).setCell (Nat.le_refl _) _
end Go.Proofs.Ytkpkkbpfcchgaaa
