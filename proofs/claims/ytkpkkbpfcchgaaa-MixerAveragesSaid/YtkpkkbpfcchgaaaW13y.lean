/- MixerFollows (law 13). No condition. -/
import Derived.Test.YtkpkkbpfcchgaaaW13x
set_option linter.unusedSimpArgs false
set_option linter.unusedVariables false
set_option linter.unusedSectionVars false
namespace Go.Proofs.Ytkpkkbpfcchgaaa
open Go.RowKit

def Lsn.val (x : Lsn) : Value := .agg #[.int .u8 x.ctx, .int .u8 x.rate, .bool x.bit, .int .i16 x.i0, .int .i16 x.i1, .int .i16 x.i2]
theorem elems_lsn : Elems Try.prog 52 50 6 10 [.int .u8 0, .int .u8 0, .bool false, .int .i16 0, .int .i16 0, .int .i16 0] := ⟨Try.underlying52, by kernel_rfl, rfl, by decide⟩
theorem Blk.ne_nil {w : World} {b : Nat} {cs : List Value} {t t' : TypeId} (h : Blk w b cs t) (h' : Blk w b [] t') (hne : cs ≠ []) : False := by
  unfold Blk at *
  rw [h] at h'
  simp at h'
  exact hne h'.1
theorem Blk.ne_type {w : World} {b : Nat} {cs : List Value} {cur : Array Value} {t t' : TypeId} (h : Blk w b cs t) (h' : w.heap[b]? = some (.cells cur t' (0, 0))) (hne : t ≠ t') : False := by
  unfold Blk at *
  rw [h] at h'
  simp at h'
  exact hne h'.2

/-- What the second call of learned takes and gives. -/
def S13.both (xs : List Lsn) (x : Lsn) (B : Nat) : Fresh where
  nd := [0, 2, 4, 5, 6, 10]
  dv := [7, 8, 9]
  Sh := fun k u => if k = 0 then ∃ g, u = .slice (some ⟨g, 0, none⟩) 0 0 else if k = 2 then ∃ a c, u = .slice a xs.length c else if k = 4 then ∃ g, u = .slice (some ⟨g, 0, none⟩) 1 1
    else if k = 5 then ∃ a c, u = .slice a (xs.length + 1) c else if k = 6 then ∃ a c, u = .tuple #[.agg #[.int .i64 3, .slice a 2 c], .bool true] else ∃ b, u = .pointer (some ⟨b, 0, none⟩)
  R := fun k u w => if k = 0 then ∃ g, u = .slice (some ⟨g, 0, none⟩) 0 0 ∧ B ≤ g ∧ Blk w g [] 50 else if k = 2 then w.ownsRow B 50 6 u xs.length (Lsns xs)
    else if k = 4 then ∃ g, u = .slice (some ⟨g, 0, none⟩) 1 1 ∧ Blk w g x.cells 50
    else if k = 5 then ∃ a c, u = .slice a (xs.length + 1) c ∧ Rd w a (Lsns (xs ++ [x])) else if k = 6 then ∃ V, u = .tuple #[V, .bool true] ∧ MixOwn 3 (S13.lrn false (xs ++ [x])) V w
    else ∃ b, u = .pointer (some ⟨b, 0, none⟩) ∧ B ≤ b ∧ Blk w b [.int .i64 0, .slice none 0 0] 24
  D := fun k => if k = 2 then [0] else if k = 5 then [2, 4] else if k = 6 then [5] else []
  ex := fun k => if k = 2 then [0] else if k = 5 then [0, 2, 4] else []
  lat := fun k => if k = 2 then [2, 5, 6] else if k = 5 then [5, 6] else []
  fin := [6, 10]
theorem S13.both_stable (xs : List Lsn) (x : Lsn) (B : Nat) : ∀ k ∈ (S13.both xs x B).nd, ∀ u w w', (S13.both xs x B).R k u w → Below w.heap.size w w' → (S13.both xs x B).R k u w' := by
  intro k hk u w w' h hb
  simp only [S13.both, List.mem_cons, List.not_mem_nil, or_false] at hk
  rcases hk with rfl | rfl | rfl | rfl | rfl | rfl
  · obtain ⟨g, e, h1, h2⟩ := h; exact ⟨g, e, h1, h2.step hb⟩
  · exact owns_step (B := 0) h hb
  · obtain ⟨g, e, h2⟩ := h; exact ⟨g, e, h2.step hb⟩
  · obtain ⟨a, c, e, h2⟩ := h; exact ⟨a, c, e, h2.step hb⟩
  · obtain ⟨V, e, h2⟩ := h; exact ⟨V, e, h2.step hb⟩
  · obtain ⟨g, e, h1, h2⟩ := h; exact ⟨g, e, h1, h2.step hb⟩
theorem S13.both_some (xs : List Lsn) (x : Lsn) (B : Nat) : ∃ c : Nat → Value, ∀ k ∈ (S13.both xs x B).nd, (S13.both xs x B).Sh k (c k) :=
  ⟨fun k => if k = 0 then .slice (some ⟨0, 0, none⟩) 0 0 else if k = 2 then .slice none xs.length 0 else if k = 4 then .slice (some ⟨0, 0, none⟩) 1 1 else if k = 5 then .slice none (xs.length + 1) 0
    else if k = 6 then .tuple #[.agg #[.int .i64 3, .slice none 2 0], .bool true] else .pointer (some ⟨0, 0, none⟩), fun k hk => by
    simp only [S13.both, List.mem_cons, List.not_mem_nil, or_false] at hk
    rcases hk with rfl | rfl | rfl | rfl | rfl | rfl
    · exact ⟨_, rfl⟩
    · exact ⟨_, _, rfl⟩
    · exact ⟨_, rfl⟩
    · exact ⟨_, _, rfl⟩
    · exact ⟨_, _, rfl⟩
    · exact ⟨_, rfl⟩⟩

theorem mixFit13_any (L : List (List Int)) (V : Value) (c : Int) (xs : List Int) (a : Option Addr) (cap : Nat) (w : World) (h : S13.fit L) (h0 : 0 ≤ c) (h1 : c ≤ 1) (hl : xs.length = 3) (hs : xs.any S13.strong = false) (hV : MixIs 3 L V w) (hrd : Rd w a (Ints xs)) :
    Calls Try.prog 17 #[V, .int .i64 c, .slice a 3 cap] w fun e w' => e = .returned (.tuple #[.int .i64 (S13.mix (L.getD c.toNat []) xs), .int .i64 0]) ∧ Below w.heap.size w w' := by
  have hu := S13.fit_usable h h0 h1 hl hs
  have := mixM13_any 3 L V c xs a cap w hV (by omega) hrd
  rw [hl, hu, show S13.mixR 3 L c xs = S13.mix (L.getD c.toNat []) xs by unfold S13.mixR; rw [if_pos hu]] at this
  exact this

set_option maxHeartbeats 4000000 in
theorem mixerFollows_any (xs : List Lsn) (a : Option Addr) (cap : Nat) (x : Lsn) (w : World) (hlen : xs.length ≤ 9223372036854775807) (hrd : Rd w a (Lsns xs)) (hok : ∀ x ∈ xs, x.ok) (hx : x.ok) :
    Calls Try.prog 7 #[.slice a xs.length cap, x.val] w fun e w' => e = .returned (.bool true) ∧ Below w.heap.size w w' := by
  by_cases hlong : 60 < xs.length
  · have hl3 : (60 : Int) < (xs.length : Int) := by omega
    go_enter Try.func7, Try.ntmps7
    go_wp2_with fail
    refine (awake13_any _).mono ?_
    rintro e w1 ⟨rfl, hb1⟩
    have hB1 : Below w.heap.size w w1 := below_trans (by go_grown) hb1
    have z1 : w.heap.size ≤ w1.heap.size := hB1.size
    go_wp2
    go_returns
    exact ⟨rfl, hB1⟩
  · have hl3 : ¬ (60 : Int) < (xs.length : Int) := by omega
    have hrdb : ∀ W, Below w.heap.size w W → Rd W a (Lsns xs) := fun W hb => Rd.below hrd hb (fun b o e hne => by
      obtain ⟨b', o', e', hc⟩ := hrd hne
      rw [e] at e'; cases e'
      cases hxs : Lsns xs with
      | nil => exact absurd hxs hne
      | cons v vs => exact block_lt_of_cell (hc 0 v (by rw [hxs]; rfl)))
    have HL := Lib.hid fun W (hb : Below w.heap.size w W) => learned13_any false xs a cap W hlen (hrdb W hb) hok
    have HRd := Lib.hid hrdb
    clear hrdb
    simp only [Lsn.val]
    go_enter Try.func7, Try.ntmps7
    go_wp2_with fail
    refine (HL.out _ (by go_grown)).mono ?_
    rintro e w1 ⟨a1, cap1, rfl, hM1, hb1⟩
    have HM1 := Lib.hid fun (W : World) (hb : Below w1.heap.size w1 W) => hM1.step hb
    clear hM1
    have hB1 : Below w.heap.size w w1 := below_trans (by go_grown) hb1
    have z1 : w.heap.size < w1.heap.size := by have := hb1.size; simp at this; omega
    go_wp2
    have hB0 : Below w.heap.size w (w1.alloc (Obj.cells #[.int .i64 3, .slice a1 2 cap1] 24)) := by go_grown
    have hv0 : Blk (w1.alloc (Obj.cells #[.int .i64 3, .slice a1 2 cap1] 24)) w1.heap.size [.int .i64 3, .slice a1 2 cap1] 24 := Blk.new w1 _ _
    have hbx : Blk (w1.alloc (Obj.cells #[.int .i64 3, .slice a1 2 cap1] 24)) w.heap.size x.cells 50 := ((Blk.new w _ _).step hb1).alloc _
    have HM0 := Lib.hid fun (W : World) (hb : Below (w1.alloc (Obj.cells #[.int .i64 3, .slice a1 2 cap1] 24)).heap.size (w1.alloc (Obj.cells #[.int .i64 3, .slice a1 2 cap1] 24)) W) => (HM1.out _ ((Below.refl _ _).alloc (Nat.le_refl _) _)).step hb
    generalize w1.alloc (Obj.cells #[.int .i64 3, .slice a1 2 cap1] 24) = W0 at *
    have hbl := hbx.lt
    have hrd0 := HRd.out W0 hB0
    have hcs : Cells W0 [(⟨w.heap.size, 0, none⟩, .int .u8 x.ctx), (⟨w.heap.size, 1, none⟩, .int .u8 x.rate), (⟨w.heap.size, 2, none⟩, .bool x.bit), (⟨w.heap.size, 3, none⟩, .int .i16 x.i0), (⟨w.heap.size, 4, none⟩, .int .i16 x.i1), (⟨w.heap.size, 5, none⟩, .int .i16 x.i2)] := ⟨hbx.cell 0, hbx.cell 1, hbx.cell 2, hbx.cell 3, hbx.cell 4, hbx.cell 5, trivial⟩
    refine wp_region_fresh 11 2 _ _ (Keeps W0 [(⟨w.heap.size, 0, none⟩, .int .u8 x.ctx), (⟨w.heap.size, 1, none⟩, .int .u8 x.rate), (⟨w.heap.size, 2, none⟩, .bool x.bit), (⟨w.heap.size, 3, none⟩, .int .i16 x.i0), (⟨w.heap.size, 4, none⟩, .int .i16 x.i1), (⟨w.heap.size, 5, none⟩, .int .i16 x.i2)]) (S13.both xs x W0.heap.size) (by kernel_rfl) (List.take_append_drop 11 _).symm rfl rfl (by kernel_rfl) (Keeps.start hcs) (fun _ _ h hb => h.step hb) (S13.both_stable _ _ _) (S13.both_some _ _ _) (fun Y F hY hF => ?_)
    simp only [List.take_succ_cons, List.take_zero, List.drop_succ_cons, List.drop_zero]
    repeat
      first
        | apply wpC_skip (by rfl)
        | (apply wpC_value (by rfl) (by first | rfl | (rw [hY]; rfl))
           · intro w2 ⟨hB2, hk2⟩
             simp only [Cells] at hk2
             go_simp
             with_reducible rfl
           simp only [Act.put, List.setIfInBounds_toArray, List.set_cons_zero, List.set_cons_succ])
    intro c hc
    obtain ⟨g0, q0⟩ : ∃ g, c 0 = .slice (some ⟨g, 0, none⟩) 0 0 := hc 0 (by simp [S13.both])
    obtain ⟨a2, p2, q2⟩ : ∃ a cp, c 2 = .slice a xs.length cp := hc 2 (by simp [S13.both])
    obtain ⟨g4, q4⟩ : ∃ g, c 4 = .slice (some ⟨g, 0, none⟩) 1 1 := hc 4 (by simp [S13.both])
    obtain ⟨a5, p5, q5⟩ : ∃ a cp, c 5 = .slice a (xs.length + 1) cp := hc 5 (by simp [S13.both])
    obtain ⟨a6, p6, q6⟩ : ∃ a cp, c 6 = .tuple #[.agg #[.int .i64 3, .slice a 2 cp], .bool true] := hc 6 (by simp [S13.both])
    obtain ⟨b10, q10⟩ : ∃ b, c 10 = .pointer (some ⟨b, 0, none⟩) := hc 10 (by simp [S13.both])
    clear hc
    -- an empty slice
    refine wpN_value (by rfl) (by rfl) (by first | rfl | (rw [hY]; rfl)) (fun _ _ h hb => h.step hb) (S13.both_stable _ _ _) (fun w2 hS2 _ => ⟨.slice (some ⟨w2.heap.size, 0, none⟩) 0 0, w2.alloc (.cells #[] 50), ?_, ⟨_, rfl⟩, ⟨_, rfl, hS2.1.size, Blk.new w2 [] _⟩, (Below.refl _ _).alloc (Nat.le_refl _) _⟩) ?_
    · go_simp
    simp only [Act.put, List.setIfInBounds_toArray, List.set_cons_zero, List.set_cons_succ]
    rw [q0]
    repeat
      first
        | apply wpN_skip (by rfl)
        | (apply wpN_pure (by rfl) (by rfl) (by first | rfl | (rw [hY]; rfl))
           · intro w2
             go_simp
             with_reducible rfl
           simp only [Act.put, List.setIfInBounds_toArray, List.set_cons_zero, List.set_cons_succ])
    -- the lessons in it
    refine wpN_append (.tmp 23) (.tmp 24) 52 50 6 10 _ W0.heap.size elems_lsn (.slice (some ⟨g0, 0, none⟩) 0 0) 0 [] a xs.length cap (Lsns xs) (by rfl) (by rfl) (by first | rfl | (rw [hY]; rfl)) (by rfl) (by rfl) (by rfl) (by rw [Lsns_length]; omega) (Lsns_one xs) (by simp only [maxLen]; omega) (by omega) (fun w2 hS2 hD => ?_) ?_
    · obtain ⟨⟨g, e, hg, hblk⟩, -⟩ := hD
      obtain rfl : g = g0 := by rw [q0] at e; simpa using e.symm
      refine ⟨⟨rfl, .inr ⟨g, 0, #[], rfl, hg, hblk, Nat.le_refl _, Nat.zero_le _, rfl, rfl⟩⟩, hrd0.step hS2.1, hS2.1.size, fun a' cap' w' hown hgr => ?_⟩
      rw [show 0 + xs.length = xs.length from Nat.zero_add _] at hown ⊢
      refine ⟨⟨_, _, rfl⟩, hown, Keeps.of hcs (grown_keeps hS2.1 hgr (fun k e => by simp [Value.ownBlock] at e; omega)), ?_⟩
      intro j hj hex hlat u _ hR
      have hj4 : j = 4 ∨ j = 10 := by
        simp [S13.both] at hj hex hlat
        omega
      rcases hj4 with rfl | rfl
      · obtain ⟨g', e', h2⟩ := hR
        refine ⟨g', e', h2.grown hgr fun e2 => ?_⟩
        simp only [Value.ownBlock, Option.some.injEq] at e2
        subst e2
        exact (Blk.ne_nil h2 hblk (by simp [Lsn.cells])).elim
      · obtain ⟨g', e', hg', h2⟩ := hR
        refine ⟨g', e', hg', h2.grown hgr fun e2 => ?_⟩
        simp only [Value.ownBlock, Option.some.injEq] at e2
        subst e2
        exact (Blk.ne_nil h2 hblk (by simp)).elim
    simp only [Act.put, List.setIfInBounds_toArray, List.set_cons_zero, List.set_cons_succ]
    rw [show (0 + 1 + 1) = 2 from rfl, q2]
    repeat
      first
        | apply wpN_skip (by rfl)
        | (apply wpN_pure (by rfl) (by rfl) (by first | rfl | (rw [hY]; rfl))
           · intro w2
             go_simp
             with_reducible rfl
           simp only [Act.put, List.setIfInBounds_toArray, List.set_cons_zero, List.set_cons_succ])
    -- the lesson that is added
    refine wpN_value (by rfl) (by rfl) (by first | rfl | (rw [hY]; rfl)) (fun _ _ h hb => h.step hb) (S13.both_stable _ _ _) (fun w2 hS2 _ => ⟨.slice (some ⟨w2.heap.size, 0, none⟩) 1 1, w2.alloc (.cells x.cells.toArray 50), ?_, ⟨_, rfl⟩, ⟨_, rfl, Blk.new w2 x.cells _⟩, (Below.refl _ _).alloc (Nat.le_refl _) _⟩) ?_
    · go_simp
      rfl
    simp only [Act.put, List.setIfInBounds_toArray, List.set_cons_zero, List.set_cons_succ]
    rw [show 2 + 1 + 1 = 4 from rfl, q4]
    refine wpN_append (.tmp 25) (.tmp 27) 52 50 6 10 _ W0.heap.size elems_lsn (.slice a2 xs.length p2) xs.length (Lsns xs) (some ⟨g4, 0, none⟩) 1 1 x.cells (by rfl) (by rfl) (by first | rfl | (rw [hY]; rfl)) (by rfl) (by rfl) (by rfl) rfl (by simpa [Lsns] using Lsns_one [x]) (by simp only [maxLen]; omega) (by omega) (fun w2 hS2 hD => ?_) ?_
    · obtain ⟨hown2, ⟨g, e, hblk⟩, -⟩ := hD
      obtain rfl : g = g4 := by rw [q4] at e; simpa using e.symm
      rw [q2] at hown2
      refine ⟨hown2, (fun _ => ⟨g, 0, rfl, hblk.cells⟩), hS2.1.size, fun a' cap' w' hown hgr => ?_⟩
      refine ⟨⟨_, _, rfl⟩, ⟨_, _, rfl, ?_⟩, Keeps.of hcs (grown_keeps hS2.1 hgr (fun k e => (owns_block hown2 e).1)), ?_⟩
      · have := Rd.of_owns hown
        rw [Lsns_append]
        simpa [Lsns] using this
      intro j hj hex hlat u _ hR
      have hj4 : j = 10 := by
        simp [S13.both] at hj hex hlat
        omega
      subst hj4
      obtain ⟨g', e', hg', h2⟩ := hR
      refine ⟨g', e', hg', h2.grown hgr fun e2 => ?_⟩
      obtain ⟨_, cur, hcur⟩ := owns_block hown2 e2.symm
      exact (h2.ne_type hcur (by decide)).elim
    simp only [Act.put, List.setIfInBounds_toArray, List.set_cons_zero, List.set_cons_succ]
    rw [show 4 + 1 = 5 from rfl, q5]
    -- behind it
    apply wpN_call (by rfl) (by rfl) (by first | rfl | (rw [hY]; rfl)) (fun _ _ h hb => h.step hb) (S13.both_stable _ _ _)
    · intro w2 ⟨hB2, hk2⟩ _
      simp only [Cells] at hk2
      go_simp
      with_reducible exact ⟨rfl, rfl⟩
    · intro w2 hS2 hD
      obtain ⟨⟨a', cap', e, hrd2⟩, -⟩ := hD
      rw [q5] at e
      simp only [Value.slice.injEq, true_and] at e
      obtain ⟨rfl, rfl⟩ := e
      have hlx := learned13_any false (xs ++ [x]) a5 p5 w2 (by simp; omega) hrd2 (fun y hy => by
        rcases List.mem_append.1 hy with h | h
        · exact hok y h
        · rw [List.mem_singleton.1 h]; exact hx)
      rw [show (xs ++ [x]).length = xs.length + 1 by simp] at hlx
      refine hlx.mono ?_
      rintro e w3 ⟨a3, cap3, rfl, hM3, hb3⟩
      exact ⟨_, rfl, ⟨a3, cap3, rfl⟩, ⟨_, rfl, hM3⟩, hb3⟩
    simp only [Act.put, List.setIfInBounds_toArray, List.set_cons_zero, List.set_cons_succ]
    rw [show 5 + 1 = 6 from rfl, q6]
    repeat
      first
        | apply wpN_skip (by rfl)
        | (apply wpN_pure (by rfl) (by rfl) (by first | rfl | (rw [hY]; rfl))
           · intro w2
             go_simp
             with_reducible rfl
           simp only [Act.put, List.setIfInBounds_toArray, List.set_cons_zero, List.set_cons_succ])
    refine wpN_value (by rfl) (by rfl) (by first | rfl | (rw [hY]; rfl)) (fun _ _ h hb => h.step hb) (S13.both_stable _ _ _) (fun w2 hS2 _ => ⟨.pointer (some ⟨w2.heap.size, 0, none⟩), w2.alloc (.cells #[.int .i64 0, .slice none 0 0] 24), ?_, ⟨_, rfl⟩, ⟨_, rfl, hS2.1.size, Blk.new w2 _ _⟩, (Below.refl _ _).alloc (Nat.le_refl _) _⟩) ?_
    · go_simp
    simp only [Act.put, List.setIfInBounds_toArray, List.set_cons_zero, List.set_cons_succ]
    rw [show 6 + 1 + 1 + 1 + 1 = 10 from rfl, q10]
    refine hF.out c _ (fun K w3 hK hS3 hR3 => ?_)
    obtain ⟨⟨V3, e4, hM3⟩, ⟨b3, e5, hb3, hv3⟩, -⟩ := hR3
    obtain rfl : b3 = b10 := by rw [q10] at e5; simpa using e5.symm
    obtain rfl : V3 = .agg #[.int .i64 3, .slice a6 2 p6] := by rw [q6] at e4; simpa using e4.symm
    clear hF hY e4 e5 q0 q2 q4 q5 q6 q10
    simp only [List.drop_succ_cons, List.drop_zero]
    have hB3 : Below w.heap.size w w3 := below_trans hB0 hS3.1
    have hv13 := hv0.step hS3.1
    have hbx3 := hbx.step hS3.1
    have HM03 := Lib.hid fun (W : World) (hb : Below w3.heap.size w3 W) => HM0.out W (hS3.1.trans (hb.mono hS3.1.size))
    have d0 := hv3.cell 0
    have d1 := hv3.cell 1
    have d2 := hv3.free 0
    have d3 := hv3.free 1
    have d4 := hv3.lt
    have d5 := hv13.lt
    have d6 := hv0.lt
    have d7 := hbx3.lt
    simp only [List.getElem?_cons_zero, List.getElem?_cons_succ] at d0 d1
    obtain ⟨w4, hw4⟩ : ∃ w4, w4 = (w3.setCell ⟨b3, 0, none⟩ (.int .i64 3)).setCell ⟨b3, 1, none⟩ (.slice a6 2 p6) := ⟨_, rfl⟩
    have Hv4 := Lib.hid (show Blk w4 b3 [.int .i64 3, .slice a6 2 p6] 24 by rw [hw4]; exact (hv3.set 0 (.int .i64 3)).set 1 (.slice a6 2 p6))
    have Hw4 := Lib.hid (show Blk w4 w1.heap.size [.int .i64 3, .slice a1 2 cap1] 24 by rw [hw4]; exact (hv13.other b3 0 _ (by omega)).other b3 1 _ (by omega))
    have Hbx4 := Lib.hid (show Blk w4 w.heap.size x.cells 50 by rw [hw4]; exact (hbx3.other b3 0 _ (by omega)).other b3 1 _ (by omega))
    have HM1' := Lib.hid (show MixOwn 3 (S13.lrn false xs) (.agg #[.int .i64 3, .slice a1 2 cap1]) w4 by rw [hw4]; exact ((HM03.out w3 (Below.refl _ _)).other hv3 (by decide) (by decide)).other (hv3.set 0 (.int .i64 3)) (by decide) (by decide))
    have HM2' := Lib.hid (show MixOwn 3 (S13.lrn false (xs ++ [x])) (.agg #[.int .i64 3, .slice a6 2 p6]) w4 by rw [hw4]; exact (hM3.other hv3 (by decide) (by decide)).other (hv3.set 0 (.int .i64 3)) (by decide) (by decide))
    have hB4 : Below w.heap.size w w4 := by rw [hw4]; exact (hB3.setCell (by simp only; omega) _).setCell (by simp only; omega) _
    clear hcs hrd0
    go_wp2_with fail
    rw [← hw4]
    refine OnlyK.mk (hK.out _ _ ?_)
    clear hw4 d0 d1 d2 d3 d4 d5 d6 d7 hv3 hv13 hbx3 hM3 hB3 hK hS3 HM03 HM0 hv0 hbx hB0 HM1 HL HRd hbl
    have hf1 := S13.fit_lrn false xs
    have hf2 := S13.fit_lrn false (xs ++ [x])
    have hfol := S13.follows hf1 x hx
    rw [← S13.lrn_snoc] at hfol
    have hclip := S13.mix_clip ((S13.lrn false (xs ++ [x])).getD (x.ctx % 2).toNat []) (S13.ins false x)
    have HI := Lib.hid fun W => inputs13_any x false W hx
    obtain ⟨x1, x2, _⟩ := id hx
    have HR1 := Lib.hid fun a cap W (hb : Below w4.heap.size w4 W) (hr : Rd W a (Ints (S13.ins false x))) => mixFit13_any _ _ (x.ctx % 2) (S13.ins false x) a cap W hf1 (by omega) (by omega) (S13.ins_length _ _) (S13.ins_weak _ _) (HM1'.out.mix.step hb) hr
    have HR2 := Lib.hid fun a cap W (hb : Below w4.heap.size w4 W) (hr : Rd W a (Ints (S13.ins false x))) => mixFit13_any _ _ (x.ctx % 2) (S13.ins false x) a cap W hf2 (by omega) (by omega) (S13.ins_length _ _) (S13.ins_weak _ _) (HM2'.out.mix.step hb) hr
    have HC := Lib.hid fun W => refClip06_any (S13.mix ((S13.lrn false (xs ++ [x])).getD (x.ctx % 2).toNat []) (S13.ins false x)) W
    rw [hclip] at HC
    generalize S13.mix ((S13.lrn false (xs ++ [x])).getD (x.ctx % 2).toNat []) (S13.ins false x) = q at *
    generalize S13.mix ((S13.lrn false xs).getD (x.ctx % 2).toNat []) (S13.ins false x) = p at *
    have Hfol := Lib.hid hfol
    clear hfol hclip
    have e1 : IntKind.i64.wrap (x.ctx.tmod 2) = x.ctx % 2 := by rw [Int.tmod_eq_emod_of_nonneg x1]; exact IntWalk.i64_in _ (by omega)
    have e1' : IntKind.u8.wrap (x.ctx.tmod 2) = x.ctx % 2 := by rw [Int.tmod_eq_emod_of_nonneg x1, IntKind.wrap_u8]; omega
    have e1'' : IntKind.i64.wrap (x.ctx % 2) = x.ctx % 2 := IntWalk.i64_in _ (by omega)
    have hcs : Cells w4 [(⟨w1.heap.size, 0, none⟩, .int .i64 3), (⟨w1.heap.size, 1, none⟩, .slice a1 2 cap1), (⟨b3, 0, none⟩, .int .i64 3), (⟨b3, 1, none⟩, .slice a6 2 p6), (⟨w.heap.size, 0, none⟩, .int .u8 x.ctx), (⟨w.heap.size, 1, none⟩, .int .u8 x.rate), (⟨w.heap.size, 2, none⟩, .bool x.bit), (⟨w.heap.size, 3, none⟩, .int .i16 x.i0), (⟨w.heap.size, 4, none⟩, .int .i16 x.i1), (⟨w.heap.size, 5, none⟩, .int .i16 x.i2)] := ⟨Hw4.out.cell 0, Hw4.out.cell 1, Hv4.out.cell 0, Hv4.out.cell 1, Hbx4.out.cell 0, Hbx4.out.cell 1, Hbx4.out.cell 2, Hbx4.out.cell 3, Hbx4.out.cell 4, Hbx4.out.cell 5, trivial⟩
    have hk4 := Keeps.start hcs
    go_wp2
    refine wp_region_seq 12 1 [(true, [true, true, true, true, true, true]), (false, [false, false, false, false, false, false, true]), (false, [false, false, false, false, false, false, false, true]), (true, [false, false, false, false, false, false, false, false, true, true, true]), (false, [false, false, false, false, false, false, false, false, false, false, false, true])] _ _ (Keeps w4 [(⟨w1.heap.size, 0, none⟩, .int .i64 3), (⟨w1.heap.size, 1, none⟩, .slice a1 2 cap1), (⟨b3, 0, none⟩, .int .i64 3), (⟨b3, 1, none⟩, .slice a6 2 p6), (⟨w.heap.size, 0, none⟩, .int .u8 x.ctx), (⟨w.heap.size, 1, none⟩, .int .u8 x.rate), (⟨w.heap.size, 2, none⟩, .bool x.bit), (⟨w.heap.size, 3, none⟩, .int .i16 x.i0), (⟨w.heap.size, 4, none⟩, .int .i16 x.i1), (⟨w.heap.size, 5, none⟩, .int .i16 x.i2)]) (by kernel_rfl) (List.take_append_drop 12 _).symm rfl rfl (by kernel_rfl) (by kernel_rfl) (hk4) (fun Y Q4 F4 hY hF => ?_)
    simp only [phased, List.flatMap_cons, List.flatMap_nil, List.take_succ_cons, List.take_zero, List.drop_succ_cons, List.drop_zero, sel_true, sel_false, sel_nil, List.map_cons, List.map_nil, List.cons_append, List.nil_append, List.append_nil]
    repeat
      apply wpSeq_read (by first | rfl | (rw [hY]; rfl))
      · intro w2 hS2
        (try simp only [Keeps, Cells] at hS2)
        go_simp
        with_reducible rfl
      simp only [Act.put, List.setIfInBounds_toArray, List.set_cons_zero, List.set_cons_succ]
    apply wpSeq_call (by first | rfl | (rw [hY]; rfl))
    · go_simp
      with_reducible exact ⟨rfl, rfl⟩
    refine (HI.out _).mono ?_
    rintro e w5 ⟨ai, pi, rfl, hr5, hb5⟩
    have hk5 := hk4.step hb5
    refine ⟨_, rfl, hk5, ?_⟩
    simp only [Act.put, List.setIfInBounds_toArray, List.set_cons_zero, List.set_cons_succ]
    apply wpSeq_call (by first | rfl | (rw [hY]; rfl))
    · go_simp
      with_reducible exact ⟨rfl, rfl⟩
    refine (HR1.out _ _ _ hk5.1 hr5).mono ?_
    rintro e w6 ⟨rfl, hb6⟩
    have hk6 := hk5.step hb6
    refine ⟨_, rfl, hk6, ?_⟩
    simp only [Act.put, List.setIfInBounds_toArray, List.set_cons_zero, List.set_cons_succ]
    repeat
      apply wpSeq_read (by first | rfl | (rw [hY]; rfl))
      · intro w2 hS2
        (try simp only [Keeps, Cells] at hS2)
        go_simp
        with_reducible rfl
      simp only [Act.put, List.setIfInBounds_toArray, List.set_cons_zero, List.set_cons_succ]
    refine wpSeq_value (by first | rfl | (rw [hY]; rfl)) (by go_simp; first | with_reducible exact ⟨rfl, rfl⟩ | with_reducible rfl) (hk6) ?_
    simp only [Act.put, List.setIfInBounds_toArray, List.set_cons_zero, List.set_cons_succ]
    refine wpSeq_done (hF.out _ _ (fun K hK => ?_))
    clear hF hY
    go_wp2_with fail
    refine OnlyK.mk (hK.out _ _ ?_)
    have hk6' : Keeps w4 [(⟨w1.heap.size, 0, none⟩, .int .i64 3), (⟨w1.heap.size, 1, none⟩, .slice a1 2 cap1), (⟨b3, 0, none⟩, .int .i64 3), (⟨b3, 1, none⟩, .slice a6 2 p6), (⟨w.heap.size, 0, none⟩, .int .u8 x.ctx), (⟨w.heap.size, 1, none⟩, .int .u8 x.rate), (⟨w.heap.size, 2, none⟩, .bool x.bit), (⟨w.heap.size, 3, none⟩, .int .i16 x.i0), (⟨w.heap.size, 4, none⟩, .int .i16 x.i1), (⟨w.heap.size, 5, none⟩, .int .i16 x.i2)] w6.drew := hk6.step ((Below.refl w6.heap.size w6).drew)
    clear hK hb5 hb6 hk5 hk4 hr5
    go_wp2
    refine wp_region_seq 12 1 [(true, [true, true, true, true, true, true]), (false, [false, false, false, false, false, false, true]), (false, [false, false, false, false, false, false, false, true]), (true, [false, false, false, false, false, false, false, false, true, true, true]), (false, [false, false, false, false, false, false, false, false, false, false, false, true])] _ _ (Keeps w4 [(⟨w1.heap.size, 0, none⟩, .int .i64 3), (⟨w1.heap.size, 1, none⟩, .slice a1 2 cap1), (⟨b3, 0, none⟩, .int .i64 3), (⟨b3, 1, none⟩, .slice a6 2 p6), (⟨w.heap.size, 0, none⟩, .int .u8 x.ctx), (⟨w.heap.size, 1, none⟩, .int .u8 x.rate), (⟨w.heap.size, 2, none⟩, .bool x.bit), (⟨w.heap.size, 3, none⟩, .int .i16 x.i0), (⟨w.heap.size, 4, none⟩, .int .i16 x.i1), (⟨w.heap.size, 5, none⟩, .int .i16 x.i2)]) (by kernel_rfl) (List.take_append_drop 12 _).symm rfl rfl (by kernel_rfl) (by kernel_rfl) (hk6') (fun Y Q4 F4 hY hF => ?_)
    simp only [phased, List.flatMap_cons, List.flatMap_nil, List.take_succ_cons, List.take_zero, List.drop_succ_cons, List.drop_zero, sel_true, sel_false, sel_nil, List.map_cons, List.map_nil, List.cons_append, List.nil_append, List.append_nil]
    repeat
      apply wpSeq_read (by first | rfl | (rw [hY]; rfl))
      · intro w2 hS2
        (try simp only [Keeps, Cells] at hS2)
        go_simp
        with_reducible rfl
      simp only [Act.put, List.setIfInBounds_toArray, List.set_cons_zero, List.set_cons_succ]
    apply wpSeq_call (by first | rfl | (rw [hY]; rfl))
    · go_simp
      with_reducible exact ⟨rfl, rfl⟩
    refine (HI.out _).mono ?_
    rintro e w7 ⟨ai, pi, rfl, hr7, hb7⟩
    have hk7 := hk6'.step hb7
    refine ⟨_, rfl, hk7, ?_⟩
    simp only [Act.put, List.setIfInBounds_toArray, List.set_cons_zero, List.set_cons_succ]
    apply wpSeq_call (by first | rfl | (rw [hY]; rfl))
    · go_simp
      with_reducible exact ⟨rfl, rfl⟩
    refine (HR2.out _ _ _ hk7.1 hr7).mono ?_
    rintro e w8 ⟨rfl, hb8⟩
    have hk8 := hk7.step hb8
    refine ⟨_, rfl, hk8, ?_⟩
    simp only [Act.put, List.setIfInBounds_toArray, List.set_cons_zero, List.set_cons_succ]
    repeat
      apply wpSeq_read (by first | rfl | (rw [hY]; rfl))
      · intro w2 hS2
        (try simp only [Keeps, Cells] at hS2)
        go_simp
        with_reducible rfl
      simp only [Act.put, List.setIfInBounds_toArray, List.set_cons_zero, List.set_cons_succ]
    refine wpSeq_value (by first | rfl | (rw [hY]; rfl)) (by go_simp; first | with_reducible exact ⟨rfl, rfl⟩ | with_reducible rfl) (hk8) ?_
    simp only [Act.put, List.setIfInBounds_toArray, List.set_cons_zero, List.set_cons_succ]
    refine wpSeq_done (hF.out _ _ (fun K hK => ?_))
    clear hF hY
    go_wp2_with fail
    refine OnlyK.mk (hK.out _ _ ?_)
    have hB8 : Below w.heap.size w w8 := below_trans hB4 hk8.1
    have hcs8 := hk8.2
    clear hK hb7 hb8 hk7 hk8 hk6' hk6 hr7
    go_wp2_with fail
    refine (HC.out _).mono ?_
    rintro e w9 ⟨rfl, hb9⟩
    have hB9 : Below w.heap.size w w9 := below_trans hB8 hb9
    have hcs9 := hcs8.step hb9
    clear hcs8
    go_wp2_with fail
    refine (awake13_any _).mono ?_
    rintro e wz ⟨rfl, hbz⟩
    have hBz : Below w.heap.size w wz := below_trans hB9 hbz
    have hcsz := hcs9.step hbz
    have c3 := hcsz.2.2.2.2.2.2.1
    clear hcsz hcs9
    cases hxb : x.bit with
    | true =>
      rw [hxb] at c3
      have := Hfol.out.1 hxb
      go_wp2
      go_returns
      exact ⟨rfl, hBz⟩
    | false =>
      rw [hxb] at c3
      have := Hfol.out.2 hxb
      go_wp2
      go_returns
      exact ⟨rfl, hBz⟩
end Go.Proofs.Ytkpkkbpfcchgaaa
