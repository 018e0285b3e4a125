/- ApmLearns and ApmKeeps (law 11). No condition. -/
import Derived.Test.YtojdbhcgppcgkaaW11l
import Derived.Test.YtojdbhcgppcgkaaSpec11d
import Derived.Test.YtojdbhcgppcgkaaBase10
set_option linter.unusedSimpArgs false
set_option linter.unusedVariables false
set_option linter.unusedSectionVars false
namespace Go.Proofs.Ytojdbhcgppcgkaa
open Go.RowKit

def Lsn.val (x : Lsn) : Value := .agg #[.int .u8 x.ctx, .int .u8 x.rate, .int .u16 x.prob, .bool x.bit]
theorem elems_lsn : Elems Try.prog 51 53 4 6 [.int .u8 0, .int .u8 0, .int .u16 0, .bool false] := ⟨Try.underlying51, by kernel_rfl, rfl, by decide⟩

theorem Lsns_one (xs : List Lsn) : ∀ u ∈ Lsns xs, u.oneCell' = true := by
  intro u hu
  simp only [Lsns, List.mem_flatten, List.mem_map] at hu
  obtain ⟨l, ⟨x, _, rfl⟩, hu⟩ := hu
  simp only [Lsn.cells, List.mem_cons, List.not_mem_nil, or_false] at hu
  rcases hu with rfl | rfl | rfl | rfl <;> rfl
theorem Blk.ne_nil {w : World} {b : Nat} {cs : List Value} {t t' : TypeId} (h : Blk w b cs t) (h' : Blk w b [] t') (hne : cs ≠ []) : False := by
  unfold Blk at *
  rw [h] at h'
  simp at h'
  exact hne h'.1
theorem Blk.ne_type {w : World} {b : Nat} {cs : List Value} {cur : Array Value} {t t' : TypeId} (h : Blk w b cs t) (h' : w.heap[b]? = some (.cells cur t' (0, 0))) (hne : t ≠ t') : False := by
  unfold Blk at *
  rw [h] at h'
  simp at h'
  exact hne h'.2

/-- What the second call of learned takes and gives. -/
def S11.both (xs : List Lsn) (x : Lsn) (B : Nat) : Fresh where
  nd := [0, 2, 4, 5, 6, 10]
  dv := [7, 8, 9]
  Sh := fun k u => if k = 0 then ∃ g, u = .slice (some ⟨g, 0, none⟩) 0 0 else if k = 2 then ∃ a c, u = .slice a xs.length c else if k = 4 then ∃ g, u = .slice (some ⟨g, 0, none⟩) 1 1
    else if k = 5 then ∃ a c, u = .slice a (xs.length + 1) c else if k = 6 then ∃ a c, u = .tuple #[.agg #[.slice a 99 c], .bool true] else ∃ b, u = .pointer (some ⟨b, 0, none⟩)
  R := fun k u w => if k = 0 then ∃ g, u = .slice (some ⟨g, 0, none⟩) 0 0 ∧ B ≤ g ∧ Blk w g [] 53 else if k = 2 then w.ownsRow B 53 4 u xs.length (Lsns xs)
    else if k = 4 then ∃ g, u = .slice (some ⟨g, 0, none⟩) 1 1 ∧ Blk w g x.cells 53
    else if k = 5 then ∃ a c, u = .slice a (xs.length + 1) c ∧ Rd w a (Lsns (xs ++ [x])) else if k = 6 then ∃ V, u = .tuple #[V, .bool true] ∧ MapIs (S11.lrn (xs ++ [x])) V w
    else ∃ b, u = .pointer (some ⟨b, 0, none⟩) ∧ B ≤ b ∧ Blk w b [.slice none 0 0] 24
  D := fun k => if k = 2 then [0] else if k = 5 then [2, 4] else if k = 6 then [5] else []
  ex := fun k => if k = 2 then [0] else if k = 5 then [0, 2, 4] else []
  lat := fun k => if k = 2 then [2, 5, 6] else if k = 5 then [5, 6] else []
  fin := [6, 10]

theorem S11.both_stable (xs : List Lsn) (x : Lsn) (B : Nat) : ∀ k ∈ (S11.both xs x B).nd, ∀ u w w', (S11.both xs x B).R k u w → Below w.heap.size w w' → (S11.both xs x B).R k u w' := by
  intro k hk u w w' h hb
  simp only [S11.both, List.mem_cons, List.not_mem_nil, or_false] at hk
  rcases hk with rfl | rfl | rfl | rfl | rfl | rfl
  · obtain ⟨g, e, h1, h2⟩ := h; exact ⟨g, e, h1, h2.step hb⟩
  · exact owns_step (B := 0) h hb
  · obtain ⟨g, e, h2⟩ := h; exact ⟨g, e, h2.step hb⟩
  · obtain ⟨a, c, e, h2⟩ := h; exact ⟨a, c, e, h2.step hb⟩
  · obtain ⟨V, e, h2⟩ := h; exact ⟨V, e, h2.step hb⟩
  · obtain ⟨g, e, h1, h2⟩ := h; exact ⟨g, e, h1, h2.step hb⟩
theorem S11.both_some (xs : List Lsn) (x : Lsn) (B : Nat) : ∃ c : Nat → Value, ∀ k ∈ (S11.both xs x B).nd, (S11.both xs x B).Sh k (c k) :=
  ⟨fun k => if k = 0 then .slice (some ⟨0, 0, none⟩) 0 0 else if k = 2 then .slice none xs.length 0 else if k = 4 then .slice (some ⟨0, 0, none⟩) 1 1 else if k = 5 then .slice none (xs.length + 1) 0
    else if k = 6 then .tuple #[.agg #[.slice none 99 0], .bool true] else .pointer (some ⟨0, 0, none⟩), fun k hk => by
    simp only [S11.both, List.mem_cons, List.not_mem_nil, or_false] at hk
    rcases hk with rfl | rfl | rfl | rfl | rfl | rfl
    · exact ⟨_, rfl⟩
    · exact ⟨_, _, rfl⟩
    · exact ⟨_, rfl⟩
    · exact ⟨_, _, rfl⟩
    · exact ⟨_, _, rfl⟩
    · exact ⟨_, rfl⟩⟩

/-- learned, whatever capacity. -/
theorem learnedM11_any (xs : List Lsn) (V : Value) (w : World) (hV : ∃ a cap, V = .slice a xs.length cap ∧ Rd w a (Lsns xs)) (hlen : xs.length ≤ 9223372036854775807) (hok : ∀ x ∈ xs, x.ok) :
    Calls Try.prog 24 #[V] w fun e w' => ∃ a cap, e = .returned (.tuple #[.agg #[.slice a 99 cap], .bool true]) ∧ MapIs (S11.lrn xs) (.agg #[.slice a 99 cap]) w' ∧ Below w.heap.size w w' := by
  obtain ⟨a, cap, rfl, hrd⟩ := hV
  refine (learned11_any xs a cap w hlen hrd hok).mono ?_
  rintro e w' ⟨V, rfl, hM, hb⟩
  obtain ⟨a1, cap1, rfl, hM1, _⟩ := mapOpen hM (S11.fit_lrn xs hok).1
  exact ⟨a1, cap1, rfl, hM1, hb⟩

set_option maxHeartbeats 1000000 in
theorem apmLearns_any (xs : List Lsn) (a : Option Addr) (cap : Nat) (x : Lsn) (w : World) (hlen : xs.length ≤ 9223372036854775807) (hrd : Rd w a (Lsns xs)) (hok : ∀ x ∈ xs, x.ok) (hx : x.ok) :
    Calls Try.prog 8 #[.slice a xs.length cap, x.val] w fun e w' => e = .returned (.bool true) ∧ Below w.heap.size w w' := by
  by_cases hlong : 60 < xs.length
  · have hl3 : (60 : Int) < (xs.length : Int) := by omega
    go_enter Try.func8, Try.ntmps8
    go_wp2_with fail
    refine (awake11_any _).mono ?_
    rintro e w1 ⟨rfl, hb1⟩
    have hB1 : Below w.heap.size w w1 := below_trans (by go_grown) hb1
    have z1 : w.heap.size ≤ w1.heap.size := hB1.size
    go_wp2
    go_returns
    exact ⟨rfl, hB1⟩
  · have hl3 : ¬ (60 : Int) < (xs.length : Int) := by omega
    have HL := Lib.hid fun W (hb : Below w.heap.size w W) => learnedM11_any xs _ W ⟨a, cap, rfl, Rd.below hrd hb (fun b o e hne => by
      obtain ⟨b', o', e', hc⟩ := hrd hne
      rw [e] at e'; cases e'
      cases hxs : Lsns xs with
      | nil => exact absurd hxs hne
      | cons v vs => exact block_lt_of_cell (hc 0 v (by rw [hxs]; rfl)))⟩ hlen hok
    have HRd := Lib.hid fun W (hb : Below w.heap.size w W) => Rd.below hrd hb (fun b o e hne => by
      obtain ⟨b', o', e', hc⟩ := hrd hne
      rw [e] at e'; cases e'
      cases hxs : Lsns xs with
      | nil => exact absurd hxs hne
      | cons v vs => exact block_lt_of_cell (hc 0 v (by rw [hxs]; rfl)))
    simp only [Lsn.val]
    go_enter Try.func8, Try.ntmps8
    go_wp2_with fail
    refine (HL.out _ (by go_grown)).mono ?_
    rintro e w1 ⟨a1, cap1, rfl, hM1, hb1⟩
    have HM1 := Lib.hid fun (W : World) (hb : Below w1.heap.size w1 W) => hM1.step hb
    clear hM1
    have hB1 : Below w.heap.size w w1 := below_trans (by go_grown) hb1
    have z1 : w.heap.size < w1.heap.size := by have := hb1.size; simp at this; omega
    go_wp2
    have hB0 : Below w.heap.size w (w1.alloc (Obj.cells #[.slice a1 99 cap1] 24)) := by go_grown
    have hv0 : Blk (w1.alloc (Obj.cells #[.slice a1 99 cap1] 24)) w1.heap.size [.slice a1 99 cap1] 24 := Blk.new w1 _ _
    have hbx : Blk (w1.alloc (Obj.cells #[.slice a1 99 cap1] 24)) w.heap.size x.cells 53 := ((Blk.new w _ _).step hb1).alloc _
    have HM0 := Lib.hid fun (W : World) (hb : Below (w1.alloc (Obj.cells #[.slice a1 99 cap1] 24)).heap.size (w1.alloc (Obj.cells #[.slice a1 99 cap1] 24)) W) => (HM1.out _ ((Below.refl _ _).alloc (Nat.le_refl _) _)).step hb
    generalize w1.alloc (Obj.cells #[.slice a1 99 cap1] 24) = W0 at *
    have hbl := hbx.lt
    have hrd0 := HRd.out W0 hB0
    have c0 := hbx.cell 0
    have c1 := hbx.cell 1
    have c2 := hbx.cell 2
    have c3 := hbx.cell 3
    simp only [Lsn.cells, List.getElem?_cons_zero, List.getElem?_cons_succ] at c0 c1 c2 c3
    have hcs : Cells W0 [(⟨w.heap.size, 0, none⟩, .int .u8 x.ctx), (⟨w.heap.size, 1, none⟩, .int .u8 x.rate), (⟨w.heap.size, 2, none⟩, .int .u16 x.prob), (⟨w.heap.size, 3, none⟩, .bool x.bit)] := ⟨c0, c1, c2, c3, trivial⟩
    refine wp_region_fresh 11 2 _ _ (Keeps W0 [(⟨w.heap.size, 0, none⟩, .int .u8 x.ctx), (⟨w.heap.size, 1, none⟩, .int .u8 x.rate), (⟨w.heap.size, 2, none⟩, .int .u16 x.prob), (⟨w.heap.size, 3, none⟩, .bool x.bit)]) (S11.both xs x W0.heap.size) (by kernel_rfl) (List.take_append_drop 11 _).symm rfl rfl (by kernel_rfl) (Keeps.start hcs) (fun _ _ h hb => h.step hb) (S11.both_stable _ _ _) (S11.both_some _ _ _) (fun Y F hY hF => ?_)
    simp only [List.take_succ_cons, List.take_zero, List.drop_succ_cons, List.drop_zero]
    repeat
      first
        | apply wpC_skip (by rfl)
        | (apply wpC_value (by rfl) (by first | rfl | (rw [hY]; rfl))
           · intro w2 ⟨hB2, hk2⟩
             simp only [Cells] at hk2
             go_simp
             with_reducible rfl
           simp only [Act.put, List.setIfInBounds_toArray, List.set_cons_zero, List.set_cons_succ])
    intro c hc
    obtain ⟨g0, q0⟩ : ∃ g, c 0 = .slice (some ⟨g, 0, none⟩) 0 0 := hc 0 (by simp [S11.both])
    obtain ⟨a2, p2, q2⟩ : ∃ a cp, c 2 = .slice a xs.length cp := hc 2 (by simp [S11.both])
    obtain ⟨g4, q4⟩ : ∃ g, c 4 = .slice (some ⟨g, 0, none⟩) 1 1 := hc 4 (by simp [S11.both])
    obtain ⟨a5, p5, q5⟩ : ∃ a cp, c 5 = .slice a (xs.length + 1) cp := hc 5 (by simp [S11.both])
    obtain ⟨a6, p6, q6⟩ : ∃ a cp, c 6 = .tuple #[.agg #[.slice a 99 cp], .bool true] := hc 6 (by simp [S11.both])
    obtain ⟨b10, q10⟩ : ∃ b, c 10 = .pointer (some ⟨b, 0, none⟩) := hc 10 (by simp [S11.both])
    clear hc
    -- an empty slice
    refine wpN_value (by rfl) (by rfl) (by first | rfl | (rw [hY]; rfl)) (fun _ _ h hb => h.step hb) (S11.both_stable _ _ _) (fun w2 hS2 _ => ⟨.slice (some ⟨w2.heap.size, 0, none⟩) 0 0, w2.alloc (.cells #[] 53), ?_, ⟨_, rfl⟩, ⟨_, rfl, hS2.1.size, Blk.new w2 [] _⟩, (Below.refl _ _).alloc (Nat.le_refl _) _⟩) ?_
    · go_simp
    simp only [Act.put, List.setIfInBounds_toArray, List.set_cons_zero, List.set_cons_succ]
    rw [q0]
    repeat
      first
        | apply wpN_skip (by rfl)
        | (apply wpN_pure (by rfl) (by rfl) (by first | rfl | (rw [hY]; rfl))
           · intro w2
             go_simp
             with_reducible rfl
           simp only [Act.put, List.setIfInBounds_toArray, List.set_cons_zero, List.set_cons_succ])
    -- the lessons in it
    refine wpN_append (.tmp 23) (.tmp 24) 51 53 4 6 _ W0.heap.size elems_lsn (.slice (some ⟨g0, 0, none⟩) 0 0) 0 [] a xs.length cap (Lsns xs) (by rfl) (by rfl) (by first | rfl | (rw [hY]; rfl)) (by rfl) (by rfl) (by rfl) (by rw [Lsns_length]; omega) (Lsns_one xs) (by simp only [maxLen]; omega) (by omega) (fun w2 hS2 hD => ?_) ?_
    · obtain ⟨⟨g, e, hg, hblk⟩, -⟩ := hD
      obtain rfl : g = g0 := by rw [q0] at e; simpa using e.symm
      refine ⟨⟨rfl, .inr ⟨g, 0, #[], rfl, hg, hblk, Nat.le_refl _, Nat.zero_le _, rfl, rfl⟩⟩, hrd0.step hS2.1, hS2.1.size, fun a' cap' w' hown hgr => ?_⟩
      rw [show 0 + xs.length = xs.length from Nat.zero_add _] at hown ⊢
      refine ⟨⟨_, _, rfl⟩, hown, Keeps.of hcs (grown_keeps hS2.1 hgr (fun k e => by simp [Value.ownBlock] at e; omega)), ?_⟩
      intro j hj hex hlat u _ hR
      have hj4 : j = 4 ∨ j = 10 := by
        simp [S11.both] at hj hex hlat
        omega
      rcases hj4 with rfl | rfl
      · obtain ⟨g', e', h2⟩ := hR
        refine ⟨g', e', h2.grown hgr fun e2 => ?_⟩
        simp only [Value.ownBlock, Option.some.injEq] at e2
        subst e2
        exact (Blk.ne_nil h2 hblk (by simp [Lsn.cells])).elim
      · obtain ⟨g', e', hg', h2⟩ := hR
        refine ⟨g', e', hg', h2.grown hgr fun e2 => ?_⟩
        simp only [Value.ownBlock, Option.some.injEq] at e2
        subst e2
        exact (Blk.ne_nil h2 hblk (by simp)).elim
    simp only [Act.put, List.setIfInBounds_toArray, List.set_cons_zero, List.set_cons_succ]
    rw [show (0 + 1 + 1) = 2 from rfl, q2]
    repeat
      first
        | apply wpN_skip (by rfl)
        | (apply wpN_pure (by rfl) (by rfl) (by first | rfl | (rw [hY]; rfl))
           · intro w2
             go_simp
             with_reducible rfl
           simp only [Act.put, List.setIfInBounds_toArray, List.set_cons_zero, List.set_cons_succ])
    -- the lesson that is added
    refine wpN_value (by rfl) (by rfl) (by first | rfl | (rw [hY]; rfl)) (fun _ _ h hb => h.step hb) (S11.both_stable _ _ _) (fun w2 hS2 _ => ⟨.slice (some ⟨w2.heap.size, 0, none⟩) 1 1, w2.alloc (.cells x.cells.toArray 53), ?_, ⟨_, rfl⟩, ⟨_, rfl, Blk.new w2 x.cells _⟩, (Below.refl _ _).alloc (Nat.le_refl _) _⟩) ?_
    · go_simp
      rfl
    simp only [Act.put, List.setIfInBounds_toArray, List.set_cons_zero, List.set_cons_succ]
    rw [show 2 + 1 + 1 = 4 from rfl, q4]
    refine wpN_append (.tmp 25) (.tmp 27) 51 53 4 6 _ W0.heap.size elems_lsn (.slice a2 xs.length p2) xs.length (Lsns xs) (some ⟨g4, 0, none⟩) 1 1 x.cells (by rfl) (by rfl) (by first | rfl | (rw [hY]; rfl)) (by rfl) (by rfl) (by rfl) rfl (by simpa [Lsns] using Lsns_one [x]) (by simp only [maxLen]; omega) (by omega) (fun w2 hS2 hD => ?_) ?_
    · obtain ⟨hown2, ⟨g, e, hblk⟩, -⟩ := hD
      obtain rfl : g = g4 := by rw [q4] at e; simpa using e.symm
      rw [q2] at hown2
      refine ⟨hown2, (fun _ => ⟨g, 0, rfl, hblk.cells⟩), hS2.1.size, fun a' cap' w' hown hgr => ?_⟩
      refine ⟨⟨_, _, rfl⟩, ⟨_, _, rfl, ?_⟩, Keeps.of hcs (grown_keeps hS2.1 hgr (fun k e => (owns_block hown2 e).1)), ?_⟩
      · have := Rd.of_owns hown
        rw [Lsns_append]
        simpa [Lsns] using this
      intro j hj hex hlat u _ hR
      have hj4 : j = 10 := by
        simp [S11.both] at hj hex hlat
        omega
      subst hj4
      obtain ⟨g', e', hg', h2⟩ := hR
      refine ⟨g', e', hg', h2.grown hgr fun e2 => ?_⟩
      obtain ⟨_, cur, hcur⟩ := owns_block hown2 e2.symm
      exact (h2.ne_type hcur (by decide)).elim
    simp only [Act.put, List.setIfInBounds_toArray, List.set_cons_zero, List.set_cons_succ]
    rw [show 4 + 1 = 5 from rfl, q5]
    -- behind it
    apply wpN_call (by rfl) (by rfl) (by first | rfl | (rw [hY]; rfl)) (fun _ _ h hb => h.step hb) (S11.both_stable _ _ _)
    · intro w2 ⟨hB2, hk2⟩ _
      simp only [Cells] at hk2
      go_simp
      with_reducible exact ⟨rfl, rfl⟩
    · intro w2 hS2 hD
      obtain ⟨⟨a', cap', e, hrd2⟩, -⟩ := hD
      rw [q5] at e
      simp only [Value.slice.injEq, true_and] at e
      obtain ⟨rfl, rfl⟩ := e
      refine (learnedM11_any (xs ++ [x]) (.slice a5 (xs.length + 1) p5) w2 ⟨a5, p5, by simp, hrd2⟩ (by simp; omega) (fun y hy => ?_)).mono ?_
      · rcases List.mem_append.1 hy with h | h
        · exact hok y h
        · rw [List.mem_singleton.1 h]; exact hx
      · rintro e w3 ⟨a3, cap3, rfl, hM3, hb3⟩
        exact ⟨_, rfl, ⟨a3, cap3, rfl⟩, ⟨_, rfl, hM3⟩, hb3⟩
    simp only [Act.put, List.setIfInBounds_toArray, List.set_cons_zero, List.set_cons_succ]
    rw [show 5 + 1 = 6 from rfl, q6]
    repeat
      first
        | apply wpN_skip (by rfl)
        | (apply wpN_pure (by rfl) (by rfl) (by first | rfl | (rw [hY]; rfl))
           · intro w2
             go_simp
             with_reducible rfl
           simp only [Act.put, List.setIfInBounds_toArray, List.set_cons_zero, List.set_cons_succ])
    refine wpN_value (by rfl) (by rfl) (by first | rfl | (rw [hY]; rfl)) (fun _ _ h hb => h.step hb) (S11.both_stable _ _ _) (fun w2 hS2 _ => ⟨.pointer (some ⟨w2.heap.size, 0, none⟩), w2.alloc (.cells #[.slice none 0 0] 24), ?_, ⟨_, rfl⟩, ⟨_, rfl, hS2.1.size, Blk.new w2 _ _⟩, (Below.refl _ _).alloc (Nat.le_refl _) _⟩) ?_
    · go_simp
    simp only [Act.put, List.setIfInBounds_toArray, List.set_cons_zero, List.set_cons_succ]
    rw [show 6 + 1 + 1 + 1 + 1 = 10 from rfl, q10]
    refine hF.out c _ (fun K w3 hK hS3 hR3 => ?_)
    obtain ⟨⟨V3, e4, hM3⟩, ⟨b3, e5, hb3, hv3⟩, -⟩ := hR3
    obtain rfl : b3 = b10 := by rw [q10] at e5; simpa using e5.symm
    obtain rfl : V3 = .agg #[.slice a6 99 p6] := by rw [q6] at e4; simpa using e4.symm
    clear hF hY e4 e5 q0 q2 q4 q5 q6 q10
    simp only [List.drop_succ_cons, List.drop_zero]
    have hB3 : Below w.heap.size w w3 := below_trans hB0 hS3.1
    have hv13 := hv0.step hS3.1
    have hbx3 := hbx.step hS3.1
    have HM03 := Lib.hid fun (W : World) (hb : Below w3.heap.size w3 W) => HM0.out W (hS3.1.trans (hb.mono hS3.1.size))
    have d0 := hv3.cell 0
    have d1 := hv3.free 0
    have d2 := hv3.lt
    have d3 := hv13.lt
    have d4 := hv0.lt
    have d5 := hbx3.lt
    simp only [List.getElem?_cons_zero] at d0
    clear c0 c1 c2 c3 hcs hrd0
    go_wp2_with fail
    refine OnlyK.mk (hK.out _ _ ?_)
    have hv4 := hv3.set 0 (.slice a6 99 p6)
    have hw4 := hv13.other b3 0 (.slice a6 99 p6) (by omega)
    have hbx4 := hbx3.other b3 0 (.slice a6 99 p6) (by omega)
    have hM1 := (HM03.out w3 (Below.refl _ _)).setOther (i := 0) (v := .slice a6 99 p6) hv3
    have hM2 := hM3.setOther (i := 0) (v := .slice a6 99 p6) hv3
    have hB4 : Below w.heap.size w (w3.setCell ⟨b3, 0, none⟩ (.slice a6 99 p6)) := hB3.setCell (by simp; omega) _
    simp only [List.set_cons_zero] at hv4
    clear d0 d1 d2 d3 d4 d5 hv3 hv13 hbx3 hM3 hB3 hK hS3 HM03 HM0 hv0 hbx hB0 HM1 HL HRd hbl
    generalize w3.setCell ⟨b3, 0, none⟩ (.slice a6 99 p6) = w4 at *
    have hf1 := S11.fit_lrn xs hok
    have hf2 : S11.fit (S11.lrn (xs ++ [x])) := by rw [S11.lrn_snoc]; exact S11.fit_tell hf1 x hx
    obtain ⟨x1, x2, x3, x4, x5, x6⟩ := id hx
    have hu1 := S11.fit_usable hf1 (x.ctx % 3) x.prob (by omega) (by omega)
    have hu2 := S11.fit_usable hf2 (x.ctx % 3) x.prob (by omega) (by omega)
    have HR1 := Lib.hid fun W (hb : Below w4.heap.size w4 W) => refineM11_any _ _ (x.ctx % 3) (S11.ch x.prob) W (hM1.step hb)
    have HR2 := Lib.hid fun W (hb : Below w4.heap.size w4 W) => refineM11_any _ _ (x.ctx % 3) (S11.ch x.prob) W (hM2.step hb)
    have hmv := S11.tell_moves hf1 x hx
    have hbd := S11.refine_bounds (S11.lrn (xs ++ [x])) (x.ctx % 3).toNat (S11.ch x.prob)
    rw [← S11.lrn_snoc] at hmv
    have r1 : S11.refineR (S11.lrn xs) (x.ctx % 3) (S11.ch x.prob) = S11.refine (S11.lrn xs) (x.ctx % 3).toNat (S11.ch x.prob) := by unfold S11.refineR; rw [if_pos hu1]
    have r2 : S11.refineR (S11.lrn (xs ++ [x])) (x.ctx % 3) (S11.ch x.prob) = S11.refine (S11.lrn (xs ++ [x])) (x.ctx % 3).toNat (S11.ch x.prob) := by unfold S11.refineR; rw [if_pos hu2]
    rw [hu1, r1] at HR1
    rw [hu2, r2] at HR2
    generalize S11.refine (S11.lrn xs) (x.ctx % 3).toNat (S11.ch x.prob) = y1 at *
    generalize S11.refine (S11.lrn (xs ++ [x])) (x.ctx % 3).toNat (S11.ch x.prob) = y2 at *
    clear hf1 hf2 hu1 hu2 r1 r2 hM1 hM2
    obtain ⟨bd1, bd2⟩ := hbd
    have Hmv := Lib.hid hmv
    clear hmv
    have e1 : IntKind.i64.wrap (x.ctx.tmod 3) = x.ctx % 3 := by rw [Int.tmod_eq_emod_of_nonneg x1]; exact IntWalk.i64_in _ (by omega)
    have c0 := hbx4.cell 0
    have c2 := hbx4.cell 2
    have c3 := hbx4.cell 3
    have m0 := hw4.cell 0
    have n0 := hv4.cell 0
    simp only [Lsn.cells, List.getElem?_cons_zero, List.getElem?_cons_succ] at c0 c2 c3 m0 n0
    have hcs : Cells w4 [(⟨w1.heap.size, 0, none⟩, .slice a1 99 cap1), (⟨b3, 0, none⟩, .slice a6 99 p6), (⟨w.heap.size, 0, none⟩, .int .u8 x.ctx), (⟨w.heap.size, 2, none⟩, .int .u16 x.prob), (⟨w.heap.size, 3, none⟩, .bool x.bit)] := ⟨m0, n0, c0, c2, c3, trivial⟩
    clear c0 c2 c3 m0 n0 hv4 hw4 hbx4
    go_wp2
    refine wp_region_all 14 (Keeps w4 [(⟨w1.heap.size, 0, none⟩, .slice a1 99 cap1), (⟨b3, 0, none⟩, .slice a6 99 p6), (⟨w.heap.size, 0, none⟩, .int .u8 x.ctx), (⟨w.heap.size, 2, none⟩, .int .u16 x.prob), (⟨w.heap.size, 3, none⟩, .bool x.bit)]) (by kernel_rfl) rfl (by kernel_rfl) (Keeps.start hcs) (fun Y F hY hF => ?_)
    repeat
      apply wpSteady_value (by first | rfl | (rw [hY]; rfl))
      · intro w2 ⟨hB2, hk2⟩
        simp only [Cells] at hk2
        go_simp
        with_reducible rfl
      simp only [Act.put, List.setIfInBounds_toArray, List.set_cons_zero, List.set_cons_succ]
    apply wpSteady_call (by first | rfl | (rw [hY]; rfl))
    · intro w2 ⟨hB2, hk2⟩
      simp only [Cells] at hk2
      go_simp
      with_reducible exact ⟨rfl, rfl⟩
    · intro w2 hS2
      have hk2 := hS2.2
      simp only [Cells] at hk2
      refine (lawChance11_any x.prob _ x5 x6).mono ?_
      rintro e w3 ⟨rfl, hb3⟩
      exact ⟨rfl, hS2.step hb3⟩
    simp only [Act.put, List.setIfInBounds_toArray, List.set_cons_zero, List.set_cons_succ]
    repeat
      apply wpSteady_value (by first | rfl | (rw [hY]; rfl))
      · intro w2 ⟨hB2, hk2⟩
        simp only [Cells] at hk2
        go_simp
        with_reducible rfl
      simp only [Act.put, List.setIfInBounds_toArray, List.set_cons_zero, List.set_cons_succ]
    apply wpSteady_call (by first | rfl | (rw [hY]; rfl))
    · intro w2 ⟨hB2, hk2⟩
      simp only [Cells] at hk2
      go_simp
      with_reducible exact ⟨rfl, rfl⟩
    · intro w2 hS2
      have hk2 := hS2.2
      simp only [Cells] at hk2
      refine (HR1.out _ hS2.1).mono ?_
      rintro e w3 ⟨rfl, hb3⟩
      exact ⟨rfl, hS2.step hb3⟩
    simp only [Act.put, List.setIfInBounds_toArray, List.set_cons_zero, List.set_cons_succ]
    repeat
      apply wpSteady_value (by first | rfl | (rw [hY]; rfl))
      · intro w2 ⟨hB2, hk2⟩
        simp only [Cells] at hk2
        go_simp
        with_reducible rfl
      simp only [Act.put, List.setIfInBounds_toArray, List.set_cons_zero, List.set_cons_succ]
    refine hF.out _ (fun w5 hS5 => ?_)
    clear hF hY
    have Hb5 := Lib.hid hS5.1
    have hcs5 := hS5.2
    clear hS5 hcs
    go_wp2
    refine wp_region_all 14 (Keeps w5 [(⟨w1.heap.size, 0, none⟩, .slice a1 99 cap1), (⟨b3, 0, none⟩, .slice a6 99 p6), (⟨w.heap.size, 0, none⟩, .int .u8 x.ctx), (⟨w.heap.size, 2, none⟩, .int .u16 x.prob), (⟨w.heap.size, 3, none⟩, .bool x.bit)]) (by kernel_rfl) rfl (by kernel_rfl) (Keeps.start hcs5) (fun Y F hY hF => ?_)
    repeat
      apply wpSteady_value (by first | rfl | (rw [hY]; rfl))
      · intro w2 ⟨hB2, hk2⟩
        simp only [Cells] at hk2
        go_simp
        with_reducible rfl
      simp only [Act.put, List.setIfInBounds_toArray, List.set_cons_zero, List.set_cons_succ]
    apply wpSteady_call (by first | rfl | (rw [hY]; rfl))
    · intro w2 ⟨hB2, hk2⟩
      simp only [Cells] at hk2
      go_simp
      with_reducible exact ⟨rfl, rfl⟩
    · intro w2 hS2
      have hk2 := hS2.2
      simp only [Cells] at hk2
      refine (lawChance11_any x.prob _ x5 x6).mono ?_
      rintro e w3 ⟨rfl, hb3⟩
      exact ⟨rfl, hS2.step hb3⟩
    simp only [Act.put, List.setIfInBounds_toArray, List.set_cons_zero, List.set_cons_succ]
    repeat
      apply wpSteady_value (by first | rfl | (rw [hY]; rfl))
      · intro w2 ⟨hB2, hk2⟩
        simp only [Cells] at hk2
        go_simp
        with_reducible rfl
      simp only [Act.put, List.setIfInBounds_toArray, List.set_cons_zero, List.set_cons_succ]
    apply wpSteady_call (by first | rfl | (rw [hY]; rfl))
    · intro w2 ⟨hB2, hk2⟩
      simp only [Cells] at hk2
      go_simp
      with_reducible exact ⟨rfl, rfl⟩
    · intro w2 hS2
      have hk2 := hS2.2
      simp only [Cells] at hk2
      refine (HR2.out _ (Hb5.out.trans (hS2.1.mono Hb5.out.size))).mono ?_
      rintro e w3 ⟨rfl, hb3⟩
      exact ⟨rfl, hS2.step hb3⟩
    simp only [Act.put, List.setIfInBounds_toArray, List.set_cons_zero, List.set_cons_succ]
    repeat
      apply wpSteady_value (by first | rfl | (rw [hY]; rfl))
      · intro w2 ⟨hB2, hk2⟩
        simp only [Cells] at hk2
        go_simp
        with_reducible rfl
      simp only [Act.put, List.setIfInBounds_toArray, List.set_cons_zero, List.set_cons_succ]
    refine hF.out _ (fun w6 hS6 => ?_)
    clear hF hY
    have hB6 : Below w.heap.size w w6 := below_trans hB4 (Hb5.out.trans (hS6.1.mono Hb5.out.size))
    have hcs6 := hS6.2
    clear hS6 hcs5 HR1 HR2
    go_wp2_with fail
    refine (awake11_any _).mono ?_
    rintro e w7 ⟨rfl, hb7⟩
    have hB7 : Below w.heap.size w w7 := below_trans hB6 hb7
    have hcs7 := hcs6.step hb7
    have c3 := hcs7.2.2.2.2.1
    clear hcs7 hcs6
    cases hxb : x.bit with
    | true =>
      rw [hxb] at c3
      have := Hmv.out.1 hxb
      go_wp2
      go_returns
      exact ⟨rfl, hB7⟩
    | false =>
      rw [hxb] at c3
      have := Hmv.out.2 hxb
      go_wp2
      go_returns
      exact ⟨rfl, hB7⟩
end Go.Proofs.Ytojdbhcgppcgkaa
