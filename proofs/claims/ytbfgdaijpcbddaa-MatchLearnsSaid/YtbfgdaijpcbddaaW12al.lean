/- The reference's complete (layer 12). No condition. -/
import Derived.Test.YtbfgdaijpcbddaaW12ak
set_option linter.unusedSimpArgs false
set_option linter.unusedVariables false
set_option linter.unusedSectionVars false
namespace Go.Proofs.Ytbfgdaijpcbddaa
open Go.RowKit

theorem Blk.ne_nil {w : World} {b : Nat} {cs : List Value} {t t' : TypeId} (h : Blk w b cs t) (h' : Blk w b [] t') (hne : cs ≠ []) : False := by
  unfold Blk at *
  rw [h] at h'
  simp at h'
  exact hne h'.1

/-- The lists of a model are the old ones, or lie at B or beyond. -/
def NewPl (B : Nat) (p q : Pl) : Prop := (q.ah = p.ah ∨ ∀ g o, q.ah = some ⟨g, o, none⟩ → B ≤ g) ∧ (∀ g o, q.ab = some ⟨g, o, none⟩ → B ≤ g) ∧ (q.ac = p.ac ∨ ∀ g o, q.ac = some ⟨g, o, none⟩ → B ≤ g)

theorem below_of {B : Nat} {w w' : World} (hS : w.heap.size = B) (h : Below B w w') : Below w.heap.size w w' := by rw [hS]; exact h

/-- A byte behind bytes, in fresh memory. -/
def S12.grow (xs : List Int) (y B : Nat) : Fresh where
  nd := [0, 3, 7, 8]
  dv := []
  Sh := fun k u => if k = 0 then ∃ g, u = .slice (some ⟨g, 0, none⟩) 0 0 else if k = 3 then ∃ a c, u = .slice a xs.length c else if k = 7 then ∃ g, u = .slice (some ⟨g, 0, none⟩) 1 1 else ∃ a c, u = .slice a (xs.length + 1) c
  R := fun k u w => if k = 0 then ∃ g, u = .slice (some ⟨g, 0, none⟩) 0 0 ∧ B ≤ g ∧ Blk w g [] 5 else if k = 3 then w.ownsRow B 5 1 u xs.length (Bts xs)
    else if k = 7 then ∃ g, u = .slice (some ⟨g, 0, none⟩) 1 1 ∧ Blk w g [.int .u8 (y : Int)] 5 else w.ownsRow B 5 1 u (xs.length + 1) (Bts (xs ++ [(y : Int)]))
  D := fun k => if k = 3 then [0] else if k = 8 then [3, 7] else []
  ex := fun k => if k = 3 then [0] else if k = 8 then [0, 3, 7] else []
  lat := fun k => if k = 3 then [3, 8] else if k = 8 then [8] else []
  fin := [8]
theorem S12.grow_stable (xs : List Int) (y B : Nat) : ∀ k ∈ (S12.grow xs y B).nd, ∀ u w w', (S12.grow xs y B).R k u w → Below w.heap.size w w' → (S12.grow xs y B).R k u w' := by
  intro k hk u w w' h hb
  simp only [S12.grow, List.mem_cons, List.not_mem_nil, or_false] at hk
  rcases hk with rfl | rfl | rfl | rfl
  · obtain ⟨g, e, h1, h2⟩ := h; exact ⟨g, e, h1, h2.step hb⟩
  · exact owns_step (B := 0) h hb
  · obtain ⟨g, e, h2⟩ := h; exact ⟨g, e, h2.step hb⟩
  · exact owns_step (B := 0) h hb
theorem S12.grow_some (xs : List Int) (y B : Nat) : ∃ c : Nat → Value, ∀ k ∈ (S12.grow xs y B).nd, (S12.grow xs y B).Sh k (c k) :=
  ⟨fun k => if k = 0 then .slice (some ⟨0, 0, none⟩) 0 0 else if k = 3 then .slice none xs.length 0 else if k = 7 then .slice (some ⟨0, 0, none⟩) 1 1 else .slice none (xs.length + 1) 0, fun k hk => by
    simp only [S12.grow, List.mem_cons, List.not_mem_nil, or_false] at hk
    rcases hk with rfl | rfl | rfl | rfl
    · exact ⟨_, rfl⟩
    · exact ⟨_, _, rfl⟩
    · exact ⟨_, rfl⟩
    · exact ⟨_, _, rfl⟩⟩

theorem S12.search_at (m : S12.M) (i q : Nat) (hsh : ¬ (m.bytes.length : Int) < m.least) (hi : S12.idx m.bytes m.bits m.least = i) (hq : m.heads.getD i 0 = (q : Int)) :
    S12.search m = { m with at_ := if (decide (m.len = 0) && decide (0 < (q : Int)) && decide (m.least ≤ (S12.rep m.bytes q : Int))) then (q : Int) else m.at_, len := if (decide (m.len = 0) && decide (0 < (q : Int)) && decide (m.least ≤ (S12.rep m.bytes q : Int))) then (S12.rep m.bytes q : Int) else m.len, heads := m.heads.set i m.bytes.length } := by
  unfold S12.search S12.found
  rw [if_neg hsh, hi, hq, Int.toNat_natCast]
theorem S12.search_no (m : S12.M) (i q : Nat) (hsh : ¬ (m.bytes.length : Int) < m.least) (hi : S12.idx m.bytes m.bits m.least = i) (hq : m.heads.getD i 0 = (q : Int)) (hf : ¬ (m.len = 0 ∧ 0 < q ∧ m.least ≤ (S12.rep m.bytes q : Int))) :
    S12.search m = { m with heads := m.heads.set i m.bytes.length } := by
  rw [S12.search_at m i q hsh hi hq]
  have : (decide (m.len = 0) && decide (0 < (q : Int)) && decide (m.least ≤ (S12.rep m.bytes q : Int))) = false := by
    rw [Bool.eq_false_iff]
    intro h
    simp only [Bool.and_eq_true, decide_eq_true_eq] at h
    exact hf ⟨h.1.1, by omega, h.2⟩
  rw [this]
  rfl
theorem S12.search_yes (m : S12.M) (i q : Nat) (hsh : ¬ (m.bytes.length : Int) < m.least) (hi : S12.idx m.bytes m.bits m.least = i) (hq : m.heads.getD i 0 = (q : Int)) (hf : m.len = 0 ∧ 0 < q ∧ m.least ≤ (S12.rep m.bytes q : Int)) :
    S12.search m = { m with at_ := (q : Int), len := (S12.rep m.bytes q : Int), heads := m.heads.set i m.bytes.length } := by
  rw [S12.search_at m i q hsh hi hq]
  have : (decide (m.len = 0) && decide (0 < (q : Int)) && decide (m.least ≤ (S12.rep m.bytes q : Int))) = true := by
    simp only [Bool.and_eq_true, decide_eq_true_eq]
    exact ⟨⟨hf.1, by omega⟩, hf.2.2⟩
  rw [this]
  rfl


set_option maxRecDepth 100000 in
set_option maxHeartbeats 4000000 in
theorem rcomplete12_any (bn L y : Nat) (heads bytes : List Int) (at_ len pp bit : Int) (ctrs : List (Int × Int)) (p : Pl) (w : World) (hbn : 1 ≤ bn ∧ bn ≤ 16) (hL : 1 ≤ L ∧ L ≤ 32) (hh : heads.length = 2 ^ bn)
    (hhd : ∀ x ∈ heads, 0 ≤ x ∧ x ≤ bytes.length) (hbl : bytes.length < 65536) (hpp : pp = 256 + (y : Int)) (hy : y < 256) (hlen : 0 ≤ len ∧ len ≤ 255) (hat : 0 ≤ at_ ∧ at_ ≤ 65536)
    (hM : MIs ⟨(bn : Int), (L : Int), heads, bytes, at_, len, pp, bit, ctrs⟩ p w) :
    Calls Try.prog 51 #[MV ⟨(bn : Int), (L : Int), heads, bytes, at_, len, pp, bit, ctrs⟩ p] w fun e w' => ∃ p', e = .returned (MV (S12.search (S12.extend ⟨(bn : Int), (L : Int), heads, bytes ++ [(y : Int)], at_, len, 1, bit, ctrs⟩)) p') ∧ MIs (S12.search (S12.extend ⟨(bn : Int), (L : Int), heads, bytes ++ [(y : Int)], at_, len, 1, bit, ctrs⟩)) p' w' ∧ NewPl w.heap.size p p' ∧ Below w.heap.size w w' := by
  obtain ⟨T, hT⟩ : ∃ T, S12.search (S12.extend ⟨(bn : Int), (L : Int), heads, bytes ++ [(y : Int)], at_, len, 1, bit, ctrs⟩) = T := ⟨_, rfl⟩
  rw [hT]
  obtain ⟨ah, ch, ab, cb, ac, cc⟩ := p
  have hrh := hM.rdh
  have hrb := hM.rdb
  have hrc := hM.rdc
  have hbyt := hM.byt
  have llc := hM.lc
  simp only at hrh hrb hrc hbyt llc
  clear hM
  have hby2 : S12.Byt (bytes ++ [(y : Int)]) := fun z hz => by
    rcases List.mem_append.1 hz with hz | hz
    · exact hbyt z hz
    · rw [List.mem_singleton.1 hz]; omega
  have hwy : IntKind.u8.wrap pp = (y : Int) := by rw [hpp]; simp [IntKind.wrap, IntKind.bits, IntKind.signed]; omega
  have hwy2 : pp % 256 = (y : Int) := by omega
  have hps : heads.length ≤ 65536 := by rw [hh]; exact Nat.pow_le_pow_right (n := 2) (by omega) (show bn ≤ 16 by omega)
  have hne1 : 1 ≤ heads.length := by rw [hh]; exact Nat.one_le_two_pow
  have apH : ∀ g o, ah = some ⟨g, o, none⟩ → g < w.heap.size := fun g o e => by
    obtain ⟨g2, o2, e2, hcs⟩ := hrh.at (i := 0) (by rw [Ints_length]; omega)
    rw [e] at e2; cases e2
    exact block_lt_of_cell (hcs 0 (by rw [Ints_length]; omega))
  have apC : ∀ g o, ac = some ⟨g, o, none⟩ → Cts ctrs ≠ [] → g < w.heap.size := fun g o e hne => by
    obtain ⟨g2, o2, e2, hcs⟩ := hrc hne
    rw [e] at e2; cases e2
    cases hx : Cts ctrs with
    | nil => exact absurd hx hne
    | cons v vs => exact block_lt_of_cell (hcs 0 v (by rw [hx]; rfl))
  have hidl := S12.idx_lt (bytes ++ [(y : Int)]) (L : Int) (show 1 ≤ (bn : Int) ∧ (bn : Int) ≤ 16 by omega)
  rw [Int.toNat_natCast, ← hh] at hidl
  have HI := Lib.hid fun (hlL : L ≤ bytes.length + 1) W a cap (h : Rd W a (Bts (bytes ++ [(y : Int)]))) => (by
    have := rindex12_any (bytes ++ [(y : Int)]) bn L a cap W hbn hL (by simp; omega) (by simp; omega) hby2 h
    simpa using this : Calls Try.prog 62 #[.slice a (bytes.length + 1) cap, .int .i64 (bn : Int), .int .i64 (L : Int)] W fun e w' => e = .returned (.int .i64 (S12.idx (bytes ++ [(y : Int)]) (bn : Int) (L : Int) : Int)) ∧ Below W.heap.size W w')
  have HR := Lib.hid fun (q : Nat) (hq : q ≤ bytes.length + 1) W g o cap (h : Rd W (some ⟨g, o, none⟩) (Bts (bytes ++ [(y : Int)]))) => (by
    have := rrepetition12_any g o cap (bytes ++ [(y : Int)]) q (by simp; omega) (by simp; omega) W h
    simpa using this : Calls Try.prog 54 #[.slice (some ⟨g, o, none⟩) (bytes.length + 1) cap, .int .i64 (q : Int)] W fun e w' => e = .returned (.int .i64 (S12.rep (bytes ++ [(y : Int)]) q : Int)) ∧ Below W.heap.size W w')
  have Hmk := Lib.hid fun (hd2 : List Int) (at2 ln2 : Int) (a1 a2 : Option Addr) (c1 c2 : Nat) (W : World) (h1 : hd2.length = heads.length) (r1 : Rd W a1 (Ints hd2)) (r2 : Rd W a2 (Bts (bytes ++ [(y : Int)]))) (r3 : Rd W ac (Cts ctrs)) (h2 : bytes.length + 1 ≤ c2) =>
    (⟨r1, r2, r3, hby2, by simpa using h2, by simp only; omega, by simp; omega, llc⟩ : MIs ⟨(bn : Int), (L : Int), hd2, bytes ++ [(y : Int)], at2, ln2, 1, bit, ctrs⟩ ⟨a1, c1, a2, c2, ac, cc⟩ W)
  unfold MV MVals
  simp only
  have B0 := Blk.new w [.int .i64 (bn : Int), .int .i64 (L : Int), .slice ah heads.length ch, .slice ab bytes.length cb, .int .i64 at_, .int .i64 len, .int .i64 pp, .int .i64 bit, .slice ac ctrs.length cc] 27
  obtain ⟨S, hS⟩ : ∃ S, w.heap.size = S := ⟨_, rfl⟩
  rw [hS] at B0 apH apC ⊢
  have B1 := B0.alloc (.cells #[.int .i64 0, .int .i64 0, .slice none 0 0, .slice none 0 0, .int .i64 0, .int .i64 0, .int .i64 0, .int .i64 0, .slice none 0 0] 27)
  have R1 := Blk.new (w.alloc (.cells #[.int .i64 (bn : Int), .int .i64 (L : Int), .slice ah heads.length ch, .slice ab bytes.length cb, .int .i64 at_, .int .i64 len, .int .i64 pp, .int .i64 bit, .slice ac ctrs.length cc] 27)) [.int .i64 0, .int .i64 0, .slice none 0 0, .slice none 0 0, .int .i64 0, .int .i64 0, .int .i64 0, .int .i64 0, .slice none 0 0] 27
  rw [show (w.alloc (.cells #[.int .i64 (bn : Int), .int .i64 (L : Int), .slice ah heads.length ch, .slice ab bytes.length cb, .int .i64 at_, .int .i64 len, .int .i64 pp, .int .i64 bit, .slice ac ctrs.length cc] 27)).heap.size = S + 1 by simp; omega] at R1
  have hB1 : Below S w ((w.alloc (.cells #[.int .i64 (bn : Int), .int .i64 (L : Int), .slice ah heads.length ch, .slice ab bytes.length cb, .int .i64 at_, .int .i64 len, .int .i64 pp, .int .i64 bit, .slice ac ctrs.length cc] 27)).alloc (.cells #[.int .i64 0, .int .i64 0, .slice none 0 0, .slice none 0 0, .int .i64 0, .int .i64 0, .int .i64 0, .int .i64 0, .slice none 0 0] 27)) := by rw [← hS]; go_grown
  obtain ⟨w0, hw0⟩ : ∃ w0, (w.alloc (.cells #[.int .i64 (bn : Int), .int .i64 (L : Int), .slice ah heads.length ch, .slice ab bytes.length cb, .int .i64 at_, .int .i64 len, .int .i64 pp, .int .i64 bit, .slice ac ctrs.length cc] 27)).alloc (.cells #[.int .i64 0, .int .i64 0, .slice none 0 0, .slice none 0 0, .int .i64 0, .int .i64 0, .int .i64 0, .int .i64 0, .slice none 0 0] 27) = w0 := ⟨_, rfl⟩
  have hz0 : w0.heap.size = S + 2 := by rw [← hw0]; simp; omega
  rw [hw0] at B1 R1 hB1
  clear B0
  have hcs : Cells w0 [(⟨S, 3, none⟩, .slice ab bytes.length cb), (⟨S, 6, none⟩, .int .i64 pp)] := ⟨B1.cell 3, B1.cell 6, trivial⟩
  have hrb0 := hrb.step (below_of hS hB1)
  have HT := Lib.hid hT
  have Hhd := Lib.hid hhd
  have Hpp := Lib.hid hpp
  have Hh := Lib.hid hh
  clear hT hhd hpp hh hrb
  go_enter Try.func51, Try.ntmps51
  go_wp2_with fail
  refine wp_region_fresh 10 1 _ _ (Keeps w0 [(⟨S, 3, none⟩, .slice ab bytes.length cb), (⟨S, 6, none⟩, .int .i64 pp)]) (S12.grow bytes y w0.heap.size) (by kernel_rfl) (List.take_append_drop 10 _).symm rfl rfl (by kernel_rfl) (Keeps.start hcs) (fun _ _ h hb => h.step hb) (S12.grow_stable _ _ _) (S12.grow_some _ _ _) (fun Y F hY hF => ?_)
  simp only [List.take_succ_cons, List.take_zero, List.drop_succ_cons, List.drop_zero]
  repeat
    first
      | apply wpC_skip (by rfl)
      | (apply wpC_value (by rfl) (by first | rfl | (rw [hY]; rfl))
         · intro w2 ⟨hB2, hk2⟩
           simp only [Cells] at hk2
           go_simp
           with_reducible rfl
         simp only [Act.put, List.setIfInBounds_toArray, List.set_cons_zero, List.set_cons_succ])
  intro c hc
  obtain ⟨g0, q0⟩ : ∃ g, c 0 = .slice (some ⟨g, 0, none⟩) 0 0 := hc 0 (by simp [S12.grow])
  obtain ⟨a3, p3, q3⟩ : ∃ a cp, c 3 = .slice a bytes.length cp := hc 3 (by simp [S12.grow])
  obtain ⟨g7, q7⟩ : ∃ g, c 7 = .slice (some ⟨g, 0, none⟩) 1 1 := hc 7 (by simp [S12.grow])
  obtain ⟨a8, p8, q8⟩ : ∃ a cp, c 8 = .slice a (bytes.length + 1) cp := hc 8 (by simp [S12.grow])
  clear hc
  refine wpN_value (by rfl) (by rfl) (by first | rfl | (rw [hY]; rfl)) (fun _ _ h hb => h.step hb) (S12.grow_stable _ _ _) (fun w2 hS2 _ => ⟨.slice (some ⟨w2.heap.size, 0, none⟩) 0 0, w2.alloc (.cells #[] 5), ?_, ⟨_, rfl⟩, ⟨_, rfl, hS2.1.size, Blk.new w2 [] _⟩, (Below.refl _ _).alloc (Nat.le_refl _) _⟩) ?_
  · go_simp
  simp only [Act.put, List.setIfInBounds_toArray, List.set_cons_zero, List.set_cons_succ]
  rw [q0]
  repeat
    first
      | apply wpN_skip (by rfl)
      | (apply wpN_pure (by rfl) (by rfl) (by first | rfl | (rw [hY]; rfl))
         · intro w2
           go_simp
           with_reducible rfl
         simp only [Act.put, List.setIfInBounds_toArray, List.set_cons_zero, List.set_cons_succ])
  refine wpN_append (.tmp 7) (.tmp 9) 22 5 1 1 _ w0.heap.size elems_bytes (.slice (some ⟨g0, 0, none⟩) 0 0) 0 [] ab bytes.length cb (Bts bytes) (by rfl) (by rfl) (by first | rfl | (rw [hY]; rfl)) (by rfl) (by rfl) (by rfl) (by simp [Bts]) (Bts_one bytes) (by simp only [maxLen]; omega) (by omega) (fun w2 hS2 hD => ?_) ?_
  · obtain ⟨⟨g, e, hg, hblk⟩, -⟩ := hD
    obtain rfl : g = g0 := by rw [q0] at e; simpa using e.symm
    refine ⟨⟨rfl, .inr ⟨g, 0, #[], rfl, hg, hblk, Nat.le_refl _, Nat.zero_le _, rfl, rfl⟩⟩, hrb0.step hS2.1, hS2.1.size, fun a' cap' w' hown hgr => ?_⟩
    rw [show 0 + bytes.length = bytes.length from Nat.zero_add _] at hown ⊢
    refine ⟨⟨_, _, rfl⟩, hown, Keeps.of hcs (grown_keeps hS2.1 hgr (fun k e => by simp [Value.ownBlock] at e; omega)), ?_⟩
    intro j hj hex hlat u _ hR
    have hj4 : j = 7 := by
      simp [S12.grow] at hj hex hlat
      omega
    subst hj4
    obtain ⟨g', e', h2⟩ := hR
    refine ⟨g', e', h2.grown hgr fun e2 => ?_⟩
    simp only [Value.ownBlock, Option.some.injEq] at e2
    subst e2
    exact (Blk.ne_nil h2 hblk (by simp)).elim
  simp only [Act.put, List.setIfInBounds_toArray, List.set_cons_zero, List.set_cons_succ]
  rw [show (0 + 1 + 1 + 1) = 3 from rfl, q3]
  repeat
    first
      | apply wpN_skip (by rfl)
      | (apply wpN_pure (by rfl) (by rfl) (by first | rfl | (rw [hY]; rfl))
         · intro w2
           go_simp
           with_reducible rfl
         simp only [Act.put, List.setIfInBounds_toArray, List.set_cons_zero, List.set_cons_succ])
  refine wpN_value (by rfl) (by rfl) (by first | rfl | (rw [hY]; rfl)) (fun _ _ h hb => h.step hb) (S12.grow_stable _ _ _) (fun w2 hS2 _ => ⟨.slice (some ⟨w2.heap.size, 0, none⟩) 1 1, w2.alloc (.cells #[.int .u8 (y : Int)] 5), ?_, ⟨_, rfl⟩, ⟨_, rfl, Blk.new w2 [.int .u8 (y : Int)] _⟩, (Below.refl _ _).alloc (Nat.le_refl _) _⟩) ?_
  · go_simp
  simp only [Act.put, List.setIfInBounds_toArray, List.set_cons_zero, List.set_cons_succ]
  rw [show 3 + 1 + 1 + 1 + 1 = 7 from rfl, q7]
  refine wpN_append (.tmp 10) (.tmp 14) 22 5 1 1 _ w0.heap.size elems_bytes (.slice a3 bytes.length p3) bytes.length (Bts bytes) (some ⟨g7, 0, none⟩) 1 1 [.int .u8 (y : Int)] (by rfl) (by rfl) (by first | rfl | (rw [hY]; rfl)) (by rfl) (by rfl) (by rfl) rfl (by simp [Value.oneCell']) (by simp only [maxLen]; omega) (by omega) (fun w2 hS2 hD => ?_) ?_
  · obtain ⟨hown2, ⟨g, e, hblk⟩, -⟩ := hD
    obtain rfl : g = g7 := by rw [q7] at e; simpa using e.symm
    rw [q3] at hown2
    refine ⟨hown2, (fun _ => ⟨g, 0, rfl, hblk.cells⟩), hS2.1.size, fun a' cap' w' hown hgr => ?_⟩
    refine ⟨⟨_, _, rfl⟩, ?_, Keeps.of hcs (grown_keeps hS2.1 hgr (fun k e => (owns_block hown2 e).1)), ?_⟩
    · have e1 : Bts (bytes ++ [(y : Int)]) = Bts bytes ++ [.int .u8 (y : Int)] := by simp [Bts]
      show w'.ownsRow _ _ _ _ _ (Bts (bytes ++ [(y : Int)]))
      rw [e1]
      exact hown
    intro j hj hex hlat u _ hR
    simp [S12.grow] at hj hex hlat
    omega
  simp only [Act.put, List.setIfInBounds_toArray, List.set_cons_zero, List.set_cons_succ]
  rw [show 7 + 1 = 8 from rfl, q8]
  repeat
    first
      | apply wpN_skip (by rfl)
      | (apply wpN_pure (by rfl) (by rfl) (by first | rfl | (rw [hY]; rfl))
         · intro w2
           go_simp
           with_reducible rfl
         simp only [Act.put, List.setIfInBounds_toArray, List.set_cons_zero, List.set_cons_succ])
  refine hF.out c _ (fun K w3 hK hS3 hR3 => ?_)
  obtain ⟨hown, -⟩ := hR3
  have hown : w3.ownsRow w0.heap.size 5 1 (c 8) (bytes.length + 1) (Bts (bytes ++ [(y : Int)])) := hown
  rw [q8] at hown
  clear hF hY q0 q3 q7 q8
  simp only [List.drop_succ_cons, List.drop_zero]
  have hb3 := hS3.1
  have M3 := B1.step hb3
  have R3 := R1.step hb3
  have hB3 := hB1.trans (hb3.mono (by omega))
  have l3 := M3.lt
  obtain ⟨gy, ey, hgy, hOy⟩ := Own.of_owns hown (by omega) (by decide)
  subst ey
  have hcp8 : bytes.length + 1 ≤ p8 := by
    obtain ⟨_, _, h1, h2, _⟩ := owns_slice hown
    simp at h1
    omega
  have hrc3 := hrc.step (below_of hS hB3)
  have hrh3 := hrh.step (below_of hS hB3)
  clear hown hrb0 hcs B1 R1 hw0
  rw [hz0] at hgy
  have x3 := M3.cell 3
  have f3 := M3.free 3

  have M4 := M3.set 3 (.slice (some ⟨gy, 0, none⟩) (bytes.length + 1) p8)
  have R4 := R3.other S 3 (.slice (some ⟨gy, 0, none⟩) (bytes.length + 1) p8) (by omega)
  have hB4 := hB3.setCell (p := ⟨S, 3, none⟩) (Nat.le_refl S) (.slice (some ⟨gy, 0, none⟩) (bytes.length + 1) p8)
  have O4 := hOy.other S 3 (.slice (some ⟨gy, 0, none⟩) (bytes.length + 1) p8) (by omega)
  simp only [List.set_cons_zero, List.set_cons_succ] at M4
  obtain ⟨w4, hw4⟩ : ∃ w4, w3.setCell ⟨S, 3, none⟩ (.slice (some ⟨gy, 0, none⟩) (bytes.length + 1) p8) = w4 := ⟨_, rfl⟩
  rw [hw4] at M4 R4 hB4 O4
  have M5 := M4.set 6 (.int .i64 1)
  have R5 := R4.other S 6 (.int .i64 1) (by omega)
  have hB5 := hB4.setCell (p := ⟨S, 6, none⟩) (Nat.le_refl S) (.int .i64 1)
  have O5 := O4.other S 6 (.int .i64 1) (by omega)
  simp only [List.set_cons_zero, List.set_cons_succ] at M5
  obtain ⟨w5, hw5⟩ : ∃ w5, w4.setCell ⟨S, 6, none⟩ (.int .i64 1) = w5 := ⟨_, rfl⟩
  rw [hw5] at M5 R5 hB5 O5
  have f46 := M4.free 6
  have x46 := M4.cell 6
  have l4 := M4.lt
  have l5 := M5.lt
  have hrh5 := hrh.step (below_of hS hB5)
  have hrc5 := hrc.step (below_of hS hB5)
  clear M3 R3 R4 hB3 hB4 hOy O4 hrc3 hrh3 M4
  have hnw : bytes.length + 1 < 65537 := by omega
  go_wp2_with fail
  refine OnlyK.mk (hK.out _ _ ?_)
  clear hK hS3
  by_cases h0 : 0 < len
  · have d0 : decide (0 < len) = true := decide_eq_true h0
    have a1 : IntKind.i64.wrap (at_ + 1) = at_ + 1 := IntWalk.i64_in _ (by omega)
    have a2 : IntKind.i64.wrap (len + 1) = len + 1 := IntWalk.i64_in _ (by omega)
    have hext : S12.extend ⟨(bn : Int), (L : Int), heads, bytes ++ [(y : Int)], at_, len, 1, bit, ctrs⟩ = ⟨(bn : Int), (L : Int), heads, bytes ++ [(y : Int)], at_ + 1, min (len + 1) 255, 1, bit, ctrs⟩ := by unfold S12.extend; rw [if_pos h0]
    have HT := Lib.hid (show S12.search ⟨(bn : Int), (L : Int), heads, bytes ++ [(y : Int)], at_ + 1, min (len + 1) 255, 1, bit, ctrs⟩ = T by rw [← hext]; exact HT.out)
    obtain ⟨x0, x1, x2, x3, x4, x5, x6, x7, x8⟩ := M5.nine
    have f4 := M5.free 4
    have f5 := (M5.set 4 (.int .i64 (at_ + 1))).free 5
    have z5 := (M5.set 4 (.int .i64 (at_ + 1))).cell 5
    have M7 := (M5.set 4 (.int .i64 (at_ + 1))).set 5 (.int .i64 (min (len + 1) 255))
    have R7 := (R5.other S 4 (.int .i64 (at_ + 1)) (by omega)).other S 5 (.int .i64 (min (len + 1) 255)) (by omega)
    have O7 := (O5.other S 4 (.int .i64 (at_ + 1)) (by omega)).other S 5 (.int .i64 (min (len + 1) 255)) (by omega)
    have hB7 := (hB5.setCell (p := ⟨S, 4, none⟩) (Nat.le_refl S) (.int .i64 (at_ + 1))).setCell (p := ⟨S, 5, none⟩) (Nat.le_refl S) (.int .i64 (min (len + 1) 255))
    simp only [List.set_cons_zero, List.set_cons_succ] at M7 z5
    obtain ⟨w7, hw7⟩ : ∃ w7, (w5.setCell ⟨S, 4, none⟩ (.int .i64 (at_ + 1))).setCell ⟨S, 5, none⟩ (.int .i64 (min (len + 1) 255)) = w7 := ⟨_, rfl⟩
    rw [hw7] at M7 R7 O7 hB7
    have hrh7 := hrh.step (below_of hS hB7)
    have hrc7 := hrc.step (below_of hS hB7)
    have hmin : min (len + 1) 255 ≠ 0 := by omega
    have hme : (min (len + 1) 255 == 0) = false := by simpa using hmin
    clear hext M5 R5 O5 hB5 hrh5 hrc5
    by_cases hsh : bytes.length + 1 < L
    · skip
      have hT2 : T = ⟨(bn : Int), (L : Int), heads, bytes ++ [(y : Int)], at_ + 1, min (len + 1) 255, 1, bit, ctrs⟩ := by rw [← HT.out]; unfold S12.search; rw [if_pos (show (((bytes ++ [(y : Int)]).length : Nat) : Int) < (L : Int) by simp; omega)]
      subst hT2
      have dsh : decide (((bytes.length + 1 : Nat) : Int) < (L : Int)) = true := decide_eq_true (by omega)
      have dsh2 : decide ((bytes.length : Int) + 1 < (L : Int)) = true := decide_eq_true (by omega)
      obtain ⟨m0, m1, m2, m3, m4, m5, m6, m7, m8⟩ := M7.nine
      have rf0 := R7.free 0
      have rf1 := R7.free 1
      have rf2 := R7.free 2
      have rf3 := R7.free 3
      have rf4 := R7.free 4
      have rf5 := R7.free 5
      have rf6 := R7.free 6
      have rf7 := R7.free 7
      have rf8 := R7.free 8
      obtain ⟨rx0, rx1, rx2, rx3, rx4, rx5, rx6, rx7, rx8⟩ := R7.nine
      have RF := R7.put9 (.int .i64 (bn : Int)) (.int .i64 (L : Int)) (.slice ah heads.length ch) (.slice (some ⟨gy, 0, none⟩) (bytes.length + 1) p8) (.int .i64 (at_ + 1)) (.int .i64 (min (len + 1) 255)) (.int .i64 1) (.int .i64 bit) (.slice ac ctrs.length cc)
      obtain ⟨y0, y1, y2, y3, y4, y5, y6, y7, y8⟩ := RF.nine
      have hBF := below_put9 hB7 (Nat.le_succ S) (.int .i64 (bn : Int)) (.int .i64 (L : Int)) (.slice ah heads.length ch) (.slice (some ⟨gy, 0, none⟩) (bytes.length + 1) p8) (.int .i64 (at_ + 1)) (.int .i64 (min (len + 1) 255)) (.int .i64 1) (.int .i64 bit) (.slice ac ctrs.length cc)
      have Hm := Lib.hid (Hmk.out heads (at_ + 1) (min (len + 1) 255) ah (some ⟨gy, 0, none⟩) ch p8 w7 rfl hrh7 (O7.rd) hrc7 hcp8)
      have HBF := Lib.hid hBF
      have lr := R7.lt
      clear RF hBF
      go_wp2_with (exact bodyPost_ret (v := MV ⟨(bn : Int), (L : Int), heads, bytes ++ [(y : Int)], at_ + 1, min (len + 1) 255, 1, bit, ctrs⟩ ⟨ah, ch, some ⟨gy, 0, none⟩, p8, ac, cc⟩) (by simp [results, Try.results51, go_sem, MV, MVals, y0, y1, y2, y3, y4, y5, y6, y7, y8]) rfl ⟨⟨ah, ch, some ⟨gy, 0, none⟩, p8, ac, cc⟩, rfl, Hm.out.put9 (fun g o e _ => by have := apH g o e; omega) (fun g o e _ => by cases e; omega) (fun g o e h => by have := apC g o e h; omega) _ _ _ _ _ _ _ _ _, ⟨.inl rfl, (fun g o e => by cases e; omega), .inl rfl⟩, hS ▸ HBF.out⟩)
    · skip
      have dsh : decide (((bytes.length + 1 : Nat) : Int) < (L : Int)) = false := decide_eq_false (by omega)
      have dsh2 : decide ((bytes.length : Int) + 1 < (L : Int)) = false := decide_eq_false (by omega)
      obtain ⟨i, hi⟩ : ∃ i, S12.idx (bytes ++ [(y : Int)]) (bn : Int) (L : Int) = i := ⟨_, rfl⟩
      rw [hi] at hidl HI
      obtain ⟨hd, hhd⟩ : ∃ hd, heads.getD i 0 = hd := ⟨_, rfl⟩
      have hhr : 0 ≤ hd ∧ hd ≤ bytes.length := Hhd.out hd (by rw [← hhd, S12.getD_in _ _ hidl]; exact List.getElem_mem hidl)
      obtain ⟨q, hq⟩ : ∃ q : Nat, hd = q := ⟨hd.toNat, by omega⟩
      subst hq
      obtain ⟨gh, oh, hah, hch⟩ := hrh7.at (i := i) (by rw [Ints_length]; exact hidl)
      subst hah
      have lgh : gh < S := apH gh oh rfl
      have hci : w7.cell? ⟨gh, oh + i, none⟩ = some (.int .i64 (q : Int)) := by
        rw [hch i (by rw [Ints_length]; exact hidl)]
        simp only [Ints, List.getElem_map]
        rw [← hhd, S12.getD_in _ _ hidl]
      have hsl : L ≤ bytes.length + 1 := by omega
      obtain ⟨m0, m1, m2, m3, m4, m5, m6, m7, m8⟩ := M7.nine
      have hil : i < 65536 := by omega
      have Hi := Lib.hid hi
      have Hhd2 := Lib.hid hhd
      have Hidl := Lib.hid hidl
      have Hns := Lib.hid hsh
      clear hch hi hhd hsh
      go_wp2_with fail
      refine (HI.out hsl _ _ _ O7.rd).mono ?_
      rintro e w8 ⟨rfl, hb8⟩
      have hB8 := hB7.trans (hb8.mono (Nat.le_of_lt M7.lt))
      have M8 := M7.step hb8
      have R8 := R7.step hb8
      have O8 := O7.step hb8
      have hrh8 := hrh7.step hb8
      have hrc8 := hrc7.step hb8
      have hci8 := (hb8.cell (p := ⟨gh, oh + i, none⟩) (block_lt_of_cell hci)).trans hci
      clear M7 R7 O7 hrh7 hrc7 m0 m1 m2 m3 m4 m5 m6 m7 m8 hci hB7 dsh dsh2
      obtain ⟨m0, m1, m2, m3, m4, m5, m6, m7, m8⟩ := M8.nine
      have hT2 : T = ⟨(bn : Int), (L : Int), heads.set i ((bytes.length : Int) + 1), bytes ++ [(y : Int)], at_ + 1, min (len + 1) 255, 1, bit, ctrs⟩ := by
        rw [← HT.out, S12.search_no _ i q (by simp only [List.length_append, List.length_singleton]; omega) Hi.out Hhd2.out (fun h => hmin h.1)]
        simp
      subst hT2
      clear hmin
      have hrdF := Lib.hid (hrh8.step ((Below.refl w8.heap.size w8).alloc (Nat.le_refl _) (Obj.cells #[] 3)))
      have lz := M8.lt
      have lr := R8.lt
      have lo := O8.lt
      have f2 := M8.free 2
      have HB := Lib.hid hB8
      have HM := Lib.hid M8
      have HR := Lib.hid R8
      have HO := Lib.hid O8
      have Hrc := Lib.hid hrc8
      have hpsz : 1 ≤ (Ints heads).length := by rw [Ints_length]; omega
      clear hB8 M8 R8 O8 hrc8 hrh8
      go_wp2_with (first
        | (at_builtin
           refine wpList_append_rd _ _ 24 3 1 8 _ w8.heap.size elems_int12 rfl rfl _ 0 [] rfl (World.ownsRow_made w8 #[] 0 (Nat.le_refl _) (by decide) rfl) (some ⟨gh, oh, none⟩) heads.length ch (Ints heads) rfl (by simp [Ints]) hrdF.out (Ints_one heads) (by unfold maxLen; omega) (by omega) (by simp) ?_
           intro a2 cap2 w11 hown2 hgrow2
           have hb11 : Below w8.heap.size w8 w11 := Below.grown (by go_grown) hgrow2 (by simp) (fun k e => by cases e; exact Nat.le_refl _)
           simp only [Nat.zero_add, List.nil_append] at hown2 ⊢
           obtain ⟨gH, rfl, hgH, hOH⟩ := Own.of_owns hown2 (by omega) (by decide)
           clear hown2 hgrow2
           have M11 := HM.out.step hb11
           have R11 := HR.out.step hb11
           have O11 := HO.out.step hb11
           have hrc11 := Hrc.out.step hb11
           have hB11 := HB.out.trans (hb11.mono (Nat.le_of_lt lz))
           have neH : ¬ gH = S := by omega
           have neH2 : ¬ S = gH := by omega
           have M12 := (M11.set 2 (.slice (some ⟨gH, 0, none⟩) heads.length cap2)).other gH i (.int .i64 ((bytes.length : Int) + 1)) (by omega)
           have R12 := (R11.other S 2 (.slice (some ⟨gH, 0, none⟩) heads.length cap2) (by omega)).other gH i (.int .i64 ((bytes.length : Int) + 1)) (by omega)
           have O12 := (O11.other S 2 (.slice (some ⟨gH, 0, none⟩) heads.length cap2) (by omega)).other gH i (.int .i64 ((bytes.length : Int) + 1)) (by omega)
           have H12 := (hOH.other S 2 (.slice (some ⟨gH, 0, none⟩) heads.length cap2) (by omega)).set (i := i) (by rw [Ints_length]; exact Hidl.out) (.int .i64 ((bytes.length : Int) + 1))
           have hB12 := (hB11.setCell (p := ⟨S, 2, none⟩) (Nat.le_refl S) (.slice (some ⟨gH, 0, none⟩) heads.length cap2)).setCell (p := ⟨gH, i, none⟩) (show S ≤ gH by omega) (.int .i64 ((bytes.length : Int) + 1))
           have hrc12 : Rd ((w11.setCell ⟨S, 2, none⟩ (.slice (some ⟨gH, 0, none⟩) heads.length cap2)).setCell ⟨gH, i, none⟩ (.int .i64 ((bytes.length : Int) + 1))) ac (Cts ctrs) := hrc11.below (B := S) (((Below.refl S w11).setCell (p := ⟨S, 2, none⟩) (Nat.le_refl S) (.slice (some ⟨gH, 0, none⟩) heads.length cap2)).setCell (p := ⟨gH, i, none⟩) (show S ≤ gH by omega) (.int .i64 ((bytes.length : Int) + 1))) (fun g o e h => apC g o e h)
           simp only [List.set_cons_zero, List.set_cons_succ] at M12
           obtain ⟨x0, x1, x2, x3, x4, x5, x6, x7, x8⟩ := (M11.set 2 (.slice (some ⟨gH, 0, none⟩) heads.length cap2)).nine
           have xh : (w11.setCell ⟨S, 2, none⟩ (.slice (some ⟨gH, 0, none⟩) heads.length cap2)).cell? ⟨gH, i, none⟩ = some (.int .i64 (q : Int)) := by
             rw [(hOH.other S 2 (.slice (some ⟨gH, 0, none⟩) heads.length cap2) (by omega)).cell (by rw [Ints_length]; exact Hidl.out)]
             rw [← Hhd2.out, S12.getD_in _ _ Hidl.out]
             simp [Ints, Hidl.out]
           have fh := (hOH.other S 2 (.slice (some ⟨gH, 0, none⟩) heads.length cap2) (by omega)).free i
           have fs2 := M11.free 2
           have y2 := M11.cell 2
           obtain ⟨w12, hw12⟩ : ∃ w12, (w11.setCell ⟨S, 2, none⟩ (.slice (some ⟨gH, 0, none⟩) heads.length cap2)).setCell ⟨gH, i, none⟩ (.int .i64 ((bytes.length : Int) + 1)) = w12 := ⟨_, rfl⟩
           rw [hw12] at M12 R12 O12 H12 hB12 hrc12
           have eH : (Ints heads).set i (.int .i64 ((bytes.length : Int) + 1)) = Ints (heads.set i ((bytes.length : Int) + 1)) := by simp [Ints, List.map_set]
           rw [eH] at H12
           obtain ⟨n0, n1, n2, n3, n4, n5, n6, n7, n8⟩ := M12.nine
           have rf0 := R12.free 0
           have rf1 := R12.free 1
           have rf2 := R12.free 2
           have rf3 := R12.free 3
           have rf4 := R12.free 4
           have rf5 := R12.free 5
           have rf6 := R12.free 6
           have rf7 := R12.free 7
           have rf8 := R12.free 8
           obtain ⟨rx0, rx1, rx2, rx3, rx4, rx5, rx6, rx7, rx8⟩ := R12.nine
           have RF := R12.put9 (.int .i64 (bn : Int)) (.int .i64 (L : Int)) (.slice (some ⟨gH, 0, none⟩) heads.length cap2) (.slice (some ⟨gy, 0, none⟩) (bytes.length + 1) p8) (.int .i64 (at_ + 1)) (.int .i64 (min (len + 1) 255)) (.int .i64 1) (.int .i64 bit) (.slice ac ctrs.length cc)
           obtain ⟨y0, y1, y2, y3, y4, y5, y6, y7, y8⟩ := RF.nine
           have hBF := below_put9 hB12 (Nat.le_succ S) (.int .i64 (bn : Int)) (.int .i64 (L : Int)) (.slice (some ⟨gH, 0, none⟩) heads.length cap2) (.slice (some ⟨gy, 0, none⟩) (bytes.length + 1) p8) (.int .i64 (at_ + 1)) (.int .i64 (min (len + 1) 255)) (.int .i64 1) (.int .i64 bit) (.slice ac ctrs.length cc)
           have Hm := Lib.hid (Hmk.out (heads.set i ((bytes.length : Int) + 1)) (at_ + 1) (min (len + 1) 255) (some ⟨gH, 0, none⟩) (some ⟨gy, 0, none⟩) cap2 p8 w12 (by simp) H12.rd (O12.rd) hrc12 hcp8)
           have HBF := Lib.hid hBF
           have lr12 := R12.lt
           clear RF hBF M12 R12 O12 H12 hB12 hrc12 M11 R11 O11 hrc11 hB11 hOH eH)
        | (exact bodyPost_ret (v := MV ⟨(bn : Int), (L : Int), heads.set i ((bytes.length : Int) + 1), bytes ++ [(y : Int)], at_ + 1, min (len + 1) 255, 1, bit, ctrs⟩ ⟨some ⟨gH, 0, none⟩, cap2, some ⟨gy, 0, none⟩, p8, ac, cc⟩) (by simp [results, Try.results51, go_sem, MV, MVals, y0, y1, y2, y3, y4, y5, y6, y7, y8]) rfl ⟨⟨some ⟨gH, 0, none⟩, cap2, some ⟨gy, 0, none⟩, p8, ac, cc⟩, rfl, Hm.out.put9 (fun g o e _ => by cases e; omega) (fun g o e _ => by cases e; omega) (fun g o e h => by have := apC g o e h; omega) _ _ _ _ _ _ _ _ _, ⟨.inr (fun g o e => by cases e; omega), (fun g o e => by cases e; omega), .inl rfl⟩, hS ▸ HBF.out⟩))
  · obtain rfl : len = 0 := by omega
    have d0 : decide ((0 : Int) < 0) = false := by decide
    obtain ⟨x0, x1, x2, x3, x4, x5, x6, x7, x8⟩ := M5.nine
    have hext : S12.extend ⟨(bn : Int), (L : Int), heads, bytes ++ [(y : Int)], at_, 0, 1, bit, ctrs⟩ = ⟨(bn : Int), (L : Int), heads, bytes ++ [(y : Int)], at_, 0, 1, bit, ctrs⟩ := by unfold S12.extend; rw [if_neg (by simp)]
    have HT := Lib.hid (show S12.search ⟨(bn : Int), (L : Int), heads, bytes ++ [(y : Int)], at_, 0, 1, bit, ctrs⟩ = T by rw [← hext]; exact HT.out)
    clear hext
    by_cases hsh : bytes.length + 1 < L
    · skip
      have hT2 : T = ⟨(bn : Int), (L : Int), heads, bytes ++ [(y : Int)], at_, 0, 1, bit, ctrs⟩ := by rw [← HT.out]; unfold S12.search; rw [if_pos (show (((bytes ++ [(y : Int)]).length : Nat) : Int) < (L : Int) by simp; omega)]
      subst hT2
      have dsh : decide (((bytes.length + 1 : Nat) : Int) < (L : Int)) = true := decide_eq_true (by omega)
      have dsh2 : decide ((bytes.length : Int) + 1 < (L : Int)) = true := decide_eq_true (by omega)
      obtain ⟨m0, m1, m2, m3, m4, m5, m6, m7, m8⟩ := M5.nine
      have rf0 := R5.free 0
      have rf1 := R5.free 1
      have rf2 := R5.free 2
      have rf3 := R5.free 3
      have rf4 := R5.free 4
      have rf5 := R5.free 5
      have rf6 := R5.free 6
      have rf7 := R5.free 7
      have rf8 := R5.free 8
      obtain ⟨rx0, rx1, rx2, rx3, rx4, rx5, rx6, rx7, rx8⟩ := R5.nine
      have RF := R5.put9 (.int .i64 (bn : Int)) (.int .i64 (L : Int)) (.slice ah heads.length ch) (.slice (some ⟨gy, 0, none⟩) (bytes.length + 1) p8) (.int .i64 (at_)) (.int .i64 (0)) (.int .i64 1) (.int .i64 bit) (.slice ac ctrs.length cc)
      obtain ⟨y0, y1, y2, y3, y4, y5, y6, y7, y8⟩ := RF.nine
      have hBF := below_put9 hB5 (Nat.le_succ S) (.int .i64 (bn : Int)) (.int .i64 (L : Int)) (.slice ah heads.length ch) (.slice (some ⟨gy, 0, none⟩) (bytes.length + 1) p8) (.int .i64 (at_)) (.int .i64 (0)) (.int .i64 1) (.int .i64 bit) (.slice ac ctrs.length cc)
      have Hm := Lib.hid (Hmk.out heads (at_) (0) ah (some ⟨gy, 0, none⟩) ch p8 w5 rfl hrh5 (O5.rd) hrc5 hcp8)
      have HBF := Lib.hid hBF
      have lr := R5.lt
      clear RF hBF
      go_wp2_with (exact bodyPost_ret (v := MV ⟨(bn : Int), (L : Int), heads, bytes ++ [(y : Int)], at_, 0, 1, bit, ctrs⟩ ⟨ah, ch, some ⟨gy, 0, none⟩, p8, ac, cc⟩) (by simp [results, Try.results51, go_sem, MV, MVals, y0, y1, y2, y3, y4, y5, y6, y7, y8]) rfl ⟨⟨ah, ch, some ⟨gy, 0, none⟩, p8, ac, cc⟩, rfl, Hm.out.put9 (fun g o e _ => by have := apH g o e; omega) (fun g o e _ => by cases e; omega) (fun g o e h => by have := apC g o e h; omega) _ _ _ _ _ _ _ _ _, ⟨.inl rfl, (fun g o e => by cases e; omega), .inl rfl⟩, hS ▸ HBF.out⟩)
    · skip
      have dsh : decide (((bytes.length + 1 : Nat) : Int) < (L : Int)) = false := decide_eq_false (by omega)
      have dsh2 : decide ((bytes.length : Int) + 1 < (L : Int)) = false := decide_eq_false (by omega)
      obtain ⟨i, hi⟩ : ∃ i, S12.idx (bytes ++ [(y : Int)]) (bn : Int) (L : Int) = i := ⟨_, rfl⟩
      rw [hi] at hidl HI
      obtain ⟨hd, hhd⟩ : ∃ hd, heads.getD i 0 = hd := ⟨_, rfl⟩
      have hhr : 0 ≤ hd ∧ hd ≤ bytes.length := Hhd.out hd (by rw [← hhd, S12.getD_in _ _ hidl]; exact List.getElem_mem hidl)
      obtain ⟨q, hq⟩ : ∃ q : Nat, hd = q := ⟨hd.toNat, by omega⟩
      subst hq
      obtain ⟨gh, oh, hah, hch⟩ := hrh5.at (i := i) (by rw [Ints_length]; exact hidl)
      subst hah
      have lgh : gh < S := apH gh oh rfl
      have hci : w5.cell? ⟨gh, oh + i, none⟩ = some (.int .i64 (q : Int)) := by
        rw [hch i (by rw [Ints_length]; exact hidl)]
        simp only [Ints, List.getElem_map]
        rw [← hhd, S12.getD_in _ _ hidl]
      have hsl : L ≤ bytes.length + 1 := by omega
      obtain ⟨m0, m1, m2, m3, m4, m5, m6, m7, m8⟩ := M5.nine
      have hil : i < 65536 := by omega
      have Hi := Lib.hid hi
      have Hhd2 := Lib.hid hhd
      have Hidl := Lib.hid hidl
      have Hns := Lib.hid hsh
      clear hch hi hhd hsh
      go_wp2_with fail
      refine (HI.out hsl _ _ _ O5.rd).mono ?_
      rintro e w8 ⟨rfl, hb8⟩
      have hB8 := hB5.trans (hb8.mono (Nat.le_of_lt M5.lt))
      have M8 := M5.step hb8
      have R8 := R5.step hb8
      have O8 := O5.step hb8
      have hrh8 := hrh5.step hb8
      have hrc8 := hrc5.step hb8
      have hci8 := (hb8.cell (p := ⟨gh, oh + i, none⟩) (block_lt_of_cell hci)).trans hci
      clear M5 R5 O5 hrh5 hrc5 m0 m1 m2 m3 m4 m5 m6 m7 m8 hci hB5 dsh dsh2
      obtain ⟨m0, m1, m2, m3, m4, m5, m6, m7, m8⟩ := M8.nine
      rcases Nat.eq_zero_or_pos q with hq0 | hq0
      · have hT2 : T = ⟨(bn : Int), (L : Int), heads.set i ((bytes.length : Int) + 1), bytes ++ [(y : Int)], at_, 0, 1, bit, ctrs⟩ := by
          rw [← HT.out, S12.search_no _ i q (by simp only [List.length_append, List.length_singleton]; omega) Hi.out Hhd2.out (fun h => by omega)]
          simp
        subst hT2
        have hq2 : decide (0 < (q : Int)) = false := decide_eq_false (by omega)
        have hrdF := Lib.hid (hrh8.step ((Below.refl w8.heap.size w8).alloc (Nat.le_refl _) (Obj.cells #[] 3)))
        have lz := M8.lt
        have lr := R8.lt
        have lo := O8.lt
        have f2 := M8.free 2
        have HB := Lib.hid hB8
        have HM := Lib.hid M8
        have HR := Lib.hid R8
        have HO := Lib.hid O8
        have Hrc := Lib.hid hrc8
        have hpsz : 1 ≤ (Ints heads).length := by rw [Ints_length]; omega
        clear hB8 M8 R8 O8 hrc8 hrh8
        go_wp2_with (first
          | (at_builtin
             refine wpList_append_rd _ _ 24 3 1 8 _ w8.heap.size elems_int12 rfl rfl _ 0 [] rfl (World.ownsRow_made w8 #[] 0 (Nat.le_refl _) (by decide) rfl) (some ⟨gh, oh, none⟩) heads.length ch (Ints heads) rfl (by simp [Ints]) hrdF.out (Ints_one heads) (by unfold maxLen; omega) (by omega) (by simp) ?_
             intro a2 cap2 w11 hown2 hgrow2
             have hb11 : Below w8.heap.size w8 w11 := Below.grown (by go_grown) hgrow2 (by simp) (fun k e => by cases e; exact Nat.le_refl _)
             simp only [Nat.zero_add, List.nil_append] at hown2 ⊢
             obtain ⟨gH, rfl, hgH, hOH⟩ := Own.of_owns hown2 (by omega) (by decide)
             clear hown2 hgrow2
             have M11 := HM.out.step hb11
             have R11 := HR.out.step hb11
             have O11 := HO.out.step hb11
             have hrc11 := Hrc.out.step hb11
             have hB11 := HB.out.trans (hb11.mono (Nat.le_of_lt lz))
             have neH : ¬ gH = S := by omega
             have neH2 : ¬ S = gH := by omega
             have M12 := (M11.set 2 (.slice (some ⟨gH, 0, none⟩) heads.length cap2)).other gH i (.int .i64 ((bytes.length : Int) + 1)) (by omega)
             have R12 := (R11.other S 2 (.slice (some ⟨gH, 0, none⟩) heads.length cap2) (by omega)).other gH i (.int .i64 ((bytes.length : Int) + 1)) (by omega)
             have O12 := (O11.other S 2 (.slice (some ⟨gH, 0, none⟩) heads.length cap2) (by omega)).other gH i (.int .i64 ((bytes.length : Int) + 1)) (by omega)
             have H12 := (hOH.other S 2 (.slice (some ⟨gH, 0, none⟩) heads.length cap2) (by omega)).set (i := i) (by rw [Ints_length]; exact Hidl.out) (.int .i64 ((bytes.length : Int) + 1))
             have hB12 := (hB11.setCell (p := ⟨S, 2, none⟩) (Nat.le_refl S) (.slice (some ⟨gH, 0, none⟩) heads.length cap2)).setCell (p := ⟨gH, i, none⟩) (show S ≤ gH by omega) (.int .i64 ((bytes.length : Int) + 1))
             have hrc12 : Rd ((w11.setCell ⟨S, 2, none⟩ (.slice (some ⟨gH, 0, none⟩) heads.length cap2)).setCell ⟨gH, i, none⟩ (.int .i64 ((bytes.length : Int) + 1))) ac (Cts ctrs) := hrc11.below (B := S) (((Below.refl S w11).setCell (p := ⟨S, 2, none⟩) (Nat.le_refl S) (.slice (some ⟨gH, 0, none⟩) heads.length cap2)).setCell (p := ⟨gH, i, none⟩) (show S ≤ gH by omega) (.int .i64 ((bytes.length : Int) + 1))) (fun g o e h => apC g o e h)
             simp only [List.set_cons_zero, List.set_cons_succ] at M12
             obtain ⟨x0, x1, x2, x3, x4, x5, x6, x7, x8⟩ := (M11.set 2 (.slice (some ⟨gH, 0, none⟩) heads.length cap2)).nine
             have xh : (w11.setCell ⟨S, 2, none⟩ (.slice (some ⟨gH, 0, none⟩) heads.length cap2)).cell? ⟨gH, i, none⟩ = some (.int .i64 (q : Int)) := by
               rw [(hOH.other S 2 (.slice (some ⟨gH, 0, none⟩) heads.length cap2) (by omega)).cell (by rw [Ints_length]; exact Hidl.out)]
               rw [← Hhd2.out, S12.getD_in _ _ Hidl.out]
               simp [Ints, Hidl.out]
             have fh := (hOH.other S 2 (.slice (some ⟨gH, 0, none⟩) heads.length cap2) (by omega)).free i
             have fs2 := M11.free 2
             have y2 := M11.cell 2
             obtain ⟨w12, hw12⟩ : ∃ w12, (w11.setCell ⟨S, 2, none⟩ (.slice (some ⟨gH, 0, none⟩) heads.length cap2)).setCell ⟨gH, i, none⟩ (.int .i64 ((bytes.length : Int) + 1)) = w12 := ⟨_, rfl⟩
             rw [hw12] at M12 R12 O12 H12 hB12 hrc12
             have eH : (Ints heads).set i (.int .i64 ((bytes.length : Int) + 1)) = Ints (heads.set i ((bytes.length : Int) + 1)) := by simp [Ints, List.map_set]
             rw [eH] at H12
             obtain ⟨n0, n1, n2, n3, n4, n5, n6, n7, n8⟩ := M12.nine
             have rf0 := R12.free 0
             have rf1 := R12.free 1
             have rf2 := R12.free 2
             have rf3 := R12.free 3
             have rf4 := R12.free 4
             have rf5 := R12.free 5
             have rf6 := R12.free 6
             have rf7 := R12.free 7
             have rf8 := R12.free 8
             obtain ⟨rx0, rx1, rx2, rx3, rx4, rx5, rx6, rx7, rx8⟩ := R12.nine
             have RF := R12.put9 (.int .i64 (bn : Int)) (.int .i64 (L : Int)) (.slice (some ⟨gH, 0, none⟩) heads.length cap2) (.slice (some ⟨gy, 0, none⟩) (bytes.length + 1) p8) (.int .i64 (at_)) (.int .i64 (0)) (.int .i64 1) (.int .i64 bit) (.slice ac ctrs.length cc)
             obtain ⟨y0, y1, y2, y3, y4, y5, y6, y7, y8⟩ := RF.nine
             have hBF := below_put9 hB12 (Nat.le_succ S) (.int .i64 (bn : Int)) (.int .i64 (L : Int)) (.slice (some ⟨gH, 0, none⟩) heads.length cap2) (.slice (some ⟨gy, 0, none⟩) (bytes.length + 1) p8) (.int .i64 (at_)) (.int .i64 (0)) (.int .i64 1) (.int .i64 bit) (.slice ac ctrs.length cc)
             have Hm := Lib.hid (Hmk.out (heads.set i ((bytes.length : Int) + 1)) (at_) (0) (some ⟨gH, 0, none⟩) (some ⟨gy, 0, none⟩) cap2 p8 w12 (by simp) H12.rd (O12.rd) hrc12 hcp8)
             have HBF := Lib.hid hBF
             have lr12 := R12.lt
             clear RF hBF M12 R12 O12 H12 hB12 hrc12 M11 R11 O11 hrc11 hB11 hOH eH)
          | (exact bodyPost_ret (v := MV ⟨(bn : Int), (L : Int), heads.set i ((bytes.length : Int) + 1), bytes ++ [(y : Int)], at_, 0, 1, bit, ctrs⟩ ⟨some ⟨gH, 0, none⟩, cap2, some ⟨gy, 0, none⟩, p8, ac, cc⟩) (by simp [results, Try.results51, go_sem, MV, MVals, y0, y1, y2, y3, y4, y5, y6, y7, y8]) rfl ⟨⟨some ⟨gH, 0, none⟩, cap2, some ⟨gy, 0, none⟩, p8, ac, cc⟩, rfl, Hm.out.put9 (fun g o e _ => by cases e; omega) (fun g o e _ => by cases e; omega) (fun g o e h => by have := apC g o e h; omega) _ _ _ _ _ _ _ _ _, ⟨.inr (fun g o e => by cases e; omega), (fun g o e => by cases e; omega), .inl rfl⟩, hS ▸ HBF.out⟩))
      · have hq2 : decide (0 < (q : Int)) = true := decide_eq_true (by omega)
        go_wp2_with fail
        refine (HR.out q (by omega) _ _ _ _ O8.rd).mono ?_
        rintro e w9 ⟨rfl, hb9⟩
        have hB9 := hB8.trans (hb9.mono (Nat.le_of_lt M8.lt))
        have M9 := M8.step hb9
        have R9 := R8.step hb9
        have O9 := O8.step hb9
        have hrh9 := hrh8.step hb9
        have hrc9 := hrc8.step hb9
        clear M8 R8 O8 hrh8 hrc8 hB8 m0 m1 m2 m3 m4 m5 m6 m7 m8
        obtain ⟨m0, m1, m2, m3, m4, m5, m6, m7, m8⟩ := M9.nine
        obtain ⟨rp, hrp⟩ : ∃ rp, S12.rep (bytes ++ [(y : Int)]) q = rp := ⟨_, rfl⟩
        rw [hrp]
        have Hrp := Lib.hid hrp
        clear hrp
        by_cases hk : L ≤ rp
        · have hT2 : T = ⟨(bn : Int), (L : Int), heads.set i ((bytes.length : Int) + 1), bytes ++ [(y : Int)], (q : Int), (rp : Int), 1, bit, ctrs⟩ := by
            rw [← HT.out, S12.search_yes _ i q (by simp only [List.length_append, List.length_singleton]; omega) Hi.out Hhd2.out ⟨rfl, hq0, by simp only; rw [Hrp.out]; omega⟩]
            simp [Hrp.out]
          subst hT2
          have dk : decide ((L : Int) ≤ (rp : Int)) = true := decide_eq_true (by omega)
          have f4 := M9.free 4
          have f5 := (M9.set 4 (.int .i64 (q : Int))).free 5
          have z5 := (M9.set 4 (.int .i64 (q : Int))).cell 5
          have M10 := (M9.set 4 (.int .i64 (q : Int))).set 5 (.int .i64 (rp : Int))
          have R10 := (R9.other S 4 (.int .i64 (q : Int)) (by omega)).other S 5 (.int .i64 (rp : Int)) (by omega)
          have O10 := (O9.other S 4 (.int .i64 (q : Int)) (by omega)).other S 5 (.int .i64 (rp : Int)) (by omega)
          have hB10 := (hB9.setCell (p := ⟨S, 4, none⟩) (Nat.le_refl S) (.int .i64 (q : Int))).setCell (p := ⟨S, 5, none⟩) (Nat.le_refl S) (.int .i64 (rp : Int))
          simp only [List.set_cons_zero, List.set_cons_succ] at M10 z5
          obtain ⟨w10, hw10⟩ : ∃ w10, (w9.setCell ⟨S, 4, none⟩ (.int .i64 (q : Int))).setCell ⟨S, 5, none⟩ (.int .i64 (rp : Int)) = w10 := ⟨_, rfl⟩
          rw [hw10] at M10 R10 O10 hB10
          have hrh10 := hrh.step (below_of hS hB10)
          have hrc10 := hrc.step (below_of hS hB10)
          clear M9 R9 O9 hrh9 hrc9 hB9
          have m0' := M10.nine
          obtain ⟨s0, s1, s2, s3, s4, s5, s6, s7, s8⟩ := m0'
          have hrdF := Lib.hid (hrh10.step ((Below.refl w10.heap.size w10).alloc (Nat.le_refl _) (Obj.cells #[] 3)))
          have lz := M10.lt
          have lr := R10.lt
          have lo := O10.lt
          have f2 := M10.free 2
          have HB := Lib.hid hB10
          have HM := Lib.hid M10
          have HR := Lib.hid R10
          have HO := Lib.hid O10
          have Hrc := Lib.hid hrc10
          have hpsz : 1 ≤ (Ints heads).length := by rw [Ints_length]; omega
          clear hB10 M10 R10 O10 hrc10 hrh10
          go_wp2_with (first
            | (at_builtin
               refine wpList_append_rd _ _ 24 3 1 8 _ w10.heap.size elems_int12 rfl rfl _ 0 [] rfl (World.ownsRow_made w10 #[] 0 (Nat.le_refl _) (by decide) rfl) (some ⟨gh, oh, none⟩) heads.length ch (Ints heads) rfl (by simp [Ints]) hrdF.out (Ints_one heads) (by unfold maxLen; omega) (by omega) (by simp) ?_
               intro a2 cap2 w11 hown2 hgrow2
               have hb11 : Below w10.heap.size w10 w11 := Below.grown (by go_grown) hgrow2 (by simp) (fun k e => by cases e; exact Nat.le_refl _)
               simp only [Nat.zero_add, List.nil_append] at hown2 ⊢
               obtain ⟨gH, rfl, hgH, hOH⟩ := Own.of_owns hown2 (by omega) (by decide)
               clear hown2 hgrow2
               have M11 := HM.out.step hb11
               have R11 := HR.out.step hb11
               have O11 := HO.out.step hb11
               have hrc11 := Hrc.out.step hb11
               have hB11 := HB.out.trans (hb11.mono (Nat.le_of_lt lz))
               have neH : ¬ gH = S := by omega
               have neH2 : ¬ S = gH := by omega
               have M12 := (M11.set 2 (.slice (some ⟨gH, 0, none⟩) heads.length cap2)).other gH i (.int .i64 ((bytes.length : Int) + 1)) (by omega)
               have R12 := (R11.other S 2 (.slice (some ⟨gH, 0, none⟩) heads.length cap2) (by omega)).other gH i (.int .i64 ((bytes.length : Int) + 1)) (by omega)
               have O12 := (O11.other S 2 (.slice (some ⟨gH, 0, none⟩) heads.length cap2) (by omega)).other gH i (.int .i64 ((bytes.length : Int) + 1)) (by omega)
               have H12 := (hOH.other S 2 (.slice (some ⟨gH, 0, none⟩) heads.length cap2) (by omega)).set (i := i) (by rw [Ints_length]; exact Hidl.out) (.int .i64 ((bytes.length : Int) + 1))
               have hB12 := (hB11.setCell (p := ⟨S, 2, none⟩) (Nat.le_refl S) (.slice (some ⟨gH, 0, none⟩) heads.length cap2)).setCell (p := ⟨gH, i, none⟩) (show S ≤ gH by omega) (.int .i64 ((bytes.length : Int) + 1))
               have hrc12 : Rd ((w11.setCell ⟨S, 2, none⟩ (.slice (some ⟨gH, 0, none⟩) heads.length cap2)).setCell ⟨gH, i, none⟩ (.int .i64 ((bytes.length : Int) + 1))) ac (Cts ctrs) := hrc11.below (B := S) (((Below.refl S w11).setCell (p := ⟨S, 2, none⟩) (Nat.le_refl S) (.slice (some ⟨gH, 0, none⟩) heads.length cap2)).setCell (p := ⟨gH, i, none⟩) (show S ≤ gH by omega) (.int .i64 ((bytes.length : Int) + 1))) (fun g o e h => apC g o e h)
               simp only [List.set_cons_zero, List.set_cons_succ] at M12
               obtain ⟨x0, x1, x2, x3, x4, x5, x6, x7, x8⟩ := (M11.set 2 (.slice (some ⟨gH, 0, none⟩) heads.length cap2)).nine
               have xh : (w11.setCell ⟨S, 2, none⟩ (.slice (some ⟨gH, 0, none⟩) heads.length cap2)).cell? ⟨gH, i, none⟩ = some (.int .i64 (q : Int)) := by
                 rw [(hOH.other S 2 (.slice (some ⟨gH, 0, none⟩) heads.length cap2) (by omega)).cell (by rw [Ints_length]; exact Hidl.out)]
                 rw [← Hhd2.out, S12.getD_in _ _ Hidl.out]
                 simp [Ints, Hidl.out]
               have fh := (hOH.other S 2 (.slice (some ⟨gH, 0, none⟩) heads.length cap2) (by omega)).free i
               have fs2 := M11.free 2
               have y2 := M11.cell 2
               obtain ⟨w12, hw12⟩ : ∃ w12, (w11.setCell ⟨S, 2, none⟩ (.slice (some ⟨gH, 0, none⟩) heads.length cap2)).setCell ⟨gH, i, none⟩ (.int .i64 ((bytes.length : Int) + 1)) = w12 := ⟨_, rfl⟩
               rw [hw12] at M12 R12 O12 H12 hB12 hrc12
               have eH : (Ints heads).set i (.int .i64 ((bytes.length : Int) + 1)) = Ints (heads.set i ((bytes.length : Int) + 1)) := by simp [Ints, List.map_set]
               rw [eH] at H12
               obtain ⟨n0, n1, n2, n3, n4, n5, n6, n7, n8⟩ := M12.nine
               have rf0 := R12.free 0
               have rf1 := R12.free 1
               have rf2 := R12.free 2
               have rf3 := R12.free 3
               have rf4 := R12.free 4
               have rf5 := R12.free 5
               have rf6 := R12.free 6
               have rf7 := R12.free 7
               have rf8 := R12.free 8
               obtain ⟨rx0, rx1, rx2, rx3, rx4, rx5, rx6, rx7, rx8⟩ := R12.nine
               have RF := R12.put9 (.int .i64 (bn : Int)) (.int .i64 (L : Int)) (.slice (some ⟨gH, 0, none⟩) heads.length cap2) (.slice (some ⟨gy, 0, none⟩) (bytes.length + 1) p8) (.int .i64 ((q : Int))) (.int .i64 ((rp : Int))) (.int .i64 1) (.int .i64 bit) (.slice ac ctrs.length cc)
               obtain ⟨y0, y1, y2, y3, y4, y5, y6, y7, y8⟩ := RF.nine
               have hBF := below_put9 hB12 (Nat.le_succ S) (.int .i64 (bn : Int)) (.int .i64 (L : Int)) (.slice (some ⟨gH, 0, none⟩) heads.length cap2) (.slice (some ⟨gy, 0, none⟩) (bytes.length + 1) p8) (.int .i64 ((q : Int))) (.int .i64 ((rp : Int))) (.int .i64 1) (.int .i64 bit) (.slice ac ctrs.length cc)
               have Hm := Lib.hid (Hmk.out (heads.set i ((bytes.length : Int) + 1)) ((q : Int)) ((rp : Int)) (some ⟨gH, 0, none⟩) (some ⟨gy, 0, none⟩) cap2 p8 w12 (by simp) H12.rd (O12.rd) hrc12 hcp8)
               have HBF := Lib.hid hBF
               have lr12 := R12.lt
               clear RF hBF M12 R12 O12 H12 hB12 hrc12 M11 R11 O11 hrc11 hB11 hOH eH)
            | (exact bodyPost_ret (v := MV ⟨(bn : Int), (L : Int), heads.set i ((bytes.length : Int) + 1), bytes ++ [(y : Int)], (q : Int), (rp : Int), 1, bit, ctrs⟩ ⟨some ⟨gH, 0, none⟩, cap2, some ⟨gy, 0, none⟩, p8, ac, cc⟩) (by simp [results, Try.results51, go_sem, MV, MVals, y0, y1, y2, y3, y4, y5, y6, y7, y8]) rfl ⟨⟨some ⟨gH, 0, none⟩, cap2, some ⟨gy, 0, none⟩, p8, ac, cc⟩, rfl, Hm.out.put9 (fun g o e _ => by cases e; omega) (fun g o e _ => by cases e; omega) (fun g o e h => by have := apC g o e h; omega) _ _ _ _ _ _ _ _ _, ⟨.inr (fun g o e => by cases e; omega), (fun g o e => by cases e; omega), .inl rfl⟩, hS ▸ HBF.out⟩))
        · have hT2 : T = ⟨(bn : Int), (L : Int), heads.set i ((bytes.length : Int) + 1), bytes ++ [(y : Int)], at_, 0, 1, bit, ctrs⟩ := by
            rw [← HT.out, S12.search_no _ i q (by simp only [List.length_append, List.length_singleton]; omega) Hi.out Hhd2.out (fun h => by have h2 := h.2.2; simp only at h2; rw [Hrp.out] at h2; omega)]
            simp
          subst hT2
          have dk : decide ((L : Int) ≤ (rp : Int)) = false := decide_eq_false (by omega)
          have hrdF := Lib.hid (hrh9.step ((Below.refl w9.heap.size w9).alloc (Nat.le_refl _) (Obj.cells #[] 3)))
          have lz := M9.lt
          have lr := R9.lt
          have lo := O9.lt
          have f2 := M9.free 2
          have HB := Lib.hid hB9
          have HM := Lib.hid M9
          have HR := Lib.hid R9
          have HO := Lib.hid O9
          have Hrc := Lib.hid hrc9
          have hpsz : 1 ≤ (Ints heads).length := by rw [Ints_length]; omega
          clear hB9 M9 R9 O9 hrc9 hrh9
          go_wp2_with (first
            | (at_builtin
               refine wpList_append_rd _ _ 24 3 1 8 _ w9.heap.size elems_int12 rfl rfl _ 0 [] rfl (World.ownsRow_made w9 #[] 0 (Nat.le_refl _) (by decide) rfl) (some ⟨gh, oh, none⟩) heads.length ch (Ints heads) rfl (by simp [Ints]) hrdF.out (Ints_one heads) (by unfold maxLen; omega) (by omega) (by simp) ?_
               intro a2 cap2 w11 hown2 hgrow2
               have hb11 : Below w9.heap.size w9 w11 := Below.grown (by go_grown) hgrow2 (by simp) (fun k e => by cases e; exact Nat.le_refl _)
               simp only [Nat.zero_add, List.nil_append] at hown2 ⊢
               obtain ⟨gH, rfl, hgH, hOH⟩ := Own.of_owns hown2 (by omega) (by decide)
               clear hown2 hgrow2
               have M11 := HM.out.step hb11
               have R11 := HR.out.step hb11
               have O11 := HO.out.step hb11
               have hrc11 := Hrc.out.step hb11
               have hB11 := HB.out.trans (hb11.mono (Nat.le_of_lt lz))
               have neH : ¬ gH = S := by omega
               have neH2 : ¬ S = gH := by omega
               have M12 := (M11.set 2 (.slice (some ⟨gH, 0, none⟩) heads.length cap2)).other gH i (.int .i64 ((bytes.length : Int) + 1)) (by omega)
               have R12 := (R11.other S 2 (.slice (some ⟨gH, 0, none⟩) heads.length cap2) (by omega)).other gH i (.int .i64 ((bytes.length : Int) + 1)) (by omega)
               have O12 := (O11.other S 2 (.slice (some ⟨gH, 0, none⟩) heads.length cap2) (by omega)).other gH i (.int .i64 ((bytes.length : Int) + 1)) (by omega)
               have H12 := (hOH.other S 2 (.slice (some ⟨gH, 0, none⟩) heads.length cap2) (by omega)).set (i := i) (by rw [Ints_length]; exact Hidl.out) (.int .i64 ((bytes.length : Int) + 1))
               have hB12 := (hB11.setCell (p := ⟨S, 2, none⟩) (Nat.le_refl S) (.slice (some ⟨gH, 0, none⟩) heads.length cap2)).setCell (p := ⟨gH, i, none⟩) (show S ≤ gH by omega) (.int .i64 ((bytes.length : Int) + 1))
               have hrc12 : Rd ((w11.setCell ⟨S, 2, none⟩ (.slice (some ⟨gH, 0, none⟩) heads.length cap2)).setCell ⟨gH, i, none⟩ (.int .i64 ((bytes.length : Int) + 1))) ac (Cts ctrs) := hrc11.below (B := S) (((Below.refl S w11).setCell (p := ⟨S, 2, none⟩) (Nat.le_refl S) (.slice (some ⟨gH, 0, none⟩) heads.length cap2)).setCell (p := ⟨gH, i, none⟩) (show S ≤ gH by omega) (.int .i64 ((bytes.length : Int) + 1))) (fun g o e h => apC g o e h)
               simp only [List.set_cons_zero, List.set_cons_succ] at M12
               obtain ⟨x0, x1, x2, x3, x4, x5, x6, x7, x8⟩ := (M11.set 2 (.slice (some ⟨gH, 0, none⟩) heads.length cap2)).nine
               have xh : (w11.setCell ⟨S, 2, none⟩ (.slice (some ⟨gH, 0, none⟩) heads.length cap2)).cell? ⟨gH, i, none⟩ = some (.int .i64 (q : Int)) := by
                 rw [(hOH.other S 2 (.slice (some ⟨gH, 0, none⟩) heads.length cap2) (by omega)).cell (by rw [Ints_length]; exact Hidl.out)]
                 rw [← Hhd2.out, S12.getD_in _ _ Hidl.out]
                 simp [Ints, Hidl.out]
               have fh := (hOH.other S 2 (.slice (some ⟨gH, 0, none⟩) heads.length cap2) (by omega)).free i
               have fs2 := M11.free 2
               have y2 := M11.cell 2
               obtain ⟨w12, hw12⟩ : ∃ w12, (w11.setCell ⟨S, 2, none⟩ (.slice (some ⟨gH, 0, none⟩) heads.length cap2)).setCell ⟨gH, i, none⟩ (.int .i64 ((bytes.length : Int) + 1)) = w12 := ⟨_, rfl⟩
               rw [hw12] at M12 R12 O12 H12 hB12 hrc12
               have eH : (Ints heads).set i (.int .i64 ((bytes.length : Int) + 1)) = Ints (heads.set i ((bytes.length : Int) + 1)) := by simp [Ints, List.map_set]
               rw [eH] at H12
               obtain ⟨n0, n1, n2, n3, n4, n5, n6, n7, n8⟩ := M12.nine
               have rf0 := R12.free 0
               have rf1 := R12.free 1
               have rf2 := R12.free 2
               have rf3 := R12.free 3
               have rf4 := R12.free 4
               have rf5 := R12.free 5
               have rf6 := R12.free 6
               have rf7 := R12.free 7
               have rf8 := R12.free 8
               obtain ⟨rx0, rx1, rx2, rx3, rx4, rx5, rx6, rx7, rx8⟩ := R12.nine
               have RF := R12.put9 (.int .i64 (bn : Int)) (.int .i64 (L : Int)) (.slice (some ⟨gH, 0, none⟩) heads.length cap2) (.slice (some ⟨gy, 0, none⟩) (bytes.length + 1) p8) (.int .i64 (at_)) (.int .i64 (0)) (.int .i64 1) (.int .i64 bit) (.slice ac ctrs.length cc)
               obtain ⟨y0, y1, y2, y3, y4, y5, y6, y7, y8⟩ := RF.nine
               have hBF := below_put9 hB12 (Nat.le_succ S) (.int .i64 (bn : Int)) (.int .i64 (L : Int)) (.slice (some ⟨gH, 0, none⟩) heads.length cap2) (.slice (some ⟨gy, 0, none⟩) (bytes.length + 1) p8) (.int .i64 (at_)) (.int .i64 (0)) (.int .i64 1) (.int .i64 bit) (.slice ac ctrs.length cc)
               have Hm := Lib.hid (Hmk.out (heads.set i ((bytes.length : Int) + 1)) (at_) (0) (some ⟨gH, 0, none⟩) (some ⟨gy, 0, none⟩) cap2 p8 w12 (by simp) H12.rd (O12.rd) hrc12 hcp8)
               have HBF := Lib.hid hBF
               have lr12 := R12.lt
               clear RF hBF M12 R12 O12 H12 hB12 hrc12 M11 R11 O11 hrc11 hB11 hOH eH)
            | (exact bodyPost_ret (v := MV ⟨(bn : Int), (L : Int), heads.set i ((bytes.length : Int) + 1), bytes ++ [(y : Int)], at_, 0, 1, bit, ctrs⟩ ⟨some ⟨gH, 0, none⟩, cap2, some ⟨gy, 0, none⟩, p8, ac, cc⟩) (by simp [results, Try.results51, go_sem, MV, MVals, y0, y1, y2, y3, y4, y5, y6, y7, y8]) rfl ⟨⟨some ⟨gH, 0, none⟩, cap2, some ⟨gy, 0, none⟩, p8, ac, cc⟩, rfl, Hm.out.put9 (fun g o e _ => by cases e; omega) (fun g o e _ => by cases e; omega) (fun g o e h => by have := apC g o e h; omega) _ _ _ _ _ _ _ _ _, ⟨.inr (fun g o e => by cases e; omega), (fun g o e => by cases e; omega), .inl rfl⟩, hS ▸ HBF.out⟩))
end Go.Proofs.Ytbfgdaijpcbddaa
