/- The links of a transformed string (layer 33). No condition. -/
import Derived.Test.YtalidjgniebohaaW17g
set_option linter.unusedSimpArgs false
set_option linter.unusedVariables false
set_option linter.unusedSectionVars false
namespace Go.Proofs.Ytalidjgniebohaa
open Go.RowKit Go.Shelf
attribute [local go_sem] Oper.semAt_some

theorem Blk.kept {A B : World} {row : Option Nat} {b : Nat} {cs : List Value} {t : TypeId} (h : Blk A b cs t) (hg : A.grownBy B row) (hr : ∀ r, row = some r → ∃ o : Obj, A.heap[r]? = some o ∧ o.isCells = false) : Blk B b cs t := by
  have hl := h.lt
  unfold Blk at *
  rw [hg.block b hl (fun e => by obtain ⟨o, h1, h2⟩ := hr b e.symm; rw [h] at h1; cases h1; cases h2)]; exact h

theorem S17.row_inj {p i j : Nat} (h : S17.row p i = S17.row p j) : i = j := by unfold S17.row at h; split at h <;> split at h <;> omega
theorem S17.row_ne (p i : Nat) : S17.row p i ≠ p := by unfold S17.row; split <;> omega
theorem S17.row_le {p i n : Nat} (hp : p ≤ n) (hi : i < n) : S17.row p i ≤ n := by unfold S17.row; split <;> omega

/-- What is known of the links of the first k rows that have a byte. -/
structure S17.LinkOf (b : List Int) (prim k : Nat) (ll : List Int) : Prop where
  len : ll.length = b.length + 1
  at' : ∀ i, i < k → ll.getD (S17.row prim i) 0 = 1 + (S17.lower b (b.getD i 0).toNat : Int) + (S17.tally (b.take i) (b.getD i 0).toNat : Int)
  prim : ll.getD prim 0 = 0

/-- What a row lays down. -/
def S17.lstep (b : List Int) (prim : Nat) (s : List Int × List Int) (i : Nat) : List Int × List Int :=
  (s.1.set (b.getD i 0).toNat (s.1.getD (b.getD i 0).toNat 0 + 1), s.2.set (S17.row prim i) (s.1.getD (b.getD i 0).toNat 0))
def S17.lfold (b : List Int) (prim : Nat) (st : List Int) (pre : List Nat) : List Int × List Int := pre.foldl (S17.lstep b prim) (st, List.replicate (b.length + 1) 0)
theorem S17.lfold_snoc (b : List Int) (prim : Nat) (st : List Int) (pre : List Nat) (i : Nat) : S17.lfold b prim st (pre ++ [i]) = S17.lstep b prim (S17.lfold b prim st pre) i := by
  unfold S17.lfold; rw [List.foldl_append]; rfl
theorem getD_set {l : List Int} {i j : Nat} (x : Int) (hi : i < l.length) : (l.set i x).getD j 0 = if i = j then x else l.getD j 0 := by
  by_cases e : i = j
  · subst e; rw [if_pos rfl]; exact getD_set_same hi x
  · rw [if_neg e]; exact getD_set_other e x
/-- Whatever rows were met: lengths and bounds. -/
structure S17.Bnd (b st : List Int) (m : Nat) (s : List Int × List Int) : Prop where
  l1 : s.1.length = 256
  l2 : s.2.length = b.length + 1
  low : ∀ c, c < 256 → 0 ≤ s.1.getD c 0
  high : ∀ c, c < 256 → s.1.getD c 0 ≤ 151 + (m : Int)
theorem S17.bnd_start {b st : List Int} (hn : b.length ≤ 150) (hl : st.length = 256) (hst : ∀ c, c < 256 → st.getD c 0 = 1 + (S17.lower b c : Int)) : S17.Bnd b st 0 (S17.lfold b 0 st []) := by
  refine ⟨hl, by simp [S17.lfold], fun c hc => ?_, fun c hc => ?_⟩
  · show 0 ≤ st.getD c 0
    rw [hst c hc]; omega
  · show st.getD c 0 ≤ _
    have := S17.lower_le b c
    rw [hst c hc]; omega
theorem S17.Bnd.step {b st : List Int} {m : Nat} {s : List Int × List Int} {prim i : Nat} (hb : 0 ≤ b.getD i 0 ∧ b.getD i 0 < 256) (h : S17.Bnd b st m s) : S17.Bnd b st (m + 1) (S17.lstep b prim s i) := by
  have hc0 : (b.getD i 0).toNat < 256 := by omega
  refine ⟨by simp [S17.lstep, h.l1], by simp [S17.lstep, h.l2], fun c hc => ?_, fun c hc => ?_⟩
  · have h1 := h.low _ hc0
    have h2 := h.low _ hc
    unfold S17.lstep
    rw [getD_set _ (by rw [h.l1]; exact hc0)]
    split <;> omega
  · have h1 := h.high _ hc0
    have h2 := h.high _ hc
    unfold S17.lstep
    rw [getD_set _ (by rw [h.l1]; exact hc0)]
    split <;> omega
theorem S17.lfold_range {b : List Int} {st : List Int} {prim : Nat} (hb : ∀ i, i < b.length → 0 ≤ b.getD i 0 ∧ b.getD i 0 < 256) (hp : prim ≤ b.length) (hl : st.length = 256) (hst : ∀ c, c < 256 → st.getD c 0 = 1 + (S17.lower b c : Int)) :
    ∀ k, k ≤ b.length → ((S17.lfold b prim st (List.range k)).1.length = 256 ∧ ∀ c, c < 256 → (S17.lfold b prim st (List.range k)).1.getD c 0 = 1 + (S17.lower b c : Int) + (S17.tally (b.take k) c : Int)) ∧ S17.LinkOf b prim k (S17.lfold b prim st (List.range k)).2
  | 0, _ => by
    refine ⟨⟨hl, fun c hc => ?_⟩, ⟨by simp [S17.lfold], fun i hi => by omega, ?_⟩⟩
    · show st.getD c 0 = _
      rw [hst c hc]; simp [S17.tally]
    · show (List.replicate (b.length + 1) (0 : Int)).getD prim 0 = 0
      rw [List.getD_eq_getElem?_getD, List.getElem?_replicate]
      split <;> rfl
  | k + 1, hk => by
    obtain ⟨⟨h1, h2⟩, h3⟩ := S17.lfold_range hb hp hl hst k (by omega)
    have hbk := hb k (by omega)
    have hc0 : (b.getD k 0).toNat < 256 := by omega
    have hcn : (((b.getD k 0).toNat : Nat) : Int) = b.getD k 0 := by omega
    rw [List.range_succ, S17.lfold_snoc]
    generalize S17.lfold b prim st (List.range k) = s at *
    have hrow := S17.row_le hp (i := k) (by omega)
    refine ⟨⟨by simp [S17.lstep, h1], fun c hc => ?_⟩, ⟨by simp [S17.lstep, h3.len], fun i hi => ?_, ?_⟩⟩
    · unfold S17.lstep
      rw [getD_set _ (by rw [h1]; exact hc0), take_snoc (by omega), S17.tally_snoc]
      by_cases e : (b.getD k 0).toNat = c
      · rw [if_pos e, if_pos (by omega), h2 _ hc0, e]; push_cast; omega
      · rw [if_neg e, if_neg (by omega), h2 c hc]; simp
    · unfold S17.lstep
      rw [getD_set _ (by rw [h3.len]; omega)]
      by_cases e : S17.row prim k = S17.row prim i
      · obtain rfl := S17.row_inj e
        rw [if_pos rfl, h2 _ hc0]
      · rw [if_neg e]
        exact h3.at' i (by rcases Nat.lt_or_ge i k with h | h; exact h; exact absurd (by rw [show i = k by omega]) e)
    · unfold S17.lstep
      rw [getD_set _ (by rw [h3.len]; omega), if_neg (S17.row_ne prim k)]
      exact h3.prim

theorem pre_len {m k : Nat} {pre : List (Under m)} (h : pre.map Subtype.val = List.range k) : pre.length = k := by
  have := congrArg List.length h
  simpa using this

set_option maxRecDepth 100000 in
set_option maxHeartbeats 2000000 in
theorem links17_any (b : List Int) (n : Nat) (hnb : b.length = n) (hn : n ≤ 150) (hb : ∀ x ∈ b, 0 ≤ x ∧ x < 256) (a : Option Addr) (cap prim : Nat) (hp : prim ≤ n) (w : World) (hrd : Rd w a (Bts b)) :
    Calls Try.prog 16 #[.agg #[.slice a n cap, .int .i64 (prim : Int)]] w fun e w' => ∃ B, e = .returned (.slice (some ⟨B, 0, none⟩) (n + 1) (n + 1)) ∧ w.heap.size ≤ B ∧ (∃ ll, Blk w' B (Ints ll) 3 ∧ S17.LinkOf b prim n ll) ∧ Below w.heap.size w w' := by
  have hold : ∀ b' o, a = some ⟨b', o, none⟩ → Bts b ≠ [] → b' < w.heap.size := fun b' o e hne => by
    obtain ⟨b2, o2, e2, hcc⟩ := hrd hne
    rw [e] at e2; cases e2
    obtain ⟨v, hv⟩ : ∃ v, (Bts b)[0]? = some v := by
      cases hh : (Bts b)[0]? with
      | none => rw [List.getElem?_eq_none_iff] at hh; exact absurd (List.length_eq_zero_iff.1 (by omega)) hne
      | some v => exact ⟨v, rfl⟩
    exact block_lt_of_cell (hcc 0 v hv)
  obtain ⟨W0, hW0⟩ : ∃ W0, w.alloc (.cells #[.slice a n cap, .int .i64 (prim : Int)] 39) = W0 := ⟨_, rfl⟩
  have k0 : Blk W0 w.heap.size [.slice a n cap, .int .i64 (prim : Int)] 39 := by rw [← hW0]; exact Blk.new w _ _
  have B0 : Below w.heap.size w W0 := by rw [← hW0]; exact (Below.refl _ _).alloc (Nat.le_refl _) _
  have HST := Lib.hid (by have := starts17_any b (by omega) hb a cap (prim : Int) W0 (hrd.step B0); rwa [hnb] at this)
  have HRD := Lib.hid hrd
  have HBy := Lib.hid fun (i : Nat) (hi : i < n) => (show 0 ≤ b.getD i 0 ∧ b.getD i 0 < 256 by
    rw [List.getD_eq_getElem?_getD, List.getElem?_eq_getElem (by omega)]; exact hb _ (List.getElem_mem (by omega)))
  have Hnb := Lib.hid hnb
  clear hrd hb hnb
  have hmk := mk17 n (by omega)
  have c0 := k0.cell 0
  have c1 := k0.cell 1
  simp only [List.getElem?_cons_zero, List.getElem?_cons_succ] at c0 c1
  refine (callsIn_wide (n := 9)).1 ?_
  refine callsIn_of_wp_marks Try.func16 rfl trivial ?_ rfl
  refine wpIn_wide.2 ?_
  simp only [Try.ntmps16, List.size_toArray, List.length_cons, List.length_nil, Nat.reduceAdd, Nat.reduceSub, Array.replicate_succ, Array.replicate_zero, List.push_toArray, List.append_toArray, List.nil_append, List.cons_append]
  go_wp2_with (rw [hW0])
  refine HST.out.mono ?_
  rintro e w1 ⟨⟨st, rfl, hsl, hst⟩, hb1⟩
  have hB1 : Below w.heap.size w w1 := below_trans B0 hb1
  have k1 := k0.step hb1
  obtain ⟨w2, hw2⟩ : ∃ w2, w1.alloc (.cells zz 49) = w2 := ⟨_, rfl⟩
  have kt : Blk w2 w1.heap.size (Ints (List.replicate 256 0)) 49 := by rw [← hw2]; exact blk256 _
  have hb2 : Below w1.heap.size w1 w2 := by rw [← hw2]; exact (Below.refl _ _).alloc (Nat.le_refl _) _
  have z2 : w2.heap.size = w1.heap.size + 1 := by rw [← hw2]; simp
  have hsl1 : some 256 = some (Ints st).length := by rw [Ints_length, hsl]
  have hsl2 : (Ints (List.replicate 256 0)).length = (Ints st).length := by rw [Ints_length, Ints_length, hsl]; simp
  have hz1 : w.heap.size < w1.heap.size := k1.lt
  have Hst := Lib.hid hst
  have Hsl := Lib.hid hsl
  clear hst hsl
  go_wp2_with (first
    | (refine wpList_alloc 49 zz alloc256 (by rfl) (by rfl) ?_; rw [hw2])
    | (refine wpList_storeB 49 (.tmp 3) (.tmp 8) (by rfl) (by rfl) w1.heap.size (by rfl) (Ints st) (by rfl) _ 49 kt (info256.trans hsl1) hsl2 ints_row ?_
       intro w3 E3 g3 s3
       have b3 : Below w1.heap.size w1 w3 := hb2.trans (rowBelow g3 (Nat.le_refl _) (by omega))
       have hB3 : Below w.heap.size w w3 := below_trans hB1 b3
       have k3 := k1.step b3
       have c30 := k3.cell 0
       have c31 := k3.cell 1
       have z3 : w3.heap.size = w1.heap.size + 1 := s3.trans z2
       have hz3 : w.heap.size < w3.heap.size := k3.lt
       have hz4 : w.heap.size < w1.heap.size + 1 := by omega
       have hz5 : w.heap.size < w1.heap.size + 1 + 1 := by omega
       simp only [List.getElem?_cons_zero, List.getElem?_cons_succ] at c30 c31)
    | fail)
  refine (all_any a n cap (prim : Int) _).mono ?_
  rintro e w4 ⟨rfl, hw4⟩
  subst hw4
  go_wp2_with fail
  obtain ⟨T, hT⟩ : ∃ T, w1.heap.size = T := ⟨_, rfl⟩
  rw [hT] at E3 z3 hz1 hz4 hz5 ⊢
  obtain ⟨V, hV⟩ : ∃ V, ((w3.alloc (Obj.cells (Array.replicate (n + 1) (Value.int IntKind.i64 0)) 3)).alloc (Obj.cells #[Value.slice (some { block := T + 1, off := 0 }) (n + 1) (n + 1)] 23)).alloc
      (Obj.cells #[Value.slice a n cap, Value.int IntKind.i64 (prim : Int)] 39) = V := ⟨_, rfl⟩
  have fT : Blk V T (Ints st) 49 := by rw [← hV]; exact ((E3.alloc _).alloc _).alloc _
  have fO : Blk V (T + 1) (Ints (List.replicate (n + 1) 0)) 3 := by
    rw [← hV, ← zeros17, ← z3]; exact ((Blk.new w3 _ _).alloc _).alloc _
  have fC : Blk V (T + 1 + 1) [Value.slice (some { block := T + 1, off := 0 }) (n + 1) (n + 1)] 23 := by
    rw [← hV]
    have h := (Blk.new (w3.alloc (Obj.cells (Array.replicate (n + 1) (Value.int IntKind.i64 0)) 3)) [Value.slice (some { block := T + 1, off := 0 }) (n + 1) (n + 1)] 23).alloc (Obj.cells #[Value.slice a n cap, Value.int IntKind.i64 (prim : Int)] 39)
    rw [World.size_alloc, z3] at h; exact h
  have fI : Blk V (T + 1 + 1 + 1) [Value.slice a n cap, Value.int IntKind.i64 (prim : Int)] 39 := by
    rw [← hV]
    have h := Blk.new ((w3.alloc (Obj.cells (Array.replicate (n + 1) (Value.int IntKind.i64 0)) 3)).alloc (Obj.cells #[Value.slice (some { block := T + 1, off := 0 }) (n + 1) (n + 1)] 23)) [Value.slice a n cap, Value.int IntKind.i64 (prim : Int)] 39
    rw [World.size_alloc, World.size_alloc, z3] at h; exact h
  have hVb : Below w.heap.size w V := by
    rw [← hV]; exact ((hB3.alloc (by omega) _).alloc (by simp; omega) _).alloc (by simp; omega) _
  have hVs : V.heap.size = T + 1 + 1 + 1 + 1 := by rw [← hV]; simp [z3]
  rw [hV]
  clear hV E3 hB3 hB1 b3 hb1 hb2 hw2 kt k1 c0 c1 k0 B0 hW0 HST
  have hBn := S17.bnd_start (b := b) (st := st) (by have := Hnb.out; omega) Hsl.out Hst.out
  have hseq := all_stops 7 (T + 1 + 1 + 1) prim (fun k => k = T ∨ k = T + 1) a cap b (by have := Hnb.out; omega) (by omega) (fun b' o e hne => by have := hold b' o e hne; omega) V (by rw [Hnb.out]; exact fI.cell 0) (fI.cell 1) (HRD.out.step hVb)
  rw [Hnb.out] at hseq
  have HBN := Lib.hid hBn
  clear hBn
  refine (wpIn_wide (n := 8)).1 ?_
  refine wpIn_rangeFunc_ownF rfl (by omega) (gf := 35) (lb := #[.pointer (some ⟨T + 1 + 1 + 1, 0, none⟩)]) rfl trivial (enters_of Try.func35 (by kernel_rfl) rfl)
    hseq (fun h k => h.trans k) (fun X l' o o' _ hl ho _ => KpP.put o' hl ho) (Below.refl _ _) (fun _ => rfl)
    (fun pre X => (Blk X T (Ints (S17.lfold b prim st (pre.map Subtype.val)).1) 49 ∧ Blk X (T + 1) (Ints (S17.lfold b prim st (pre.map Subtype.val)).2) 3 ∧ Blk X (T + 1 + 1) [Value.slice (some { block := T + 1, off := 0 }) (n + 1) (n + 1)] 23 ∧ Hid (S17.Bnd b st pre.length (S17.lfold b prim st (pre.map Subtype.val)))) ∧ Below w.heap.size w X)
    (fun cd pre X => False)
    (OwnFrom.and (Own.from (fun s A B row hs hg hr => ⟨hs.1.kept hg hr, hs.2.1.kept hg hr, hs.2.2.1.kept hg hr, hs.2.2.2⟩) _) (ownFrom_below (by omega) (by omega)))
    (fun c => fun _ _ _ _ h _ _ => h)
    ⟨⟨fT, by show Blk V (T + 1) (Ints (List.replicate (b.length + 1) 0)) _; rw [Hnb.out]; exact fO, fC, HBN⟩, hVb⟩
    (fun x => { tmps :=
        #[Value.agg #[Value.slice a n cap, Value.int IntKind.i64 (prim : Int)],
          Value.pointer (some { block := w.heap.size, off := 0 }), Value.slice none 0 0,
          Value.pointer (some { block := T, off := 0 }),
          Value.pointer (some { block := T + 1 + 1, off := 0 }), .int .i64 (S17.row prim x.1 : Int), .int .u8 (b.getD x.1 0),
          Value.agg #[Value.slice a n cap, Value.int IntKind.i64 (prim : Int)], Value.agg (Ints st).toArray,
          Value.pointer (some { block := w.heap.size, off := 0 }), Value.slice a n cap, Value.int IntKind.i64 (n : Int),
          Value.int IntKind.i64 ((n : Int) + 1), Value.slice (some { block := T + 1, off := 0 }) (n + 1) (n + 1),
          Value.agg #[Value.slice a n cap, Value.int IntKind.i64 (prim : Int)],
          Value.func (Fn.func 35) #[] #[Value.pointer (some { block := T + 1 + 1 + 1, off := 0 })], .int .i64 (S17.row prim x.1 : Int), .int .u8 (b.getD x.1 0),
          undef, undef, undef, undef, undef, undef, undef, undef, undef, undef, undef, undef], defers := [] }) ?assign ?body ?done ?stop
  case assign =>
    intro l x W K hK
    gi_wp2
    exact hK
  case body =>
    rintro l pre ⟨x, hx⟩ X ⟨⟨d1, d2, d3, hbd⟩, hB⟩ hlt
    have hsn := S17.lfold_snoc b prim st (pre.map Subtype.val) x
    have hby := HBy.out x hx
    have hstep := hbd.out.step (prim := prim) hby
    have hrow := S17.row_le hp hx
    generalize S17.lfold b prim st (pre.map Subtype.val) = s at *
    obtain ⟨nl, ll⟩ := s
    have h1 := hbd.out.l1
    have h2 := hbd.out.l2
    simp only [Hnb.out] at h1 h2
    have h3 := hbd.out.low
    have h4 := hbd.out.high
    unfold S17.lstep at hsn hstep
    simp only at hsn hstep d1 d2 h3 h4
    obtain ⟨row, hrw⟩ : ∃ r, S17.row prim x = r := ⟨_, rfl⟩
    obtain ⟨y, hyv⟩ : ∃ y, b.getD x 0 = y := ⟨_, rfl⟩
    simp only [hrw, hyv] at hsn hstep hrow hby ⊢
    obtain ⟨c, rfl⟩ : ∃ c : Nat, y = (c : Int) := ⟨y.toNat, by omega⟩
    simp only [Int.toNat_natCast] at hsn hstep
    have hc : c < 256 := by omega
    have h3 := h3 c hc
    have h4 := h4 c hc
    have cT := Ints_at' d1 (i := c) (by omega)
    have fT := d1.free c
    have cO := Ints_at' d2 (i := row) (by omega)
    have fO := d2.free row
    obtain ⟨v, hv⟩ : ∃ v, nl.getD c 0 = v := ⟨_, rfl⟩
    rw [hv] at hsn hstep h3 h4 cT
    have cC := d3.cell 0
    simp only [List.getElem?_cons_zero] at cC
    have g1 := (d1.other (T + 1) row (.int .i64 v) (by omega)).set c (.int .i64 (v + 1))
    have g2 := (d2.set row (.int .i64 v)).other T c (.int .i64 (v + 1)) (by omega)
    have g3 := (d3.other (T + 1) row (.int .i64 v) (by omega)).other T c (.int .i64 (v + 1)) (by omega)
    rw [← Ints_set] at g1 g2
    have HSN := Lib.hid hsn
    have HSP := Lib.hid hstep
    clear hsn hstep hbd hyv hrw hv
    have hlt' : pre.length < n := hlt
    have hrz : (row : Int) < (n : Int) + 1 := by omega
    have hrz2 : row < n + 1 := by omega
    have hcz : (c : Int) < 256 := by omega
    have hC : Cells X [(⟨T + 1 + 1, 0, none⟩, Value.slice (some { block := T + 1, off := 0 }) (n + 1) (n + 1)), (⟨T, c, none⟩, .int .i64 v)] := ⟨cC, cT, trivial⟩
    gi_wp2_with fail
    refine wpR_region_seq 5 2 [(true, [true, true, true, true, true])] _ _ (Keeps X [(⟨T + 1 + 1, 0, none⟩, Value.slice (some { block := T + 1, off := 0 }) (n + 1) (n + 1)), (⟨T, c, none⟩, .int .i64 v)]) (by kernel_rfl) (List.take_append_drop 5 _).symm (by kernel_rfl) (by kernel_rfl) (by kernel_rfl) (by kernel_rfl) (Keeps.start hC) (fun Y Q4 F4 hY hF => ?_)
    simp only [phased, List.flatMap_cons, List.flatMap_nil, List.take_succ_cons, List.take_zero, List.drop_succ_cons, List.drop_zero, sel_true, sel_false, sel_nil, List.map_cons, List.map_nil, List.cons_append, List.nil_append, List.append_nil]
    repeat
      apply wpSeq_read (by first | rfl | (rw [hY]; rfl))
      · intro w2 hS2
        (try simp only [Keeps, Cells] at hS2)
        (try simp only [HasC, Cells] at hS2)
        go_simp
        with_reducible rfl
      simp only [Act.put, List.setIfInBounds_toArray, List.set_cons_zero, List.set_cons_succ]
    refine wpSeq_done (hF.out _ _ (fun K hK => ?_))
    clear hF hY
    have o1 : X.drew.cell? ⟨T + 1, row, none⟩ = some (.int .i64 (ll.getD row 0)) := cO
    have o2 : X.drew.frozen? ⟨T + 1, row, none⟩ = false := fO
    have o3 : X.drew.cell? ⟨T, c, none⟩ = some (.int .i64 v) := cT
    have o4 : X.drew.frozen? ⟨T, c, none⟩ = false := fT
    go_wp2_with fail
    refine OnlyK.mk (hK.out _ _ ?_)
    clear hK o1 o2
    have hne : ¬ T + 1 = T := by omega
    have hvw : IntKind.i64.wrap (v + 1) = v + 1 := IntWalk.i64_in _ (by omega)
    gi_wp2
    have hfe : S17.lfold b prim st (List.map Subtype.val (pre ++ [⟨x, hx⟩])) = (nl.set c (v + 1), ll.set row v) := by
      rw [List.map_append, List.map_cons, List.map_nil, HSN.out]
    refine ⟨((KeepsOthers.setCell _ _ _).trans (KeepsOthers.setCell _ _ _)).trans (keepsOthers_below ((Below.refl _ _).drew)), ((KpP.setCell (.inr rfl) _ _).trans (KpP.setCell (.inl rfl) _ _)).trans (KpP.below ((Below.refl _ _).drew)), ⟨?_, ?_, g3, ?_⟩, ?_⟩
    · rw [hfe]; exact g1
    · rw [hfe]; exact g2
    · rw [hfe, List.length_append]; exact Lib.hid HSP.out
    · exact ((hB.setCell (p := ⟨T + 1, row, none⟩) (by simp; omega) _).setCell (p := ⟨T, c, none⟩) (by simp; omega) _).drew
  case done =>
    rintro D ys X hD hys ⟨⟨d1, d2, d3, hbd⟩, hB⟩ hK
    have hfin := (S17.lfold_range (b := b) (st := st) (prim := prim) (fun i hi => HBy.out i (by have := Hnb.out; omega)) (by rw [Hnb.out]; exact hp) Hsl.out Hst.out b.length (Nat.le_refl _)).2
    rw [Hnb.out] at hfin
    have HF := Lib.hid hfin
    clear hfin
    rw [hys] at d2
    have cC := d3.cell 0
    simp only [List.getElem?_cons_zero] at cC
    have hT3 : ¬ T + 1 = D := by omega
    have d2' : Blk (X.putObj D (.deferred none)) (T + 1) _ _ := d2.kept (grownBy_putObj' X D _) (fun r e => by cases e; exact ⟨_, hK, rfl⟩)
    go_wp2
    refine ⟨by simp, .inl ⟨_, _, rfl, run_takeDeferred hK, ?_⟩⟩
    refine ⟨_, ?_, T + 1, rfl, by omega, ⟨_, d2', HF.out⟩, hB.trans (belowK_b (w := w) (Nat.le_refl _) X D _ _ (by omega) hK rfl rfl)⟩
    simp [results, Try.f16, go_sem]
  case stop =>
    rintro D c pre X hD hpre h
    exact h.elim
end Go.Proofs.Ytalidjgniebohaa
