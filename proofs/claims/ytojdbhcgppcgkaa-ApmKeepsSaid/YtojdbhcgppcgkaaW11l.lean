/- learned (law 11): a map behind lessons. No condition. -/
import Derived.Test.YtojdbhcgppcgkaaSpec11c
import Derived.Test.YtojdbhcgppcgkaaBase9
set_option linter.unusedSimpArgs false
set_option linter.unusedVariables false
set_option linter.unusedSectionVars false
namespace Go.Proofs.Ytojdbhcgppcgkaa
open Go.RowKit

theorem newThree11 (w : World) : Calls Try.prog 12 #[.int .i64 3] w fun e w' => ∃ a cap, e = .returned (.tuple #[.agg #[.slice a 99 cap], .int .i64 0]) ∧ MapIs (S11.lrn []) (.agg #[.slice a 99 cap]) w' ∧ Below w.heap.size w w' := by
  refine (new11_any 3 w).mono ?_
  rintro e w' ⟨V, rfl, hM, hb⟩
  obtain ⟨a, cap, rfl, hM1, _⟩ := mapOpen hM S11.fit_new.1
  exact ⟨a, cap, rfl, hM1, hb⟩
/-- A map of three contexts as it is returned. -/
theorem tell11_any (L : List Int) (V : Value) (x : Lsn) (w : World) (h : S11.fit L) (hx : x.ok) (hV : MapIs L V w) :
    Calls Try.prog 19 #[V, .int .i64 (x.ctx % 3), .int .i64 (S11.ch x.prob), .int .i64 (bitOf x.bit), .int .i64 (1 + x.rate % 255)] w fun e w' =>
      ∃ a cap, e = .returned (.tuple #[.agg #[.slice a 99 cap], .int .i64 0]) ∧ MapIs (S11.tell L x) (.agg #[.slice a 99 cap]) w' ∧ Below w.heap.size w w' := by
  refine (update11_any L V _ _ _ _ w hV).mono ?_
  rintro e w' ⟨V, rfl, hM, hb⟩
  rw [S11.fit_updE h x hx]
  obtain ⟨a, cap, rfl, hM1, _⟩ := mapOpen hM (S11.fit_tell h x hx).1
  exact ⟨a, cap, rfl, hM1, hb⟩
theorem checkM11_any (L : List Int) (V : Value) (w : World) (h : S11.fit L) (hV : MapIs L V w) :
    Calls Try.prog 15 #[V] w fun e w' => e = .returned (.int .i64 0) ∧ Below w.heap.size w w' := by
  obtain ⟨a, cap, rfl, h1, h2, hrd⟩ := hV
  have := check11_any L a cap w (by omega) hrd
  rw [h.2] at this
  exact this
/-- A variable of a map is no cell of a map. -/
theorem MapIs.setOther {L : List Int} {V : Value} {w : World} {b i n cap : Nat} {a : Option Addr} {t : TypeId} {v : Value} (h : MapIs L V w) (hb : Blk w b [.slice a n cap] t) : MapIs L V (w.setCell ⟨b, i, none⟩ v) := by
  obtain ⟨a', cap', rfl, h1, h2, hrd⟩ := h
  refine ⟨a', cap', rfl, h1, h2, ?_⟩
  cases L with
  | nil => exact Rd.nil _ _
  | cons x L =>
    obtain ⟨g, o, rfl, hc⟩ := Ints_cell (i := 0) (x := x) hrd rfl
    refine hrd.setOther fun e => ?_
    subst e
    rw [hb.cell] at hc
    cases o with
    | zero => simp at hc
    | succ o => simp at hc

/-- What a round makes: the map that has learned, and a new variable. -/
def S11.made (L : List Int) (B : Nat) : Fresh where
  nd := [23, 27]
  dv := [24, 25, 26]
  Sh := fun k u => if k = 23 then ∃ a cap, u = .tuple #[.agg #[.slice a 99 cap], .int .i64 0] else ∃ b, u = .pointer (some ⟨b, 0, none⟩)
  R := fun k u w => if k = 23 then ∃ V, u = .tuple #[V, .int .i64 0] ∧ MapIs L V w else ∃ b, u = .pointer (some ⟨b, 0, none⟩) ∧ B ≤ b ∧ Blk w b [.slice none 0 0] 24
  D := fun _ => []
  ex := fun _ => []
  lat := fun _ => []
  fin := [23, 27]

theorem S11.made_stable (L : List Int) (B : Nat) : ∀ k ∈ (S11.made L B).nd, ∀ u w w', (S11.made L B).R k u w → Below w.heap.size w w' → (S11.made L B).R k u w' := by
  intro k hk u w w' h hb
  simp only [S11.made] at *
  split at h
  · rename_i hk'
    rw [if_pos hk']
    obtain ⟨V, e, hM⟩ := h
    exact ⟨V, e, hM.step hb⟩
  · rename_i hk'
    rw [if_neg hk']
    obtain ⟨b, e, h1, h2⟩ := h
    exact ⟨b, e, h1, h2.step hb⟩
theorem S11.made_some (L : List Int) (B : Nat) : ∃ c : Nat → Value, ∀ k ∈ (S11.made L B).nd, (S11.made L B).Sh k (c k) :=
  ⟨fun k => if k = 23 then .tuple #[.agg #[.slice none 99 0], .int .i64 0] else .pointer (some ⟨0, 0, none⟩), fun k _ => by
    simp only [S11.made]
    split
    · exact ⟨_, _, rfl⟩
    · exact ⟨_, rfl⟩⟩

set_option maxHeartbeats 1000000 in
theorem learned11_any (xs : List Lsn) (a : Option Addr) (cap : Nat) (w : World) (hlen : xs.length ≤ 9223372036854775807) (hrd : Rd w a (Lsns xs)) (hok : ∀ x ∈ xs, x.ok) :
    Calls Try.prog 24 #[.slice a xs.length cap] w fun e w' => ∃ V, e = .returned (.tuple #[V, .bool true]) ∧ MapIs (S11.lrn xs) V w' ∧ Below w.heap.size w w' := by
  have HN := Lib.hid newThree11
  go_enter Try.func24, Try.ntmps24
  go_wp2_with fail
  refine (HN.out _).mono ?_
  rintro e w1 ⟨a1, cap1, rfl, hM1, hb1⟩
  have HM1 := Lib.hid hM1
  clear hM1
  have hB1 : Below w.heap.size w w1 := below_trans (by go_grown) hb1
  have z1 : w.heap.size < w1.heap.size := by have := hb1.size; simp at this; omega
  have k1 : w1.cell? ⟨w.heap.size, 0, none⟩ = some (.slice none 0 0) := (hb1.cell (by simp <;> omega)).trans (by go_simp)
  go_wp2
  go_loopw [6, 7] (fun ok i wr => ∃ (k : Nat) (a' : Option Addr) (cap' : Nat), k ≤ xs.length ∧ ok = .bool true ∧ i = .int .i64 k ∧ MapIs (S11.lrn (xs.take k)) (.agg #[.slice a' 99 cap']) wr ∧ Blk wr w1.heap.size [.slice a' 99 cap'] 24 ∧ Blk wr w.heap.size [.slice none 0 0] 24 ∧ Below w.heap.size w wr) (fun _ i _ => xs.length - (intOf i).toNat)
  case atStart =>
    refine ⟨0, a1, cap1, by omega, rfl, rfl, ?_, Blk.new w1 _ _, ?_, by go_grown⟩
    · exact HM1.out.step ((Below.refl _ _).alloc (Nat.le_refl _) _)
    · exact ((Blk.new w _ _).step hb1).alloc _
  case round =>
    obtain ⟨k, a', cap', hk, rfl, rfl, hM, hv, hr, hB⟩ := hrel
    have zr : w.heap.size ≤ wr.heap.size := hB.size
    have hvl := hv.lt
    have hrl := hr.lt
    have hv0 := hv.cell 0
    have hr0 := hr.cell 0
    simp only [List.getElem?_cons_zero] at hv0 hr0
    by_cases hlt : k < xs.length
    · have hlt2 : (k : Int) < xs.length := by omega
      obtain ⟨x, hx⟩ : ∃ x, xs[k]? = some x := ⟨xs[k], List.getElem?_eq_getElem hlt⟩
      have hxo : x.ok := hok x (List.mem_of_getElem? hx)
      have hfit : S11.fit (S11.lrn (xs.take k)) := S11.fit_lrn _ fun y hy => hok y (List.mem_of_mem_take hy)
      have hnext : S11.tell (S11.lrn (xs.take k)) x = S11.lrn (xs.take (k + 1)) := by
        rw [← S11.lrn_snoc, List.take_add_one, hx]; rfl
      have HU := Lib.hid fun W (hb : Below wr.heap.size wr W) => tell11_any _ _ x W hfit hxo (hM.step hb)
      rw [hnext] at HU
      obtain ⟨g, o, rfl, hc⟩ := Lsns_cells (hrd) hx
      have hc' := fun (p : Addr) (v : Value) (h : w.cell? p = some v) => ((hB.cell (block_lt_of_cell h)).trans h : wr.cell? p = some v)
      have c0 := hc' _ _ hc.1
      have c1 := hc' _ _ hc.2.1
      have c2 := hc' _ _ hc.2.2.1
      have c3 := hc' _ _ hc.2.2.2
      have hgl := block_lt_of_cell c0
      obtain ⟨xc, xr, xp, xb⟩ := x
      obtain ⟨x1, x2, x3, x4, x5, x6⟩ := hxo
      simp only at *
      clear hc hc' hnext
      have e1 : IntKind.i64.wrap (xc.tmod 3) = xc % 3 := by rw [Int.tmod_eq_emod_of_nonneg x1]; exact IntWalk.i64_in _ (by omega)
      have e2 : IntKind.i64.wrap xr = xr := IntWalk.i64_in _ (by omega)
      have e3 : IntKind.i64.wrap (1 + xr.tmod 255) = 1 + xr % 255 := by rw [Int.tmod_eq_emod_of_nonneg x3]; exact IntWalk.i64_in _ (by omega)
      have hfit2 : S11.fit (S11.lrn (xs.take (k + 1))) := S11.fit_lrn _ fun y hy => hok y (List.mem_of_mem_take hy)
      cases xb
      · go_wp2
        refine wp_region_fresh 28 2 _ _ (Keeps wr [(⟨w1.heap.size, 0, none⟩, .slice a' 99 cap'), (⟨g, o + k * 4, none⟩, .int .u8 xc), (⟨g, o + k * 4 + 1, none⟩, .int .u8 xr), (⟨g, o + k * 4 + 2, none⟩, .int .u16 xp), (⟨g, o + k * 4 + 3, none⟩, .bool false)]) (S11.made (S11.lrn (xs.take (k + 1))) wr.heap.size) (by kernel_rfl) (List.take_append_drop 28 _).symm rfl rfl (by kernel_rfl) (Keeps.start (by simp only [Cells]; exact ⟨hv0, c0, c1, c2, c3, trivial⟩)) (fun _ _ h hb => h.step hb) (S11.made_stable _ _) (S11.made_some _ _) (fun Y F hY hF => ?_)
        simp only [List.take_succ_cons, List.take_zero, List.drop_succ_cons, List.drop_zero]
        repeat
          first
            | apply wpC_skip (by rfl)
            | (apply wpC_value (by rfl) (by first | rfl | (rw [hY]; rfl))
               · intro w2 ⟨hB2, hk2⟩
                 simp only [Cells] at hk2
                 go_simp
                 with_reducible rfl
               simp only [Act.put, List.setIfInBounds_toArray, List.set_cons_zero, List.set_cons_succ])
        apply wpC_call (by rfl) (by first | rfl | (rw [hY]; rfl))
        · intro w2 ⟨hB2, hk2⟩
          simp only [Cells] at hk2
          go_simp
          with_reducible exact ⟨rfl, rfl⟩
        · intro w2 hS2
          have hk2 := hS2.2
          simp only [Cells] at hk2
          refine (lawChance11_any xp _ x5 x6).mono ?_
          rintro e w3 ⟨rfl, hb3⟩
          exact ⟨rfl, hb3⟩
        simp only [Act.put, List.setIfInBounds_toArray, List.set_cons_zero, List.set_cons_succ]
        repeat
          first
            | apply wpC_skip (by rfl)
            | (apply wpC_value (by rfl) (by first | rfl | (rw [hY]; rfl))
               · intro w2 ⟨hB2, hk2⟩
                 simp only [Cells] at hk2
                 go_simp
                 with_reducible rfl
               simp only [Act.put, List.setIfInBounds_toArray, List.set_cons_zero, List.set_cons_succ])
        intro c hc
        have hc1 := hc 23 (by simp [S11.made])
        have hc2 := hc 27 (by simp [S11.made])
        simp only [S11.made, if_true] at hc1 hc2
        rw [if_neg (by omega)] at hc2
        obtain ⟨a2, cap2, hc1⟩ := hc1
        obtain ⟨b2, hc2⟩ := hc2
        repeat
          first
            | apply wpN_skip (by rfl)
            | (apply wpN_pure (by rfl) (by rfl) (by first | rfl | (rw [hY]; rfl))
               · intro w2
                 go_simp
                 with_reducible rfl
               simp only [Act.put, List.setIfInBounds_toArray, List.set_cons_zero, List.set_cons_succ])
        apply wpN_call (by rfl) (by rfl) (by first | rfl | (rw [hY]; rfl)) (fun _ _ h hb => h.step hb) (S11.made_stable _ _)
        · intro w2 ⟨hB2, hk2⟩ _
          simp only [Cells] at hk2
          go_simp
          with_reducible exact ⟨rfl, rfl⟩
        · intro w2 hS2 _
          refine (HU.out _ hS2.1).mono ?_
          rintro e w3 ⟨a3, cap3, rfl, hM3, hb3⟩
          exact ⟨_, rfl, ⟨a3, cap3, rfl⟩, ⟨_, rfl, hM3⟩, hb3⟩
        simp only [Act.put, List.setIfInBounds_toArray, List.set_cons_zero, List.set_cons_succ]
        rw [show (0 + 1 + 1 + 1 + 1 + 1 + 1 + 1 + 1 + 1 + 1 + 1 + 1 + 1 + 1 + 1 + 1 + 1 + 1 + 1 + 1 + 1 + 1 + 1) = 23 from rfl, hc1]
        repeat
          first
            | apply wpN_skip (by rfl)
            | (apply wpN_pure (by rfl) (by rfl) (by first | rfl | (rw [hY]; rfl))
               · intro w2
                 go_simp
                 with_reducible rfl
               simp only [Act.put, List.setIfInBounds_toArray, List.set_cons_zero, List.set_cons_succ])
        refine wpN_value (by rfl) (by rfl) (by first | rfl | (rw [hY]; rfl)) (fun _ _ h hb => h.step hb) (S11.made_stable _ _) (fun w2 hS2 _ => ⟨.pointer (some ⟨w2.heap.size, 0, none⟩), w2.alloc (.cells #[.slice none 0 0] 24), ?_, ⟨_, rfl⟩, ⟨_, rfl, hS2.1.size, Blk.new w2 _ _⟩, (Below.refl _ _).alloc (Nat.le_refl _) _⟩) ?_
        · go_simp
        simp only [Act.put, List.setIfInBounds_toArray, List.set_cons_zero, List.set_cons_succ]
        rw [show 23 + 1 + 1 + 1 + 1 = 27 from rfl, hc2]
        refine hF.out c _ (fun K w3 hK hS3 hR3 => ?_)
        obtain ⟨h23, h27, -⟩ := hR3
        simp only [S11.made, if_true] at h23 h27
        rw [if_neg (by omega)] at h27
        rw [hc1] at h23
        rw [hc2] at h27
        obtain ⟨V3, e4, hM3⟩ := h23
        obtain ⟨b3, e5, hb3, hv3⟩ := h27
        obtain rfl : b3 = b2 := by simpa using e5.symm
        obtain rfl : V3 = .agg #[.slice a2 99 cap2] := by simpa using e4.symm
        clear hF hY e4 e5 hc1 hc2 hc
        have hB3 : Below w.heap.size w w3 := below_trans hB hS3.1
        have hold3 := hv.step hS3.1
        have hres3 := hr.step hS3.1
        clear hS3
        have d0 := hv3.cell 0
        have d1 := hv3.free 0
        have d2 := hv3.lt
        have d3 := hold3.cell 0
        have d4 := hold3.free 0
        have d5 := hold3.lt
        simp only [List.getElem?_cons_zero] at d0 d3
        go_wp2_with fail
        refine OnlyK.mk (hK.out _ _ ?_)
        have hv4 := hv3.set 0 (.slice a2 99 cap2)
        have hold4 := hold3.other b3 0 (.slice a2 99 cap2) (by omega)
        have hres4 := hres3.other b3 0 (.slice a2 99 cap2) (by omega)
        have hM4 := hM3.setOther (i := 0) (v := .slice a2 99 cap2) hv3
        have hB4 : Below w.heap.size w (w3.setCell ⟨b3, 0, none⟩ (.slice a2 99 cap2)) := hB3.setCell (by simp; omega) _
        simp only [List.set_cons_zero] at hv4
        clear d0 d1 d2 d3 d4 d5 hv3 hold3 hres3 hM3 hB3 hK
        generalize w3.setCell ⟨b3, 0, none⟩ (.slice a2 99 cap2) = w4 at *
        have d0 := hv4.cell 0
        have d2 := hv4.lt
        simp only [List.getElem?_cons_zero] at d0
        have HCk := Lib.hid (checkM11_any _ _ w4 hfit2 hM4)
        have HM4 := Lib.hid hM4
        clear hM4
        go_wp2_with fail
        refine HCk.out.mono ?_
        rintro e w5 ⟨rfl, hb5⟩
        have hv5 := hv4.step hb5
        have hold5 := hold4.step hb5
        have hres5 := hres4.step hb5
        have hM5 := HM4.out.step hb5
        have hB5 : Below w.heap.size w w5 := below_trans hB4 hb5
        clear d0 d2 hv4 hold4 hres4 hB4 hb5
        have d0 := hv5.cell 0
        have d2 := hv5.lt
        have d3 := hold5.cell 0
        have d4 := hold5.free 0
        have d5 := hold5.lt
        simp only [List.getElem?_cons_zero] at d0 d3
        have hrel := Lib.hid (And.intro (hM5.setOther (i := 0) (v := .slice a2 99 cap2) hold5) (And.intro (hold5.set 0 (.slice a2 99 cap2)) (And.intro (hres5.other w1.heap.size 0 (.slice a2 99 cap2) (by omega)) (hB5.setCell (p := ⟨w1.heap.size, 0, none⟩) (by simp; omega) (.slice a2 99 cap2)))))
        clear hM5
        go_wp2
        go_roundw
        case rel => exact ⟨k + 1, a2, cap2, by omega, rfl, by go_num, hrel.out⟩
        case measure => simp [intOf]; omega
      · go_wp2
        refine wp_region_fresh 28 2 _ _ (Keeps wr [(⟨w1.heap.size, 0, none⟩, .slice a' 99 cap'), (⟨g, o + k * 4, none⟩, .int .u8 xc), (⟨g, o + k * 4 + 1, none⟩, .int .u8 xr), (⟨g, o + k * 4 + 2, none⟩, .int .u16 xp), (⟨g, o + k * 4 + 3, none⟩, .bool true)]) (S11.made (S11.lrn (xs.take (k + 1))) wr.heap.size) (by kernel_rfl) (List.take_append_drop 28 _).symm rfl rfl (by kernel_rfl) (Keeps.start (by simp only [Cells]; exact ⟨hv0, c0, c1, c2, c3, trivial⟩)) (fun _ _ h hb => h.step hb) (S11.made_stable _ _) (S11.made_some _ _) (fun Y F hY hF => ?_)
        simp only [List.take_succ_cons, List.take_zero, List.drop_succ_cons, List.drop_zero]
        repeat
          first
            | apply wpC_skip (by rfl)
            | (apply wpC_value (by rfl) (by first | rfl | (rw [hY]; rfl))
               · intro w2 ⟨hB2, hk2⟩
                 simp only [Cells] at hk2
                 go_simp
                 with_reducible rfl
               simp only [Act.put, List.setIfInBounds_toArray, List.set_cons_zero, List.set_cons_succ])
        apply wpC_call (by rfl) (by first | rfl | (rw [hY]; rfl))
        · intro w2 ⟨hB2, hk2⟩
          simp only [Cells] at hk2
          go_simp
          with_reducible exact ⟨rfl, rfl⟩
        · intro w2 hS2
          have hk2 := hS2.2
          simp only [Cells] at hk2
          refine (lawChance11_any xp _ x5 x6).mono ?_
          rintro e w3 ⟨rfl, hb3⟩
          exact ⟨rfl, hb3⟩
        simp only [Act.put, List.setIfInBounds_toArray, List.set_cons_zero, List.set_cons_succ]
        repeat
          first
            | apply wpC_skip (by rfl)
            | (apply wpC_value (by rfl) (by first | rfl | (rw [hY]; rfl))
               · intro w2 ⟨hB2, hk2⟩
                 simp only [Cells] at hk2
                 go_simp
                 with_reducible rfl
               simp only [Act.put, List.setIfInBounds_toArray, List.set_cons_zero, List.set_cons_succ])
        intro c hc
        have hc1 := hc 23 (by simp [S11.made])
        have hc2 := hc 27 (by simp [S11.made])
        simp only [S11.made, if_true] at hc1 hc2
        rw [if_neg (by omega)] at hc2
        obtain ⟨a2, cap2, hc1⟩ := hc1
        obtain ⟨b2, hc2⟩ := hc2
        repeat
          first
            | apply wpN_skip (by rfl)
            | (apply wpN_pure (by rfl) (by rfl) (by first | rfl | (rw [hY]; rfl))
               · intro w2
                 go_simp
                 with_reducible rfl
               simp only [Act.put, List.setIfInBounds_toArray, List.set_cons_zero, List.set_cons_succ])
        apply wpN_call (by rfl) (by rfl) (by first | rfl | (rw [hY]; rfl)) (fun _ _ h hb => h.step hb) (S11.made_stable _ _)
        · intro w2 ⟨hB2, hk2⟩ _
          simp only [Cells] at hk2
          go_simp
          with_reducible exact ⟨rfl, rfl⟩
        · intro w2 hS2 _
          refine (HU.out _ hS2.1).mono ?_
          rintro e w3 ⟨a3, cap3, rfl, hM3, hb3⟩
          exact ⟨_, rfl, ⟨a3, cap3, rfl⟩, ⟨_, rfl, hM3⟩, hb3⟩
        simp only [Act.put, List.setIfInBounds_toArray, List.set_cons_zero, List.set_cons_succ]
        rw [show (0 + 1 + 1 + 1 + 1 + 1 + 1 + 1 + 1 + 1 + 1 + 1 + 1 + 1 + 1 + 1 + 1 + 1 + 1 + 1 + 1 + 1 + 1 + 1) = 23 from rfl, hc1]
        repeat
          first
            | apply wpN_skip (by rfl)
            | (apply wpN_pure (by rfl) (by rfl) (by first | rfl | (rw [hY]; rfl))
               · intro w2
                 go_simp
                 with_reducible rfl
               simp only [Act.put, List.setIfInBounds_toArray, List.set_cons_zero, List.set_cons_succ])
        refine wpN_value (by rfl) (by rfl) (by first | rfl | (rw [hY]; rfl)) (fun _ _ h hb => h.step hb) (S11.made_stable _ _) (fun w2 hS2 _ => ⟨.pointer (some ⟨w2.heap.size, 0, none⟩), w2.alloc (.cells #[.slice none 0 0] 24), ?_, ⟨_, rfl⟩, ⟨_, rfl, hS2.1.size, Blk.new w2 _ _⟩, (Below.refl _ _).alloc (Nat.le_refl _) _⟩) ?_
        · go_simp
        simp only [Act.put, List.setIfInBounds_toArray, List.set_cons_zero, List.set_cons_succ]
        rw [show 23 + 1 + 1 + 1 + 1 = 27 from rfl, hc2]
        refine hF.out c _ (fun K w3 hK hS3 hR3 => ?_)
        obtain ⟨h23, h27, -⟩ := hR3
        simp only [S11.made, if_true] at h23 h27
        rw [if_neg (by omega)] at h27
        rw [hc1] at h23
        rw [hc2] at h27
        obtain ⟨V3, e4, hM3⟩ := h23
        obtain ⟨b3, e5, hb3, hv3⟩ := h27
        obtain rfl : b3 = b2 := by simpa using e5.symm
        obtain rfl : V3 = .agg #[.slice a2 99 cap2] := by simpa using e4.symm
        clear hF hY e4 e5 hc1 hc2 hc
        have hB3 : Below w.heap.size w w3 := below_trans hB hS3.1
        have hold3 := hv.step hS3.1
        have hres3 := hr.step hS3.1
        clear hS3
        have d0 := hv3.cell 0
        have d1 := hv3.free 0
        have d2 := hv3.lt
        have d3 := hold3.cell 0
        have d4 := hold3.free 0
        have d5 := hold3.lt
        simp only [List.getElem?_cons_zero] at d0 d3
        go_wp2_with fail
        refine OnlyK.mk (hK.out _ _ ?_)
        have hv4 := hv3.set 0 (.slice a2 99 cap2)
        have hold4 := hold3.other b3 0 (.slice a2 99 cap2) (by omega)
        have hres4 := hres3.other b3 0 (.slice a2 99 cap2) (by omega)
        have hM4 := hM3.setOther (i := 0) (v := .slice a2 99 cap2) hv3
        have hB4 : Below w.heap.size w (w3.setCell ⟨b3, 0, none⟩ (.slice a2 99 cap2)) := hB3.setCell (by simp; omega) _
        simp only [List.set_cons_zero] at hv4
        clear d0 d1 d2 d3 d4 d5 hv3 hold3 hres3 hM3 hB3 hK
        generalize w3.setCell ⟨b3, 0, none⟩ (.slice a2 99 cap2) = w4 at *
        have d0 := hv4.cell 0
        have d2 := hv4.lt
        simp only [List.getElem?_cons_zero] at d0
        have HCk := Lib.hid (checkM11_any _ _ w4 hfit2 hM4)
        have HM4 := Lib.hid hM4
        clear hM4
        go_wp2_with fail
        refine HCk.out.mono ?_
        rintro e w5 ⟨rfl, hb5⟩
        have hv5 := hv4.step hb5
        have hold5 := hold4.step hb5
        have hres5 := hres4.step hb5
        have hM5 := HM4.out.step hb5
        have hB5 : Below w.heap.size w w5 := below_trans hB4 hb5
        clear d0 d2 hv4 hold4 hres4 hB4 hb5
        have d0 := hv5.cell 0
        have d2 := hv5.lt
        have d3 := hold5.cell 0
        have d4 := hold5.free 0
        have d5 := hold5.lt
        simp only [List.getElem?_cons_zero] at d0 d3
        have hrel := Lib.hid (And.intro (hM5.setOther (i := 0) (v := .slice a2 99 cap2) hold5) (And.intro (hold5.set 0 (.slice a2 99 cap2)) (And.intro (hres5.other w1.heap.size 0 (.slice a2 99 cap2) (by omega)) (hB5.setCell (p := ⟨w1.heap.size, 0, none⟩) (by simp; omega) (.slice a2 99 cap2)))))
        clear hM5
        go_wp2
        go_roundw
        case rel => exact ⟨k + 1, a2, cap2, by omega, rfl, by go_num, hrel.out⟩
        case measure => simp [intOf]; omega
    · obtain rfl : k = xs.length := by omega
      have hlt2 : ¬ (xs.length : Int) < xs.length := by omega
      have hr1 := hr.free 0
      have hM2 := Lib.hid ((hM.setOther (i := 0) (v := .slice a' 99 cap') hr))
      have hB2 : Below w.heap.size w (wr.setCell ⟨w.heap.size, 0, none⟩ (.slice a' 99 cap')) := hB.setCell (by simp) _
      rw [List.take_length] at hM2
      clear hM
      go_wp2
      have r2 := (hr.set 0 (.slice a' 99 cap')).cell 0
      simp only [List.set_cons_zero, List.getElem?_cons_zero] at r2
      refine bodyPost_ret (v := .tuple #[.agg #[.slice a' 99 cap'], .bool true]) (by simp [results, Try.results24, go_sem, r2]) rfl ⟨_, rfl, hM2.out, hB2⟩
end Go.Proofs.Ytojdbhcgppcgkaa
