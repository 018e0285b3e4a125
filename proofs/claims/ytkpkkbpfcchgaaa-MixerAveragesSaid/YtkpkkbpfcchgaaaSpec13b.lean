/- The plain law of layer 13: mixers behind lessons. No program in sight. -/
import Derived.Test.YtkpkkbpfcchgaaaW13r
set_option linter.unusedSimpArgs false
set_option linter.unusedVariables false
set_option linter.unusedSectionVars false
namespace Go.Proofs.Ytkpkkbpfcchgaaa

def bitOf (b : Bool) : Int := if b then 1 else 0
theorem bitOf_bounds (b : Bool) : 0 ≤ bitOf b ∧ bitOf b ≤ 1 := by cases b <;> simp [bitOf]

/-- A lesson for a mixer of three inputs and two contexts. -/
structure Lsn where
  ctx : Int
  rate : Int
  bit : Bool
  i0 : Int
  i1 : Int
  i2 : Int
def Lsn.ok (x : Lsn) : Prop := 0 ≤ x.ctx ∧ x.ctx ≤ 255 ∧ 0 ≤ x.rate ∧ x.rate ≤ 255 ∧ -32768 ≤ x.i0 ∧ x.i0 ≤ 32767 ∧ -32768 ≤ x.i1 ∧ x.i1 ≤ 32767 ∧ -32768 ≤ x.i2 ∧ x.i2 ≤ 32767
def Lsn.cells (x : Lsn) : List Value := [.int .u8 x.ctx, .int .u8 x.rate, .bool x.bit, .int .i16 x.i0, .int .i16 x.i1, .int .i16 x.i2]
/-- The inputs of a lesson. -/
def S13.ins (back : Bool) (x : Lsn) : List Int := if back then [x.i2.tmod 3072, x.i1.tmod 3072, x.i0.tmod 3072] else [x.i0.tmod 3072, x.i1.tmod 3072, x.i2.tmod 3072]
theorem S13.ins_length (back : Bool) (x : Lsn) : (S13.ins back x).length = 3 := by cases back <;> rfl
theorem S13.tmod_bounds (i : Int) : -3071 ≤ i.tmod 3072 ∧ i.tmod 3072 ≤ 3071 := by
  have h1 := Int.tmod_lt_of_pos i (show (0 : Int) < 3072 by omega)
  have h2 : -3072 < i.tmod 3072 := by
    have := Int.tmod_lt_of_pos (-i) (show (0 : Int) < 3072 by omega)
    rw [Int.neg_tmod] at this; omega
  omega
theorem S13.ins_weak (back : Bool) (x : Lsn) : (S13.ins back x).any S13.strong = false := by
  have h0 := S13.tmod_bounds x.i0
  have h1 := S13.tmod_bounds x.i1
  have h2 := S13.tmod_bounds x.i2
  cases back <;> simp [S13.ins, S13.strong] <;> omega
/-- A lesson is learned. -/
def S13.tell (back : Bool) (L : List (List Int)) (x : Lsn) : List (List Int) := S13.learnL L (x.ctx % 2).toNat (S13.ins back x) (bitOf x.bit) (1 + x.rate % 255)
/-- A mixer behind lessons. -/
def S13.lrn (back : Bool) (xs : List Lsn) : List (List Int) := xs.foldl (S13.tell back) (S13.newL 3 2)
theorem S13.lrn_snoc (back : Bool) (xs : List Lsn) (x : Lsn) : S13.lrn back (xs ++ [x]) = S13.tell back (S13.lrn back xs) x := by simp [S13.lrn, List.foldl_append]
/-- A mixer of three inputs and two contexts that is in order. -/
def S13.fit (L : List (List Int)) : Prop := L.length = 2 ∧ ∀ l ∈ L, (l.length : Int) = 3 ∧ l.any S13.heavy = false
theorem S13.fit_check {L : List (List Int)} (h : S13.fit L) : S13.check 16 3 L = 0 := S13.check_of (by omega) (by omega) (by rw [h.1]; omega) (by rw [h.1]; omega) h.2
theorem S13.fit_usable {L : List (List Int)} (h : S13.fit L) {c : Int} (h0 : 0 ≤ c) (h1 : c ≤ 1) {xs : List Int} (hl : xs.length = 3) (hs : xs.any S13.strong = false) : S13.usable 16 3 L c xs = 0 := by
  unfold S13.usable
  rw [if_neg (by simpa using S13.fit_check h), if_neg (by rw [h.1]; omega), if_neg (by rw [hl]; simp), if_neg (by rw [hs]; simp)]
theorem S13.fit_usable_ins {L : List (List Int)} (h : S13.fit L) (back : Bool) (x : Lsn) (c : Int) (h0 : 0 ≤ c) (h1 : c ≤ 1) : S13.usable 16 3 L c (S13.ins back x) = 0 := S13.fit_usable h h0 h1 (S13.ins_length _ _) (S13.ins_weak _ _)
theorem S13.fit_learnE {L : List (List Int)} (h : S13.fit L) (back : Bool) (x : Lsn) (hx : x.ok) : S13.learnE 3 L (x.ctx % 2) (S13.ins back x) (bitOf x.bit) (1 + x.rate % 255) = 0 := by
  have hu := S13.fit_usable_ins h back x (x.ctx % 2) (by omega) (by omega)
  unfold S13.learnE
  rw [if_neg (by simpa using hu), if_neg, if_neg (by omega)]
  cases x.bit <;> simp [bitOf]
theorem S13.fit_mixR {L : List (List Int)} (h : S13.fit L) (back : Bool) (x : Lsn) (c : Int) (h0 : 0 ≤ c) (h1 : c ≤ 1) : S13.mixR 3 L c (S13.ins back x) = S13.mix (L.getD c.toNat []) (S13.ins back x) := by
  unfold S13.mixR; rw [if_pos (S13.fit_usable_ins h back x c h0 h1)]
theorem S13.learnRow_light (d rate : Int) : ∀ (ws xs : List Int), ws.any S13.heavy = false → (S13.learnRow d rate ws xs).any S13.heavy = false
  | [], _, _ => by simp [S13.learnRow]
  | w :: ws, [], h => by simpa [S13.learnRow] using h
  | w :: ws, x :: xs, h => by
    simp only [List.any_cons, Bool.or_eq_false_iff] at h
    simp only [S13.learnRow, List.any_cons, Bool.or_eq_false_iff]
    refine ⟨?_, S13.learnRow_light d rate ws xs h.2⟩
    have hb : -1048576 ≤ S13.lw d rate w x ∧ S13.lw d rate w x ≤ 1048576 := by unfold S13.lw; omega
    simp [S13.heavy]; omega
theorem S13.fit_row {L : List (List Int)} (h : S13.fit L) {c : Nat} (hc : c < 2) : L.getD c [] ∈ L ∧ (L.getD c []).length = 3 ∧ (L.getD c []).any S13.heavy = false := by
  have hm : L.getD c [] ∈ L := by
    rw [List.getD_eq_getElem?_getD, List.getElem?_eq_getElem (show c < L.length by rw [h.1]; exact hc)]
    exact List.getElem_mem _
  have := h.2 _ hm
  exact ⟨hm, by omega, this.2⟩
theorem S13.fit_tell {L : List (List Int)} (h : S13.fit L) (back : Bool) (x : Lsn) : S13.fit (S13.tell back L x) := by
  have hr := S13.fit_row h (c := (x.ctx % 2).toNat) (by omega)
  refine ⟨by simp [S13.tell, S13.learnL, h.1], fun l hl => ?_⟩
  rcases List.mem_or_eq_of_mem_set hl with hl | rfl
  · exact h.2 l hl
  · exact ⟨by rw [S13.learnRow_length, hr.2.1]; rfl, S13.learnRow_light _ _ _ _ hr.2.2⟩
theorem S13.fit_new : S13.fit (S13.newL 3 2) := by
  refine ⟨by decide +kernel, fun l hl => ?_⟩
  have : S13.newL 3 2 = [[21845, 21845, 21845], [21845, 21845, 21845]] := by decide +kernel
  rw [this] at hl
  simp at hl
  subst hl
  exact ⟨rfl, rfl⟩
theorem S13.fit_lrn (back : Bool) (xs : List Lsn) : S13.fit (S13.lrn back xs) := by
  unfold S13.lrn
  have : ∀ (xs : List Lsn) (L : List (List Int)), S13.fit L → S13.fit (xs.foldl (S13.tell back) L) := by
    intro xs
    induction xs with
    | nil => exact fun L h => h
    | cons x xs ih => exact fun L h => ih _ (S13.fit_tell h back x)
  exact this xs _ S13.fit_new

/-! A further bit. -/
theorem S13.lw_follows {d rate w x : Int} (hr : 0 ≤ rate) (hw : -1048576 ≤ w ∧ w ≤ 1048576) : (0 ≤ d → w * x ≤ S13.lw d rate w x * x) ∧ (d ≤ 0 → S13.lw d rate w x * x ≤ w * x) := by
  have key : ∀ e : Int, 0 ≤ e → 0 ≤ S06.round e 16384 := fun e he => by
    have := S06.round_mono (d := 16384) (by omega) he
    rw [S06.round_zero (by omega)] at this; exact this
  have key2 : ∀ e : Int, e ≤ 0 → S06.round e 16384 ≤ 0 := fun e he => by
    have := S06.round_mono (d := 16384) (by omega) he
    rw [S06.round_zero (by omega)] at this; exact this
  unfold S13.lw
  constructor
  · intro hd
    rcases Int.le_total 0 x with hx | hx
    · have h1 := key (x * d * rate) (Int.mul_nonneg (Int.mul_nonneg hx hd) hr)
      exact Int.mul_le_mul_of_nonneg_right (by omega) hx
    · have h0 : x * d * rate ≤ 0 := by
        have := Int.mul_nonneg (Int.mul_nonneg (show 0 ≤ -x by omega) hd) hr
        rw [Int.neg_mul, Int.neg_mul] at this; omega
      have h1 := key2 (x * d * rate) h0
      exact Int.mul_le_mul_of_nonpos_right (by omega) hx
  · intro hd
    rcases Int.le_total 0 x with hx | hx
    · have h0 : x * d * rate ≤ 0 := by
        have := Int.mul_nonneg (Int.mul_nonneg hx (show 0 ≤ -d by omega)) hr
        rw [Int.mul_neg, Int.neg_mul] at this; omega
      have h1 := key2 (x * d * rate) h0
      exact Int.mul_le_mul_of_nonneg_right (by omega) hx
    · have h0 : 0 ≤ x * d * rate := by
        have := Int.mul_nonneg (Int.mul_nonneg (show 0 ≤ -x by omega) (show 0 ≤ -d by omega)) hr
        rw [Int.neg_mul_neg] at this; exact this
      have h1 := key (x * d * rate) h0
      exact Int.mul_le_mul_of_nonpos_right (by omega) hx
theorem S13.sum_follows {d rate : Int} (hr : 0 ≤ rate) : ∀ (ws xs : List Int), ws.any S13.heavy = false → (0 ≤ d → S13.sum ws xs ≤ S13.sum (S13.learnRow d rate ws xs) xs) ∧ (d ≤ 0 → S13.sum (S13.learnRow d rate ws xs) xs ≤ S13.sum ws xs)
  | [], _, _ => by simp [S13.learnRow]
  | w :: ws, [], h => by simp [S13.learnRow]
  | w :: ws, x :: xs, h => by
    simp only [List.any_cons, Bool.or_eq_false_iff] at h
    have hw : -1048576 ≤ w ∧ w ≤ 1048576 := by have := h.1; simp [S13.heavy] at this; omega
    have h1 := S13.lw_follows (d := d) (x := x) hr hw
    have h2 := S13.sum_follows (d := d) hr ws xs h.2
    simp only [S13.learnRow, S13.sum]
    constructor
    · intro hd; have := h1.1 hd; have := h2.1 hd; omega
    · intro hd; have := h1.2 hd; have := h2.2 hd; omega
theorem S13.mix_mono {ws vs xs : List Int} (h : S13.sum ws xs ≤ S13.sum vs xs) : S13.mix ws xs ≤ S13.mix vs xs := by
  have := S06.round_mono (d := 65536) (by omega) h
  unfold S13.mix S06.clip; omega
theorem S13.mix_clip (ws xs : List Int) : S06.clip (S13.mix ws xs) = S13.mix ws xs := S06.clip_in (S06.clip_bounds _).1 (S06.clip_bounds _).2
/-- A bit never moves the evidence away from it. -/
theorem S13.follows {L : List (List Int)} (h : S13.fit L) (x : Lsn) (hx : x.ok) :
    (x.bit = true → S13.mix (L.getD (x.ctx % 2).toNat []) (S13.ins false x) ≤ S13.mix ((S13.tell false L x).getD (x.ctx % 2).toNat []) (S13.ins false x)) ∧
    (x.bit = false → S13.mix ((S13.tell false L x).getD (x.ctx % 2).toNat []) (S13.ins false x) ≤ S13.mix (L.getD (x.ctx % 2).toNat []) (S13.ins false x)) := by
  have hr := S13.fit_row h (c := (x.ctx % 2).toNat) (by omega)
  have hg : (S13.tell false L x).getD (x.ctx % 2).toNat [] = S13.learnRow (4096 * bitOf x.bit - S06.squash (S13.mix (L.getD (x.ctx % 2).toNat []) (S13.ins false x))) (1 + x.rate % 255) (L.getD (x.ctx % 2).toNat []) (S13.ins false x) := by
    unfold S13.tell S13.learnL
    rw [List.getD_eq_getElem?_getD, List.getElem?_set_self (by rw [h.1]; omega)]; rfl
  rw [hg]
  have hs := S06.squash_bounds (S13.mix (L.getD (x.ctx % 2).toNat []) (S13.ins false x))
  constructor
  · intro hb
    rw [hb]
    exact S13.mix_mono ((S13.sum_follows (by omega) _ _ hr.2.2).1 (by rw [show bitOf true = 1 from rfl]; omega))
  · intro hb
    rw [hb]
    exact S13.mix_mono ((S13.sum_follows (by omega) _ _ hr.2.2).2 (by rw [show bitOf false = 0 from rfl]; omega))
/-- The other context. -/
theorem S13.keeps {L : List (List Int)} (h : S13.fit L) (x : Lsn) (hx : x.ok) : (S13.tell false L x).getD (1 - x.ctx % 2).toNat [] = L.getD (1 - x.ctx % 2).toNat [] := by
  unfold S13.tell S13.learnL
  rw [List.getD_eq_getElem?_getD, List.getElem?_set_ne (by omega), ← List.getD_eq_getElem?_getD]

/-! Exchanging the inputs. -/
theorem S13.ins_back (x : Lsn) : S13.ins true x = (S13.ins false x).reverse := by simp [S13.ins]
theorem S13.sum_rev3 (a b c x y z : Int) : S13.sum [c, b, a] [z, y, x] = S13.sum [a, b, c] [x, y, z] := by simp [S13.sum]; omega
theorem S13.three {l : List Int} (h : l.length = 3) : ∃ a b c, l = [a, b, c] := by
  match l, h with
  | [a, b, c], _ => exact ⟨a, b, c, rfl⟩
theorem S13.mix_back {ws : List Int} (h : ws.length = 3) (x : Lsn) : S13.mix ws.reverse (S13.ins true x) = S13.mix ws (S13.ins false x) := by
  obtain ⟨a, b, c, rfl⟩ := S13.three h
  unfold S13.mix
  rw [show ([a, b, c] : List Int).reverse = [c, b, a] from rfl]
  simp only [S13.ins, if_true, Bool.false_eq_true, if_false]
  rw [S13.sum_rev3]
theorem S13.learnRow_back (d rate : Int) {ws : List Int} (h : ws.length = 3) (x : Lsn) : S13.learnRow d rate ws.reverse (S13.ins true x) = (S13.learnRow d rate ws (S13.ins false x)).reverse := by
  obtain ⟨a, b, c, rfl⟩ := S13.three h
  simp [S13.ins, S13.learnRow]
theorem S13.getD_rev {L : List (List Int)} (c : Nat) : (L.map List.reverse).getD c [] = (L.getD c []).reverse := by
  rw [List.getD_eq_getElem?_getD, List.getD_eq_getElem?_getD, List.getElem?_map]
  cases L[c]? <;> rfl
theorem S13.tell_back {L : List (List Int)} (h : S13.fit L) (x : Lsn) : S13.tell true (L.map List.reverse) x = (S13.tell false L x).map List.reverse := by
  have hr := S13.fit_row h (c := (x.ctx % 2).toNat) (by omega)
  unfold S13.tell S13.learnL
  rw [S13.getD_rev, S13.mix_back hr.2.1, S13.learnRow_back _ _ hr.2.1, List.map_set]
theorem S13.lrn_back (xs : List Lsn) : S13.lrn true xs = (S13.lrn false xs).map List.reverse := by
  have key : ∀ (xs : List Lsn) (L : List (List Int)), S13.fit L → xs.foldl (S13.tell true) (L.map List.reverse) = (xs.foldl (S13.tell false) L).map List.reverse := by
    intro xs
    induction xs with
    | nil => exact fun L _ => rfl
    | cons x xs ih =>
      intro L h
      simp only [List.foldl_cons]
      rw [S13.tell_back h x]
      exact ih _ (S13.fit_tell h false x)
  unfold S13.lrn
  rw [← key xs _ S13.fit_new]
  congr 1
end Go.Proofs.Ytkpkkbpfcchgaaa
