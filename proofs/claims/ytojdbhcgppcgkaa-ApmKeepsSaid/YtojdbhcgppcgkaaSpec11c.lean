/- Plain laws of layer 11: a map behind lessons. No program in sight. -/
import Derived.Test.YtojdbhcgppcgkaaW11k
set_option linter.unusedSimpArgs false
set_option linter.unusedVariables false
set_option linter.unusedSectionVars false
namespace Go.Proofs.Ytojdbhcgppcgkaa
open Go.RowKit

/-- A lesson: context, rate, probability, bit. -/
structure Lsn where
  ctx : Int
  rate : Int
  prob : Int
  bit : Bool
def Lsn.ok (x : Lsn) : Prop := 0 ≤ x.ctx ∧ x.ctx ≤ 255 ∧ 0 ≤ x.rate ∧ x.rate ≤ 255 ∧ 0 ≤ x.prob ∧ x.prob ≤ 65535
def bitOf (b : Bool) : Int := if b then 1 else 0
def S11.tell (L : List Int) (x : Lsn) : List Int := S11.updL L (x.ctx % 3) (S11.ch x.prob) (bitOf x.bit) (1 + x.rate % 255)
def S11.lrn (xs : List Lsn) : List Int := xs.foldl S11.tell (S11.newL 3)
/-- A map of three contexts that is in order. -/
def S11.fit (L : List Int) : Prop := L.length = 99 ∧ S11.check L = 0

theorem bitOf_or (b : Bool) : bitOf b = 0 ∨ bitOf b = 1 := by cases b <;> simp [bitOf]
theorem S11.new_three : S11.newL 3 = reps S11.first 3 := by unfold S11.newL; rw [if_neg (by omega)]; rfl
theorem S11.fit_new : S11.fit (S11.newL 3) := by
  constructor
  · rw [S11.new_three, reps_length, S11.first_length]
  · decide +kernel
theorem S11.fit_usable {L : List Int} (h : S11.fit L) (c q : Int) (hc : 0 ≤ c) (hc' : c ≤ 2) : S11.usable L c (S11.ch q) = 0 := by
  have := S11.ch_bounds q
  exact S11.usable_new h.2 hc (by rw [h.1]; omega) this.1 this.2
theorem S11.fit_updE {L : List Int} (h : S11.fit L) (x : Lsn) (hx : x.ok) : S11.updE L (x.ctx % 3) (S11.ch x.prob) (bitOf x.bit) (1 + x.rate % 255) = 0 := by
  have hb := bitOf_or x.bit
  have hu := S11.fit_usable h (x.ctx % 3) x.prob (by omega) (by omega)
  unfold S11.updE
  rw [hu, if_neg (by simp), if_neg (by omega), if_neg (by omega)]
theorem S11.tell_eq {L : List Int} (h : S11.fit L) (x : Lsn) (hx : x.ok) : S11.tell L x = S11.update L (x.ctx % 3).toNat (S11.ch x.prob) (bitOf x.bit) (1 + x.rate % 255) := by
  unfold S11.tell S11.updL; rw [if_pos (S11.fit_updE h x hx)]
theorem S11.check_of {L : List Int} (h1 : L.length % 33 = 0) (h2 : 33 ≤ L.length) (h3 : L.length ≤ 2162688) (h4 : ∀ x ∈ L, 0 ≤ x ∧ x ≤ 65535) : S11.check L = 0 := by
  rw [S11.check_fit (by omega), if_neg]
  rw [List.any_eq_true]
  rintro ⟨x, hx, hb⟩
  have := h4 x hx
  simp [S11.bad] at hb
  omega
theorem S11.fit_all {L : List Int} (h : S11.fit L) : ∀ x ∈ L, 0 ≤ x ∧ x ≤ 65535 := fun x hx => by
  have h4 := (S11.check_zero h.2).2.2.2
  have : S11.bad x = false := by
    cases hb : S11.bad x with
    | false => rfl
    | true => rw [List.any_eq_true.2 ⟨x, hx, hb⟩] at h4; cases h4
  simp [S11.bad] at this
  omega
theorem S11.fit_get {L : List Int} (h : S11.fit L) (i : Nat) : 0 ≤ L.getD i 0 ∧ L.getD i 0 ≤ 65535 := by
  rw [List.getD_eq_getElem?_getD]
  rcases Nat.lt_or_ge i L.length with hi | hi
  · rw [List.getElem?_eq_getElem hi, Option.getD_some]
    exact S11.fit_all h _ (List.getElem_mem hi)
  · rw [List.getElem?_eq_none hi]; simp
theorem S11.fit_tell {L : List Int} (h : S11.fit L) (x : Lsn) (hx : x.ok) : S11.fit (S11.tell L x) := by
  rw [S11.tell_eq h x hx]
  have hl : (S11.update L (x.ctx % 3).toNat (S11.ch x.prob) (bitOf x.bit) (1 + x.rate % 255)).length = 99 := by rw [S11.update_length]; exact h.1
  refine ⟨hl, S11.check_of (by omega) (by omega) (by omega) ?_⟩
  have hf := S11.from_bounds (S11.ch x.prob)
  have k1 := fun i => (S11.learn_facts (u := L.getD i 0) (S11.fit_get h i).1 (S11.fit_get h i).2 (bitOf_or x.bit) (rate := 1 + x.rate % 255) (by omega) (by omega) (share := 192 - S11.from (S11.ch x.prob)) (by omega) (by omega)).2.2.2.2
  have k2 := fun i => (S11.learn_facts (u := L.getD i 0) (S11.fit_get h i).1 (S11.fit_get h i).2 (bitOf_or x.bit) (rate := 1 + x.rate % 255) (by omega) (by omega) (share := S11.from (S11.ch x.prob)) (by omega) (by omega)).2.2.2.2
  intro y hy
  unfold S11.update at hy
  rcases List.mem_or_eq_of_mem_set hy with hy | rfl
  · rcases List.mem_or_eq_of_mem_set hy with hy | rfl
    · exact S11.fit_all h y hy
    · exact k1 _
  · exact k2 _
theorem S11.fit_lrn (xs : List Lsn) (h : ∀ x ∈ xs, x.ok) : S11.fit (S11.lrn xs) := by
  have : ∀ (ys : List Lsn) (L : List Int), S11.fit L → (∀ x ∈ ys, x.ok) → S11.fit (ys.foldl S11.tell L) := fun ys => by
    induction ys with
    | nil => exact fun L h _ => h
    | cons x ys ih => exact fun L h hx => ih _ (S11.fit_tell h x (hx x (by simp))) (fun y hy => hx y (by simp [hy]))
  exact this xs _ S11.fit_new h
theorem S11.lrn_snoc (xs : List Lsn) (x : Lsn) : S11.lrn (xs ++ [x]) = S11.tell (S11.lrn xs) x := by simp [S11.lrn, List.foldl_append]

/-- The cells of lessons. -/
def Lsn.cells (x : Lsn) : List Value := [.int .u8 x.ctx, .int .u8 x.rate, .int .u16 x.prob, .bool x.bit]
def Lsns (xs : List Lsn) : List Value := (xs.map Lsn.cells).flatten
theorem Lsns_length (xs : List Lsn) : (Lsns xs).length = 4 * xs.length := by
  induction xs with
  | nil => rfl
  | cons x xs ih => simp [Lsns, Lsn.cells] at *; omega
theorem Lsns_append (xs ys : List Lsn) : Lsns (xs ++ ys) = Lsns xs ++ Lsns ys := by simp [Lsns]
theorem Lsns_at : ∀ (xs : List Lsn) {i j : Nat} {x : Lsn}, xs[i]? = some x → j < 4 → (Lsns xs)[4 * i + j]? = x.cells[j]?
  | [], i, j, x, h, _ => by simp at h
  | y :: xs, 0, j, x, h, hj => by
    simp at h; subst h
    show (y.cells ++ Lsns xs)[4 * 0 + j]? = _
    rw [Nat.mul_zero, Nat.zero_add, List.getElem?_append_left (by simp [Lsn.cells]; omega)]
  | y :: xs, i + 1, j, x, h, hj => by
    show (y.cells ++ Lsns xs)[4 * (i + 1) + j]? = _
    have hl : y.cells.length = 4 := rfl
    rw [List.getElem?_append_right (by rw [hl]; omega), hl, show 4 * (i + 1) + j - 4 = 4 * i + j by omega]
    exact Lsns_at xs (by simpa using h) hj
theorem Lsns_cells {w : World} {a : Option Addr} {xs : List Lsn} (h : Rd w a (Lsns xs)) {i : Nat} {x : Lsn} (hx : xs[i]? = some x) : ∃ g o, a = some ⟨g, o, none⟩ ∧
    w.cell? ⟨g, o + i * 4, none⟩ = some (.int .u8 x.ctx) ∧ w.cell? ⟨g, o + i * 4 + 1, none⟩ = some (.int .u8 x.rate) ∧ w.cell? ⟨g, o + i * 4 + 2, none⟩ = some (.int .u16 x.prob) ∧ w.cell? ⟨g, o + i * 4 + 3, none⟩ = some (.bool x.bit) := by
  have hi : i < xs.length := (List.getElem?_eq_some_iff.1 hx).1
  obtain ⟨g, o, rfl, hcs⟩ := h.at (i := 4 * i) (by rw [Lsns_length]; omega)
  have key : ∀ j v, j < 4 → x.cells[j]? = some v → w.cell? ⟨g, o + (4 * i + j), none⟩ = some v := fun j v hj hv => by
    have h1 := Lsns_at xs hx hj
    rw [hv] at h1
    obtain ⟨h2, h3⟩ := List.getElem?_eq_some_iff.1 h1
    rw [hcs _ h2, h3]
  rw [Nat.mul_comm i 4]
  exact ⟨g, o, rfl, key 0 _ (by omega) rfl, key 1 _ (by omega) rfl, key 2 _ (by omega) rfl, key 3 _ (by omega) rfl⟩
end Go.Proofs.Ytojdbhcgppcgkaa
