/- The plain law of layers 32 and 33: prefix doubling sorts the suffixes; the links of the transformed string. No program in sight. -/
import Derived.Below
set_option linter.unusedSimpArgs false
set_option linter.unusedVariables false
set_option linter.unusedSectionVars false
namespace Go.Proofs.Ytalidjgniebohaa

/-- The order of byte strings. -/
def S17.lt : List Int → List Int → Bool
  | _, [] => false
  | [], _ :: _ => true
  | a :: x, c :: y => decide (a < c) || (decide (a = c) && S17.lt x y)

theorem S17.irrefl : ∀ x : List Int, S17.lt x x = false
  | [] => rfl
  | a :: x => by simp [S17.lt, S17.irrefl x]
theorem S17.trans : ∀ x y z : List Int, S17.lt x y = true → S17.lt y z = true → S17.lt x z = true
  | _, _, [], _, h => by simp [S17.lt] at h
  | _, [], _ :: _, h, _ => by simp [S17.lt] at h
  | [], _ :: _, _ :: _, _, _ => rfl
  | a :: x, b :: y, c :: z, h1, h2 => by
    simp only [S17.lt, Bool.or_eq_true, Bool.and_eq_true, decide_eq_true_eq] at *
    rcases h1 with h1 | ⟨rfl, h1⟩ <;> rcases h2 with h2 | ⟨rfl, h2⟩
    · exact .inl (by omega)
    · exact .inl h1
    · exact .inl h2
    · exact .inr ⟨rfl, S17.trans x y z h1 h2⟩
theorem S17.tri : ∀ x y : List Int, S17.lt x y = true ∨ x = y ∨ S17.lt y x = true
  | [], [] => .inr (.inl rfl)
  | [], _ :: _ => .inl rfl
  | _ :: _, [] => .inr (.inr rfl)
  | a :: x, c :: y => by
    simp only [S17.lt, Bool.or_eq_true, Bool.and_eq_true, decide_eq_true_eq, List.cons.injEq]
    rcases S17.tri x y with h | h | h
    · by_cases h1 : a < c
      · exact .inl (.inl h1)
      · by_cases h2 : a = c
        · exact .inl (.inr ⟨h2, h⟩)
        · exact .inr (.inr (.inl (by omega)))
    · by_cases h1 : a < c
      · exact .inl (.inl h1)
      · by_cases h2 : a = c
        · exact .inr (.inl ⟨h2, h⟩)
        · exact .inr (.inr (.inl (by omega)))
    · by_cases h1 : c < a
      · exact .inr (.inr (.inl h1))
      · by_cases h2 : c = a
        · exact .inr (.inr (.inr ⟨h2, h⟩))
        · exact .inl (.inl (by omega))
theorem S17.asymm {x y : List Int} (h : S17.lt x y = true) : S17.lt y x = false := by
  cases h2 : S17.lt y x with
  | false => rfl
  | true => have := S17.trans _ _ _ h h2; rw [S17.irrefl] at this; cases this
theorem S17.of_take : ∀ (m : Nat) (x y : List Int), S17.lt (x.take m) (y.take m) = true → S17.lt x y = true
  | 0, x, y, h => by simp [S17.lt] at h
  | _ + 1, x, [], h => by simp [S17.lt] at h
  | _ + 1, [], _ :: _, _ => rfl
  | m + 1, a :: x, c :: y, h => by
    simp only [List.take_succ_cons, S17.lt, Bool.or_eq_true, Bool.and_eq_true, decide_eq_true_eq] at *
    rcases h with h | ⟨h1, h2⟩
    · exact .inl h
    · exact .inr ⟨h1, S17.of_take m x y h2⟩
theorem S17.take_add : ∀ (l m : Nat) (x y : List Int), S17.lt (x.take (l + m)) (y.take (l + m)) = true ↔
    S17.lt (x.take l) (y.take l) = true ∨ x.take l = y.take l ∧ S17.lt ((x.drop l).take m) ((y.drop l).take m) = true
  | 0, m, x, y => by simp [S17.lt]
  | l + 1, m, [], [] => by simp [S17.lt]
  | l + 1, m, [], c :: y => by rw [show l + 1 + m = (l + m) + 1 by omega]; simp [S17.lt]
  | l + 1, m, a :: x, [] => by rw [show l + 1 + m = (l + m) + 1 by omega]; simp [S17.lt]
  | l + 1, m, a :: x, c :: y => by
    rw [show l + 1 + m = (l + m) + 1 by omega]
    have h := S17.take_add l m x y
    simp only [List.take_succ_cons, List.drop_succ_cons, S17.lt, Bool.or_eq_true, Bool.and_eq_true, decide_eq_true_eq, List.cons.injEq, h]
    by_cases h1 : a < c
    · simp [h1]
    · by_cases h2 : a = c
      · simp [h1, h2]
      · simp [h1, h2]

/-- The beginning of that length of the suffix at p. -/
def S17.key (b : List Int) (l p : Nat) : List Int := (b.drop p).take l
/-- r orders the beginnings of that length. -/
def S17.Rk (b : List Int) (l : Nat) (r : Nat → Int) : Prop := ∀ p q, p ≤ b.length → q ≤ b.length → (r p < r q ↔ S17.lt (S17.key b l p) (S17.key b l q) = true)
theorem S17.Rk.eq {b : List Int} {l : Nat} {r : Nat → Int} (h : S17.Rk b l r) {p q : Nat} (hp : p ≤ b.length) (hq : q ≤ b.length) : r p = r q ↔ S17.key b l p = S17.key b l q := by
  have h1 := h p q hp hq
  have h2 := h q p hq hp
  constructor
  · intro e
    rw [e] at h1
    rw [e] at h2
    rcases S17.tri (S17.key b l p) (S17.key b l q) with k | k | k
    · have := h1.2 k; omega
    · exact k
    · have := h2.2 k; omega
  · intro e
    rw [e, S17.irrefl] at h1 h2
    simp at h1 h2
    omega
theorem S17.key_drop {b : List Int} {l p : Nat} (hp : p ≤ b.length) : (S17.key b l p).length = min l (b.length - p) := by simp [S17.key]
/-- The ranks of the beginnings of length 1. -/
theorem S17.start {b : List Int} {r : Nat → Int} (hb : ∀ x ∈ b, 0 ≤ x) (hr : ∀ p, p < b.length → r p = b.getD p 0 + 1) (h0 : r b.length = 0) : S17.Rk b 1 r := by
  have hk : ∀ p, p < b.length → S17.key b 1 p = [b.getD p 0] := fun p hp => by
    unfold S17.key
    rw [List.drop_eq_getElem_cons hp, List.take_succ_cons, List.take_zero, List.getD_eq_getElem?_getD, List.getElem?_eq_getElem hp]; rfl
  have he : S17.key b 1 b.length = [] := by simp [S17.key]
  have hg : ∀ p, p < b.length → 0 ≤ b.getD p 0 := fun p hp => by
    rw [List.getD_eq_getElem?_getD, List.getElem?_eq_getElem hp]; exact hb _ (List.getElem_mem hp)
  intro p q hp hq
  by_cases h1 : p < b.length
  · by_cases h2 : q < b.length
    · rw [hk p h1, hk q h2, hr p h1, hr q h2]
      simp [S17.lt]
    · obtain rfl : q = b.length := by omega
      have := hg p h1
      rw [hk p h1, he, hr p h1, h0]
      exact ⟨fun _ => by omega, fun h => absurd h (by simp [S17.lt])⟩
  · obtain rfl : p = b.length := by omega
    by_cases h2 : q < b.length
    · have := hg q h2
      rw [hk q h2, he, hr q h2, h0]
      exact ⟨fun _ => rfl, fun _ => by omega⟩
    · obtain rfl : q = b.length := by omega
      rw [he]; simp [S17.lt]

/-- What is compared. -/
def S17.cmp (x y : Int) : Int := if x < y then -1 else if x > y then 1 else 0
def S17.rest (n l : Nat) (r : Nat → Int) (p : Nat) : Int := if p + l ≤ n then r (p + l) else 0
def S17.cf (n l : Nat) (r : Nat → Int) (x y : Nat) : Int :=
  if S17.cmp (r x) (r y) ≠ 0 then S17.cmp (r x) (r y) else S17.cmp (S17.rest n l r x) (S17.rest n l r y)
theorem S17.cmp_lt {x y : Int} : S17.cmp x y < 0 ↔ x < y := by unfold S17.cmp; repeat' split
                                                               all_goals omega
theorem S17.cmp_eq {x y : Int} : S17.cmp x y = 0 ↔ x = y := by unfold S17.cmp; repeat' split
                                                               all_goals omega
theorem S17.nodup_inj {l : List Nat} (h : l.Nodup) {i j : Nat} (hi : i < l.length) (hj : j < l.length) (e : l[i] = l[j]) : i = j := by
  have h' := List.pairwise_iff_getElem.1 h
  rcases Nat.lt_trichotomy i j with k | k | k
  · exact absurd e (h' i j hi hj k)
  · exact k
  · exact absurd e.symm (h' j i hj hi k)
theorem S17.cf_lt {b : List Int} {l : Nat} {r : Nat → Int} (h : S17.Rk b l r) {x y : Nat} (hx : x ≤ b.length) (hy : y ≤ b.length) :
    S17.cf b.length l r x y < 0 ↔ S17.lt (S17.key b (2 * l) x) (S17.key b (2 * l) y) = true := by
  have h1 := h x y hx hy
  have h2 := h.eq hx hy
  unfold S17.key at *
  rw [show 2 * l = l + l by omega, S17.take_add, List.drop_drop, List.drop_drop, ← h1, ← h2]
  unfold S17.cf
  by_cases he : r x = r y
  · rw [if_neg (by rw [Classical.not_not]; exact S17.cmp_eq.2 he), S17.cmp_lt]
    have hlen : min l (b.length - x) = min l (b.length - y) := by
      have := congrArg List.length (h2.1 he); simpa using this
    unfold S17.rest
    by_cases ha : x + l ≤ b.length
    · have hb : y + l ≤ b.length := by omega
      have h3 := h (x + l) (y + l) ha hb
      unfold S17.key at h3
      rw [if_pos ha, if_pos hb, h3]
      simp [he]
    · have hb : ¬ y + l ≤ b.length := by omega
      obtain rfl : x = y := by omega
      rw [if_neg ha, S17.irrefl]; simp
  · rw [if_pos (fun e => he (S17.cmp_eq.1 e)), S17.cmp_lt]
    simp [he]
theorem S17.cf_eq {b : List Int} {l : Nat} {r : Nat → Int} (h : S17.Rk b l r) {x y : Nat} (hx : x ≤ b.length) (hy : y ≤ b.length) :
    S17.cf b.length l r x y = 0 ↔ S17.key b (2 * l) x = S17.key b (2 * l) y := by
  have h1 := S17.cf_lt h hx hy
  have h2 := S17.cf_lt h hy hx
  have hs : S17.cf b.length l r y x = - S17.cf b.length l r x y := by
    unfold S17.cf S17.cmp
    repeat' split
    all_goals omega
  constructor
  · intro e
    rw [hs, e] at h2
    rw [e] at h1
    rcases S17.tri (S17.key b (2 * l) x) (S17.key b (2 * l) y) with k | k | k
    · have := h1.2 k; omega
    · exact k
    · have := h2.2 k; omega
  · intro e
    rw [e, S17.irrefl] at h1 h2
    simp at h1 h2
    omega

/-- Counting the steps along a sorted row. -/
theorem S17.steps {n : Nat} {K : Nat → List Int} {D : Nat → Int} (hs : ∀ i j, i < j → j ≤ n → S17.lt (K j) (K i) = false) (hD : ∀ i, i < n → D (i + 1) = D i + if K i = K (i + 1) then 0 else 1) (i : Nat) :
    ∀ j, i ≤ j → j ≤ n → D i ≤ D j ∧ (D i < D j ↔ S17.lt (K i) (K j) = true)
  | 0, h, _ => by
    obtain rfl : i = 0 := by omega
    rw [S17.irrefl]; simp
  | j + 1, h, hj => by
    by_cases he : i = j + 1
    · subst he; rw [S17.irrefl]; simp
    · obtain ⟨h1, h2⟩ := S17.steps hs hD i j (by omega) (by omega)
      have h3 := hD j (by omega)
      by_cases hk : K j = K (j + 1)
      · rw [if_pos hk] at h3
        rw [← hk, h3]; simpa using ⟨h1, h2⟩
      · rw [if_neg hk] at h3
        refine ⟨by omega, ⟨fun _ => ?_, fun _ => by omega⟩⟩
        have hl : S17.lt (K j) (K (j + 1)) = true := by
          rcases S17.tri (K j) (K (j + 1)) with k | k | k
          · exact k
          · exact absurd k hk
          · rw [hs j (j + 1) (by omega) hj] at k; cases k
        by_cases hij : i = j
        · subst hij; exact hl
        · rcases S17.tri (K i) (K j) with k | k | k
          · exact S17.trans _ _ _ k hl
          · rw [k]; exact hl
          · rw [hs i j (by omega) (by omega)] at k; cases k
theorem S17.steps_le {n : Nat} {K : Nat → List Int} {D : Nat → Int} (h0 : D 0 = 0) (hD : ∀ i, i < n → D (i + 1) = D i + if K i = K (i + 1) then 0 else 1) :
    ∀ j, j ≤ n → D j ≤ j ∧ (D j = j → ∀ i, i < j → K i ≠ K (i + 1))
  | 0, _ => by simp [h0]
  | j + 1, hj => by
    obtain ⟨h1, h2⟩ := S17.steps_le h0 hD j (by omega)
    have h3 := hD j (by omega)
    by_cases hk : K j = K (j + 1)
    · rw [if_pos hk] at h3
      exact ⟨by omega, fun e => by omega⟩
    · rw [if_neg hk] at h3
      refine ⟨by omega, fun e i hi => ?_⟩
      by_cases hij : i = j
      · subst hij; exact hk
      · exact h2 (by omega) i (by omega)
theorem S17.steps_all {n : Nat} {K : Nat → List Int} {D : Nat → Int} (h0 : D 0 = 0) (hD : ∀ i, i < n → D (i + 1) = D i + if K i = K (i + 1) then 0 else 1) (hK : ∀ i, i < n → K i ≠ K (i + 1)) : ∀ j, j ≤ n → D j = j
  | 0, _ => h0
  | j + 1, hj => by
    have h1 := S17.steps_all h0 hD hK j (by omega)
    rw [hD j (by omega), if_neg (hK j (by omega)), h1]; simp

/-- pl holds every place once. -/
def S17.Perm (n : Nat) (pl : List Nat) : Prop := pl.Perm (List.range (n + 1))
theorem S17.Perm.len {n : Nat} {pl : List Nat} (h : S17.Perm n pl) : pl.length = n + 1 := by rw [List.Perm.length_eq h, List.length_range]
theorem S17.Perm.le {n : Nat} {pl : List Nat} (h : S17.Perm n pl) {i : Nat} (hi : i ≤ n) : pl.getD i 0 ≤ n := by
  have hl := h.len
  rw [List.getD_eq_getElem?_getD, List.getElem?_eq_getElem (by omega)]
  have := (List.Perm.mem_iff h).1 (List.getElem_mem (l := pl) (n := i) (by omega))
  rw [List.mem_range] at this
  simp only [Option.getD_some]; omega
theorem S17.Perm.find {n : Nat} {pl : List Nat} (h : S17.Perm n pl) {p : Nat} (hp : p ≤ n) : ∃ i, i ≤ n ∧ pl.getD i 0 = p := by
  have hl := h.len
  have hm : p ∈ pl := (List.Perm.mem_iff h).2 (by rw [List.mem_range]; omega)
  obtain ⟨i, hi, e⟩ := List.mem_iff_getElem.1 hm
  exact ⟨i, by omega, by rw [List.getD_eq_getElem?_getD, List.getElem?_eq_getElem hi, e]; rfl⟩
theorem S17.Perm.inj {n : Nat} {pl : List Nat} (h : S17.Perm n pl) {i j : Nat} (hi : i ≤ n) (hj : j ≤ n) (e : pl.getD i 0 = pl.getD j 0) : i = j := by
  have hl := h.len
  have hnd : pl.Nodup := (List.Perm.nodup_iff h).2 List.nodup_range
  rw [List.getD_eq_getElem?_getD, List.getD_eq_getElem?_getD, List.getElem?_eq_getElem (by omega), List.getElem?_eq_getElem (by omega)] at e
  exact S17.nodup_inj hnd _ _ e

/-- A round of the doubling. -/
theorem S17.round {b : List Int} {l : Nat} {r nx : Nat → Int} {D : Nat → Int} {pl : List Nat} (hr : S17.Rk b l r) (hp : S17.Perm b.length pl)
    (hs : ∀ i j, i < j → j ≤ b.length → ¬ S17.cf b.length l r (pl.getD j 0) (pl.getD i 0) < 0) (h0 : D 0 = 0)
    (hD : ∀ i, i < b.length → D (i + 1) = D i + if S17.cf b.length l r (pl.getD i 0) (pl.getD (i + 1) 0) = 0 then 0 else 1) (hnx : ∀ i, i ≤ b.length → nx (pl.getD i 0) = D i) :
    S17.Rk b (2 * l) nx ∧ (D b.length = b.length → ∀ i j, i < j → j ≤ b.length → S17.lt (b.drop (pl.getD i 0)) (b.drop (pl.getD j 0)) = true) ∧ (D b.length ≠ b.length → 2 * l ≤ b.length) := by
  have hs' : ∀ i j, i < j → j ≤ b.length → S17.lt (S17.key b (2 * l) (pl.getD j 0)) (S17.key b (2 * l) (pl.getD i 0)) = false := fun i j hi hj => by
    have := hs i j hi hj
    rw [S17.cf_lt hr (hp.le hj) (hp.le (by omega))] at this
    simpa using this
  have hD' : ∀ i, i < b.length → D (i + 1) = D i + if S17.key b (2 * l) (pl.getD i 0) = S17.key b (2 * l) (pl.getD (i + 1) 0) then 0 else 1 := fun i hi => by
    rw [hD i hi]
    simp only [S17.cf_eq hr (hp.le (Nat.le_of_lt hi)) (hp.le (Nat.succ_le_of_lt hi))]
  have M := S17.steps (K := fun i => S17.key b (2 * l) (pl.getD i 0)) hs' hD'
  refine ⟨fun p q hpn hqn => ?_, fun he i j hi hj => ?_, fun hne => ?_⟩
  · obtain ⟨i, hi, rfl⟩ := hp.find hpn
    obtain ⟨j, hj, rfl⟩ := hp.find hqn
    rw [hnx i hi, hnx j hj]
    by_cases hij : i ≤ j
    · exact (M i j hij hj).2
    · have h1 := (M j i (by omega) hi).1
      have h2 := hs' j i (by omega) hi
      rw [h2]; simp; omega
  · have hall := (S17.steps_le (K := fun i => S17.key b (2 * l) (pl.getD i 0)) h0 hD' b.length (Nat.le_refl _)).2 he
    refine S17.of_take (2 * l) _ _ ((M i j (by omega) hj).2.1 ?_)
    have h1 := (M i (j - 1) (by omega) (by omega)).1
    have h2 := hD' (j - 1) (by omega)
    rw [if_neg (hall (j - 1) (by omega)), show j - 1 + 1 = j by omega] at h2
    omega
  · by_cases h2 : 2 * l ≤ b.length
    · exact h2
    · refine absurd (S17.steps_all (K := fun i => S17.key b (2 * l) (pl.getD i 0)) h0 hD' (fun i hi e => ?_) b.length (Nat.le_refl _)) hne
      have e1 := congrArg List.length e
      have l1 := hp.le (Nat.le_of_lt hi)
      have l2 := hp.le (Nat.succ_le_of_lt hi)
      rw [S17.key_drop l1, S17.key_drop l2] at e1
      have := hp.inj (Nat.le_of_lt hi) (Nat.succ_le_of_lt hi) (by simp only [Nat.succ_eq_add_one] at *; omega)
      simp at this

/-- The suffixes in their order. -/
def S17.Sorted (b : List Int) (pl : List Nat) : Prop := S17.Perm b.length pl ∧ pl.Pairwise fun p q => S17.lt (b.drop p) (b.drop q) = true
theorem S17.sorted {b : List Int} {pl : List Nat} (hp : S17.Perm b.length pl) (h : ∀ i j, i < j → j ≤ b.length → S17.lt (b.drop (pl.getD i 0)) (b.drop (pl.getD j 0)) = true) : S17.Sorted b pl := by
  have hl := hp.len
  refine ⟨hp, List.pairwise_iff_getElem.2 fun i j hi hj hij => ?_⟩
  have := h i j hij (by omega)
  rwa [List.getD_eq_getElem?_getD, List.getD_eq_getElem?_getD, List.getElem?_eq_getElem hi, List.getElem?_eq_getElem hj] at this

/-! ### The transformed string -/
def S17.byte (b : List Int) (p : Nat) : Int := b.getD (p - 1) 0
def S17.out (b : List Int) (l : List Nat) : List Int := (l.filter fun p => decide (0 < p)).map (S17.byte b)

theorem S17.countP_or {α : Type} (A B : α → Bool) : ∀ l : List α, (∀ q ∈ l, ¬ (A q = true ∧ B q = true)) → l.countP (fun q => A q || B q) = l.countP A + l.countP B
  | [], _ => rfl
  | q :: l, h => by
    have h1 := S17.countP_or A B l fun x hx => h x (List.mem_cons_of_mem _ hx)
    have h2 := h q (by simp)
    simp only [List.countP_cons, h1]
    cases hA : A q <;> cases hB : B q <;> simp_all <;> omega

theorem S17.countP_split {b : List Int} {pl : List Nat} (hs : pl.Pairwise fun p q => S17.lt (b.drop p) (b.drop q) = true) (f : Nat → Bool) {row p : Nat} (hr : pl[row]? = some p) :
    pl.countP (fun q => f q && S17.lt (b.drop q) (b.drop p)) = (pl.take row).countP f := by
  obtain ⟨hi, e⟩ := List.getElem?_eq_some_iff.1 hr
  have hsp : pl = pl.take row ++ p :: pl.drop (row + 1) := by rw [← e, ← List.drop_eq_getElem_cons hi, List.take_append_drop]
  rw [hsp] at hs
  obtain ⟨h1, h2, h3⟩ := List.pairwise_append.1 hs
  have hz : (p :: pl.drop (row + 1)).countP (fun q => f q && S17.lt (b.drop q) (b.drop p)) = 0 := by
    rw [List.countP_eq_zero]
    intro q hq
    rcases List.mem_cons.1 hq with rfl | hq
    · simp [S17.irrefl]
    · simp [S17.asymm ((List.pairwise_cons.1 h2).1 q hq)]
  have ht : (pl.take row).countP (fun q => f q && S17.lt (b.drop q) (b.drop p)) = (pl.take row).countP f := by
    refine List.countP_congr fun q hq => ?_
    simp [h3 q hq p (by simp)]
  calc pl.countP (fun q => f q && S17.lt (b.drop q) (b.drop p))
      = (pl.take row ++ p :: pl.drop (row + 1)).countP (fun q => f q && S17.lt (b.drop q) (b.drop p)) := by rw [← hsp]
    _ = _ := by rw [List.countP_append, hz, ht, Nat.add_zero]

theorem S17.out_count (b : List Int) (l : List Nat) (g : Int → Bool) : (S17.out b l).countP g = l.countP (fun p => decide (0 < p) && g (S17.byte b p)) := by
  unfold S17.out
  rw [List.countP_map, List.countP_filter]
  refine List.countP_congr fun q _ => ?_
  simp [Bool.and_comm]

/-- The row of the suffix with the byte before it. -/
theorem S17.link {b : List Int} {pl : List Nat} (h : S17.Sorted b pl) {row k p : Nat} (hp : p < b.length) (hr : pl[row]? = some (p + 1)) (hk : pl[k]? = some p) :
    k = 1 + (S17.out b pl).countP (fun x => decide (x < b.getD p 0)) + (S17.out b (pl.take row)).countP (fun x => decide (x = b.getD p 0)) := by
  obtain ⟨hP, hs⟩ := h
  have hrange : ∀ f : Nat → Bool, pl.countP f = (List.range (b.length + 1)).countP f := fun f => List.Perm.countP_eq f hP
  have h1 := S17.countP_split hs (fun _ => true) hk
  have hkl := (List.getElem?_eq_some_iff.1 hk).1
  rw [List.countP_true, List.length_take, Nat.min_eq_left (Nat.le_of_lt hkl)] at h1
  simp only [Bool.true_and] at h1
  rw [hrange, List.range_succ, List.countP_append] at h1
  have hcons : ∀ q, q < b.length → b.drop q = b.getD q 0 :: b.drop (q + 1) := fun q hq => by
    rw [List.drop_eq_getElem_cons hq, List.getD_eq_getElem?_getD, List.getElem?_eq_getElem hq]; rfl
  have hlast : [b.length].countP (fun q => S17.lt (b.drop q) (b.drop p)) = 1 := by
    rw [hcons p hp]; simp [S17.lt]
  have hor : (List.range b.length).countP (fun q => S17.lt (b.drop q) (b.drop p)) =
      (List.range b.length).countP (fun q => decide (b.getD q 0 < b.getD p 0)) + (List.range b.length).countP (fun q => decide (b.getD q 0 = b.getD p 0) && S17.lt (b.drop (q + 1)) (b.drop (p + 1))) := by
    rw [← S17.countP_or]
    · refine List.countP_congr fun q hq => ?_
      rw [hcons q (List.mem_range.1 hq), hcons p hp, S17.lt]
    · rintro q _ ⟨h1, h2⟩
      simp only [Bool.and_eq_true, decide_eq_true_eq] at h1 h2
      omega
  have h2 : (S17.out b pl).countP (fun x => decide (x < b.getD p 0)) = (List.range b.length).countP (fun q => decide (b.getD q 0 < b.getD p 0)) := by
    rw [S17.out_count, hrange, List.range_succ_eq_map, List.countP_cons, List.countP_map]
    simp only [Nat.lt_irrefl, decide_false, Bool.false_and, Bool.false_eq_true, if_false, Nat.add_zero]
    refine List.countP_congr fun q _ => ?_
    simp [S17.byte]
  have h3 : (S17.out b (pl.take row)).countP (fun x => decide (x = b.getD p 0)) = (List.range b.length).countP (fun q => decide (b.getD q 0 = b.getD p 0) && S17.lt (b.drop (q + 1)) (b.drop (p + 1))) := by
    rw [S17.out_count, ← S17.countP_split hs _ hr, hrange, List.range_succ_eq_map, List.countP_cons, List.countP_map]
    simp only [Nat.lt_irrefl, decide_false, Bool.false_and, Bool.false_eq_true, if_false, Nat.add_zero]
    refine List.countP_congr fun q _ => ?_
    simp [S17.byte]
  rw [hlast, hor] at h1
  rw [h2, h3]
  omega

/-- Where a row's byte lies in the transformed string. -/
theorem S17.out_at {b : List Int} {pl : List Nat} {n : Nat} (h : S17.Perm n pl) {row prim p : Nat} (hr : pl[row]? = some (p + 1)) (h0 : pl[prim]? = some 0) :
    (S17.out b pl)[if prim < row then row - 1 else row]? = some (b.getD p 0) ∧ (S17.out b pl).take (if prim < row then row - 1 else row) = S17.out b (pl.take row) := by
  have hnd : pl.Nodup := (List.Perm.nodup_iff h).2 List.nodup_range
  obtain ⟨hi, e⟩ := List.getElem?_eq_some_iff.1 hr
  obtain ⟨hi0, e0⟩ := List.getElem?_eq_some_iff.1 h0
  have hsp : pl = pl.take row ++ (p + 1) :: pl.drop (row + 1) := by rw [← e, ← List.drop_eq_getElem_cons hi, List.take_append_drop]
  have hout : S17.out b pl = S17.out b (pl.take row) ++ b.getD p 0 :: S17.out b (pl.drop (row + 1)) := by
    conv => lhs; rw [hsp]
    unfold S17.out
    rw [List.filter_append, List.map_append, List.filter_cons, if_pos (by simp), List.map_cons]
    rfl
  have hlen : (S17.out b (pl.take row)).length = if prim < row then row - 1 else row := by
    have hz : ∀ j (hj : j < pl.length), pl[j] = 0 → j = prim := fun j hj ej => S17.nodup_inj hnd hj hi0 (ej.trans e0.symm)
    have hc : (pl.take row).countP (fun p => decide (0 < p)) + (pl.take row).countP (fun p => decide (p = 0)) = row := by
      rw [← S17.countP_or]
      · rw [List.countP_eq_length.2 (fun q _ => by simp; omega), List.length_take]; omega
      · rintro q _ ⟨a1, a2⟩; simp at a1 a2; omega
    have hl : (S17.out b (pl.take row)).length = (pl.take row).countP (fun p => decide (0 < p)) := by
      unfold S17.out; rw [List.length_map, List.countP_eq_length_filter]
    have hcount : (pl.take row).countP (fun p => decide (p = 0)) = if prim < row then 1 else 0 := by
      have hcc : (pl.take row).countP (fun p => decide (p = 0)) = (pl.take row).count 0 := by
        rw [List.count]; exact List.countP_congr fun q _ => by simp
      rw [hcc]
      by_cases hlt : prim < row
      · rw [if_pos hlt]
        have hm : 0 ∈ pl.take row := by
          rw [List.mem_iff_getElem]; exact ⟨prim, by rw [List.length_take]; omega, by rw [List.getElem_take]; exact e0⟩
        exact List.Nodup.count (hnd.sublist (List.take_sublist _ _)) |>.trans (if_pos hm)
      · rw [if_neg hlt, List.count_eq_zero]
        intro hm
        obtain ⟨j, hj, ej⟩ := List.mem_iff_getElem.1 hm
        rw [List.length_take] at hj
        rw [List.getElem_take] at ej
        have := hz j (by omega) ej
        omega
    split at hcount <;> split <;> omega
  rw [← hlen, hout]
  constructor
  · rw [List.getElem?_append_right (Nat.le_refl _), Nat.sub_self]; rfl
  · rw [List.take_left']; rfl
end Go.Proofs.Ytalidjgniebohaa
