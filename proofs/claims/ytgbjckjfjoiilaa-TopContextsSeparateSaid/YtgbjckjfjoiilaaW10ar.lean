/- The law TopContextsSeparate: a visit, walked. No condition. -/
import Derived.Test.YtgbjckjfjoiilaaW10aq
import Derived.Test.YtgbjckjfjoiilaaW10ao
set_option linter.unusedSimpArgs false
set_option linter.unusedVariables false
set_option linter.unusedSectionVars false
namespace Go.Proofs.Ytgbjckjfjoiilaa
open Go.RowKit Go.Maps

/-- A slice that lists at most K bits whose history has a state. -/
def Seen (LB K : Nat) (w : World) (v : Value) (s : Int) : Prop := ∃ (bs : List Nat) (a : Option Addr) (c : Nat), v = .slice a bs.length c ∧ Rd w a (Nts bs) ∧ (∀ b ∈ bs, b < 2) ∧ bs.length ≤ K ∧ S10.sta bs = s ∧ (bs ≠ [] → ∀ b o, a = some ⟨b, o, none⟩ → LB ≤ b)
theorem Seen.keptBy {LB K : Nat} {A B : World} {row : Option Nat} {v : Value} {s : Int} (h : Seen LB K A v s) (hg : A.grownBy B row) (hr : ∀ r, row = some r → ∃ o : Obj, A.heap[r]? = some o ∧ o.isCells = false) : Seen LB K B v s := by
  obtain ⟨bs, a, c, h1, h2, h3⟩ := h
  exact ⟨bs, a, c, h1, h2.keptBy hg hr, h3⟩
theorem Seen.nil (LB K : Nat) (w : World) : Seen LB K w (.slice none 0 0) 0 := ⟨[], none, 0, rfl, fun h => absurd rfl h, fun _ h => (by cases h), by simp, rfl, fun h => absurd rfl h⟩
theorem Seen.up {LB K K' : Nat} {w : World} {v : Value} {s : Int} (h : Seen LB K w v s) (hk : K ≤ K') : Seen LB K' w v s := by
  obtain ⟨bs, a, c, h1, h2, h3, h4, h5⟩ := h
  exact ⟨bs, a, c, h1, h2, h3, by omega, h5⟩

/-- .. and lies outside of some blocks. -/
def SeenO (LB lo hi K : Nat) (w : World) (v : Value) (s : Int) : Prop := ∃ (bs : List Nat) (a : Option Addr) (c : Nat), v = .slice a bs.length c ∧ Rd w a (Nts bs) ∧ (∀ b ∈ bs, b < 2) ∧ bs.length ≤ K ∧ S10.sta bs = s ∧ (bs ≠ [] → ∀ b o, a = some ⟨b, o, none⟩ → LB ≤ b ∧ (b < lo ∨ hi ≤ b))
theorem SeenO.seen {LB lo hi K : Nat} {w : World} {v : Value} {s : Int} (h : SeenO LB lo hi K w v s) : Seen LB K w v s := by
  obtain ⟨bs, a, c, h1, h2, h3, h4, h5, h6⟩ := h
  exact ⟨bs, a, c, h1, h2, h3, h4, h5, fun hne b o e => (h6 hne b o e).1⟩
theorem Nts_ne {bs : List Nat} (h : bs ≠ []) : Nts bs ≠ [] := fun e => h (List.map_eq_nil_iff.1 e)
theorem Seen.out {LB K : Nat} {w : World} {v : Value} {s : Int} (h : Seen LB K w v s) (hi : Nat) : SeenO LB w.heap.size hi K w v s := by
  obtain ⟨bs, a, c, h1, h2, h3, h4, h5, h6⟩ := h
  refine ⟨bs, a, c, h1, h2, h3, h4, h5, fun hne b o e => ⟨h6 hne b o e, .inl ?_⟩⟩
  obtain ⟨b', o', e', hc⟩ := h2 (Nts_ne hne)
  rw [e] at e'
  cases e'
  cases bs with
  | nil => exact absurd rfl hne
  | cons x xs => exact block_lt_of_cell (hc 0 _ rfl)
theorem SeenO.step {LB lo hi K : Nat} {w w' : World} {v : Value} {s : Int} (h : SeenO LB lo hi K w v s) (hb : Below w.heap.size w w') : SeenO LB lo hi K w' v s := by
  obtain ⟨bs, a, c, h1, h2, h3⟩ := h
  exact ⟨bs, a, c, h1, h2.step hb, h3⟩
theorem Rd.setApart {w : World} {a : Option Addr} {vals : List Value} (h : Rd w a vals) {c : Nat} (hc : vals ≠ [] → ∀ b o, a = some ⟨b, o, none⟩ → ¬ b = c) (i : Nat) (u : Value) : Rd (w.setCell ⟨c, i, none⟩ u) a vals := fun hne => by
  obtain ⟨b, o, rfl, hcs⟩ := h hne
  refine ⟨b, o, rfl, fun j v hj => ?_⟩
  rw [World.cell?_setCell_other _ _ _ _ (fun e => hc hne b o rfl (congrArg Addr.block e).symm)]
  exact hcs j v hj
theorem SeenO.set {LB lo hi K : Nat} {w : World} {v : Value} {s : Int} (h : SeenO LB lo hi K w v s) {c : Nat} (hc : lo ≤ c ∧ c < hi) (i : Nat) (u : Value) : SeenO LB lo hi K (w.setCell ⟨c, i, none⟩ u) v s := by
  obtain ⟨bs, a, c', h1, h2, h3, h4, h5, h6⟩ := h
  refine ⟨bs, a, c', h1, h2.setApart (fun hne b o e => ?_) i u, h3, h4, h5, h6⟩
  have := h6 (fun e => hne (by rw [e]; rfl)) b o e
  omega
/-- .. at a block that holds no numbers of this kind. -/
theorem SeenO.setB {LB lo hi K : Nat} {w : World} {v : Value} {s : Int} (h : SeenO LB lo hi K w v s) {c : Nat} {cs : List Value} {t : TypeId} (A : Blk w c cs t) (hcs : ∀ x : Int, Value.int .i64 x ∉ cs) (i : Nat) (u : Value) : SeenO LB lo hi K (w.setCell ⟨c, i, none⟩ u) v s := by
  obtain ⟨bs, a, c', h1, h2, h3⟩ := h
  refine ⟨bs, a, c', h1, h2.setApart (fun hne b o e => ?_) i u, h3⟩
  intro e2
  subst e2
  obtain ⟨b', o', e', hc⟩ := h2 hne
  rw [e] at e'
  cases e'
  cases bs with
  | nil => exact absurd rfl hne
  | cons x xs =>
    have := hc 0 _ rfl
    rw [A.cell] at this
    exact hcs _ (List.mem_of_getElem? this)

/-- What has been seen in a slot: the check byte, the lists. -/
def mkTS (c : Int) (ss : List Value) : Value := .agg (.int .u8 c :: ss).toArray
theorem mkTS_inj {c d : Int} {ss tt : List Value} (h : mkTS c ss = mkTS d tt) : c = d ∧ ss = tt := by
  unfold mkTS at h
  simp at h
  exact h
def zeroTS : Value := mkTS 0 (List.replicate 16 (.slice none 0 0))
open Classical in
noncomputable def TR (v : Value) : Option (DataW Value × List MemPlace) := if ∃ c ss, v = mkTS c ss then some (.held v, []) else none
theorem TR_mk (c : Int) (ss : List Value) : TR (mkTS c ss) = some (.held (mkTS c ss), []) := by
  unfold TR
  rw [if_pos ⟨c, ss, rfl⟩]
theorem TR_inv {v : Value} {y : DataW Value × List MemPlace} (h : TR v = some y) : (∃ c ss, v = mkTS c ss) ∧ y = (.held v, []) := by
  unfold TR at h
  split at h
  · rename_i hc
    exact ⟨hc, (Option.some.inj h).symm⟩
  · cases h

/-- A slot of a table and what has been seen in it. -/
structure TSok (LB K : Nat) (w : World) (xs : List Int) (i : Nat) (c : Int) (ss : List Value) : Prop where
  chk : c = xs.getD (16 * i) 0
  len : ss.length = 16
  zero : ss[0]? = some (.slice none 0 0)
  seen : ∀ j, 1 ≤ j → j ≤ 15 → ∃ v, ss[j]? = some v ∧ Seen LB K w v (xs.getD (16 * i + j) 0)
theorem TSok.keptBy {LB K : Nat} {A B : World} {row : Option Nat} {xs : List Int} {i : Nat} {c : Int} {ss : List Value} (h : TSok LB K A xs i c ss) (hg : A.grownBy B row) (hr : ∀ r, row = some r → ∃ o : Obj, A.heap[r]? = some o ∧ o.isCells = false) : TSok LB K B xs i c ss :=
  ⟨h.chk, h.len, h.zero, fun j h1 h2 => by obtain ⟨v, e, hs⟩ := h.seen j h1 h2; exact ⟨v, e, hs.keptBy hg hr⟩⟩
theorem TSok.up {LB K K' : Nat} {w : World} {xs : List Int} {i : Nat} {c : Int} {ss : List Value} (h : TSok LB K w xs i c ss) (hk : K ≤ K') : TSok LB K' w xs i c ss :=
  ⟨h.chk, h.len, h.zero, fun j h1 h2 => by obtain ⟨v, e, hs⟩ := h.seen j h1 h2; exact ⟨v, e, hs.up hk⟩⟩
theorem TSok.same {LB K : Nat} {w : World} {xs ys : List Int} {i : Nat} {c : Int} {ss : List Value} (h : TSok LB K w xs i c ss) (he : ∀ j, 16 * i ≤ j → j < 16 * i + 16 → ys.getD j 0 = xs.getD j 0) : TSok LB K w ys i c ss :=
  ⟨h.chk.trans (he _ (by omega) (by omega)).symm, h.len, h.zero, fun j h1 h2 => by obtain ⟨v, e, hs⟩ := h.seen j h1 h2; exact ⟨v, e, by rw [he _ (by omega) (by omega)]; exact hs⟩⟩
theorem TSok.empty (LB K : Nat) (w : World) {xs : List Int} {i : Nat} {c : Int} (hc : xs.getD (16 * i) 0 = c) (h0 : ∀ j, 16 * i < j → j < 16 * i + 16 → xs.getD j 0 = 0) : TSok LB K w xs i c (List.replicate 16 (.slice none 0 0)) :=
  ⟨hc.symm, List.length_replicate, rfl, fun j h1 h2 => ⟨_, by rw [List.getElem?_replicate, if_pos (by omega)], by rw [h0 _ (by omega) (by omega)]; exact Seen.nil LB K w⟩⟩

/-- The map speaks of the table. -/
def MapOK (LB K n : Nat) (xs : List Int) (w : World) (D : DataW Value) : Prop :=
  ∀ i : Nat, i < 2 ^ n → ∃ c ss, D.atKey (.int .i64 (i : Int)) (.held zeroTS) = .held (mkTS c ss) ∧ TSok LB K w xs i c ss
theorem MapOK.keptBy {LB K : Nat} {A B : World} {row : Option Nat} {n : Nat} {xs : List Int} {D : DataW Value} (h : MapOK LB K n xs A D) (hg : A.grownBy B row) (hr : ∀ r, row = some r → ∃ o : Obj, A.heap[r]? = some o ∧ o.isCells = false) : MapOK LB K n xs B D :=
  fun i hi => by obtain ⟨c, ss, h1, h2⟩ := h i hi; exact ⟨c, ss, h1, h2.keptBy hg hr⟩
theorem MapOK.new (LB K n : Nat) (w : World) : MapOK LB K n (List.replicate (16 * 2 ^ n) 0) w (.map []) := fun i _ =>
  ⟨0, List.replicate 16 (.slice none 0 0), rfl, TSok.empty LB K w (getD_zeros _ _) (fun j _ _ => getD_zeros _ _)⟩
theorem MapOK.put {LB K K' n : Nat} {xs ys : List Int} {w : World} {D : DataW Value} (h : MapOK LB K n xs w D) (hk : K ≤ K') (hD : IsMap D) (i : Nat) {c : Int} {ss : List Value} (ht : TSok LB K' w ys i c ss)
    (hs : ∀ j, j < 16 * i ∨ 16 * i + 16 ≤ j → ys.getD j 0 = xs.getD j 0) : MapOK LB K' n ys w (D.put (.int .i64 (i : Int)) (.held (mkTS c ss))) := fun k _ => by
  by_cases e : k = i
  · subst e
    refine ⟨c, ss, Maps.atKey_put_same hD ?_ _ _, ht⟩
    simp [WideAt.IsKeyLit]
  · obtain ⟨c', ss', h1, h2⟩ := h k ‹_›
    exact ⟨c', ss', by rw [Maps.atKey_put_other (by simp; omega)]; exact h1, (h2.same (fun j h1 h2 => hs j (by omega))).up hk⟩
/-- The lists of a slot that is being changed. -/
structure SSok (LB lo hi K : Nat) (w : World) (zs : List Int) (i : Nat) (ss : List Value) : Prop where
  len : ss.length = 16
  zero : ss[0]? = some (.slice none 0 0)
  seen : ∀ j, 1 ≤ j → j ≤ 15 → ∃ v, ss[j]? = some v ∧ SeenO LB lo hi K w v (zs.getD (16 * i + j) 0)
theorem SeenO.up {LB lo hi K K' : Nat} {w : World} {v : Value} {s : Int} (h : SeenO LB lo hi K w v s) (hk : K ≤ K') : SeenO LB lo hi K' w v s := by
  obtain ⟨bs, a, c, h1, h2, h3, h4, h5, h6⟩ := h
  exact ⟨bs, a, c, h1, h2, h3, by omega, h5, h6⟩
theorem TSok.ss {LB K : Nat} {w : World} {xs : List Int} {i : Nat} {c : Int} {ss : List Value} (h : TSok LB K w xs i c ss) (hi : Nat) : SSok LB w.heap.size hi K w xs i ss :=
  ⟨h.len, h.zero, fun j h1 h2 => by obtain ⟨v, e, hs⟩ := h.seen j h1 h2; exact ⟨v, e, hs.out hi⟩⟩
theorem SSok.ts {LB lo hi K : Nat} {w : World} {zs : List Int} {i : Nat} {ss : List Value} (h : SSok LB lo hi K w zs i ss) {c : Int} (hc : zs.getD (16 * i) 0 = c) : TSok LB K w zs i c ss :=
  ⟨hc.symm, h.len, h.zero, fun j h1 h2 => by obtain ⟨v, e, hs⟩ := h.seen j h1 h2; exact ⟨v, e, hs.seen⟩⟩
theorem SSok.step {LB lo hi K : Nat} {w w' : World} {zs : List Int} {i : Nat} {ss : List Value} (h : SSok LB lo hi K w zs i ss) (hb : Below w.heap.size w w') : SSok LB lo hi K w' zs i ss :=
  ⟨h.len, h.zero, fun j h1 h2 => by obtain ⟨v, e, hs⟩ := h.seen j h1 h2; exact ⟨v, e, hs.step hb⟩⟩
theorem SSok.set {LB lo hi K : Nat} {w : World} {zs : List Int} {i : Nat} {ss : List Value} (h : SSok LB lo hi K w zs i ss) {c : Nat} (hc : lo ≤ c ∧ c < hi) (q : Nat) (u : Value) : SSok LB lo hi K (w.setCell ⟨c, q, none⟩ u) zs i ss :=
  ⟨h.len, h.zero, fun j h1 h2 => by obtain ⟨v, e, hs⟩ := h.seen j h1 h2; exact ⟨v, e, hs.set hc q u⟩⟩
theorem SSok.setB {LB lo hi K : Nat} {w : World} {zs : List Int} {i : Nat} {ss : List Value} (h : SSok LB lo hi K w zs i ss) {c : Nat} {cs : List Value} {t : TypeId} (A : Blk w c cs t) (hcs : ∀ x : Int, Value.int .i64 x ∉ cs) (q : Nat) (u : Value) : SSok LB lo hi K (w.setCell ⟨c, q, none⟩ u) zs i ss :=
  ⟨h.len, h.zero, fun j h1 h2 => by obtain ⟨v, e, hs⟩ := h.seen j h1 h2; exact ⟨v, e, hs.setB A hcs q u⟩⟩
theorem SSok.same {LB lo hi K : Nat} {w : World} {zs ys : List Int} {i : Nat} {ss : List Value} (h : SSok LB lo hi K w zs i ss) (he : ∀ j, 16 * i ≤ j → j < 16 * i + 16 → ys.getD j 0 = zs.getD j 0) : SSok LB lo hi K w ys i ss :=
  ⟨h.len, h.zero, fun j h1 h2 => by obtain ⟨v, e, hs⟩ := h.seen j h1 h2; exact ⟨v, e, by rw [he _ (by omega) (by omega)]; exact hs⟩⟩
theorem SSok.noint {LB lo hi K : Nat} {w : World} {zs : List Int} {i : Nat} {ss : List Value} (h : SSok LB lo hi K w zs i ss) (c : Int) : ∀ x : Int, Value.int .i64 x ∉ (Value.int .u8 c :: ss) := fun x hx => by
  rcases List.mem_cons.1 hx with e | hx
  · cases e
  · obtain ⟨j, hj⟩ := List.mem_iff_getElem?.1 hx
    have hl := (List.getElem?_eq_some_iff.1 hj).1
    rw [h.len] at hl
    by_cases h0 : j = 0
    · subst h0; rw [h.zero] at hj; cases hj
    · obtain ⟨v, e, bs, a, c', rfl, _⟩ := h.seen j (by omega) (by omega)
      rw [e] at hj; cases hj
theorem SSok.empty (LB lo hi K : Nat) (w : World) {zs : List Int} {i : Nat} (h0 : ∀ j, 16 * i < j → j < 16 * i + 16 → zs.getD j 0 = 0) : SSok LB lo hi K w zs i (List.replicate 16 (.slice none 0 0)) :=
  ⟨List.length_replicate, rfl, fun j h1 h2 => ⟨_, by rw [List.getElem?_replicate, if_pos (by omega)], by
    rw [h0 _ (by omega) (by omega)]; exact ⟨[], none, 0, rfl, fun h => absurd rfl h, fun _ h => (by cases h), by simp, rfl, fun h => absurd rfl h⟩⟩⟩
/-- One more bit is seen at a node. -/
theorem SSok.put {LB lo hi K : Nat} {w : World} {zs : List Int} {i nd : Nat} {ss : List Value} (h : SSok LB lo hi K w zs i ss) (h1 : 1 ≤ nd) (h2 : nd ≤ 15) {v : Value} {s : Int} (hs : SeenO LB lo hi (K + 1) w v s) (hlt : 16 * i + nd < zs.length) :
    SSok LB lo hi (K + 1) w (zs.set (16 * i + nd) s) i (ss.set nd v) := by
  refine ⟨by rw [List.length_set]; exact h.len, by rw [List.getElem?_set_ne (by omega)]; exact h.zero, fun j h3 h4 => ?_⟩
  by_cases e : nd = j
  · subst e
    refine ⟨v, by rw [List.getElem?_set_self (by rw [h.len]; omega)], ?_⟩
    rw [List.getD, List.getElem?_set_self (by omega)]; exact hs
  · obtain ⟨u, hu, hx⟩ := h.seen j h3 h4
    refine ⟨u, by rw [List.getElem?_set_ne e]; exact hu, ?_⟩
    rw [List.getD, List.getElem?_set_ne (by omega)]
    exact hx.up (by omega)

/-- Sixteen elements, one by one. -/
theorem list16 {l : List Value} (h : l.length = 16) : ∃ a0 a1 a2 a3 a4 a5 a6 a7 a8 a9 a10 a11 a12 a13 a14 a15, l = [a0, a1, a2, a3, a4, a5, a6, a7, a8, a9, a10, a11, a12, a13, a14, a15] := by
  match l, h with
  | [a0, a1, a2, a3, a4, a5, a6, a7, a8, a9, a10, a11, a12, a13, a14, a15], _ => exact ⟨a0, a1, a2, a3, a4, a5, a6, a7, a8, a9, a10, a11, a12, a13, a14, a15, rfl⟩

/-- The table behind the nodes of a visit that are still to come. -/
def S10.visGo (i nib : Nat) : Nat → List Int → Nat → List Int
  | 0, xs, _ => xs
  | k + 1, xs, node => S10.visGo i nib k (xs.set (16 * i + node) (S09.next (xs.getD (16 * i + node) 0) (nib / 2 ^ k % 2 : Nat))) (2 * node + nib / 2 ^ k % 2)
/-- The table behind a visit. -/
def S10.visX (n : Nat) (xs : List Int) (h nib : Nat) : List Int := S10.visGo (S10.openN (n : Int) xs h) nib 4 (S10.openX (n : Int) xs h) 1
theorem Good.visGo {n : Nat} {i nib : Nat} (hi : i < 2 ^ n) : ∀ (k : Nat) {xs : List Int} (node : Nat), Good n xs → 1 ≤ node → (node + 1) * 2 ^ k ≤ 32 → Good n (S10.visGo i nib k xs node)
  | 0, xs, node, h, _, _ => h
  | k + 1, xs, node, h, h1, h2 => by
    have hk : (node + 1) * 2 ^ (k + 1) = (2 * node + 2) * 2 ^ k := by rw [Nat.pow_succ, Nat.mul_comm (2 ^ k) 2, ← Nat.mul_assoc]; congr 1; omega
    have h3 : node ≤ 15 := by
      have := Nat.two_pow_pos k
      by_cases hh : node ≤ 15
      · exact hh
      · have h5 : 34 * 1 ≤ (2 * node + 2) * 2 ^ k := Nat.mul_le_mul (by omega) this
        omega
    have h4 : (2 * node + nib / 2 ^ k % 2 + 1) * 2 ^ k ≤ 32 := Nat.le_trans (Nat.mul_le_mul_right (2 ^ k) (show 2 * node + nib / 2 ^ k % 2 + 1 ≤ 2 * node + 2 by omega)) (by rw [← hk]; exact h2)
    have hl := h.len
    have hr := S09.next_range (s := xs.getD (16 * i + node) 0) ⟨(h.getD _).1, h.st _ (by omega) (by omega)⟩ (b := nib / 2 ^ k % 2) (by omega)
    have hst := h.set (16 * i + node) (S09.next (xs.getD (16 * i + node) 0) ((nib / 2 ^ k % 2 : Nat) : Int)) ⟨hr.1, by omega⟩ (fun _ => hr.2)
    exact Good.visGo hi k _ hst (by omega) h4
theorem Good.vis {n : Nat} {xs : List Int} (hg : Good n xs) {h : Nat} (hh : h < 4294967296) (nib : Nat) : Good n (S10.visX n xs h nib) :=
  Good.visGo (hg.openN_lt h) 4 1 (hg.openX h hh) (by omega) (by decide)
end Go.Proofs.Ytgbjckjfjoiilaa
