/- What SlotsRemembers keeps in its map, and what a step leaves of it. No condition. -/
import Derived.Test.YtgbjckjfjoiilaaW10an
import Derived.Maps.RangeWalk
import Derived.Maps.OwnSet
set_option linter.unusedSimpArgs false
set_option linter.unusedVariables false
set_option linter.unusedSectionVars false
namespace Go.Proofs.Ytgbjckjfjoiilaa
open Go.RowKit Go.Maps

theorem Below.grownBy {w w' : World} (h : Below w.heap.size w w') (row : Option Nat) : w.grownBy w' row := ⟨h.os, h.tape, h.output, h.size, fun i hi _ => h.block i hi⟩
theorem grownBy_below {w w' : World} {b B : Nat} (h : w.grownBy w' (some b)) (hb : B ≤ b) (hB : B ≤ w.heap.size) : Below B w w' :=
  ⟨h.os, h.tape, h.output, h.size, fun i hi => h.block i (Nat.lt_of_lt_of_le hi hB) (fun e => by cases e; omega)⟩
theorem Rd.keptBy {A B : World} {row : Option Nat} {a : Option Addr} {vals : List Value} (h : Rd A a vals) (hg : A.grownBy B row) (hr : ∀ r, row = some r → ∃ o : Obj, A.heap[r]? = some o ∧ o.isCells = false) : Rd B a vals := fun hne => by
  obtain ⟨b, o, rfl, hcs⟩ := h hne
  exact ⟨b, o, rfl, fun j v hv => cell_kept (hcs j v hv) hg hr⟩
theorem Tab.keptBy {A B : World} {row : Option Nat} {xs : List Int} {a : Option Addr} {cap : Nat} (h : Tab xs a cap A) (hg : A.grownBy B row) (hr : ∀ r, row = some r → ∃ o : Obj, A.heap[r]? = some o ∧ o.isCells = false) : Tab xs a cap B := ⟨h.ok, h.cap, h.rd.keptBy hg hr⟩

/-- An entry of the map: the slot, its bytes. -/
structure KSh where
  i : Int
  a : Option Addr
  n : Nat
  c : Nat
def mkKV (c : KSh) : Value := .agg #[.int .i64 c.i, .slice c.a c.n c.c]
theorem mkKV_inj {c d : KSh} (h : mkKV c = mkKV d) : c = d := by
  unfold mkKV at h
  obtain ⟨i, a, n, k⟩ := c
  obtain ⟨i', a', n', k'⟩ := d
  simp at h
  obtain ⟨rfl, rfl, rfl, rfl⟩ := h
  rfl
open Classical in
/-- How an entry reads: as itself. -/
noncomputable def KR (v : Value) : Option (DataW Value × List MemPlace) := if ∃ c, v = mkKV c then some (.held v, []) else none
theorem KR_mk (c : KSh) : KR (mkKV c) = some (.held (mkKV c), []) := by
  unfold KR
  rw [if_pos ⟨c, rfl⟩]
theorem KR_inv {v : Value} {y : DataW Value × List MemPlace} (h : KR v = some y) : (∃ c, v = mkKV c) ∧ y = (.held v, []) := by
  unfold KR at h
  split at h
  · rename_i hc
    exact ⟨hc, (Option.some.inj h).symm⟩
  · cases h

/-- An entry says what is found for its hash. -/
def Kept (n : Nat) (xs : List Int) (w : World) (kl : Lit) (v : Value) : Prop :=
  ∃ (h i : Nat) (a : Option Addr) (c : Nat), kl = .int .u32 (h : Int) ∧ h < 4294967296 ∧ v = mkKV ⟨(i : Int), a, 16, c⟩ ∧ S10.find n xs h = some i ∧ Rd w a (Bts (S10.slotB xs i))
theorem Kept.keptBy {A B : World} {row : Option Nat} {n : Nat} {xs : List Int} {kl : Lit} {v : Value} (h : Kept n xs A kl v) (hg : A.grownBy B row) (hr : ∀ r, row = some r → ∃ o : Obj, A.heap[r]? = some o ∧ o.isCells = false) : Kept n xs B kl v := by
  obtain ⟨h', i, a, c, h1, h2, h3, h4, h5⟩ := h
  exact ⟨h', i, a, c, h1, h2, h3, h4, h5.keptBy hg hr⟩

theorem runX_out {n : Nat} {xs : List Int} (hg : Good n xs) {h k b : Nat} (h1 : 1 ≤ k) (h2 : k ≤ 15) (j : Nat) (hj : j < 16 * S10.openN (n : Int) xs h ∨ 16 * S10.openN (n : Int) xs h + 16 ≤ j) : (S10.runX n xs h k b).getD j 0 = xs.getD j 0 := by
  unfold S10.runX
  rw [getD_set0, if_neg (by omega)]
  exact hg.openX_out h j hj
theorem runX_find {n : Nat} {xs : List Int} (hg : Good n xs) {h k b : Nat} (h1 : 1 ≤ k) (h2 : k ≤ 15) : S10.find n (S10.runX n xs h k b) h = some (S10.openN (n : Int) xs h) := by
  rw [← hg.find_open h]
  refine S10.find_same fun j hj => ?_
  unfold S10.runX
  rw [getD_set0, if_neg (by omega)]
theorem no_share {n a b i : Nat} (hs : S10.share n a b = false) (ha : i ∈ S10.places n a) : i ∉ S10.places n b := by
  unfold S10.share at hs
  rw [List.any_eq_false] at hs
  simpa using hs i ha
/-- A context that shares no place with the one that was opened is found as before, with its bytes. -/
theorem runX_other {n : Nat} {xs : List Int} (hg : Good n xs) {h k b g i : Nat} (h1 : 1 ≤ k) (h2 : k ≤ 15) (hh : h < 4294967296) (hb : b < 2) (hs : S10.share n g h = false) (hf : S10.find n xs g = some i) :
    S10.find n (S10.runX n xs h k b) g = some i ∧ S10.slotB (S10.runX n xs h k b) i = S10.slotB xs i := by
  have hm := hg.openN_mem h
  have hl := hg.len
  have hg2 := hg.run hh h1 h2 hb
  have hl2 := hg2.len
  have hne : ∀ j ∈ S10.places n g, j ≠ S10.openN (n : Int) xs h := fun j hj e => no_share hs hj (by rw [e]; exact hm)
  have hi := S10.find_some hf
  have hil := S10.mem_places hi.1
  refine ⟨?_, ?_⟩
  · rw [← hf]
    refine S10.find_same fun j hj => ?_
    have := hne j hj
    exact runX_out hg h1 h2 _ (by omega)
  · have := hne i hi.1
    exact slotB_ext (by omega) (by omega) (fun j hj => runX_out hg h1 h2 _ (by omega))

/-- The relation of the range: what is still to come holds for the table before, what has been met for the table behind. -/
def Rem (n : Nat) (xs ys : List Int) (w : World) (D : DataW Value) (left : Lit → Bool) : Prop :=
  ∀ kl v, (∀ zd, D.atKey kl zd = .held v) → Kept n (if left kl then xs else ys) w kl v
theorem Rem.keptBy {A B : World} {row : Option Nat} {n : Nat} {xs ys : List Int} {D : DataW Value} {left : Lit → Bool} (h : Rem n xs ys A D left) (hg : A.grownBy B row) (hr : ∀ r, row = some r → ∃ o : Obj, A.heap[r]? = some o ∧ o.isCells = false) : Rem n xs ys B D left :=
  fun kl v hv => (h kl v hv).keptBy hg hr
theorem Rem.start {n : Nat} {xs : List Int} (ys : List Int) {w : World} {D : DataW Value} (h : ∀ kl v, (∀ zd, D.atKey kl zd = .held v) → Kept n xs w kl v) : Rem n xs ys w D (Maps.has D) := fun kl v hv => by
  have := Maps.has_true_of_atKey hv
  rw [this]
  exact h kl v hv
theorem Rem.finish {n : Nat} {xs ys : List Int} {w : World} {D : DataW Value} {left : Lit → Bool} (h : Rem n xs ys w D left) (hl : ∀ kl, left kl = false) : ∀ kl v, (∀ zd, D.atKey kl zd = .held v) → Kept n ys w kl v := fun kl v hv => by
  have := h kl v hv
  rw [hl kl] at this
  exact this
theorem Rem.del {n : Nat} {xs ys : List Int} {w : World} {D : DataW Value} {left left' : Lit → Bool} (h : Rem n xs ys w D left) (kl : Lit) (hl : ∀ z, z ≠ kl → left' z = left z) : Rem n xs ys w (D.del kl) left' := fun z v hv => by
  by_cases e : z = kl
  · subst e
    have h1 := hv .nil
    rw [Maps.atKey_del_same] at h1
    cases h1
  · have h2 := h z v (fun zd => by rw [← hv zd, Maps.atKey_del_other e])
    rw [hl z e]
    exact h2
theorem Rem.keep {n : Nat} {xs ys : List Int} {w : World} {D : DataW Value} {left left' : Lit → Bool} (h : Rem n xs ys w D left) (kl : Lit) (hl : ∀ z, z ≠ kl → left' z = left z) (hk : left' kl = false) {v : Value} (hat : ∀ zd, D.atKey kl zd = .held v) (hv : Kept n ys w kl v) : Rem n xs ys w D left' := fun z u hu => by
  by_cases e : z = kl
  · subst e
    obtain rfl : u = v := by have := (hu .nil).symm.trans (hat .nil); cases this; rfl
    rw [hk]; exact hv
  · rw [hl z e]; exact h z u hu
end Go.Proofs.Ytgbjckjfjoiilaa
