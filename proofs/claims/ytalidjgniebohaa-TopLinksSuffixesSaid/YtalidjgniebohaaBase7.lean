/- General lemmas for this seat's walks: a region whose order is open, with operations that give their value in every world that keeps a condition, pure operations that float, and a forced tail. No condition. -/
import Derived.Test.YtalidjgniebohaaBase6
import Derived.StillTail
set_option linter.unusedSimpArgs false
set_option linter.unusedVariables false
set_option linter.unusedSectionVars false
namespace Go.Proofs.Ytalidjgniebohaa
open Go.RowKit

section
variable {P : Program} {ops : Array Oper} {Q : Exit → Act → World → Prop} {S : World → Prop}

def dstOf (ops : Array Oper) (j : Nat) : Option Tmp := (ops[j]?).bind (·.dst)

/-- An act in which just the listed operations below m have laid their values. -/
structure AtL (ops : Array Oper) (m : Nat) (V : Nat → Value) (a0 a : Act) (L : Array Bool) : Prop where
  defers : a.defers = a0.defers
  size : a.tmps.size = a0.tmps.size
  put : ∀ j t, j < m → L.getD j false = true → dstOf ops j = some t → t < a0.tmps.size → a.tmps[t]? = some (V j)
  old : ∀ t, (∀ j, j < m → L.getD j false = true → dstOf ops j ≠ some t) → a.tmps[t]? = a0.tmps[t]?

theorem AtL.eq {m : Nat} {V : Nat → Value} {a0 a a' : Act} {L : Array Bool} (h : AtL ops m V a0 a L) (h' : AtL ops m V a0 a' L) : a = a' := by
  have e1 : a.tmps = a'.tmps := by
    refine Array.ext_getElem? fun t => ?_
    by_cases hj : ∃ j, j < m ∧ L.getD j false = true ∧ dstOf ops j = some t
    · obtain ⟨j, hj1, hj2, hj3⟩ := hj
      by_cases ht : t < a0.tmps.size
      · rw [h.put j t hj1 hj2 hj3 ht, h'.put j t hj1 hj2 hj3 ht]
      · rw [Array.getElem?_eq_none (by rw [h.size]; omega), Array.getElem?_eq_none (by rw [h'.size]; omega)]
    · have hn : ∀ j, j < m → L.getD j false = true → dstOf ops j ≠ some t := fun j h1 h2 h3 => hj ⟨j, h1, h2, h3⟩
      rw [h.old t hn, h'.old t hn]
  have e2 : a.defers = a'.defers := by rw [h.defers, h'.defers]
  cases a; cases a'
  simp only at e1 e2
  subst e1 e2
  rfl

theorem AtL.step {m i : Nat} {V : Nat → Value} {a0 a : Act} {L : Array Bool} (h : AtL ops m V a0 a L) (him : i < m) (hL : L.getD i true = false)
    (hd : ∀ j, j < m → j ≠ i → ∀ t, dstOf ops i = some t → dstOf ops j ≠ some t) : AtL ops m V a0 (a.put (dstOf ops i) (V i)) (L.setIfInBounds i true) := by
  have hiL : i < L.size := by
    rcases Nat.lt_or_ge i L.size with h' | h'
    · exact h'
    · simp [Array.getElem?_eq_none h'] at hL
  cases hdi : dstOf ops i with
  | none =>
    refine ⟨h.defers, h.size, fun j t hj hl hjt ht => ?_, fun t hn => h.old t fun j hj hl => hn j hj (getD_set_true hl)⟩
    by_cases hji : j = i
    · subst hji; rw [hdi] at hjt; cases hjt
    · rw [getD_set_ne false (Ne.symm hji)] at hl
      exact h.put j t hj hl hjt ht
  | some d =>
    have hput : (a.put (some d) (V i)).tmps = a.tmps.setIfInBounds d (V i) := rfl
    refine ⟨h.defers, by rw [hput, Array.size_setIfInBounds, h.size], fun j t hj hl hjt ht => ?_, fun t hn => ?_⟩
    · by_cases hji : j = i
      · subst hji
        rw [hdi] at hjt; cases hjt
        rw [hput, Array.getElem?_setIfInBounds_self_of_lt (by rw [h.size]; exact ht)]
      · rw [getD_set_ne false (Ne.symm hji)] at hl
        have hne : d ≠ t := fun e => hd j hj hji d hdi (by rw [hjt, e])
        rw [hput, Array.getElem?_setIfInBounds_ne hne]
        exact h.put j t hj hl hjt ht
    · have hne : d ≠ t := fun e => hn i him (by simp [hiL]) (by rw [hdi, e])
      rw [hput, Array.getElem?_setIfInBounds_ne hne]
      refine h.old t fun j hj hl => hn j hj (getD_set_true hl)

/-- How many of the operations below m are not listed. -/
def cntU : Nat → Array Bool → Nat
  | 0, _ => 0
  | m + 1, L => cntU m L + (if L.getD m true then 0 else 1)
theorem cntU_ge : ∀ (m : Nat) {i : Nat} (L : Array Bool), m ≤ i → cntU m (L.setIfInBounds i true) = cntU m L
  | 0, _, _, _ => rfl
  | m + 1, i, L, h => by
    simp only [cntU]
    rw [cntU_ge m L (by omega), getD_set_ne true (by omega)]
theorem cntU_set : ∀ (m : Nat) {i : Nat} (L : Array Bool), i < m → L.getD i true = false → cntU m (L.setIfInBounds i true) + 1 = cntU m L
  | 0, _, _, h, _ => by omega
  | m + 1, i, L, h, hL => by
    simp only [cntU]
    by_cases hi : i = m
    · subst hi
      rw [cntU_ge i L (Nat.le_refl _)]
      have hiL : i < L.size := by
        rcases Nat.lt_or_ge i L.size with h' | h'
        · exact h'
        · simp [Array.getElem?_eq_none h'] at hL
      simp [hL, hiL]
    · have := cntU_set m L (show i < m by omega) hL
      rw [getD_set_ne true hi]
      omega
theorem cntU_zero : ∀ (m : Nat) (L : Array Bool), cntU m L = 0 → ∀ i, i < m → L.getD i true = true
  | 0, _, _, i, h => by omega
  | m + 1, L, h, i, hi => by
    simp only [cntU] at h
    by_cases him : i = m
    · subst him
      by_cases hx : L.getD i true = true
      · exact hx
      · simp [hx] at h
    · exact cntU_zero m L (by omega) i (by omega)
theorem cntU_pos : ∀ (m : Nat) (L : Array Bool), cntU m L ≠ 0 → ∃ i, i < m ∧ L.getD i true = false
  | 0, _, h => absurd rfl h
  | m + 1, L, h => by
    by_cases hx : L.getD m true = true
    · simp only [cntU, hx, if_true, Nat.add_zero] at h
      obtain ⟨i, hi, hL⟩ := cntU_pos m L h
      exact ⟨i, by omega, hL⟩
    · exact ⟨m, by omega, by simpa using hx⟩
/-- The least one that is not listed. -/
theorem cntU_least {m : Nat} {L : Array Bool} (h : cntU m L ≠ 0) : ∃ i, i < m ∧ L.getD i true = false ∧ ∀ j, j < i → L.getD j true = true := by
  obtain ⟨i, hi, hL⟩ := cntU_pos m L h
  induction i using Nat.strongRecOn with
  | _ i ih =>
    by_cases hx : ∃ j, j < i ∧ L.getD j true = false
    · obtain ⟨j, hj, hjL⟩ := hx
      exact ih j hj (by omega) hjL
    · refine ⟨i, hi, hL, fun j hj => ?_⟩
      by_cases hy : L.getD j true = true
      · exact hy
      · exact absurd ⟨j, hj, by simpa using hy⟩ hx

/-- One after another, in the text's order: the floating ones whatever the world, the others in each world that keeps S. -/
def wpMix (P : Program) (Y : Array Value → Nat → Option Bool) (S : World → Prop) (fl : List Nat) (F : Act → Prop) : Nat → List Oper → Act → Prop
  | _, [], a => F a
  | k, o :: rest, a => ∃ v, (if fl.contains k then ((Region.wanted o (Y a.tmps) = true ∧ ∀ w, (execOp a.eval o).run P w = .ok (.value v) w) ∨ (Region.wanted o (Y a.tmps) = false ∧ v = undef)) else SteadyY P Y S o v a) ∧
      wpMix P Y S fl F (k + 1) rest (a.put o.dst v)

theorem wpMix_mono {Y : Array Value → Nat → Option Bool} {fl : List Nat} {F F' : Act → Prop} (hF : ∀ a, F a → F' a) : ∀ (l : List Oper) (k : Nat) (a : Act), wpMix P Y S fl F k l a → wpMix P Y S fl F' k l a
  | [], _, a, h => hF a h
  | _ :: rest, k, _, ⟨v, hy, hr⟩ => ⟨v, hy, wpMix_mono hF rest (k + 1) _ hr⟩

def fullL (n m : Nat) : Array Bool := (Array.range n).map fun i => decide (i < m)
theorem fullL_getD (n m i : Nat) (d : Bool) : (fullL n m).getD i d = if i < n then decide (i < m) else d := by
  unfold fullL
  by_cases h : i < n
  · simp [h]
  · simp [h, Array.getElem?_eq_none]

/-- All that is asked of the region's edges, as one Bool. -/
def mixB (ops : Array Oper) (m n : Nat) (fl : List Nat) : Bool :=
  Region.noSelect ops && decide (m + n = ops.size) &&
  ((List.range m).all fun i => (List.range m).all fun j => decide (i = j) || (match dstOf ops i with | some t => dstOf ops j != some t | none => true)) &&
  ((List.range m).all fun i => (List.range m).all fun j => match dstOf ops j, ops[i]? with | some t, some o => !(o.looksAt ops).contains t || Region.waitsFor .any ops i j | _, _ => true) &&
  ((List.range ops.size).all fun i => match ops[i]? with | some o => o.after.all fun e => !Region.binds .any e || decide (e.on < i) | none => true) &&
  (fl.all fun i => (List.range ops.size).all fun j => decide (j = i) || Region.waitsFor .any ops j i || Region.waitsFor .any ops i j || (match ops[i]?, ops[j]? with | some x, some y => x.apart ops y | _, _ => true)) &&
  (decide (n = 0) || ((List.range m).all fun i => fl.contains i || (List.range (m + 1)).any fun j => decide (i < j) && Region.waitsFor .any ops j i && !fl.contains j)) &&
  ((List.range ops.size).all fun t => decide (t ≤ m) || Region.waitsFor .any ops t (t - 1)) &&
  forced ops m n (fullL ops.size m)

theorem waitsFor_of {md : Region.Mode} {i j : Nat} {o : Oper} (ho : ops[j]? = some o) (h : ∃ e ∈ o.after, Region.binds md e = true ∧ e.on = i) : Region.waitsFor md ops j i = true := by
  obtain ⟨e, he, hb, hi⟩ := h
  unfold Region.waitsFor
  simp only [ho]
  exact Array.any_eq_true'.2 ⟨e, he, by simp [hb, hi]⟩

theorem wp_region_mix_core {id : Nat} {a : Act} {w : World} (m n : Nat) (l t : List Oper) (S : World → Prop) (fl : List Nat) (hm : P.follows .mixedOrders = true) (hops : ops.toList = l ++ t) (hl : l.length = m) (ht : t.length = n)
    (ho : mixB ops m n fl = true) (hQ : ∀ c a d v w, Q (.panic c) (Act.put a d v) w → Q (.panic c) a w) (hS : S w.drew)
    (h : wpMix P (yielded ops) S fl (fun a' => ∀ w', S w' → wpList P ops Q t a' w') 0 l a) : (Code.region id ops true).wp P Q a w := by
  simp only [mixB, Bool.and_eq_true, decide_eq_true_eq, List.all_eq_true, List.mem_range, Bool.or_eq_true] at ho
  obtain ⟨⟨⟨⟨⟨⟨⟨⟨hsel, hsz⟩, hdist⟩, hdep⟩, hback⟩, hfl⟩, hsink⟩, hchain⟩, hforce⟩ := ho
  have hopl : ∀ j, j < m → ops[j]? = l[j]? := fun j hj => by
    have h1 : ops[j]? = (l ++ t)[j]? := by rw [← hops]; simp
    rw [h1, List.getElem?_append_left (by omega)]
  have hop2 : ∀ j, t[j]? = if j < n then ops[m + j]? else none := fun j => by
    have h1 : ops[m + j]? = (l ++ t)[m + j]? := by rw [← hops]; simp
    rw [h1]
    split
    · rw [List.getElem?_append_right (by omega), hl, Nat.add_sub_cancel_left]
    · rw [List.getElem?_eq_none (by omega)]
  have hback' : ∀ {i : Nat} {o : Oper}, ops[i]? = some o → ∀ e ∈ o.after, Region.binds .any e = true → e.on < i := fun {i o} hi e he hb => by
    have := hback i (Array.getElem?_eq_some_iff.1 hi).1
    simp only [hi] at this
    have := Array.all_eq_true_iff_forall_mem.1 this e he
    simpa [hb] using this
  have hdist' : ∀ i, i < m → ∀ j, j < m → j ≠ i → ∀ t, dstOf ops i = some t → dstOf ops j ≠ some t := fun i hi j hj hne t ht e => by
    have := (hdist i hi j hj).resolve_left (Ne.symm hne)
    simp [ht, e] at this
  obtain ⟨V, pre, hpre, hobl, hfin⟩ : ∃ (V : Nat → Value) (pre : Nat → Act), (∀ k, k ≤ m → AtL ops m V a (pre k) (fullL ops.size k)) ∧
      (∀ i o, i < m → ops[i]? = some o → (if fl.contains i then Yields P ops o (V i) (pre i) else Steady P ops S o (V i) (pre i))) ∧ (∀ w', S w' → wpList P ops Q t (pre m) w') := by
    have key : ∀ (rest : List Oper) (k : Nat) (V0 : Nat → Value) (pre0 : Nat → Act), k + rest.length = m → (∀ j, rest[j]? = if j < rest.length then l[k + j]? else none) →
        (∀ j, j ≤ k → AtL ops m V0 a (pre0 j) (fullL ops.size j)) →
        (∀ i o, i < k → ops[i]? = some o → (if fl.contains i then Yields P ops o (V0 i) (pre0 i) else Steady P ops S o (V0 i) (pre0 i))) →
        wpMix P (yielded ops) S fl (fun a' => ∀ w', S w' → wpList P ops Q t a' w') k rest (pre0 k) →
        ∃ (V : Nat → Value) (pre : Nat → Act), (∀ k, k ≤ m → AtL ops m V a (pre k) (fullL ops.size k)) ∧
          (∀ i o, i < m → ops[i]? = some o → (if fl.contains i then Yields P ops o (V i) (pre i) else Steady P ops S o (V i) (pre i))) ∧ (∀ w', S w' → wpList P ops Q t (pre m) w') := by
      intro rest
      induction rest with
      | nil =>
        intro k V0 pre0 hk _ hat hob hw
        simp only [List.length_nil, Nat.add_zero] at hk
        subst hk
        exact ⟨V0, pre0, hat, hob, hw⟩
      | cons o rest ih =>
        intro k V0 pre0 hk hr hat hob hw
        simp only [List.length_cons] at hk
        obtain ⟨v, hv, hw⟩ := hw
        have hok : ops[k]? = some o := by
          rw [hopl k (by omega)]
          have := hr 0
          simpa using this.symm
        have hkd : dstOf ops k = o.dst := by simp [dstOf, hok]
        refine ih (k + 1) (fun j => if j = k then v else V0 j) (fun j => if j = k + 1 then (pre0 k).put o.dst v else pre0 j) (by omega) (fun j => ?_) (fun j hj => ?_) (fun i o' hi hio => ?_) ?_
        · have := hr (j + 1)
          simp only [List.getElem?_cons_succ, List.length_cons, Nat.add_lt_add_iff_right] at this
          rw [this, show k + (j + 1) = k + 1 + j by omega]
        · have hagree : ∀ (b : Act) (j' : Nat), j' ≤ k → AtL ops m V0 a b (fullL ops.size j') → AtL ops m (fun j => if j = k then v else V0 j) a b (fullL ops.size j') := fun b j' hj' hb =>
            ⟨hb.defers, hb.size, fun i t hi hL hd ht => by
              have hik : i ≠ k := fun e => by
                subst e
                rw [fullL_getD] at hL
                split at hL
                · simp at hL; omega
                · cases hL
              simp only [hik, if_false]
              exact hb.put i t hi hL hd ht, hb.old⟩
          by_cases hjk : j = k + 1
          · subst hjk
            simp only [if_true]
            have h1 := (hagree (pre0 k) k (Nat.le_refl _) (hat k (Nat.le_refl _))).step (i := k) (by omega) (by rw [fullL_getD]; simp; omega) (fun j hj hne t ht => hdist' k (by omega) j hj hne t ht)
            rw [hkd] at h1
            simp only [if_true] at h1
            have e : (fullL ops.size k).setIfInBounds k true = fullL ops.size (k + 1) := by
              refine Array.ext_getElem? fun i => ?_
              by_cases hi : i < ops.size
              · by_cases hik : k = i
                · subst hik; simp [fullL, hi]
                · rw [Array.getElem?_setIfInBounds_ne hik]
                  simp [fullL, hi]; omega
              · rw [Array.getElem?_eq_none (by simp [fullL]; omega), Array.getElem?_eq_none (by simp [fullL]; omega)]
            rwa [e] at h1
          · simp only [hjk, if_false]
            exact hagree (pre0 j) j (by omega) (hat j (by omega))
        · have hik1 : i ≠ k + 1 := by omega
          simp only [hik1, if_false]
          by_cases hik : i = k
          · subst hik
            have : o' = o := Option.some.inj (hio.symm.trans hok)
            subst this
            simp only [if_true]
            exact hv
          · simp only [hik, if_false]
            exact hob i o' (by omega) hio
        · simp only [if_true]; exact hw
    refine key l 0 (fun _ => undef) (fun _ => a) (by omega) (fun j => ?_) (fun j hj => ?_) (fun i o hi _ => by omega) h
    · split
      · rw [Nat.zero_add]
      · rw [List.getElem?_eq_none (by omega)]
    · obtain rfl : j = 0 := by omega
      refine ⟨rfl, rfl, fun i t _ hL _ _ => ?_, fun t _ => rfl⟩
      rw [fullL_getD] at hL
      split at hL <;> simp at hL
  have same : ∀ (i : Nat) (o : Oper) (L : Array Bool) (b : Act), i < m → ops[i]? = some o → AtL ops m V a b L → HeadInv .any ops m L → i ∈ Region.ready .any ops L →
      execOp b.eval o = execOp (pre i).eval o ∧ Region.wanted o (yielded ops b.tmps) = Region.wanted o (yielded ops (pre i).tmps) := by
    intro i o L b him hio hat hinv hr
    obtain ⟨hun, o', ho', hall⟩ := mem_ready.1 hr
    have : o' = o := Option.some.inj (ho'.symm.trans hio)
    subst this
    have hat' := hpre i (by omega)
    have htmp : ∀ d, d ∈ o'.looksAt ops → b.tmps[d]? = (pre i).tmps[d]? := fun d hd => by
      by_cases hj : ∃ j, j < m ∧ dstOf ops j = some d
      · obtain ⟨j, hj, hjd⟩ := hj
        have hw : Region.waitsFor .any ops i j = true := by
          have := hdep i him j hj
          simp only [hjd, hio] at this
          simpa [hd] using this
        obtain ⟨o2, ho2, e, he, hb, hon⟩ := Region.waitsFor_spec hw
        have : o2 = o' := Option.some.inj (ho2.symm.trans hio)
        subst this
        have hjL := hall e he hb
        have hji := hback' hio e he hb
        rw [hon] at hjL hji
        by_cases ht : d < a.tmps.size
        · rw [hat.put j d hj hjL hjd ht, hat'.put j d hj (by rw [fullL_getD, if_pos (by omega)]; simpa using hji) hjd ht]
        · have s1 : b.tmps.size ≤ d := by rw [hat.size]; exact Nat.le_of_not_lt ht
          have s2 : (pre i).tmps.size ≤ d := by rw [hat'.size]; exact Nat.le_of_not_lt ht
          rw [Array.getElem?_eq_none s1, Array.getElem?_eq_none s2]
      · have hn : ∀ j, j < m → dstOf ops j ≠ some d := fun j h1 h2 => hj ⟨j, h1, h2⟩
        rw [hat.old d (fun j hj _ => hn j hj), hat'.old d (fun j hj _ => hn j hj)]
    refine ⟨execOp_congr o' (fun cs c => Region.noSelect_spec hsel i o' cs c hio) fun x hx => ?_, ?_⟩
    · cases x with
      | tmp d =>
        have := htmp d (List.mem_append_left _ (List.mem_filterMap.2 ⟨.tmp d, by simpa using hx, rfl⟩))
        simp only [Act.eval, Array.getD_eq_getD_getElem?, this]
      | const v => rfl
      | global g => rfl
      | func f => rfl
    · unfold Region.wanted
      cases hg : o'.guard with
      | none => rfl
      | some gw =>
        obtain ⟨g, gb⟩ := gw
        have hy : yielded ops b.tmps g = yielded ops (pre i).tmps g := by
          unfold yielded
          cases hgd : (ops[g]?).bind (·.dst) with
          | none => rfl
          | some d =>
            have := htmp d (List.mem_append_right _ (by simp [hg, hgd]))
            simp only [Option.bind_some, this]
        simp only [hy]
  have hcore : ∀ (c : Nat) (L : Array Bool) (b : Act) (w' : World), cntU m L = c → HeadInv .any ops m L → AtL ops m V a b L → S w' → wpAny P .any ops Q (c + n) L b w' := by
    intro c
    induction c with
    | zero =>
      intro L b w' hc hinv hat hS'
      have hall := cntU_zero m L hc
      have eL : L = fullL ops.size m := by
        refine Array.ext_getElem? fun i => ?_
        by_cases hi : i < ops.size
        · have h1 : L.getD i true = decide (i < m) := by
            by_cases him : i < m
            · rw [hall i him]; simpa using him
            · rw [hinv.tail i (by omega) hi]; simp [him]
          have h2 : i < L.size := by rw [hinv.size]; exact hi
          simp [h2] at h1
          simp [fullL, hi, h2, h1]
        · rw [Array.getElem?_eq_none (by rw [hinv.size]; omega), Array.getElem?_eq_none (by simp [fullL]; omega)]
      subst eL
      have eb := hat.eq (hpre m (Nat.le_refl _))
      subst eb
      rw [Nat.zero_add]
      exact wpAny_forced n m _ t ht hop2 (by omega) hforce _ w' (hfin w' hS')
    | succ c ih =>
      intro L b w' hc hinv hat hS'
      rw [show c + 1 + n = (c + n) + 1 by omega]
      have stepL : ∀ i, i < m → i ∈ Region.ready .any ops L → ∀ w2, S w2 → wpAny P .any ops Q (c + n) (L.setIfInBounds i true) (b.put (dstOf ops i) (V i)) w2 := fun i him hr w2 hS2 => by
        have hun := (mem_ready.1 hr).1
        exact ih _ _ w2 (by have := cntU_set m L him hun; omega) (hinv.set hr him) (hat.step him hun (hdist' i him)) hS2
      by_cases hf : ∃ i, i < m ∧ fl.contains i = true ∧ i ∈ Region.ready .any ops L
      · obtain ⟨i, him, hfi, hr⟩ := hf
        obtain ⟨hun, o, hio, hall⟩ := mem_ready.1 hr
        have hid : dstOf ops i = o.dst := by simp [dstOf, hio]
        have hy := hobl i o him hio
        rw [if_pos hfi] at hy
        have hs := same i o L b him hio hat hinv hr
        have hy' : Yields P ops o (V i) b := by
          unfold Yields at *
          rw [hs.1, hs.2]
          exact hy
        refine wpAny_first hio (Region.noSelect_spec hsel) (fun c a w => hQ c a _ _ w) _ L b w' (fun j oj hoj hji hjun hno => ?_) hr hy' (by have := stepL i him hr w' hS'; rwa [hid] at this)
        have h1 := hfl i (by simpa using hfi) j (Array.getElem?_eq_some_iff.1 hoj).1
        simp only [hio, hoj] at h1
        rcases h1 with ((h1 | h1) | h1) | h1
        · exact absurd h1 hji
        · obtain ⟨o2, ho2, e, he, hb, hon⟩ := Region.waitsFor_spec h1
          have : o2 = oj := Option.some.inj (ho2.symm.trans hoj)
          subst this
          exact absurd hon (hno e he hb)
        · obtain ⟨o2, ho2, e, he, hb, hon⟩ := Region.waitsFor_spec h1
          have : o2 = o := Option.some.inj (ho2.symm.trans hio)
          subst this
          have := hall e he hb
          rw [hon, getD_both hjun] at this
          cases this
        · exact h1
      · have hfr : ∀ i, i < m → fl.contains i = true → i ∉ Region.ready .any ops L := fun i h1 h2 h3 => hf ⟨i, h1, h2, h3⟩
        have hone : cntU m L ≠ 0 := by omega
        obtain ⟨i0, hi0, hun0, hless⟩ := cntU_least hone
        have hi0s : i0 < ops.size := by omega
        have hr0 : i0 ∈ Region.ready .any ops L := mem_ready.2 ⟨hun0, ops[i0], by simp [hi0s], fun e he hb => by
          have h1 := hback' (i := i0) (o := ops[i0]) (by simp [hi0s]) e he hb
          have h2 := hless e.on h1
          have h3 : e.on < L.size := by rw [hinv.size]; omega
          simp [h3] at h2 ⊢
          exact h2⟩
        have hnf0 : fl.contains i0 = false := by
          cases hx : fl.contains i0 with
          | false => rfl
          | true => exact absurd hr0 (hfr i0 hi0 hx)
        have hlt : ∀ k ∈ Region.ready .any ops L, k < m := fun k hk => by
          rcases Nat.lt_or_ge k m with h | hkm
          · exact h
          obtain ⟨hkun, ok, hok, hkall⟩ := mem_ready.1 hk
          have hks := (Array.getElem?_eq_some_iff.1 hok).1
          have hn0 : n ≠ 0 := by omega
          have hsink' := hsink.resolve_left hn0
          have hmno : ∀ i, i ≤ m → fl.contains i = false → L.getD i true = false → i < m → False ∨ ∃ j, j ≤ m ∧ i < j ∧ fl.contains j = false ∧ L.getD j true = false ∧ j ∉ Region.ready .any ops L := fun i him hfi hiun hilt => by
            have := (hsink' i hilt).resolve_left (by simpa using hfi)
            obtain ⟨j, hj, hj2⟩ := List.any_eq_true.1 this
            simp only [List.mem_range, Bool.and_eq_true, decide_eq_true_eq, Bool.not_eq_true'] at hj hj2
            obtain ⟨⟨hij, hw⟩, hfj⟩ := hj2
            obtain ⟨oj, hoj, e, he, hb, hon⟩ := Region.waitsFor_spec hw
            have hjs := (Array.getElem?_eq_some_iff.1 hoj).1
            have hjun : L.getD j true = false := by
              cases hx : L.getD j true with
              | false => rfl
              | true =>
                have hx' : L.getD j false = true := by
                  have h3 : j < L.size := by rw [hinv.size]; omega
                  simp [h3] at hx ⊢; exact hx
                have := hinv.closed j oj hoj hx' e he hb
                rw [hon, getD_both hiun] at this
                cases this
            refine .inr ⟨j, by omega, hij, hfj, hjun, fun hjr => ?_⟩
            obtain ⟨_, oj2, hoj2, hjall⟩ := mem_ready.1 hjr
            have : oj2 = oj := Option.some.inj (hoj2.symm.trans hoj)
            subst this
            have := hjall e he hb
            rw [hon, getD_both hiun] at this
            cases this
          have hmnr : m ∉ Region.ready .any ops L := by
            have climb : ∀ d i, m - i ≤ d → i < m → fl.contains i = false → L.getD i true = false → m ∉ Region.ready .any ops L := by
              intro d
              induction d with
              | zero => intro i h1 h2; omega
              | succ d ihd =>
                intro i h1 h2 h3 h4
                rcases hmno i (by omega) h3 h4 h2 with h | ⟨j, hjm, hij, hfj, hjun, hjr⟩
                · exact h.elim
                · rcases Nat.lt_or_ge j m with hj | hj
                  · exact ihd j (by omega) hj hfj hjun
                  · obtain rfl : j = m := by omega
                    exact hjr
            exact climb (m - i0) i0 (Nat.le_refl _) hi0 hnf0 hun0
          rcases Nat.lt_or_ge m k with hmk | hmk
          · have hw := (hchain k hks).resolve_left (by omega)
            obtain ⟨o2, ho2, e, he, hb, hon⟩ := Region.waitsFor_spec hw
            have : o2 = ok := Option.some.inj (ho2.symm.trans hok)
            subst this
            have h1 := hkall e he hb
            have h2 := hinv.tail (k - 1) (by omega) (by omega)
            rw [hon, getD_both h2] at h1
            cases h1
          · obtain rfl : k = m := by omega
            exact absurd hk hmnr
        refine ⟨fun h0 => (by rw [h0] at hr0; cases hr0), fun i hi => ?_⟩
        have him := hlt i hi
        obtain ⟨hun, o, hio, hall⟩ := mem_ready.1 hi
        have hid : dstOf ops i = o.dst := by simp [dstOf, hio]
        have hy := hobl i o him hio
        have hfi : fl.contains i = false := by
          cases hx : fl.contains i with
          | false => rfl
          | true => exact absurd hi (hfr i him hx)
        rw [if_neg (by rw [hfi]; simp)] at hy
        have hs := same i o L b him hio hat hinv hi
        exact Steady.wpOp hio (hy.of_same hs.1 hs.2) hS' fun w2 hS2 => by
          have := stepL i him hi w2 hS2
          rwa [hid] at this
  refine wp_region_any hm ?_
  have hL0 : Array.replicate ops.size false = fullL ops.size 0 := by
    refine Array.ext_getElem? fun i => ?_
    by_cases hi : i < ops.size <;> simp [fullL, hi]
  have hcnt : cntU m (fullL ops.size 0) = m := by
    have : ∀ k, k ≤ ops.size → cntU k (fullL ops.size 0) = k := by
      intro k
      induction k with
      | zero => intro _; rfl
      | succ k ih =>
        intro hk
        have e : (fullL ops.size 0).getD k true = false := by rw [fullL_getD, if_pos (show k < ops.size by omega)]; simp
        simp only [cntU]
        rw [ih (by omega), e]
        simp
    exact this m (by omega)
  have hinv0 : HeadInv .any ops m (fullL ops.size 0) := ⟨by simp [fullL], fun j oj hj hL => by (rw [fullL_getD] at hL; split at hL <;> simp at hL), fun t _ ht => by rw [fullL_getD, if_pos ht]; simp⟩
  have h2 := hcore m (fullL ops.size 0) (pre 0) w.drew hcnt hinv0 (hpre 0 (by omega)) hS
  have hp0 : pre 0 = a := by
    have hz : AtL ops m V a a (fullL ops.size 0) := ⟨rfl, rfl, fun i t _ hL _ _ => by (rw [fullL_getD] at hL; split at hL <;> simp at hL), fun t _ => rfl⟩
    exact (hpre 0 (by omega)).eq hz
  rw [hp0, ← hL0, hsz] at h2
  exact h2

/-- As the core, whatever the post says of a panic. -/
theorem wp_region_mix {id : Nat} {a : Act} {w : World} (m n : Nat) (l t : List Oper) (S : World → Prop) (fl : List Nat) (hm : P.follows .mixedOrders = true) (hops : ops.toList = l ++ t) (hl : l.length = m) (ht : t.length = n)
    (ho : mixB ops m n fl = true) (hS : S w.drew)
    (h : ∀ (Y : Array Value → Nat → Option Bool) (F : Act → Prop), (∀ t, Y t = yielded ops t) →
      Shut' (∀ a', (∀ (K : Act → World → Prop) w', Shut' (∀ a w, Q .normal a w → K a w) → S w' → wpList P ops (OnlyK K) t a' w') → F a') → wpMix P Y S fl F 0 l a) : (Code.region id ops true).wp P Q a w :=
  Code.wp_mono (OnlyK.imp (fun _ _ h => h)) (wp_region_mix_core m n l t S fl hm hops hl ht ho (fun _ _ _ _ _ h => h) hS
    (h _ _ (fun _ => rfl) (fun _ h w' hS' => h (fun a w => Q .normal a w) w' (fun _ _ h => h) hS')))

theorem wpMix_value {Y : Array Value → Nat → Option Bool} {fl : List Nat} {F : Act → Prop} {k : Nat} {o : Oper} {rest : List Oper} {a : Act} {v : Value} (hf : fl.contains k = false) (hw : Region.wanted o (Y a.tmps) = true)
    (h : ∀ w, S w → (execOp a.eval o).run P w = .ok (.value v) w) (h2 : wpMix P Y S fl F (k + 1) rest (a.put o.dst v)) : wpMix P Y S fl F k (o :: rest) a :=
  ⟨v, by rw [if_neg (by rw [hf]; simp)]; exact .inl ⟨hw, fun w hS => by rw [h w hS]; exact ⟨rfl, hS⟩⟩, h2⟩
theorem wpMix_float {Y : Array Value → Nat → Option Bool} {fl : List Nat} {F : Act → Prop} {k : Nat} {o : Oper} {rest : List Oper} {a : Act} {v : Value} (hf : fl.contains k = true) (hw : Region.wanted o (Y a.tmps) = true)
    (h : ∀ w, (execOp a.eval o).run P w = .ok (.value v) w) (h2 : wpMix P Y S fl F (k + 1) rest (a.put o.dst v)) : wpMix P Y S fl F k (o :: rest) a :=
  ⟨v, by rw [if_pos hf]; exact .inl ⟨hw, h⟩, h2⟩
theorem wpMix_skip {Y : Array Value → Nat → Option Bool} {fl : List Nat} {F : Act → Prop} {k : Nat} {o : Oper} {rest : List Oper} {a : Act} (hw : Region.wanted o (Y a.tmps) = false)
    (h2 : wpMix P Y S fl F (k + 1) rest (a.put o.dst undef)) : wpMix P Y S fl F k (o :: rest) a :=
  ⟨undef, by split; exact .inr ⟨hw, rfl⟩; exact .inr ⟨hw, rfl⟩, h2⟩
theorem wpMix_call {Y : Array Value → Nat → Option Bool} {fl : List Nat} {F : Act → Prop} {k : Nat} {o : Oper} {rest : List Oper} {a : Act} {v : Value} {f : FuncId} {args : Array Value} (hf : fl.contains k = false) (hw : Region.wanted o (Y a.tmps) = true)
    (hr : ∀ w, S w → (execOp a.eval o).run P w = .ok (.enter f args) w)
    (h : ∀ w, S w → Calls P f args w fun e w' => e = .returned v ∧ S w') (h2 : wpMix P Y S fl F (k + 1) rest (a.put o.dst v)) : wpMix P Y S fl F k (o :: rest) a :=
  ⟨v, by rw [if_neg (by rw [hf]; simp)]; exact .inl ⟨hw, fun w hS => by rw [hr w hS]; exact h w hS⟩, h2⟩
end
end Go.Proofs.Ytalidjgniebohaa
