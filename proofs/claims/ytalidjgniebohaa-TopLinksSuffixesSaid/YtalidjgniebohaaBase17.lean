/- General lemmas for this seat's walks: a region whose order is open, in which the last operation ahead of the forced tail may end the condition under which others read. No condition. -/
import Derived.Test.YtalidjgniebohaaBase16
set_option linter.unusedSimpArgs false
set_option linter.unusedVariables false
set_option linter.unusedSectionVars false
namespace Go.Proofs.Ytalidjgniebohaa
open Go.RowKit

/-- An operation of a sequence: it takes its turn, reads, computes, or is the last. -/
inductive KU where
  | e | r | p | l

section
variable {P : Program} {ops : Array Oper} {Q : Exit → Act → World → Prop} {S : World → Prop}

/-- Some cells hold what is said. -/
def HasC (l : List (Addr × Value)) (w : World) : Prop := Cells w l

/-- As long as the operation q is not listed, S holds. -/
def CU (S : World → Prop) (q : Nat) (L : Array Bool) (w : World) : Prop := L.getD q false = false → S w
theorem CU.set {q i : Nat} {L : Array Bool} {w : World} (h : CU S q L w) (hne : i ≠ q) : CU S q (L.setIfInBounds i true) w := fun hL => h (by rwa [getD_set_ne false hne] at hL)
theorem CU.unset {q i : Nat} {L : Array Bool} {w : World} (h : CU S q (L.setIfInBounds i true) w) (hne : i ≠ q) : CU S q L w := fun hL => h (by rwa [getD_set_ne false hne])

def wpAnyU (P : Program) (ops : Array Oper) (Q : Exit → Act → World → Prop) (S : World → Prop) (q m tail : Nat) : Nat → Array Bool → Act → World → Prop
  | 0, listed, a, w => (∀ i ∈ Region.ready .any ops listed, m ≤ i) ∧ wpAny P .any ops Q tail listed a w
  | fuel + 1, listed, a, w => Region.ready .any ops listed ≠ [] ∧ (∀ i ∈ Region.ready .any ops listed, i < m) ∧
    ∀ i ∈ Region.ready .any ops listed, wpOp P ops Q i (fun a' w' => CU S q (listed.setIfInBounds i true) w' ∧ wpAnyU P ops Q S q m tail fuel (listed.setIfInBounds i true) a' w') a w

theorem wpAny_of_U {q m tail : Nat} : ∀ (fuel : Nat) (listed : Array Bool) (a : Act) (w : World), wpAnyU P ops Q S q m tail fuel listed a w → wpAny P .any ops Q (fuel + tail) listed a w
  | 0, listed, a, w, h => by rw [Nat.zero_add]; exact h.2
  | fuel + 1, listed, a, w, h => by
    rw [show fuel + 1 + tail = (fuel + tail) + 1 by omega]
    exact ⟨fun h0 => absurd h0 h.1, fun i hi => wpOp_mono (fun a' w' h' => wpAny_of_U fuel _ a' w' h'.2) (h.2.2 i hi)⟩

theorem getD_false_of {L : Array Bool} {i : Nat} (h : L.getD i true = false) : L.getD i false = false := by
  rcases Nat.lt_or_ge i L.size with h' | h'
  · simp [h'] at h ⊢; exact h
  · simp [Array.getElem?_eq_none h'] at h ⊢

theorem wpAnyU_first {q m tail i : Nat} {oi : Oper} {v : Value} {T : World → Prop} (hbar : barrier ops m = true) (him : i < m) (hi : ops[i]? = some oi) (hsel : ∀ (j : Nat) (o : Oper) cs b, ops[j]? = some o → o.op ≠ .select cs b)
    (hQ : ∀ c a w, Q (.panic c) (a.put oi.dst v) w → Q (.panic c) a w) (hiq : i ≠ q) (hT : ∀ (L : Array Bool) (w : World), downC ops L → L.getD i false = false → CU S q L w → T w) :
    ∀ (fuel : Nat) (listed : Array Bool) (a : Act) (w : World),
      (∀ j oj, ops[j]? = some oj → j ≠ i → listed.getD j true = false → (∀ e ∈ oj.after, Region.binds .any e = true → e.on ≠ i) → oi.apart ops oj = true) →
      downC ops listed → i ∈ Region.ready .any ops listed → YieldsIf P ops T oi v a → CU S q listed w →
      wpAnyU P ops Q S q m tail fuel (listed.setIfInBounds i true) (a.put oi.dst v) w → wpAnyU P ops Q S q m tail (fuel + 1) listed a w := by
  intro fuel
  induction fuel with
  | zero =>
    intro listed a w _ hd hr hy hS H
    have hlt : ∀ j ∈ Region.ready .any ops listed, j < m := fun j hj => by
      rcases Nat.lt_or_ge j m with h | h
      · exact h
      · have h1 := barrier_spec hbar hj h him
        have h0 := (mem_ready.1 hr).1
        rcases Nat.lt_or_ge i listed.size with h' | h'
        · simp [h'] at h0 h1; rw [h0] at h1; cases h1
        · simp [Array.getElem?_eq_none h'] at h1
    refine ⟨fun h => (by rw [h] at hr; cases hr), hlt, fun j hj => ?_⟩
    by_cases hji : j = i
    · subst hji; exact hy.wpOp hi (hT _ _ hd (getD_false_of (mem_ready.1 hr).1) hS) ⟨hS.set hiq, H⟩
    · have h1 := H.1 j (ready_mono hj hji)
      have h2 := hlt j hj
      omega
  | succ fuel ih =>
    intro listed a w hfree hd hr hy hS H
    have hlt : ∀ j ∈ Region.ready .any ops listed, j < m := fun j hj => by
      rcases Nat.lt_or_ge j m with h | h
      · exact h
      · have h1 := barrier_spec hbar hj h him
        have h0 := (mem_ready.1 hr).1
        rcases Nat.lt_or_ge i listed.size with h' | h'
        · simp [h'] at h0 h1; rw [h0] at h1; cases h1
        · simp [Array.getElem?_eq_none h'] at h1
    refine ⟨fun h => (by rw [h] at hr; cases hr), hlt, fun j hj => ?_⟩
    by_cases hji : j = i
    · subst hji; exact hy.wpOp hi (hT _ _ hd (getD_false_of (mem_ready.1 hr).1) hS) ⟨hS.set hiq, H⟩
    · have h1 := H.2.2 j (ready_mono hj hji)
      obtain ⟨hjun, oj, hoj, hall⟩ := mem_ready.1 hj
      have hnot : ∀ e ∈ oj.after, Region.binds .any e = true → e.on ≠ i := fun e he hb heq => by
        have h1 := hall e he hb
        have h0 := (mem_ready.1 hr).1
        rw [heq] at h1
        rcases Nat.lt_or_ge i listed.size with h' | h'
        · simp [h'] at h0 h1; rw [h0] at h1; cases h1
        · simp [Array.getElem?_eq_none h'] at h1
      have h2 := wpOp_putIf hoj (hfree j oj hoj hji hjun hnot) (fun cs b => hsel i oi cs b hi) (fun cs b => hsel j oj cs b hoj) hQ hy h1
      have hfree' : ∀ k ok, ops[k]? = some ok → k ≠ i → (listed.setIfInBounds j true).getD k true = false →
          (∀ e ∈ ok.after, Region.binds .any e = true → e.on ≠ i) → oi.apart ops ok = true := fun k ok hk hki hun hno => by
        refine hfree k ok hk hki ?_ hno
        by_cases hjk : j = k
        · subst hjk; exact hjun
        · rw [getD_set_ne true hjk] at hun; exact hun
      refine wpOp_mono (fun a' w' h3 => ?_) h2
      obtain ⟨h4, h5, h6⟩ := h3
      rw [Array.setIfInBounds_comm _ _ (Ne.symm hji)] at h5 h6
      exact ⟨h5.unset hiq, ih (listed.setIfInBounds j true) a' w' hfree' (downC_set hd hj) (ready_mono hr (Ne.symm hji)) h4 (h5.unset hiq) h6⟩

/-- One after another: 1 reads where S holds, 2 computes in every world, 3 is the last one, which may end S. -/
def wpSeqU (P : Program) (Y : Array Value → Nat → Option Bool) (Q : Exit → Act → World → Prop) (S : World → Prop) (F : Act → World → Prop) : List (KU × Oper) → Act → World → Prop
  | [], a, w => F a w
  | (.r, o) :: rest, a, w => ∃ v, ((Region.wanted o (Y a.tmps) = true ∧ ∀ w, S w → (execOp a.eval o).run P w = .ok (.value v) w) ∨ (Region.wanted o (Y a.tmps) = false ∧ v = undef)) ∧ wpSeqU P Y Q S F rest (a.put o.dst v) w
  | (.p, o) :: rest, a, w => ∃ v, ((Region.wanted o (Y a.tmps) = true ∧ ∀ w : World, True → (execOp a.eval o).run P w = .ok (.value v) w) ∨ (Region.wanted o (Y a.tmps) = false ∧ v = undef)) ∧ wpSeqU P Y Q S F rest (a.put o.dst v) w
  | (.l, o) :: rest, a, w => if Region.wanted o (Y a.tmps) = true then o.wp P a w (fun a' w' => wpSeqU P Y Q S F rest a' w') Q ∨ (o.asks P a w ∧ LetsOut Q) else wpSeqU P Y Q S F rest (a.put o.dst undef) w
  | (.e, o) :: rest, a, w => if Region.wanted o (Y a.tmps) = true then o.wp P a w (fun a' w' => S w' ∧ wpSeqU P Y Q S F rest a' w') Q ∨ (o.asks P a w ∧ LetsOut Q) else S w ∧ wpSeqU P Y Q S F rest (a.put o.dst undef) w

def seqU (ops : Array Oper) (q m : Nat) : List (KU × Nat) → Array Bool → Bool
  | [], _ => true
  | (.r, k) :: r, l => (Region.ready .any ops l).contains k && Region.free .any ops l k && decide (k < m) && decide (k ≠ q) && (anc ops ops.size q).contains k && seqU ops q m r (l.setIfInBounds k true)
  | (.p, k) :: r, l => (Region.ready .any ops l).contains k && Region.free .any ops l k && decide (k < m) && decide (k ≠ q) && seqU ops q m r (l.setIfInBounds k true)
  | (.l, k) :: r, l => (Region.ready .any ops l == [k]) && decide (k < m) && decide (k = q) && r.isEmpty && seqU ops q m r (l.setIfInBounds k true)
  | (.e, k) :: r, l => (Region.ready .any ops l == [k]) && decide (k < m) && decide (k ≠ q) && seqU ops q m r (l.setIfInBounds k true)

theorem wpAnyU_seq {q m tail : Nat} (hbar : barrier ops m = true) (hsel : Region.noSelect ops = true) (hQ : ∀ c a d v w, Q (.panic c) (Act.put a d v) w → Q (.panic c) a w) :
    ∀ (ks : List (KU × Nat)) (ls : List (KU × Oper)) (listed : Array Bool) (a : Act) (w : World), downC ops listed → CU S q listed w → ks.map (fun p => (p.1, ops[p.2]?)) = ls.map (fun p => (p.1, some p.2)) → seqU ops q m ks listed = true →
    (∀ i ∈ Region.ready .any ops (setAll (ks.map Prod.snd) listed), m ≤ i) →
    wpSeqU P (yielded ops) Q S (fun a' w' => wpAny P .any ops Q tail (setAll (ks.map Prod.snd) listed) a' w') ls a w → wpAnyU P ops Q S q m tail ks.length listed a w
  | [], ls, listed, a, w, _, hS, hl, _, hend, h => by
    cases ls with
    | nil => exact ⟨hend, h⟩
    | cons o r => simp at hl
  | (kind, k) :: ks, ls, listed, a, w, hd, hS, hl, hb, hend, h => by
    cases ls with
    | nil => simp at hl
    | cons p r =>
      obtain ⟨b, o⟩ := p
      simp only [List.map_cons, List.cons.injEq, Prod.mk.injEq] at hl
      obtain ⟨⟨rfl, hk⟩, hl⟩ := hl
      match kind, hb, h with
      | .r, hb, h =>
        simp only [seqU, Bool.and_eq_true, decide_eq_true_eq] at hb
        obtain ⟨v, hy, hrest⟩ := h
        obtain ⟨⟨⟨⟨⟨b1, b2⟩, b3⟩, b4⟩, b5⟩, b6⟩ := hb
        have hkr : k ∈ Region.ready .any ops listed := by simpa using b1
        exact wpAnyU_first (T := S) hbar b3 hk (Region.noSelect_spec hsel) (fun c a w => hQ c a _ _ w) b4 (fun L w hd hLi hC => hC (by
            cases hq : L.getD q false with
            | false => rfl
            | true =>
              have := anc_listed hd ops.size q (fun o' ho' e h1 h2 => hd q o' ho' hq e h1 h2) k (by simpa using b5)
              rw [hLi] at this; cases this)) _ listed a w (Region.free_spec hk b2) hd hkr hy hS
          (wpAnyU_seq hbar hsel hQ ks r _ _ w (downC_set hd hkr) (hS.set b4) hl b6 hend hrest)
      | .p, hb, h =>
        simp only [seqU, Bool.and_eq_true, decide_eq_true_eq] at hb
        obtain ⟨v, hy, hrest⟩ := h
        obtain ⟨⟨⟨⟨b1, b2⟩, b3⟩, b4⟩, b6⟩ := hb
        have hkr : k ∈ Region.ready .any ops listed := by simpa using b1
        exact wpAnyU_first (T := fun _ => True) hbar b3 hk (Region.noSelect_spec hsel) (fun c a w => hQ c a _ _ w) b4 (fun L w _ _ _ => trivial) _ listed a w (Region.free_spec hk b2) hd hkr hy hS
          (wpAnyU_seq hbar hsel hQ ks r _ _ w (downC_set hd hkr) (hS.set b4) hl b6 hend hrest)
      | .l, hb, h =>
        simp only [seqU, Bool.and_eq_true, beq_iff_eq, decide_eq_true_eq] at hb
        obtain ⟨⟨⟨⟨b1, b2⟩, b3⟩, b4⟩, b5⟩ := hb
        have hkr : k ∈ Region.ready .any ops listed := by rw [b1]; simp
        subst b3
        have hlk : ∀ w', CU S k (listed.setIfInBounds k true) w' := fun w' hL => by
          have hL0 := (mem_ready.1 hkr).1
          rcases Nat.lt_or_ge k listed.size with h' | h'
          · simp [h'] at hL
          · simp [Array.getElem?_eq_none h'] at hL0
        refine ⟨by rw [b1]; simp, fun i hi => ?_, fun i hi => ?_⟩
        · rw [b1, List.mem_singleton] at hi; rw [hi]; exact b2
        · rw [b1, List.mem_singleton] at hi
          subst hi
          unfold Go.wpOp
          simp only [hk]
          unfold wpSeqU at h
          split
          · rename_i hw
            rw [if_pos hw] at h
            exact h.imp (Oper.wp_mono fun a' w' h' => ⟨hlk w', wpAnyU_seq hbar hsel hQ ks r _ a' w' (downC_set hd hkr) (hlk w') hl b5 hend h'⟩) (fun h => h)
          · rename_i hw
            rw [if_neg hw] at h
            exact ⟨hlk w, wpAnyU_seq hbar hsel hQ ks r _ _ w (downC_set hd hkr) (hlk w) hl b5 hend h⟩
      | .e, hb, h =>
        simp only [seqU, Bool.and_eq_true, beq_iff_eq, decide_eq_true_eq] at hb
        obtain ⟨⟨⟨b1, b2⟩, b3⟩, b5⟩ := hb
        have hkr : k ∈ Region.ready .any ops listed := by rw [b1]; simp
        refine ⟨by rw [b1]; simp, fun i hi => ?_, fun i hi => ?_⟩
        · rw [b1, List.mem_singleton] at hi; rw [hi]; exact b2
        · rw [b1, List.mem_singleton] at hi
          subst hi
          unfold Go.wpOp
          simp only [hk]
          unfold wpSeqU at h
          split
          · rename_i hw
            rw [if_pos hw] at h
            exact h.imp (Oper.wp_mono fun a' w' h' => ⟨fun _ => h'.1, wpAnyU_seq hbar hsel hQ ks r _ a' w' (downC_set hd hkr) (fun _ => h'.1) hl b5 hend h'.2⟩) (fun h => h)
          · rename_i hw
            rw [if_neg hw] at h
            exact ⟨fun _ => h.1, wpAnyU_seq hbar hsel hQ ks r _ _ w (downC_set hd hkr) (fun _ => h.1) hl b5 hend h.2⟩

theorem wpSeqU_mono {Y : Array Value → Nat → Option Bool} {F F' : Act → World → Prop} (hF : ∀ a w, F a w → F' a w) : ∀ (l : List (KU × Oper)) (a : Act) (w : World), wpSeqU P Y Q S F l a w → wpSeqU P Y Q S F' l a w
  | [], a, w, h => hF a w h
  | (.r, o) :: r, a, w, ⟨v, hv, h⟩ => ⟨v, hv, wpSeqU_mono hF r _ w h⟩
  | (.p, o) :: r, a, w, ⟨v, hv, h⟩ => ⟨v, hv, wpSeqU_mono hF r _ w h⟩
  | (.l, o) :: r, a, w, h => by
    unfold wpSeqU at h ⊢
    split
    · rename_i hw
      rw [if_pos hw] at h
      exact h.imp (Oper.wp_mono fun a' w' h' => wpSeqU_mono hF r a' w' h') (fun h => h)
    · rename_i hw
      rw [if_neg hw] at h
      exact wpSeqU_mono hF r _ w h
  | (.e, o) :: r, a, w, h => by
    unfold wpSeqU at h ⊢
    split
    · rename_i hw
      rw [if_pos hw] at h
      exact h.imp (Oper.wp_mono fun a' w' h' => ⟨h'.1, wpSeqU_mono hF r a' w' h'.2⟩) (fun h => h)
    · rename_i hw
      rw [if_neg hw] at h
      exact ⟨h.1, wpSeqU_mono hF r _ w h.2⟩

def seqOrderU (ops : Array Oper) (q m n : Nat) (ks : List (KU × Nat)) : Bool :=
  Region.noSelect ops && barrier ops m && decide (m + n = ops.size) && decide (ks.length = m) && seqU ops q m ks (Array.replicate ops.size false) &&
    (Region.ready .any ops (setAll (ks.map Prod.snd) (Array.replicate ops.size false))).all (fun i => decide (m ≤ i)) && forced ops m n (setAll (ks.map Prod.snd) (Array.replicate ops.size false))

theorem wp_region_useq_core {id : Nat} {a : Act} {w : World} (q m n : Nat) (ks : List (KU × Nat)) (l t : List Oper) (ls : List (KU × Oper)) (S : World → Prop) (hm : P.follows .mixedOrders = true) (hops : ops.toList = l ++ t) (hl : l.length = m) (ht : t.length = n)
    (hls : ks.map (fun p => (p.1, ops[p.2]?)) = ls.map (fun p => (p.1, some p.2)))
    (ho : seqOrderU ops q m n ks = true) (hQ : ∀ c a d v w, Q (.panic c) (Act.put a d v) w → Q (.panic c) a w) (hS : S w.drew)
    (h : wpSeqU P (yielded ops) Q S (fun a2 w2 => wpList P ops Q t a2 w2) ls a w.drew) : (Code.region id ops true).wp P Q a w := by
  simp only [seqOrderU, Bool.and_eq_true, decide_eq_true_eq, List.all_eq_true] at ho
  obtain ⟨⟨⟨⟨⟨⟨hsel, hbar⟩, hsz⟩, hlen⟩, hsq⟩, hend⟩, hforce⟩ := ho
  refine wp_region_any hm ?_
  have H := wpAnyU_seq (tail := n) hbar hsel hQ ks ls (Array.replicate ops.size false) a _ (downC_start _) (fun _ => hS) hls hsq hend
    (wpSeqU_mono (fun a2 w2 h2 => wpAny_forced n m _ t ht (fun j => by
      have hj := congrArg (fun x => x[m + j]?) hops
      simp only [Array.getElem?_toList] at hj
      rw [hj, List.getElem?_append_right (by omega), hl, Nat.add_sub_cancel_left]
      split
      · rfl
      · exact List.getElem?_eq_none (by omega)) (by omega) hforce a2 w2 h2) ls a _ h)
  have := wpAny_of_U _ _ _ _ H
  rw [hlen, hsz] at this
  exact this

def phasedU {α : Type} (ph : List (KU × List Bool)) (l : List α) : List (KU × α) := ph.flatMap fun p => (sel p.2 l).map fun o => (p.1, o)

/-- As the core, whatever the post says of a panic; the rest for whatever continuation. q: the operation that ends S, the last one ahead of the tail. -/
theorem wp_region_useq {id : Nat} {a : Act} {w : World} (q m n : Nat) (ph : List (KU × List Bool)) (l t : List Oper) (S : World → Prop) (hm : P.follows .mixedOrders = true) (hops : ops.toList = l ++ t) (hl : l.length = m) (ht : t.length = n)
    (hls : (phasedU ph (List.range m)).map (fun p => (p.1, ops[p.2]?)) = (phasedU ph l).map (fun p => (p.1, some p.2)))
    (ho : seqOrderU ops q m n (phasedU ph (List.range m)) = true) (hS : S w.drew)
    (h : ∀ (Y : Array Value → Nat → Option Bool) (Q' : Exit → Act → World → Prop) (F : Act → World → Prop), (∀ t, Y t = yielded ops t) →
      Shut' (∀ a' w', (∀ (K : Act → World → Prop), Shut' (∀ a w, Q .normal a w → K a w) → wpList P ops (OnlyK K) t a' w') → F a' w') →
      wpSeqU P Y Q' S F (phasedU ph l) a w.drew) : (Code.region id ops true).wp P Q a w :=
  Code.wp_mono (OnlyK.imp (fun _ _ h => h)) (wp_region_useq_core q m n _ l t _ S hm hops hl ht hls ho (fun _ _ _ _ _ h => h) hS
    (h _ (OnlyK fun a w => Q .normal a w) (fun a2 w2 => wpList P ops (OnlyK fun a w => Q .normal a w) t a2 w2) (fun _ => rfl) (fun _ _ h => h (fun a w => Q .normal a w) (fun _ _ h => h))))

variable {Y : Array Value → Nat → Option Bool} {o : Oper} {rest : List (KU × Oper)} {a : Act} {v : Value} {f : FuncId} {args : Array Value} {G : Act → World → Prop} {w w' : World}
theorem wpSeqU_read (hw : Region.wanted o (Y a.tmps) = true) (h : ∀ w, S w → (execOp a.eval o).run P w = .ok (.value v) w) (h2 : wpSeqU P Y Q S G rest (a.put o.dst v) w) : wpSeqU P Y Q S G ((.r, o) :: rest) a w := ⟨v, .inl ⟨hw, h⟩, h2⟩
theorem wpSeqU_pure (hw : Region.wanted o (Y a.tmps) = true) (h : ∀ w : World, (execOp a.eval o).run P w = .ok (.value v) w) (h2 : wpSeqU P Y Q S G rest (a.put o.dst v) w) : wpSeqU P Y Q S G ((.p, o) :: rest) a w := ⟨v, .inl ⟨hw, fun w _ => h w⟩, h2⟩
theorem wpSeqU_value (hw : Region.wanted o (Y a.tmps) = true) (hr : (execOp a.eval o).run P w = .ok (.value v) w') (hS : S w') (h : wpSeqU P Y Q S G rest (a.put o.dst v) w') : wpSeqU P Y Q S G ((.e, o) :: rest) a w := by
  unfold wpSeqU
  rw [if_pos hw]
  exact .inl (by unfold Oper.wp; rw [hr]; exact ⟨hS, h⟩)
theorem wpSeqU_last (hw : Region.wanted o (Y a.tmps) = true) (hr : (execOp a.eval o).run P w = .ok (.value v) w') (h : wpSeqU P Y Q S G rest (a.put o.dst v) w') : wpSeqU P Y Q S G ((.l, o) :: rest) a w := by
  unfold wpSeqU
  rw [if_pos hw]
  exact .inl (by unfold Oper.wp; rw [hr]; exact h)
/-- A store. -/
theorem wpSeqU_last_store (hw : Region.wanted o (Y a.tmps) = true) (hr : (execOp a.eval o).run P w = .ok .skip w') (h : wpSeqU P Y Q S G rest (a.put o.dst undef) w') : wpSeqU P Y Q S G ((.l, o) :: rest) a w := by
  unfold wpSeqU
  rw [if_pos hw]
  exact .inl (by unfold Oper.wp; rw [hr]; exact h)
theorem wpSeqU_store (hw : Region.wanted o (Y a.tmps) = true) (hr : (execOp a.eval o).run P w = .ok .skip w') (hS : S w') (h : wpSeqU P Y Q S G rest (a.put o.dst undef) w') : wpSeqU P Y Q S G ((.e, o) :: rest) a w := by
  unfold wpSeqU
  rw [if_pos hw]
  exact .inl (by unfold Oper.wp; rw [hr]; exact ⟨hS, h⟩)
theorem wpSeqU_call (hw : Region.wanted o (Y a.tmps) = true) (hr : (execOp a.eval o).run P w = .ok (.enter f args) w)
    (h : Calls P f args w fun e w' => ∃ v, e = .returned v ∧ S w' ∧ wpSeqU P Y Q S G rest (a.put o.dst v) w') : wpSeqU P Y Q S G ((.e, o) :: rest) a w := by
  unfold wpSeqU
  rw [if_pos hw]
  refine .inl ?_
  unfold Oper.wp
  rw [hr]
  refine Calls.mono h ?_
  rintro e w' ⟨v, rfl, hS, h⟩
  exact ⟨hS, h⟩
/-- An append to a slice of the call's own. -/
theorem wpSeqU_append (s x : Operand) (t e : TypeId) (size bytes : Nat) (zc : List Value) (base : Nat) (he : Elems P t e size bytes zc)
    (v : Value) (n : Nat) (xs : List Value) (ad : Option Addr) (m cap : Nat) (news : List Value) (hw : Region.wanted o (Y a.tmps) = true)
    (ho : o.op = .call { callee := .builtin .append, args := #[s, x], argTypes := #[t, t] }) (hs : a.eval s = v) (hx : a.eval x = .slice ad m cap)
    (hl : news.length = m * size) (h1 : ∀ u ∈ news, u.oneCell' = true) (h63 : n + m ≤ maxLen) (hbytes : (n + m) * bytes ≤ 140737488355328)
    (hown : w.ownsRow base e size v n xs) (hnews : Rd w ad news) (hbase : base ≤ w.heap.size)
    (h : ∀ a' cap' w', w'.ownsRow base e size (.slice a' (n + m) cap') (n + m) (xs ++ news) → w.grownBy w' v.ownBlock → S w' ∧ wpSeqU P Y Q S G rest (a.put o.dst (.slice a' (n + m) cap')) w') : wpSeqU P Y Q S G ((.e, o) :: rest) a w := by
  obtain ⟨a', cap', w', r1, r2, r3⟩ := op_append_rd (P := P) (w := w) s x t e size bytes zc base he ho v n xs hs hown ad m cap news hx hl hnews h1 h63 hbytes hbase
  obtain ⟨h4, h5⟩ := h a' cap' w' r2 r3
  exact wpSeqU_value hw r1 h4 h5
theorem wpSeqU_done (h : G a w) : wpSeqU P Y Q S G [] a w := h
end
section
variable {P : Program} {ops : Array Oper} {Q : Exit → Act → World → Prop} {S : World → Prop} {Y : Array Value → Nat → Option Bool} {o : Oper} {rest : List (Bool × Oper)} {a : Act} {G : Act → World → Prop} {w w' : World}
/-- A store in a sequence. -/
theorem wpSeq_store (hw : Region.wanted o (Y a.tmps) = true) (hr : (execOp a.eval o).run P w = .ok .skip w') (hS : S w') (h : wpSeq P Y Q S G rest (a.put o.dst undef) w') : wpSeq P Y Q S G ((false, o) :: rest) a w := by
  unfold wpSeq
  rw [if_pos hw]
  exact .inl (by unfold Oper.wp; rw [hr]; exact ⟨hS, h⟩)
end
end Go.Proofs.Ytalidjgniebohaa
