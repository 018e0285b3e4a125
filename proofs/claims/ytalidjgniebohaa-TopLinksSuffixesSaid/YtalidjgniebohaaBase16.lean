/- General lemmas for this seat's walks: in a round, a region whose order is open, whose forced tail may go on with the enclosing loop. No condition. -/
import Derived.Test.YtalidjgniebohaaBase15
set_option linter.unusedSimpArgs false
set_option linter.unusedVariables false
set_option linter.unusedSectionVars false
namespace Go.Proofs.Ytalidjgniebohaa
open Go.RowKit Go.Shelf

section
variable {P : Program} {ops : Array Oper} {Q : Exit → Act → World → Prop} {S : World → Prop}

/-- What an operation waits for, through others too. -/
def anc (ops : Array Oper) : Nat → Nat → List Nat
  | 0, _ => []
  | f + 1, j => match ops[j]? with
    | none => []
    | some o => (o.after.toList.filter fun e => Region.binds .any e).flatMap fun e => e.on :: anc ops f e.on
def downC (ops : Array Oper) (listed : Array Bool) : Prop := ∀ j o, ops[j]? = some o → listed.getD j false = true → ∀ e ∈ o.after, Region.binds .any e = true → listed.getD e.on false = true
theorem anc_listed {listed : Array Bool} (hd : downC ops listed) : ∀ (f j : Nat), (∀ o, ops[j]? = some o → ∀ e ∈ o.after, Region.binds .any e = true → listed.getD e.on false = true) → ∀ i ∈ anc ops f j, listed.getD i false = true
  | 0, j, h, i, hi => by simp [anc] at hi
  | f + 1, j, h, i, hi => by
    unfold anc at hi
    cases ho : ops[j]? with
    | none => simp [ho] at hi
    | some o =>
      simp only [ho, List.mem_flatMap, List.mem_filter, List.mem_cons] at hi
      obtain ⟨e, ⟨he, hb⟩, hi⟩ := hi
      have he' := h o ho e (by simpa using he) hb
      rcases hi with rfl | hi
      · exact he'
      · exact anc_listed hd f e.on (fun o' ho' e' h1 h2 => hd e.on o' ho' he' e' h1 h2) i hi
def barrierT (ops : Array Oper) (m : Nat) : Bool := (List.range ops.size).all fun k => decide (k < m) || (List.range m).all fun j => (anc ops ops.size k).contains j
theorem barrierT_spec {m : Nat} (h : barrierT ops m = true) {k j : Nat} {listed : Array Bool} (hd : downC ops listed) (hk : k ∈ Region.ready .any ops listed) (hkm : m ≤ k) (hj : j < m) : listed.getD j false = true := by
  obtain ⟨_, o, ho, hall⟩ := mem_ready.1 hk
  have hks := (Array.getElem?_eq_some_iff.1 ho).1
  simp only [barrierT, List.all_eq_true, List.mem_range, Bool.or_eq_true, decide_eq_true_eq] at h
  have h1 := (h k hks).resolve_left (by omega) j hj
  exact anc_listed hd _ k (fun o' ho' e h1 h2 => by rw [ho] at ho'; cases ho'; exact hall e h1 h2) j (by simpa using h1)
theorem downC_set {k : Nat} {listed : Array Bool} (hd : downC ops listed) (hk : k ∈ Region.ready .any ops listed) : downC ops (listed.setIfInBounds k true) := fun j o ho hj e he hb => by
  obtain ⟨_, o', ho', hall⟩ := mem_ready.1 hk
  have mono : ∀ x, listed.getD x false = true → (listed.setIfInBounds k true).getD x false = true := fun x hx => by
    by_cases hxk : k = x
    · subst hxk
      rcases Nat.lt_or_ge k listed.size with h | h
      · simp [h]
      · simp [Array.getElem?_eq_none h] at hx
    · rw [getD_set_ne false hxk]; exact hx
  by_cases hjk : k = j
  · subst hjk
    rw [ho'] at ho; cases ho
    exact mono _ (hall e he hb)
  · rw [getD_set_ne false hjk] at hj
    exact mono _ (hd j o ho hj e he hb)
theorem downC_start (n : Nat) : downC ops (Array.replicate n false) := fun j o _ hj => by
  rw [Array.getD_eq_getD_getElem?, Array.getElem?_replicate] at hj
  split at hj <;> simp at hj
def freeM (ops : Array Oper) (m : Nat) (listed : Array Bool) (i : Nat) : Bool :=
  match ops[i]? with
  | none => false
  | some oi => (List.range m).all fun j => j == i || listed.getD j true || match ops[j]? with
      | some oj => oj.after.any (fun e => Region.binds .any e && e.on == i) || oi.apart ops oj
      | none => true
theorem freeM_spec {m i : Nat} {oi : Oper} {listed : Array Bool} (hi : ops[i]? = some oi) (h : freeM ops m listed i = true) (j : Nat) (hjm : j < m) (oj : Oper)
    (hj : ops[j]? = some oj) (hne : j ≠ i) (hun : listed.getD j true = false) (hno : ∀ e ∈ oj.after, Region.binds .any e = true → e.on ≠ i) : oi.apart ops oj = true := by
  simp only [freeM, hi, List.all_eq_true, List.mem_range] at h
  have h1 := h j hjm
  simp only [hj, Bool.or_eq_true, beq_iff_eq, hne, false_or, hun, Bool.false_eq_true] at h1
  rcases h1 with h1 | h1
  · obtain ⟨e, he, hb⟩ := Array.any_eq_true'.1 h1
    simp only [Bool.and_eq_true, beq_iff_eq] at hb
    exact absurd hb.2 (hno e he hb.1)
  · exact h1
def seqX (ops : Array Oper) (m : Nat) : List (Bool × Nat) → Array Bool → Bool
  | [], _ => true
  | (true, k) :: r, l => (Region.ready .any ops l).contains k && freeM ops m l k && decide (k < m) && seqX ops m r (l.setIfInBounds k true)
  | (false, k) :: r, l => (Region.ready .any ops l == [k]) && decide (k < m) && seqX ops m r (l.setIfInBounds k true)
def seqOrderX (ops : Array Oper) (m n : Nat) (ks : List (Bool × Nat)) : Bool :=
  Region.noSelect ops && barrierT ops m && decide (m + n = ops.size) && decide (ks.length = m) && seqX ops m ks (Array.replicate ops.size false) &&
    (Region.ready .any ops (setAll (ks.map Prod.snd) (Array.replicate ops.size false))).all (fun i => decide (m ≤ i)) && forced ops m n (setAll (ks.map Prod.snd) (Array.replicate ops.size false))

/-- (With any end.) Whatever order the operations below m are picked in, S behind each; behind them the rest. -/
def wpAnyX (P : Program) (ops : Array Oper) (Q : Exit → Act → World → Prop) (S : World → Prop) (m : Nat) (X : Array Bool → Act → World → Prop) : Nat → Array Bool → Act → World → Prop
  | 0, listed, a, w => (∀ i ∈ Region.ready .any ops listed, m ≤ i) ∧ X listed a w
  | fuel + 1, listed, a, w => Region.ready .any ops listed ≠ [] ∧ (∀ i ∈ Region.ready .any ops listed, i < m) ∧
    ∀ i ∈ Region.ready .any ops listed, wpOp P ops Q i (fun a' w' => S w' ∧ wpAnyX P ops Q S m X fuel (listed.setIfInBounds i true) a' w') a w

theorem wpAnyX_first {m i : Nat} {X : Array Bool → Act → World → Prop} {oi : Oper} {v : Value} (hbar : barrierT ops m = true) (him : i < m) (hi : ops[i]? = some oi) (hsel : ∀ (j : Nat) (o : Oper) cs b, ops[j]? = some o → o.op ≠ .select cs b)
    (hQ : ∀ c a w, Q (.panic c) (a.put oi.dst v) w → Q (.panic c) a w) :
    ∀ (fuel : Nat) (listed : Array Bool) (a : Act) (w : World),
      downC ops listed → (∀ j oj, j < m → ops[j]? = some oj → j ≠ i → listed.getD j true = false → (∀ e ∈ oj.after, Region.binds .any e = true → e.on ≠ i) → oi.apart ops oj = true) →
      i ∈ Region.ready .any ops listed → YieldsIf P ops S oi v a → S w →
      wpAnyX P ops Q S m X fuel (listed.setIfInBounds i true) (a.put oi.dst v) w → wpAnyX P ops Q S m X (fuel + 1) listed a w := by
  intro fuel
  induction fuel with
  | zero =>
    intro listed a w hd _ hr hy hS H
    have hlt : ∀ j ∈ Region.ready .any ops listed, j < m := fun j hj => by
      rcases Nat.lt_or_ge j m with h | h
      · exact h
      · have h1 := barrierT_spec hbar hd hj h him
        have h0 := (mem_ready.1 hr).1
        rcases Nat.lt_or_ge i listed.size with h' | h'
        · simp [h'] at h0 h1; rw [h0] at h1; cases h1
        · simp [Array.getElem?_eq_none h'] at h1
    refine ⟨fun h => (by rw [h] at hr; cases hr), hlt, fun j hj => ?_⟩
    by_cases hji : j = i
    · subst hji; exact hy.wpOp hi hS ⟨hS, H⟩
    · have h1 := H.1 j (ready_mono hj hji)
      have h2 := hlt j hj
      omega
  | succ fuel ih =>
    intro listed a w hd hfree hr hy hS H
    have hlt : ∀ j ∈ Region.ready .any ops listed, j < m := fun j hj => by
      rcases Nat.lt_or_ge j m with h | h
      · exact h
      · have h1 := barrierT_spec hbar hd hj h him
        have h0 := (mem_ready.1 hr).1
        rcases Nat.lt_or_ge i listed.size with h' | h'
        · simp [h'] at h0 h1; rw [h0] at h1; cases h1
        · simp [Array.getElem?_eq_none h'] at h1
    refine ⟨fun h => (by rw [h] at hr; cases hr), hlt, fun j hj => ?_⟩
    by_cases hji : j = i
    · subst hji; exact hy.wpOp hi hS ⟨hS, H⟩
    · have h1 := H.2.2 j (ready_mono hj hji)
      obtain ⟨hjun, oj, hoj, hall⟩ := mem_ready.1 hj
      have hnot : ∀ e ∈ oj.after, Region.binds .any e = true → e.on ≠ i := fun e he hb heq => by
        have h1 := hall e he hb
        have h0 := (mem_ready.1 hr).1
        rw [heq] at h1
        rcases Nat.lt_or_ge i listed.size with h' | h'
        · simp [h'] at h0 h1; rw [h0] at h1; cases h1
        · simp [Array.getElem?_eq_none h'] at h1
      have h2 := wpOp_putIf hoj (hfree j oj (hlt j hj) hoj hji hjun hnot) (fun cs b => hsel i oi cs b hi) (fun cs b => hsel j oj cs b hoj) hQ hy h1
      have hfree' : ∀ k ok, k < m → ops[k]? = some ok → k ≠ i → (listed.setIfInBounds j true).getD k true = false →
          (∀ e ∈ ok.after, Region.binds .any e = true → e.on ≠ i) → oi.apart ops ok = true := fun k ok hkm hk hki hun hno => by
        refine hfree k ok hkm hk hki ?_ hno
        by_cases hjk : j = k
        · subst hjk; exact hjun
        · rw [getD_set_ne true hjk] at hun; exact hun
      refine wpOp_mono (fun a' w' h3 => ⟨h3.2.1, ih (listed.setIfInBounds j true) a' w' (downC_set hd hj) hfree' (ready_mono hr (Ne.symm hji)) h3.1 h3.2.1 ?_⟩) h2
      rw [Array.setIfInBounds_comm _ _ hji]
      exact h3.2.2

theorem wpAnyX_seq {m : Nat} {X : Array Bool → Act → World → Prop} (hbar : barrierT ops m = true) (hsel : Region.noSelect ops = true) (hQ : ∀ c a d v w, Q (.panic c) (Act.put a d v) w → Q (.panic c) a w) :
    ∀ (ks : List (Bool × Nat)) (ls : List (Bool × Oper)) (listed : Array Bool) (a : Act) (w : World), downC ops listed → S w → ks.map (fun p => (p.1, ops[p.2]?)) = ls.map (fun p => (p.1, some p.2)) → seqX ops m ks listed = true →
    (∀ i ∈ Region.ready .any ops (setAll (ks.map Prod.snd) listed), m ≤ i) →
    wpSeq P (yielded ops) Q S (fun a' w' => X (setAll (ks.map Prod.snd) listed) a' w') ls a w → wpAnyX P ops Q S m X ks.length listed a w
  | [], ls, listed, a, w, hd, hS, hl, _, hend, h => by
    cases ls with
    | nil => exact ⟨hend, h⟩
    | cons o r => simp at hl
  | (true, k) :: ks, ls, listed, a, w, hd, hS, hl, hb, hend, h => by
    cases ls with
    | nil => simp at hl
    | cons p r =>
      obtain ⟨b, o⟩ := p
      simp only [List.map_cons, List.cons.injEq, Prod.mk.injEq] at hl
      obtain ⟨⟨rfl, hk⟩, hl⟩ := hl
      simp only [seqX, Bool.and_eq_true, decide_eq_true_eq] at hb
      obtain ⟨v, hy, hrest⟩ := h
      exact wpAnyX_first hbar hb.1.2 hk (Region.noSelect_spec hsel) (fun c a w => hQ c a _ _ w) _ listed a w hd (fun j oj hjm => freeM_spec hk hb.1.1.2 j hjm oj) (by simpa using hb.1.1.1) hy hS
        (wpAnyX_seq hbar hsel hQ ks r _ _ w (downC_set hd (by simpa using hb.1.1.1)) hS hl hb.2 hend hrest)
  | (false, k) :: ks, ls, listed, a, w, hd, hS, hl, hb, hend, h => by
    cases ls with
    | nil => simp at hl
    | cons p r =>
      obtain ⟨b, o⟩ := p
      simp only [List.map_cons, List.cons.injEq, Prod.mk.injEq] at hl
      obtain ⟨⟨rfl, hk⟩, hl⟩ := hl
      simp only [seqX, Bool.and_eq_true, beq_iff_eq, decide_eq_true_eq] at hb
      refine ⟨by rw [hb.1.1]; simp, fun i hi => ?_, fun i hi => ?_⟩
      · rw [hb.1.1, List.mem_singleton] at hi; rw [hi]; exact hb.1.2
      · rw [hb.1.1, List.mem_singleton] at hi
        subst hi
        unfold Go.wpOp
        simp only [hk]
        unfold wpSeq at h
        split
        · rename_i hw
          rw [if_pos hw] at h
          exact h.imp (Oper.wp_mono fun a' w' h' => ⟨h'.1, wpAnyX_seq hbar hsel hQ ks r _ a' w' (downC_set hd (by rw [hb.1.1]; simp)) h'.1 hl hb.2 hend h'.2⟩) (fun h => h)
        · rename_i hw
          rw [if_neg hw] at h
          exact ⟨h.1, wpAnyX_seq hbar hsel hQ ks r _ _ w (downC_set hd (by rw [hb.1.1]; simp)) hS hl hb.2 hend h.2⟩

theorem wpAnyIn_of_X {n l m tail : Nat} (hnd : noDefer ops = true) (hQ : ¬ LetsOut Q) : ∀ (fuel : Nat) (listed : Array Bool) (a : Act) (w : World),
    wpAnyX P ops Q S m (fun listed a w => wpAnyIn (Fence.wide.inRound l) n P .any ops Q tail listed a w) fuel listed a w → wpAnyIn (Fence.wide.inRound l) n P .any ops Q (fuel + tail) listed a w
  | 0, listed, a, w, h => by rw [Nat.zero_add]; exact h.2
  | fuel + 1, listed, a, w, h => by
    rw [show fuel + 1 + tail = (fuel + tail) + 1 by omega]
    refine ⟨fun h0 => absurd h0 h.1, fun i hi => ?_⟩
    have hi' := h.2.2 i hi
    unfold Go.wpOp at hi'
    unfold wpOpIn
    cases ho : ops[i]? with
    | none =>
      simp only [ho] at hi' ⊢
      exact wpAnyIn_of_X hnd hQ fuel _ _ _ hi'.2
    | some o =>
      simp only [ho] at hi' ⊢
      split
      · rename_i hw
        rw [if_pos hw] at hi'
        rcases hi' with hi' | ⟨_, hl⟩
        · exact wpOper_round (noDefer_at hnd ho) (fun a w h => wpAnyIn_of_X hnd hQ fuel _ a w h.2) hi'
        · exact absurd hl hQ
      · rename_i hw
        rw [if_neg hw] at hi'
        exact ⟨fun _ _ => trivial, wpAnyIn_of_X hnd hQ fuel _ _ _ hi'.2⟩

theorem wpAnyIn_forced {F : Fence} {nn : Nat} : ∀ (n k : Nat) (listed : Array Bool) (l : List Oper), l.length = n → (∀ j, l[j]? = if j < n then ops[k + j]? else none) → k + n ≤ ops.size →
    forced ops k n listed = true → ∀ (a : Act) (w : World), wpListIn F nn P ops Q l a w → wpAnyIn F nn P .any ops Q n listed a w
  | 0, k, listed, l, hl, hop, hsz, hf, a, w, h => by
    have : l = [] := List.length_eq_zero_iff.1 hl
    subst this
    simp only [forced, List.isEmpty_iff] at hf
    exact ⟨hf, h⟩
  | n + 1, k, listed, l, hl, hop, hsz, hf, a, w, h => by
    cases l with
    | nil => simp at hl
    | cons o rest =>
      simp only [forced, Bool.and_eq_true, beq_iff_eq] at hf
      have ho : ops[k]? = some o := by simpa using (hop 0).symm
      have hrest := wpAnyIn_forced (F := F) (nn := nn) n (k + 1) (listed.setIfInBounds k true) rest (by simpa using hl)
        (fun j => by
          have h1 := hop (j + 1)
          simp only [List.getElem?_cons_succ, Nat.add_lt_add_iff_right] at h1
          rw [h1, show k + (j + 1) = k + 1 + j by omega]) (by omega) hf.2
      refine ⟨(fun h0 => by rw [hf.1] at h0; cases h0), fun i hi => ?_⟩
      rw [hf.1, List.mem_singleton] at hi
      subst hi
      unfold wpOpIn
      simp only [ho]
      unfold wpListIn at h
      split
      · rename_i hw
        rw [if_pos hw] at h
        exact Oper.wpIn_mono (fun a' w' => hrest a' w') h
      · rename_i hw
        rw [if_neg hw] at h
        exact ⟨h.1, hrest _ _ h.2⟩

theorem wpX_region_seq {n l id : Nat} {a : Act} {w : World} (m k : Nat) (ph : List (Bool × List Bool)) (r t : List Oper) (S : World → Prop) (hm : P.follows .mixedOrders = true) (hops : ops.toList = r ++ t) (hl : r.length = m) (ht : t.length = k)
    (hls : (phased ph (List.range m)).map (fun p => (p.1, ops[p.2]?)) = (phased ph r).map (fun p => (p.1, some p.2)))
    (ho : (seqOrderX ops m k (phased ph (List.range m)) && noDefer ops) = true) (hS : S w.drew)
    (h : ∀ (Y : Array Value → Nat → Option Bool) (Q' : Exit → Act → World → Prop) (F : Act → World → Prop), (∀ t, Y t = yielded ops t) →
      Shut' (∀ a' w', (∀ (K : Act → World → Prop), Shut' (∀ a w, Q .normal a w → K a w) → wpListIn (Fence.wide.inRound l) n P ops (OnlyK K) t a' w') → F a' w') →
      wpSeq P Y Q' S F (phased ph r) a w.drew) : (Code.region id ops true).wpIn (Fence.wide.inRound l) n P Q a w := by
  simp only [Bool.and_eq_true] at ho
  refine wpIn_mono (Q := OnlyK fun a w => Q .normal a w) ?_ (OnlyK.imp (fun _ _ h => h))
  refine wpIn_region_any hm ?_
  have ho1 := ho.1
  simp only [seqOrderX, Bool.and_eq_true, decide_eq_true_eq, List.all_eq_true] at ho1
  obtain ⟨⟨⟨⟨⟨⟨hsel, hbar⟩, hsz⟩, hlen⟩, hsq⟩, hend⟩, hforce⟩ := ho1
  have H := wpAnyX_seq (P := P) (Q := OnlyK fun a w => Q .normal a w) (S := S) (X := fun listed a w => wpAnyIn (Fence.wide.inRound l) n P .any ops (OnlyK fun a w => Q .normal a w) k listed a w) hbar hsel (fun _ _ _ _ _ h => h) (phased ph (List.range m)) (phased ph r) (Array.replicate ops.size false) a _ (downC_start _) hS hls hsq hend
    (wpSeq_mono (fun a2 w2 h2 => wpAnyIn_forced k m _ t ht (fun j => by
      have hj := congrArg (fun x => x[m + j]?) hops
      simp only [Array.getElem?_toList] at hj
      rw [hj, List.getElem?_append_right (by omega), hl, Nat.add_sub_cancel_left]
      split
      · rfl
      · exact List.getElem?_eq_none (by omega)) (by omega) hforce a2 w2 h2) (phased ph r) a _
      (h _ (OnlyK fun a w => Q .normal a w) (fun a2 w2 => wpListIn (Fence.wide.inRound l) n P ops (OnlyK fun a w => Q .normal a w) t a2 w2) (fun _ => rfl) (fun _ _ h => h (fun a w => Q .normal a w) (fun _ _ h => h))))
  have := wpAnyIn_of_X ho.2 onlyK_in _ _ _ _ H
  rw [hlen, hsz] at this
  exact this
end
end Go.Proofs.Ytalidjgniebohaa
