/- General lemmas for this seat's walks: a region whose order is open, in which some operations only read (each may be taken first), the others follow one another, and a forced tail ends it. No condition. -/
import Derived.Test.YtalidjgniebohaaBase10
import Derived.OrdersHeld
set_option linter.unusedSimpArgs false
set_option linter.unusedVariables false
set_option linter.unusedSectionVars false
namespace Go.Proofs.Ytalidjgniebohaa
open Go.RowKit

section
variable {P : Program} {ops : Array Oper} {Q : Exit → Act → World → Prop} {S : World → Prop}

/-- Whatever order the operations below m are picked in, S behind each; behind them the rest. -/
def wpAnyT (P : Program) (ops : Array Oper) (Q : Exit → Act → World → Prop) (S : World → Prop) (m tail : Nat) : Nat → Array Bool → Act → World → Prop
  | 0, listed, a, w => (∀ i ∈ Region.ready .any ops listed, m ≤ i) ∧ wpAny P .any ops Q tail listed a w
  | fuel + 1, listed, a, w => Region.ready .any ops listed ≠ [] ∧ (∀ i ∈ Region.ready .any ops listed, i < m) ∧
    ∀ i ∈ Region.ready .any ops listed, wpOp P ops Q i (fun a' w' => S w' ∧ wpAnyT P ops Q S m tail fuel (listed.setIfInBounds i true) a' w') a w

theorem wpAny_of_T {m tail : Nat} : ∀ (fuel : Nat) (listed : Array Bool) (a : Act) (w : World), wpAnyT P ops Q S m tail fuel listed a w → wpAny P .any ops Q (fuel + tail) listed a w
  | 0, listed, a, w, h => by rw [Nat.zero_add]; exact h.2
  | fuel + 1, listed, a, w, h => by
    rw [show fuel + 1 + tail = (fuel + tail) + 1 by omega]
    exact ⟨fun h0 => absurd h0 h.1, fun i hi => wpOp_mono (fun a' w' h' => wpAny_of_T fuel _ a' w' h'.2) (h.2.2 i hi)⟩

theorem wpAnyT_first {m tail i : Nat} {oi : Oper} {v : Value} (hbar : barrier ops m = true) (him : i < m) (hi : ops[i]? = some oi) (hsel : ∀ (j : Nat) (o : Oper) cs b, ops[j]? = some o → o.op ≠ .select cs b)
    (hQ : ∀ c a w, Q (.panic c) (a.put oi.dst v) w → Q (.panic c) a w) :
    ∀ (fuel : Nat) (listed : Array Bool) (a : Act) (w : World),
      (∀ j oj, ops[j]? = some oj → j ≠ i → listed.getD j true = false → (∀ e ∈ oj.after, Region.binds .any e = true → e.on ≠ i) → oi.apart ops oj = true) →
      i ∈ Region.ready .any ops listed → YieldsIf P ops S oi v a → S w →
      wpAnyT P ops Q S m tail fuel (listed.setIfInBounds i true) (a.put oi.dst v) w → wpAnyT P ops Q S m tail (fuel + 1) listed a w := by
  intro fuel
  induction fuel with
  | zero =>
    intro listed a w _ hr hy hS H
    have hlt : ∀ j ∈ Region.ready .any ops listed, j < m := fun j hj => by
      rcases Nat.lt_or_ge j m with h | h
      · exact h
      · have h1 := barrier_spec hbar hj h him
        have h0 := (mem_ready.1 hr).1
        rcases Nat.lt_or_ge i listed.size with h' | h'
        · simp [h'] at h0 h1; rw [h0] at h1; cases h1
        · simp [Array.getElem?_eq_none h'] at h1
    refine ⟨fun h => (by rw [h] at hr; cases hr), hlt, fun j hj => ?_⟩
    by_cases hji : j = i
    · subst hji; exact hy.wpOp hi hS ⟨hS, H⟩
    · have h1 := H.1 j (ready_mono hj hji)
      have h2 := hlt j hj
      omega
  | succ fuel ih =>
    intro listed a w hfree hr hy hS H
    have hlt : ∀ j ∈ Region.ready .any ops listed, j < m := fun j hj => by
      rcases Nat.lt_or_ge j m with h | h
      · exact h
      · have h1 := barrier_spec hbar hj h him
        have h0 := (mem_ready.1 hr).1
        rcases Nat.lt_or_ge i listed.size with h' | h'
        · simp [h'] at h0 h1; rw [h0] at h1; cases h1
        · simp [Array.getElem?_eq_none h'] at h1
    refine ⟨fun h => (by rw [h] at hr; cases hr), hlt, fun j hj => ?_⟩
    by_cases hji : j = i
    · subst hji; exact hy.wpOp hi hS ⟨hS, H⟩
    · have h1 := H.2.2 j (ready_mono hj hji)
      obtain ⟨hjun, oj, hoj, hall⟩ := mem_ready.1 hj
      have hnot : ∀ e ∈ oj.after, Region.binds .any e = true → e.on ≠ i := fun e he hb heq => by
        have h1 := hall e he hb
        have h0 := (mem_ready.1 hr).1
        rw [heq] at h1
        rcases Nat.lt_or_ge i listed.size with h' | h'
        · simp [h'] at h0 h1; rw [h0] at h1; cases h1
        · simp [Array.getElem?_eq_none h'] at h1
      have h2 := wpOp_putIf hoj (hfree j oj hoj hji hjun hnot) (fun cs b => hsel i oi cs b hi) (fun cs b => hsel j oj cs b hoj) hQ hy h1
      have hfree' : ∀ k ok, ops[k]? = some ok → k ≠ i → (listed.setIfInBounds j true).getD k true = false →
          (∀ e ∈ ok.after, Region.binds .any e = true → e.on ≠ i) → oi.apart ops ok = true := fun k ok hk hki hun hno => by
        refine hfree k ok hk hki ?_ hno
        by_cases hjk : j = k
        · subst hjk; exact hjun
        · rw [getD_set_ne true hjk] at hun; exact hun
      refine wpOp_mono (fun a' w' h3 => ⟨h3.2.1, ih (listed.setIfInBounds j true) a' w' hfree' (ready_mono hr (Ne.symm hji)) h3.1 h3.2.1 ?_⟩) h2
      rw [Array.setIfInBounds_comm _ _ hji]
      exact h3.2.2

/-- The reading operations, in the text's order, each in every world that keeps S. -/
def wpReads (P : Program) (Y : Array Value → Nat → Option Bool) (S : World → Prop) (F : Act → Prop) : List Oper → Act → Prop
  | [], a => F a
  | o :: rest, a => ∃ v, ((Region.wanted o (Y a.tmps) = true ∧ ∀ w, S w → (execOp a.eval o).run P w = .ok (.value v) w) ∨ (Region.wanted o (Y a.tmps) = false ∧ v = undef)) ∧ wpReads P Y S F rest (a.put o.dst v)
/-- The others, one after another, S behind each. -/
def wpChain (P : Program) (Y : Array Value → Nat → Option Bool) (Q : Exit → Act → World → Prop) (S : World → Prop) (F : Act → World → Prop) : List Oper → Act → World → Prop
  | [], a, w => F a w
  | o :: rest, a, w => if Region.wanted o (Y a.tmps) = true then o.wp P a w (fun a' w' => S w' ∧ wpChain P Y Q S F rest a' w') Q ∨ (o.asks P a w ∧ LetsOut Q) else S w ∧ wpChain P Y Q S F rest (a.put o.dst undef) w

def setAll : List Nat → Array Bool → Array Bool
  | [], l => l
  | k :: r, l => setAll r (l.setIfInBounds k true)
def takesB (ops : Array Oper) (m : Nat) : List Nat → Array Bool → Bool
  | [], _ => true
  | k :: r, l => (Region.ready .any ops l).contains k && Region.free .any ops l k && decide (k < m) && takesB ops m r (l.setIfInBounds k true)
def chainsB (ops : Array Oper) (m : Nat) : List Nat → Array Bool → Bool
  | [], _ => true
  | k :: r, l => (Region.ready .any ops l == [k]) && decide (k < m) && chainsB ops m r (l.setIfInBounds k true)

theorem wpAnyT_takes {m tail fuel : Nat} (hbar : barrier ops m = true) (hsel : Region.noSelect ops = true) (hQ : ∀ c a d v w, Q (.panic c) (Act.put a d v) w → Q (.panic c) a w) {w : World} (hS : S w) :
    ∀ (st : List Nat) (ls : List Oper) (listed : Array Bool) (a : Act), st.map (fun k => ops[k]?) = ls.map some → takesB ops m st listed = true →
    wpReads P (yielded ops) S (fun a' => wpAnyT P ops Q S m tail fuel (setAll st listed) a' w) ls a → wpAnyT P ops Q S m tail (st.length + fuel) listed a w
  | [], ls, listed, a, hl, _, h => by
    cases ls with
    | nil => simpa [wpReads, setAll] using h
    | cons o r => simp at hl
  | k :: st, ls, listed, a, hl, ht, h => by
    cases ls with
    | nil => simp at hl
    | cons o r =>
      simp only [List.map_cons, List.cons.injEq] at hl
      simp only [takesB, Bool.and_eq_true, decide_eq_true_eq] at ht
      obtain ⟨v, hy, hrest⟩ := h
      rw [show (k :: st).length + fuel = (st.length + fuel) + 1 by simp; omega]
      exact wpAnyT_first hbar ht.1.2 hl.1 (Region.noSelect_spec hsel) (fun c a w => hQ c a _ _ w) _ listed a w (Region.free_spec hl.1 ht.1.1.2) (by simpa using ht.1.1.1) hy hS
        (wpAnyT_takes hbar hsel hQ hS st r _ _ hl.2 ht.2 hrest)

theorem wpAnyT_chains {m tail : Nat} : ∀ (ch : List Nat) (lc : List Oper) (listed : Array Bool) (a : Act) (w : World), ch.map (fun k => ops[k]?) = lc.map some → chainsB ops m ch listed = true →
    (∀ i ∈ Region.ready .any ops (setAll ch listed), m ≤ i) →
    wpChain P (yielded ops) Q S (fun a' w' => wpAny P .any ops Q tail (setAll ch listed) a' w') lc a w → wpAnyT P ops Q S m tail ch.length listed a w
  | [], lc, listed, a, w, hl, _, hend, h => by
    cases lc with
    | nil => exact ⟨hend, h⟩
    | cons o r => simp at hl
  | k :: ch, lc, listed, a, w, hl, hc, hend, h => by
    cases lc with
    | nil => simp at hl
    | cons o r =>
      simp only [List.map_cons, List.cons.injEq] at hl
      simp only [chainsB, Bool.and_eq_true, beq_iff_eq, decide_eq_true_eq] at hc
      refine ⟨by rw [hc.1.1]; simp, fun i hi => ?_, fun i hi => ?_⟩
      · rw [hc.1.1, List.mem_singleton] at hi; rw [hi]; exact hc.1.2
      · rw [hc.1.1, List.mem_singleton] at hi
        subst hi
        unfold Go.wpOp
        simp only [hl.1]
        unfold wpChain at h
        split
        · rename_i hw
          rw [if_pos hw] at h
          exact h.imp (Oper.wp_mono fun a' w' h' => ⟨h'.1, wpAnyT_chains ch r _ a' w' hl.2 hc.2 hend h'.2⟩) id
        · rename_i hw
          rw [if_neg hw] at h
          exact ⟨h.1, wpAnyT_chains ch r _ _ w hl.2 hc.2 hend h.2⟩

/-- All that is asked of the region's edges: m operations, of which st only read and ch follow one another, then n in a forced order. -/
def chainOrder (ops : Array Oper) (m n : Nat) (st ch : List Nat) : Bool :=
  Region.noSelect ops && barrier ops m && decide (m + n = ops.size) && decide (st.length + ch.length = m) && takesB ops m st (Array.replicate ops.size false) && chainsB ops m ch (setAll st (Array.replicate ops.size false)) &&
    (Region.ready .any ops (setAll ch (setAll st (Array.replicate ops.size false)))).all (fun i => decide (m ≤ i)) && forced ops m n (setAll ch (setAll st (Array.replicate ops.size false)))

theorem wp_region_chain_core {id : Nat} {a : Act} {w : World} (m n : Nat) (st ch : List Nat) (l t ls lc : List Oper) (S : World → Prop) (hm : P.follows .mixedOrders = true) (hops : ops.toList = l ++ t) (hl : l.length = m) (ht : t.length = n)
    (hls : st.map (fun k => ops[k]?) = ls.map some) (hlc : ch.map (fun k => ops[k]?) = lc.map some)
    (ho : chainOrder ops m n st ch = true) (hQ : ∀ c a d v w, Q (.panic c) (Act.put a d v) w → Q (.panic c) a w) (hS : S w.drew)
    (h : wpReads P (yielded ops) S (fun a' => wpChain P (yielded ops) Q S (fun a2 w2 => wpList P ops Q t a2 w2) lc a' w.drew) ls a) : (Code.region id ops true).wp P Q a w := by
  simp only [chainOrder, Bool.and_eq_true, decide_eq_true_eq, List.all_eq_true] at ho
  obtain ⟨⟨⟨⟨⟨⟨⟨hsel, hbar⟩, hsz⟩, hlen⟩, htk⟩, hch⟩, hend⟩, hforce⟩ := ho
  refine wp_region_any hm ?_
  have hgen : ∀ (K K' : Act → World → Prop), (∀ a w, K a w → K' a w) → ∀ (lc : List Oper) (a : Act) (w : World), wpChain P (yielded ops) Q S K lc a w → wpChain P (yielded ops) Q S K' lc a w := by
    intro K K' hK lc
    induction lc with
    | nil => exact fun a w h => hK a w h
    | cons o r ih =>
      intro a w h
      unfold wpChain at h ⊢
      split
      · rename_i hw
        rw [if_pos hw] at h
        exact h.imp (Oper.wp_mono fun a' w' h' => ⟨h'.1, ih a' w' h'.2⟩) (fun h => h)
      · rename_i hw
        rw [if_neg hw] at h
        exact ⟨h.1, ih _ _ h.2⟩
  have hgen2 : ∀ (K K' : Act → Prop), (∀ a, K a → K' a) → ∀ (ls : List Oper) (a : Act), wpReads P (yielded ops) S K ls a → wpReads P (yielded ops) S K' ls a := by
    intro K K' hK ls
    induction ls with
    | nil => exact fun a h => hK a h
    | cons o r ih =>
      intro a h
      obtain ⟨v, hv, h⟩ := h
      exact ⟨v, hv, ih _ h⟩
  have H := wpAnyT_takes (tail := n) (fuel := ch.length) hbar hsel hQ hS st ls (Array.replicate ops.size false) a hls htk
    (hgen2 _ _ (fun a' h' => wpAnyT_chains ch lc _ a' _ hlc hch hend (hgen _ _ (fun a2 w2 h2 => wpAny_forced n m _ t ht (fun j => by
      have hj := congrArg (fun x => x[m + j]?) hops
      simp only [Array.getElem?_toList] at hj
      rw [hj, List.getElem?_append_right (by omega), hl, Nat.add_sub_cancel_left]
      split
      · rfl
      · exact List.getElem?_eq_none (by omega)) (by omega) hforce a2 w2 h2) lc a' _ h')) ls a h)
  have := wpAny_of_T _ _ _ _ H
  rw [hlen, hsz] at this
  exact this

def sel {α : Type} : List Bool → List α → List α
  | true :: m, x :: xs => x :: sel m xs
  | false :: m, _ :: xs => sel m xs
  | _, _ => []
theorem sel_true {α : Type} (m : List Bool) (x : α) (xs : List α) : sel (true :: m) (x :: xs) = x :: sel m xs := rfl
theorem sel_false {α : Type} (m : List Bool) (x : α) (xs : List α) : sel (false :: m) (x :: xs) = sel m xs := rfl
theorem sel_nil {α : Type} (xs : List α) : sel [] xs = [] := by cases xs <;> rfl
/-- As the core, whatever the post says of a panic; the rest for whatever continuation. mask: which of the first m operations only read. -/
theorem wp_region_chain {id : Nat} {a : Act} {w : World} (m n : Nat) (mask nask : List Bool) (l t : List Oper) (S : World → Prop) (hm : P.follows .mixedOrders = true) (hops : ops.toList = l ++ t) (hl : l.length = m) (ht : t.length = n)
    (hls : (sel mask (List.range m)).map (fun k => ops[k]?) = (sel mask l).map some) (hlc : (sel nask (List.range m)).map (fun k => ops[k]?) = (sel nask l).map some)
    (ho : chainOrder ops m n (sel mask (List.range m)) (sel nask (List.range m)) = true) (hS : S w.drew)
    (h : ∀ (Y : Array Value → Nat → Option Bool) (Q' : Exit → Act → World → Prop) (F : Act → World → Prop), (∀ t, Y t = yielded ops t) →
      Shut' (∀ a' w', (∀ (K : Act → World → Prop), Shut' (∀ a w, Q .normal a w → K a w) → wpList P ops (OnlyK K) t a' w') → F a' w') →
      wpReads P Y S (fun a' => wpChain P Y Q' S F (sel nask l) a' w.drew) (sel mask l) a) : (Code.region id ops true).wp P Q a w :=
  Code.wp_mono (OnlyK.imp (fun _ _ h => h)) (wp_region_chain_core m n _ _ l t _ _ S hm hops hl ht hls hlc ho (fun _ _ _ _ _ h => h) hS
    (h _ (OnlyK fun a w => Q .normal a w) (fun a2 w2 => wpList P ops (OnlyK fun a w => Q .normal a w) t a2 w2) (fun _ => rfl) (fun _ _ h => h (fun a w => Q .normal a w) (fun _ _ h => h))))

variable {Y : Array Value → Nat → Option Bool} {o : Oper} {rest : List Oper} {a : Act} {v : Value} {f : FuncId} {args : Array Value} {F : Act → Prop} {G : Act → World → Prop} {w w' : World}
theorem wpReads_value (hw : Region.wanted o (Y a.tmps) = true) (h : ∀ w, S w → (execOp a.eval o).run P w = .ok (.value v) w) (h2 : wpReads P Y S F rest (a.put o.dst v)) : wpReads P Y S F (o :: rest) a := ⟨v, .inl ⟨hw, h⟩, h2⟩
theorem wpReads_skip (hw : Region.wanted o (Y a.tmps) = false) (h2 : wpReads P Y S F rest (a.put o.dst undef)) : wpReads P Y S F (o :: rest) a := ⟨undef, .inr ⟨hw, rfl⟩, h2⟩
theorem wpReads_done (h : F a) : wpReads P Y S F [] a := h
theorem wpChain_value (hw : Region.wanted o (Y a.tmps) = true) (hr : (execOp a.eval o).run P w = .ok (.value v) w') (hS : S w') (h : wpChain P Y Q S G rest (a.put o.dst v) w') : wpChain P Y Q S G (o :: rest) a w := by
  unfold wpChain
  rw [if_pos hw]
  exact .inl (by unfold Oper.wp; rw [hr]; exact ⟨hS, h⟩)
theorem wpChain_skip (hw : Region.wanted o (Y a.tmps) = false) (hS : S w) (h : wpChain P Y Q S G rest (a.put o.dst undef) w) : wpChain P Y Q S G (o :: rest) a w := by
  unfold wpChain
  rw [if_neg (by rw [hw]; simp)]
  exact ⟨hS, h⟩
theorem wpChain_call (hw : Region.wanted o (Y a.tmps) = true) (hr : (execOp a.eval o).run P w = .ok (.enter f args) w)
    (h : Calls P f args w fun e w' => ∃ v, e = .returned v ∧ S w' ∧ wpChain P Y Q S G rest (a.put o.dst v) w') : wpChain P Y Q S G (o :: rest) a w := by
  unfold wpChain
  rw [if_pos hw]
  refine .inl ?_
  unfold Oper.wp
  rw [hr]
  refine Calls.mono h ?_
  rintro e w' ⟨v, rfl, hS, h⟩
  exact ⟨hS, h⟩
theorem wpChain_done (h : G a w) : wpChain P Y Q S G [] a w := h
/-- An append to a slice of the call's own. -/
theorem wpChain_append (s x : Operand) (t e : TypeId) (size bytes : Nat) (zc : List Value) (base : Nat) (he : Elems P t e size bytes zc)
    (v : Value) (n : Nat) (xs : List Value) (ad : Option Addr) (m cap : Nat) (news : List Value) (hw : Region.wanted o (Y a.tmps) = true)
    (ho : o.op = .call { callee := .builtin .append, args := #[s, x], argTypes := #[t, t] }) (hs : a.eval s = v) (hx : a.eval x = .slice ad m cap)
    (hl : news.length = m * size) (h1 : ∀ u ∈ news, u.oneCell' = true) (h63 : n + m ≤ maxLen) (hbytes : (n + m) * bytes ≤ 140737488355328)
    (hown : w.ownsRow base e size v n xs) (hnews : Rd w ad news) (hbase : base ≤ w.heap.size)
    (h : ∀ a' cap' w', w'.ownsRow base e size (.slice a' (n + m) cap') (n + m) (xs ++ news) → w.grownBy w' v.ownBlock → S w' ∧ wpChain P Y Q S G rest (a.put o.dst (.slice a' (n + m) cap')) w') : wpChain P Y Q S G (o :: rest) a w := by
  obtain ⟨a', cap', w', r1, r2, r3⟩ := op_append_rd (P := P) (w := w) s x t e size bytes zc base he ho v n xs hs hown ad m cap news hx hl hnews h1 h63 hbytes hbase
  obtain ⟨h4, h5⟩ := h a' cap' w' r2 r3
  exact wpChain_value hw r1 h4 h5
end
end Go.Proofs.Ytalidjgniebohaa
