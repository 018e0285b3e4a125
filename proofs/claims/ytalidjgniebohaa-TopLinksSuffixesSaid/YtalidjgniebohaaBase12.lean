/- General lemmas for this seat's walks: a region whose order is open, in which operations that only read (each taken as soon as it may come up) and operations that follow one another alternate, and a forced tail ends it. No condition. -/
import Derived.Test.YtalidjgniebohaaBase11
set_option linter.unusedSimpArgs false
set_option linter.unusedVariables false
set_option linter.unusedSectionVars false
namespace Go.Proofs.Ytalidjgniebohaa
open Go.RowKit

section
variable {P : Program} {ops : Array Oper} {Q : Exit → Act → World → Prop} {S : World → Prop}

/-- One after another; those marked only read. -/
def wpSeq (P : Program) (Y : Array Value → Nat → Option Bool) (Q : Exit → Act → World → Prop) (S : World → Prop) (F : Act → World → Prop) : List (Bool × Oper) → Act → World → Prop
  | [], a, w => F a w
  | (true, o) :: rest, a, w => ∃ v, ((Region.wanted o (Y a.tmps) = true ∧ ∀ w, S w → (execOp a.eval o).run P w = .ok (.value v) w) ∨ (Region.wanted o (Y a.tmps) = false ∧ v = undef)) ∧ wpSeq P Y Q S F rest (a.put o.dst v) w
  | (false, o) :: rest, a, w => if Region.wanted o (Y a.tmps) = true then o.wp P a w (fun a' w' => S w' ∧ wpSeq P Y Q S F rest a' w') Q ∨ (o.asks P a w ∧ LetsOut Q) else S w ∧ wpSeq P Y Q S F rest (a.put o.dst undef) w

def seqB (ops : Array Oper) (m : Nat) : List (Bool × Nat) → Array Bool → Bool
  | [], _ => true
  | (true, k) :: r, l => (Region.ready .any ops l).contains k && Region.free .any ops l k && decide (k < m) && seqB ops m r (l.setIfInBounds k true)
  | (false, k) :: r, l => (Region.ready .any ops l == [k]) && decide (k < m) && seqB ops m r (l.setIfInBounds k true)

theorem wpAnyT_seq {m tail : Nat} (hbar : barrier ops m = true) (hsel : Region.noSelect ops = true) (hQ : ∀ c a d v w, Q (.panic c) (Act.put a d v) w → Q (.panic c) a w) :
    ∀ (ks : List (Bool × Nat)) (ls : List (Bool × Oper)) (listed : Array Bool) (a : Act) (w : World), S w → ks.map (fun p => (p.1, ops[p.2]?)) = ls.map (fun p => (p.1, some p.2)) → seqB ops m ks listed = true →
    (∀ i ∈ Region.ready .any ops (setAll (ks.map Prod.snd) listed), m ≤ i) →
    wpSeq P (yielded ops) Q S (fun a' w' => wpAny P .any ops Q tail (setAll (ks.map Prod.snd) listed) a' w') ls a w → wpAnyT P ops Q S m tail ks.length listed a w
  | [], ls, listed, a, w, hS, hl, _, hend, h => by
    cases ls with
    | nil => exact ⟨hend, h⟩
    | cons o r => simp at hl
  | (true, k) :: ks, ls, listed, a, w, hS, hl, hb, hend, h => by
    cases ls with
    | nil => simp at hl
    | cons p r =>
      obtain ⟨b, o⟩ := p
      simp only [List.map_cons, List.cons.injEq, Prod.mk.injEq] at hl
      obtain ⟨⟨rfl, hk⟩, hl⟩ := hl
      simp only [seqB, Bool.and_eq_true, decide_eq_true_eq] at hb
      obtain ⟨v, hy, hrest⟩ := h
      exact wpAnyT_first hbar hb.1.2 hk (Region.noSelect_spec hsel) (fun c a w => hQ c a _ _ w) _ listed a w (Region.free_spec hk hb.1.1.2) (by simpa using hb.1.1.1) hy hS
        (wpAnyT_seq hbar hsel hQ ks r _ _ w hS hl hb.2 hend hrest)
  | (false, k) :: ks, ls, listed, a, w, hS, hl, hb, hend, h => by
    cases ls with
    | nil => simp at hl
    | cons p r =>
      obtain ⟨b, o⟩ := p
      simp only [List.map_cons, List.cons.injEq, Prod.mk.injEq] at hl
      obtain ⟨⟨rfl, hk⟩, hl⟩ := hl
      simp only [seqB, Bool.and_eq_true, beq_iff_eq, decide_eq_true_eq] at hb
      refine ⟨by rw [hb.1.1]; simp, fun i hi => ?_, fun i hi => ?_⟩
      · rw [hb.1.1, List.mem_singleton] at hi; rw [hi]; exact hb.1.2
      · rw [hb.1.1, List.mem_singleton] at hi
        subst hi
        unfold Go.wpOp
        simp only [hk]
        unfold wpSeq at h
        split
        · rename_i hw
          rw [if_pos hw] at h
          exact h.imp (Oper.wp_mono fun a' w' h' => ⟨h'.1, wpAnyT_seq hbar hsel hQ ks r _ a' w' h'.1 hl hb.2 hend h'.2⟩) (fun h => h)
        · rename_i hw
          rw [if_neg hw] at h
          exact ⟨h.1, wpAnyT_seq hbar hsel hQ ks r _ _ w hS hl hb.2 hend h.2⟩

theorem wpSeq_mono {Y : Array Value → Nat → Option Bool} {F F' : Act → World → Prop} (hF : ∀ a w, F a w → F' a w) : ∀ (l : List (Bool × Oper)) (a : Act) (w : World), wpSeq P Y Q S F l a w → wpSeq P Y Q S F' l a w
  | [], a, w, h => hF a w h
  | (true, o) :: r, a, w, ⟨v, hv, h⟩ => ⟨v, hv, wpSeq_mono hF r _ w h⟩
  | (false, o) :: r, a, w, h => by
    unfold wpSeq at h ⊢
    split
    · rename_i hw
      rw [if_pos hw] at h
      exact h.imp (Oper.wp_mono fun a' w' h' => ⟨h'.1, wpSeq_mono hF r a' w' h'.2⟩) (fun h => h)
    · rename_i hw
      rw [if_neg hw] at h
      exact ⟨h.1, wpSeq_mono hF r _ w h.2⟩

def seqOrder (ops : Array Oper) (m n : Nat) (ks : List (Bool × Nat)) : Bool :=
  Region.noSelect ops && barrier ops m && decide (m + n = ops.size) && decide (ks.length = m) && seqB ops m ks (Array.replicate ops.size false) &&
    (Region.ready .any ops (setAll (ks.map Prod.snd) (Array.replicate ops.size false))).all (fun i => decide (m ≤ i)) && forced ops m n (setAll (ks.map Prod.snd) (Array.replicate ops.size false))

theorem wp_region_seq_core {id : Nat} {a : Act} {w : World} (m n : Nat) (ks : List (Bool × Nat)) (l t : List Oper) (ls : List (Bool × Oper)) (S : World → Prop) (hm : P.follows .mixedOrders = true) (hops : ops.toList = l ++ t) (hl : l.length = m) (ht : t.length = n)
    (hls : ks.map (fun p => (p.1, ops[p.2]?)) = ls.map (fun p => (p.1, some p.2)))
    (ho : seqOrder ops m n ks = true) (hQ : ∀ c a d v w, Q (.panic c) (Act.put a d v) w → Q (.panic c) a w) (hS : S w.drew)
    (h : wpSeq P (yielded ops) Q S (fun a2 w2 => wpList P ops Q t a2 w2) ls a w.drew) : (Code.region id ops true).wp P Q a w := by
  simp only [seqOrder, Bool.and_eq_true, decide_eq_true_eq, List.all_eq_true] at ho
  obtain ⟨⟨⟨⟨⟨⟨hsel, hbar⟩, hsz⟩, hlen⟩, hsq⟩, hend⟩, hforce⟩ := ho
  refine wp_region_any hm ?_
  have H := wpAnyT_seq (tail := n) hbar hsel hQ ks ls (Array.replicate ops.size false) a _ hS hls hsq hend
    (wpSeq_mono (fun a2 w2 h2 => wpAny_forced n m _ t ht (fun j => by
      have hj := congrArg (fun x => x[m + j]?) hops
      simp only [Array.getElem?_toList] at hj
      rw [hj, List.getElem?_append_right (by omega), hl, Nat.add_sub_cancel_left]
      split
      · rfl
      · exact List.getElem?_eq_none (by omega)) (by omega) hforce a2 w2 h2) ls a _ h)
  have := wpAny_of_T _ _ _ _ H
  rw [hlen, hsz] at this
  exact this

def phased {α : Type} (ph : List (Bool × List Bool)) (l : List α) : List (Bool × α) := ph.flatMap fun p => (sel p.2 l).map fun o => (p.1, o)

/-- As the core, whatever the post says of a panic; the rest for whatever continuation. ph: the order, in phases (true: they only read), each as a mask of the first m operations. -/
theorem wp_region_seq {id : Nat} {a : Act} {w : World} (m n : Nat) (ph : List (Bool × List Bool)) (l t : List Oper) (S : World → Prop) (hm : P.follows .mixedOrders = true) (hops : ops.toList = l ++ t) (hl : l.length = m) (ht : t.length = n)
    (hls : (phased ph (List.range m)).map (fun p => (p.1, ops[p.2]?)) = (phased ph l).map (fun p => (p.1, some p.2)))
    (ho : seqOrder ops m n (phased ph (List.range m)) = true) (hS : S w.drew)
    (h : ∀ (Y : Array Value → Nat → Option Bool) (Q' : Exit → Act → World → Prop) (F : Act → World → Prop), (∀ t, Y t = yielded ops t) →
      Shut' (∀ a' w', (∀ (K : Act → World → Prop), Shut' (∀ a w, Q .normal a w → K a w) → wpList P ops (OnlyK K) t a' w') → F a' w') →
      wpSeq P Y Q' S F (phased ph l) a w.drew) : (Code.region id ops true).wp P Q a w :=
  Code.wp_mono (OnlyK.imp (fun _ _ h => h)) (wp_region_seq_core m n _ l t _ S hm hops hl ht hls ho (fun _ _ _ _ _ h => h) hS
    (h _ (OnlyK fun a w => Q .normal a w) (fun a2 w2 => wpList P ops (OnlyK fun a w => Q .normal a w) t a2 w2) (fun _ => rfl) (fun _ _ h => h (fun a w => Q .normal a w) (fun _ _ h => h))))

variable {Y : Array Value → Nat → Option Bool} {o : Oper} {rest : List (Bool × Oper)} {a : Act} {v : Value} {f : FuncId} {args : Array Value} {F : Act → Prop} {G : Act → World → Prop} {w w' : World}
theorem wpSeq_read (hw : Region.wanted o (Y a.tmps) = true) (h : ∀ w, S w → (execOp a.eval o).run P w = .ok (.value v) w) (h2 : wpSeq P Y Q S G rest (a.put o.dst v) w) : wpSeq P Y Q S G ((true, o) :: rest) a w := ⟨v, .inl ⟨hw, h⟩, h2⟩
theorem wpSeq_unread (hw : Region.wanted o (Y a.tmps) = false) (h2 : wpSeq P Y Q S G rest (a.put o.dst undef) w) : wpSeq P Y Q S G ((true, o) :: rest) a w := ⟨undef, .inr ⟨hw, rfl⟩, h2⟩
theorem wpSeq_value (hw : Region.wanted o (Y a.tmps) = true) (hr : (execOp a.eval o).run P w = .ok (.value v) w') (hS : S w') (h : wpSeq P Y Q S G rest (a.put o.dst v) w') : wpSeq P Y Q S G ((false, o) :: rest) a w := by
  unfold wpSeq
  rw [if_pos hw]
  exact .inl (by unfold Oper.wp; rw [hr]; exact ⟨hS, h⟩)
theorem wpSeq_skip (hw : Region.wanted o (Y a.tmps) = false) (hS : S w) (h : wpSeq P Y Q S G rest (a.put o.dst undef) w) : wpSeq P Y Q S G ((false, o) :: rest) a w := by
  unfold wpSeq
  rw [if_neg (by rw [hw]; simp)]
  exact ⟨hS, h⟩
theorem wpSeq_call (hw : Region.wanted o (Y a.tmps) = true) (hr : (execOp a.eval o).run P w = .ok (.enter f args) w)
    (h : Calls P f args w fun e w' => ∃ v, e = .returned v ∧ S w' ∧ wpSeq P Y Q S G rest (a.put o.dst v) w') : wpSeq P Y Q S G ((false, o) :: rest) a w := by
  unfold wpSeq
  rw [if_pos hw]
  refine .inl ?_
  unfold Oper.wp
  rw [hr]
  refine Calls.mono h ?_
  rintro e w' ⟨v, rfl, hS, h⟩
  exact ⟨hS, h⟩
theorem wpSeq_done (h : G a w) : wpSeq P Y Q S G [] a w := h
/-- An append to a slice of the call's own. -/
theorem wpSeq_append (s x : Operand) (t e : TypeId) (size bytes : Nat) (zc : List Value) (base : Nat) (he : Elems P t e size bytes zc)
    (v : Value) (n : Nat) (xs : List Value) (ad : Option Addr) (m cap : Nat) (news : List Value) (hw : Region.wanted o (Y a.tmps) = true)
    (ho : o.op = .call { callee := .builtin .append, args := #[s, x], argTypes := #[t, t] }) (hs : a.eval s = v) (hx : a.eval x = .slice ad m cap)
    (hl : news.length = m * size) (h1 : ∀ u ∈ news, u.oneCell' = true) (h63 : n + m ≤ maxLen) (hbytes : (n + m) * bytes ≤ 140737488355328)
    (hown : w.ownsRow base e size v n xs) (hnews : Rd w ad news) (hbase : base ≤ w.heap.size)
    (h : ∀ a' cap' w', w'.ownsRow base e size (.slice a' (n + m) cap') (n + m) (xs ++ news) → w.grownBy w' v.ownBlock → S w' ∧ wpSeq P Y Q S G rest (a.put o.dst (.slice a' (n + m) cap')) w') : wpSeq P Y Q S G ((false, o) :: rest) a w := by
  obtain ⟨a', cap', w', r1, r2, r3⟩ := op_append_rd (P := P) (w := w) s x t e size bytes zc base he ho v n xs hs hown ad m cap news hx hl hnews h1 h63 hbytes hbase
  obtain ⟨h4, h5⟩ := h a' cap' w' r2 r3
  exact wpSeq_value hw r1 h4 h5
end
end Go.Proofs.Ytalidjgniebohaa
