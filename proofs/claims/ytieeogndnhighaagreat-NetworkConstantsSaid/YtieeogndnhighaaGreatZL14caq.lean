/- A part of the proof that ends in L14c (Base15, Base16, Base17, Base19). No condition. -/
import Derived.Below
import Derived.Deep.MidRow
import Derived.Laws.AppendOwnNone
import Derived.Laws.CopyOwn
import Derived.Laws.MakeOwn
import Derived.Laws.OwnMore
import Derived.Lib.Hide
import Derived.LoopIn
import Derived.LoopNIn
import Derived.Maps.AppendAt
import Derived.Orders
import Derived.OrdersHeld
import Derived.OwnWalkIn
import Derived.RangeFuncBound
import Derived.RangeFuncCalls
import Derived.RangeFuncLeaves
import Derived.RangeFuncNested
import Derived.RangeFuncWrites
import Derived.Shelf.Abstract
import Derived.Shelf.RegionOpen
import Derived.StillTail
import Derived.Tactics
import Derived.TacticsInMore
import Derived.WalkKit
import Derived.Test.YtieeogndnhighaaGreatZL14can
set_option linter.unusedSimpArgs false
set_option linter.unusedVariables false
set_option linter.unusedSectionVars false
namespace Go.Proofs.YtieeogndnhighaaGreat
open Go.RowKit Go.Shelf
section
variable {F : Fence} {n : Nat} {P : Program} {α : Type}
/-- Whatever lies at or beyond B lies as it lay. -/
structure SameFrom (B : Nat) (W W' : World) : Prop where
  size : W.heap.size ≤ W'.heap.size
  same : ∀ k, B ≤ k → k < W.heap.size → W'.heap[k]? = W.heap[k]?
theorem SameFrom.at {B : Nat} {W W' : World} (h : SameFrom B W W') (k : Nat) (o : Obj) (hB : B ≤ k) (hk : W.heap[k]? = some o) : W'.heap[k]? = some o :=
  (h.same k hB (Array.getElem?_eq_some_iff.1 hk).1).trans hk
theorem SameFrom.trans {B : Nat} {X Y Z : World} (h : SameFrom B X Y) (k : SameFrom B Y Z) : SameFrom B X Z :=
  ⟨Nat.le_trans h.size k.size, fun i hB hi => (k.same i hB (Nat.lt_of_lt_of_le hi h.size)).trans (h.same i hB hi)⟩
theorem SameFrom.put {B l : Nat} (W : World) (o : Obj) (h : l < B) : SameFrom B W (W.putObj l o) := by
  have hg := grownBy_putObj' W l o
  exact ⟨hg.size, fun k hB hk => hg.block k hk (fun e => by cases e; omega)⟩
theorem SameFrom.refl (B : Nat) (W : World) : SameFrom B W W := ⟨Nat.le_refl _, fun _ _ _ => rfl⟩
theorem SameFrom.setCell {B b i : Nat} (W : World) (v : Value) (h : b < B) : SameFrom B W (W.setCell ⟨b, i, none⟩ v) :=
  ⟨by simp, fun k hB _ => heap_setCell_other W ⟨b, i, none⟩ k v (fun e => by simp at e; omega)⟩
theorem SameFrom.below {B : Nat} {W W' : World} (h : Below W.heap.size W W') : SameFrom B W W' := ⟨h.size, fun k _ hk => h.block k hk⟩
/-- But for one block, what is cells lies as it lay. -/
def KpO (c : Nat) (A B : World) : Prop := A.heap.size ≤ B.heap.size ∧ ∀ (k : Nat) (o : Obj), ¬ k = c → A.heap[k]? = some o → o.isCells = true → B.heap[k]? = some o
theorem KpO.trans {c : Nat} {A B C : World} (h : KpO c A B) (k : KpO c B C) : KpO c A C := ⟨Nat.le_trans h.1 k.1, fun i o hi ha ho => k.2 i o hi (h.2 i o hi ha ho) ho⟩
theorem KpO.refl (c : Nat) (A : World) : KpO c A A := ⟨Nat.le_refl _, fun _ _ _ h _ => h⟩
theorem KpO.put {c l : Nat} {W : World} {o : Obj} (o' : Obj) (hl : W.heap[l]? = some o) (hc : o.isCells = false) : KpO c W (W.putObj l o') := by
  have hg := grownBy_putObj' W l o'
  refine ⟨hg.size, fun k x _ hk hx => ?_⟩
  rw [hg.block k (Array.getElem?_eq_some_iff.1 hk).1 (fun e => by cases e; rw [hl] at hk; cases hk; rw [hc] at hx; cases hx)]
  exact hk
theorem KpO.below {c : Nat} {W W' : World} (hb : Below W.heap.size W W') : KpO c W W' := ⟨hb.size, fun k o _ hk _ => (hb.block k (Array.getElem?_eq_some_iff.1 hk).1).trans hk⟩
theorem KpO.setCell {c i : Nat} (W : World) (v : Value) : KpO c W (W.setCell ⟨c, i, none⟩ v) :=
  ⟨by simp, fun k o hk ho _ => (heap_setCell_other W ⟨c, i, none⟩ k v (fun e => hk (by simp at e; omega))).trans ho⟩
theorem KpO.blk {c : Nat} {W W' : World} (h : KpO c W W') {b : Nat} {cs : List Value} {t : TypeId} (hb : Blk W b cs t) (h1 : ¬ b = c) : Blk W' b cs t := h.2 b _ h1 hb rfl
theorem KpO.cell {c : Nat} {W W' : World} (h : KpO c W W') {p : Addr} {v : Value} (hc : W.cell? p = some v) (h1 : ¬ p.block = c) : W'.cell? p = some v := by
  unfold World.cell? at hc ⊢
  cases ho : W.heap[p.block]? with
  | none => rw [ho] at hc; simp at hc
  | some o =>
    rw [ho] at hc
    have hcc : o.isCells = true := by cases o <;> simp_all [Obj.isCells]
    rw [h.2 _ _ h1 ho hcc]
    exact hc
end
end Go.Proofs.YtieeogndnhighaaGreat
set_option linter.unusedSimpArgs false
set_option linter.unusedVariables false
set_option linter.unusedSectionVars false
namespace Go.Proofs.YtieeogndnhighaaGreat
open Go.RowKit Go.Shelf
section
variable {P : Program} {ops : Array Oper} {Q : Exit → Act → World → Prop} {S : World → Prop}
/-- What an operation waits for, through others too. -/
def anc (ops : Array Oper) : Nat → Nat → List Nat
  | 0, _ => []
  | f + 1, j => match ops[j]? with
    | none => []
    | some o => (o.after.toList.filter fun e => Region.binds .any e).flatMap fun e => e.on :: anc ops f e.on
def downC (ops : Array Oper) (listed : Array Bool) : Prop := ∀ j o, ops[j]? = some o → listed.getD j false = true → ∀ e ∈ o.after, Region.binds .any e = true → listed.getD e.on false = true
theorem anc_listed {listed : Array Bool} (hd : downC ops listed) : ∀ (f j : Nat), (∀ o, ops[j]? = some o → ∀ e ∈ o.after, Region.binds .any e = true → listed.getD e.on false = true) → ∀ i ∈ anc ops f j, listed.getD i false = true
  | 0, j, h, i, hi => by simp [anc] at hi
  | f + 1, j, h, i, hi => by
    unfold anc at hi
    cases ho : ops[j]? with
    | none => simp [ho] at hi
    | some o =>
      simp only [ho, List.mem_flatMap, List.mem_filter, List.mem_cons] at hi
      obtain ⟨e, ⟨he, hb⟩, hi⟩ := hi
      have he' := h o ho e (by simpa using he) hb
      rcases hi with rfl | hi
      · exact he'
      · exact anc_listed hd f e.on (fun o' ho' e' h1 h2 => hd e.on o' ho' he' e' h1 h2) i hi
def barrierT (ops : Array Oper) (m : Nat) : Bool := (List.range ops.size).all fun k => decide (k < m) || (List.range m).all fun j => (anc ops ops.size k).contains j
theorem barrierT_spec {m : Nat} (h : barrierT ops m = true) {k j : Nat} {listed : Array Bool} (hd : downC ops listed) (hk : k ∈ Region.ready .any ops listed) (hkm : m ≤ k) (hj : j < m) : listed.getD j false = true := by
  obtain ⟨_, o, ho, hall⟩ := mem_ready.1 hk
  have hks := (Array.getElem?_eq_some_iff.1 ho).1
  simp only [barrierT, List.all_eq_true, List.mem_range, Bool.or_eq_true, decide_eq_true_eq] at h
  have h1 := (h k hks).resolve_left (by omega) j hj
  exact anc_listed hd _ k (fun o' ho' e h1 h2 => by rw [ho] at ho'; cases ho'; exact hall e h1 h2) j (by simpa using h1)
theorem downC_set {k : Nat} {listed : Array Bool} (hd : downC ops listed) (hk : k ∈ Region.ready .any ops listed) : downC ops (listed.setIfInBounds k true) := fun j o ho hj e he hb => by
  obtain ⟨_, o', ho', hall⟩ := mem_ready.1 hk
  have mono : ∀ x, listed.getD x false = true → (listed.setIfInBounds k true).getD x false = true := fun x hx => by
    by_cases hxk : k = x
    · subst hxk
      rcases Nat.lt_or_ge k listed.size with h | h
      · simp [h]
      · simp [Array.getElem?_eq_none h] at hx
    · rw [getD_set_ne false hxk]; exact hx
  by_cases hjk : k = j
  · subst hjk
    rw [ho'] at ho; cases ho
    exact mono _ (hall e he hb)
  · rw [getD_set_ne false hjk] at hj
    exact mono _ (hd j o ho hj e he hb)
theorem downC_start (n : Nat) : downC ops (Array.replicate n false) := fun j o _ hj => by
  rw [Array.getD_eq_getD_getElem?, Array.getElem?_replicate] at hj
  split at hj <;> simp at hj
def freeM (ops : Array Oper) (m : Nat) (listed : Array Bool) (i : Nat) : Bool :=
  match ops[i]? with
  | none => false
  | some oi => (List.range m).all fun j => j == i || listed.getD j true || match ops[j]? with
      | some oj => oj.after.any (fun e => Region.binds .any e && e.on == i) || oi.apart ops oj
      | none => true
theorem freeM_spec {m i : Nat} {oi : Oper} {listed : Array Bool} (hi : ops[i]? = some oi) (h : freeM ops m listed i = true) (j : Nat) (hjm : j < m) (oj : Oper)
    (hj : ops[j]? = some oj) (hne : j ≠ i) (hun : listed.getD j true = false) (hno : ∀ e ∈ oj.after, Region.binds .any e = true → e.on ≠ i) : oi.apart ops oj = true := by
  simp only [freeM, hi, List.all_eq_true, List.mem_range] at h
  have h1 := h j hjm
  simp only [hj, Bool.or_eq_true, beq_iff_eq, hne, false_or, hun, Bool.false_eq_true] at h1
  rcases h1 with h1 | h1
  · obtain ⟨e, he, hb⟩ := Array.any_eq_true'.1 h1
    simp only [Bool.and_eq_true, beq_iff_eq] at hb
    exact absurd hb.2 (hno e he hb.1)
  · exact h1
/-- (With any end.) Whatever order the operations below m are picked in, S behind each; behind them the rest. -/
def wpAnyX (P : Program) (ops : Array Oper) (Q : Exit → Act → World → Prop) (S : World → Prop) (m : Nat) (X : Array Bool → Act → World → Prop) : Nat → Array Bool → Act → World → Prop
  | 0, listed, a, w => (∀ i ∈ Region.ready .any ops listed, m ≤ i) ∧ X listed a w
  | fuel + 1, listed, a, w => Region.ready .any ops listed ≠ [] ∧ (∀ i ∈ Region.ready .any ops listed, i < m) ∧
    ∀ i ∈ Region.ready .any ops listed, wpOp P ops Q i (fun a' w' => S w' ∧ wpAnyX P ops Q S m X fuel (listed.setIfInBounds i true) a' w') a w
theorem wpAnyX_first {m i : Nat} {X : Array Bool → Act → World → Prop} {oi : Oper} {v : Value} (hbar : barrierT ops m = true) (him : i < m) (hi : ops[i]? = some oi) (hsel : ∀ (j : Nat) (o : Oper) cs b, ops[j]? = some o → o.op ≠ .select cs b)
    (hQ : ∀ c a w, Q (.panic c) (a.put oi.dst v) w → Q (.panic c) a w) :
    ∀ (fuel : Nat) (listed : Array Bool) (a : Act) (w : World),
      downC ops listed → (∀ j oj, j < m → ops[j]? = some oj → j ≠ i → listed.getD j true = false → (∀ e ∈ oj.after, Region.binds .any e = true → e.on ≠ i) → oi.apart ops oj = true) →
      i ∈ Region.ready .any ops listed → YieldsIf P ops S oi v a → S w →
      wpAnyX P ops Q S m X fuel (listed.setIfInBounds i true) (a.put oi.dst v) w → wpAnyX P ops Q S m X (fuel + 1) listed a w := by
  intro fuel
  induction fuel with
  | zero =>
    intro listed a w hd _ hr hy hS H
    have hlt : ∀ j ∈ Region.ready .any ops listed, j < m := fun j hj => by
      rcases Nat.lt_or_ge j m with h | h
      · exact h
      · have h1 := barrierT_spec hbar hd hj h him
        have h0 := (mem_ready.1 hr).1
        rcases Nat.lt_or_ge i listed.size with h' | h'
        · simp [h'] at h0 h1; rw [h0] at h1; cases h1
        · simp [Array.getElem?_eq_none h'] at h1
    refine ⟨fun h => (by rw [h] at hr; cases hr), hlt, fun j hj => ?_⟩
    by_cases hji : j = i
    · subst hji; exact hy.wpOp hi hS ⟨hS, H⟩
    · have h1 := H.1 j (ready_mono hj hji)
      have h2 := hlt j hj
      omega
  | succ fuel ih =>
    intro listed a w hd hfree hr hy hS H
    have hlt : ∀ j ∈ Region.ready .any ops listed, j < m := fun j hj => by
      rcases Nat.lt_or_ge j m with h | h
      · exact h
      · have h1 := barrierT_spec hbar hd hj h him
        have h0 := (mem_ready.1 hr).1
        rcases Nat.lt_or_ge i listed.size with h' | h'
        · simp [h'] at h0 h1; rw [h0] at h1; cases h1
        · simp [Array.getElem?_eq_none h'] at h1
    refine ⟨fun h => (by rw [h] at hr; cases hr), hlt, fun j hj => ?_⟩
    by_cases hji : j = i
    · subst hji; exact hy.wpOp hi hS ⟨hS, H⟩
    · have h1 := H.2.2 j (ready_mono hj hji)
      obtain ⟨hjun, oj, hoj, hall⟩ := mem_ready.1 hj
      have hnot : ∀ e ∈ oj.after, Region.binds .any e = true → e.on ≠ i := fun e he hb heq => by
        have h1 := hall e he hb
        have h0 := (mem_ready.1 hr).1
        rw [heq] at h1
        rcases Nat.lt_or_ge i listed.size with h' | h'
        · simp [h'] at h0 h1; rw [h0] at h1; cases h1
        · simp [Array.getElem?_eq_none h'] at h1
      have h2 := wpOp_putIf hoj (hfree j oj (hlt j hj) hoj hji hjun hnot) (fun cs b => hsel i oi cs b hi) (fun cs b => hsel j oj cs b hoj) hQ hy h1
      have hfree' : ∀ k ok, k < m → ops[k]? = some ok → k ≠ i → (listed.setIfInBounds j true).getD k true = false →
          (∀ e ∈ ok.after, Region.binds .any e = true → e.on ≠ i) → oi.apart ops ok = true := fun k ok hkm hk hki hun hno => by
        refine hfree k ok hkm hk hki ?_ hno
        by_cases hjk : j = k
        · subst hjk; exact hjun
        · rw [getD_set_ne true hjk] at hun; exact hun
      refine wpOp_mono (fun a' w' h3 => ⟨h3.2.1, ih (listed.setIfInBounds j true) a' w' (downC_set hd hj) hfree' (ready_mono hr (Ne.symm hji)) h3.1 h3.2.1 ?_⟩) h2
      rw [Array.setIfInBounds_comm _ _ hji]
      exact h3.2.2
end
end Go.Proofs.YtieeogndnhighaaGreat
set_option linter.unusedSimpArgs false
set_option linter.unusedVariables false
set_option linter.unusedSectionVars false
namespace Go.Proofs.YtieeogndnhighaaGreat
open Go.RowKit
/-- An operation of a sequence: it takes its turn, reads, computes, or is the last. -/
inductive KU where
  | e | r | p | l
section
variable {P : Program} {ops : Array Oper} {Q : Exit → Act → World → Prop} {S : World → Prop}
/-- Some cells hold what is said. -/
def HasC (l : List (Addr × Value)) (w : World) : Prop := Cells w l
/-- As long as the operation q is not listed, S holds. -/
def CU (S : World → Prop) (q : Nat) (L : Array Bool) (w : World) : Prop := L.getD q false = false → S w
theorem CU.set {q i : Nat} {L : Array Bool} {w : World} (h : CU S q L w) (hne : i ≠ q) : CU S q (L.setIfInBounds i true) w := fun hL => h (by rwa [getD_set_ne false hne] at hL)
variable {Y : Array Value → Nat → Option Bool} {o : Oper} {rest : List (KU × Oper)} {a : Act} {v : Value} {f : FuncId} {args : Array Value} {G : Act → World → Prop} {w w' : World}
end
section
variable {P : Program} {ops : Array Oper} {Q : Exit → Act → World → Prop} {S : World → Prop} {Y : Array Value → Nat → Option Bool} {o : Oper} {rest : List (Bool × Oper)} {a : Act} {G : Act → World → Prop} {w w' : World}
end
end Go.Proofs.YtieeogndnhighaaGreat
set_option linter.unusedSimpArgs false
set_option linter.unusedVariables false
set_option linter.unusedSectionVars false
namespace Go.Proofs.YtieeogndnhighaaGreat
open Go.RowKit
inductive Plan (α : Type) where
  | done : Plan α
  | read : α → Plan α → Plan α
  | one : α → Plan α → Plan α
  | two : Plan α → Plan α → Plan α
def Plan.map {α β : Type} (f : α → β) : Plan α → Plan β
  | .done => .done
  | .read k p => .read (f k) (p.map f)
  | .one k p => .one (f k) (p.map f)
  | .two p q => .two (p.map f) (q.map f)
section
variable {P : Program} {ops : Array Oper} {Q : Exit → Act → World → Prop} {S : World → Prop}
def wpPlan (P : Program) (Y : Array Value → Nat → Option Bool) (Q : Exit → Act → World → Prop) (S : World → Prop) (F : Act → World → Prop) : Plan Oper → Act → World → Prop
  | .done, a, w => F a w
  | .read o rest, a, w => ∃ v, ((Region.wanted o (Y a.tmps) = true ∧ ∀ w, S w → (execOp a.eval o).run P w = .ok (.value v) w) ∨ (Region.wanted o (Y a.tmps) = false ∧ v = undef)) ∧ wpPlan P Y Q S F rest (a.put o.dst v) w
  | .one o rest, a, w => if Region.wanted o (Y a.tmps) = true then o.wp P a w (fun a' w' => S w' ∧ wpPlan P Y Q S F rest a' w') Q ∨ (o.asks P a w ∧ LetsOut Q) else S w ∧ wpPlan P Y Q S F rest (a.put o.dst undef) w
  | .two p q, a, w => wpPlan P Y Q S F p a w ∧ wpPlan P Y Q S F q a w
/-- What may come up next, by the plan. -/
def heads : Plan Nat → List Nat
  | .done => []
  | .read _ _ => []
  | .one k _ => [k]
  | .two p q => heads p ++ heads q
def planB (ops : Array Oper) (m n : Nat) : Nat → Plan Nat → Array Bool → Bool
  | f, .done, l => decide (f = 0) && (Region.ready .any ops l).all (fun i => decide (m ≤ i)) && forced ops m n l
  | f, .read k p, l => decide (0 < f) && (Region.ready .any ops l).contains k && freeM ops m l k && decide (k < m) && planB ops m n (f - 1) p (l.setIfInBounds k true)
  | f, .one k p, l => decide (0 < f) && (Region.ready .any ops l).contains k && decide (k < m) && planB ops m n (f - 1) p (l.setIfInBounds k true)
  | f, .two p q, l => planB ops m n f p l && planB ops m n f q l
/-- Wherever effects may come up, all of them are named. -/
def planH (ops : Array Oper) : Bool → Plan Nat → Array Bool → Bool
  | _, .done, _ => true
  | _, .read k p, l => planH ops true p (l.setIfInBounds k true)
  | b, .one k p, l => (!b || (Region.ready .any ops l == [k])) && planH ops true p (l.setIfInBounds k true)
  | b, .two p q, l => (!b || ((Region.ready .any ops l).all (fun i => (heads p ++ heads q).contains i) && !(heads p ++ heads q).isEmpty && (Region.ready .any ops l != []))) && planH ops false p l && planH ops false q l
/-- Whatever comes up first among the plan's heads. -/
theorem plan_head {Y : Array Value → Nat → Option Bool} {F : Act → World → Prop} {m n : Nat} {X : Array Bool → Act → World → Prop} (hbar : barrierT ops m = true) (hsel : Region.noSelect ops = true) (hQ : ∀ c a d v w, Q (.panic c) (Act.put a d v) w → Q (.panic c) a w) (hY : Y = yielded ops)
    (hF : ∀ (listed : Array Bool) (a : Act) (w : World), forced ops m n listed = true → F a w → X listed a w) :
    ∀ (p : Plan Nat) (pl : Plan Oper) (f : Nat) (listed : Array Bool) (a : Act) (w : World), downC ops listed → S w → p.map (fun k => ops[k]?) = pl.map some → planB ops m n f p listed = true →
    (planH ops true p listed = true → wpPlan P Y Q S F pl a w → wpAnyX P ops Q S m X f listed a w) ∧
    (planH ops false p listed = true → wpPlan P Y Q S F pl a w → ∀ i ∈ heads p, ∃ f', f = f' + 1 ∧ i < m ∧ wpOp P ops Q i (fun a' w' => S w' ∧ wpAnyX P ops Q S m X f' (listed.setIfInBounds i true) a' w') a w) := by
  intro p
  induction p with
  | done =>
    intro pl f listed a w hd hS hl hb
    cases pl with
    | done =>
      simp only [planB, Bool.and_eq_true, decide_eq_true_eq, List.all_eq_true] at hb
      obtain ⟨⟨rfl, hend⟩, hforce⟩ := hb
      exact ⟨fun _ h => ⟨hend, hF _ _ _ hforce h⟩, fun _ _ i hi => (by cases hi)⟩
    | _ => simp [Plan.map] at hl
  | read k p ih =>
    intro pl f listed a w hd hS hl hb
    cases pl with
    | read o pl =>
      simp only [Plan.map, Plan.read.injEq] at hl
      obtain ⟨hk, hl⟩ := hl
      simp only [planB, Bool.and_eq_true, decide_eq_true_eq] at hb
      obtain ⟨⟨⟨⟨hf, hrd⟩, hfr⟩, hkm⟩, hb⟩ := hb
      obtain ⟨f', rfl⟩ : ∃ f', f = f' + 1 := ⟨f - 1, by omega⟩
      refine ⟨fun hH h => ?_, fun _ _ i hi => (by cases hi)⟩
      obtain ⟨v, hy, hrest⟩ := h
      rw [hY] at hy
      exact wpAnyX_first hbar hkm hk (Region.noSelect_spec hsel) (fun c a w => hQ c a _ _ w) _ listed a w hd (fun j oj hjm => freeM_spec hk hfr j hjm oj) (by simpa using hrd) hy hS
        ((ih pl f' _ _ w (downC_set hd (by simpa using hrd)) hS hl hb).1 hH hrest)
    | _ => simp [Plan.map] at hl
  | one k p ih =>
    intro pl f listed a w hd hS hl hb
    cases pl with
    | one o pl =>
      simp only [Plan.map, Plan.one.injEq] at hl
      obtain ⟨hk, hl⟩ := hl
      simp only [planB, Bool.and_eq_true, decide_eq_true_eq] at hb
      obtain ⟨⟨⟨hf, hrd⟩, hkm⟩, hb⟩ := hb
      obtain ⟨f', rfl⟩ : ∃ f', f = f' + 1 := ⟨f - 1, by omega⟩
      have key : planH ops true p (listed.setIfInBounds k true) = true → wpPlan P Y Q S F (.one o pl) a w → wpOp P ops Q k (fun a' w' => S w' ∧ wpAnyX P ops Q S m X f' (listed.setIfInBounds k true) a' w') a w := fun hH h => by
        unfold Go.wpOp
        simp only [hk]
        unfold wpPlan at h
        rw [hY] at h
        split
        · rename_i hw
          rw [if_pos hw] at h
          exact h.imp (Oper.wp_mono fun a' w' h' => ⟨h'.1, (ih pl f' _ a' w' (downC_set hd (by simpa using hrd)) h'.1 hl hb).1 hH (by rw [hY]; exact h'.2)⟩) (fun h => h)
        · rename_i hw
          rw [if_neg hw] at h
          exact ⟨h.1, (ih pl f' _ _ w (downC_set hd (by simpa using hrd)) hS hl hb).1 hH (by rw [hY]; exact h.2)⟩
      refine ⟨fun hH h => ?_, fun hH h i hi => ?_⟩
      · simp only [planH, Bool.and_eq_true, Bool.not_true, Bool.false_or, beq_iff_eq] at hH
        refine ⟨by rw [hH.1]; simp, fun i hi => ?_, fun i hi => ?_⟩
        · rw [hH.1, List.mem_singleton] at hi; rw [hi]; exact hkm
        · rw [hH.1, List.mem_singleton] at hi
          subst hi
          exact key hH.2 h
      · simp only [planH, Bool.not_false, Bool.true_or, Bool.true_and] at hH
        rw [heads, List.mem_singleton] at hi
        subst hi
        exact ⟨f', rfl, hkm, key hH h⟩
    | _ => simp [Plan.map] at hl
  | two p q ihp ihq =>
    intro pl f listed a w hd hS hl hb
    cases pl with
    | two pl ql =>
      simp only [Plan.map, Plan.two.injEq] at hl
      simp only [planB, Bool.and_eq_true] at hb
      have key : planH ops false p listed = true → planH ops false q listed = true → wpPlan P Y Q S F (.two pl ql) a w → ∀ i ∈ heads p ++ heads q, ∃ f', f = f' + 1 ∧ i < m ∧ wpOp P ops Q i (fun a' w' => S w' ∧ wpAnyX P ops Q S m X f' (listed.setIfInBounds i true) a' w') a w := fun h1 h2 h i hi => by
        rcases List.mem_append.1 hi with hi | hi
        · exact (ihp pl f listed a w hd hS hl.1 hb.1).2 h1 h.1 i hi
        · exact (ihq ql f listed a w hd hS hl.2 hb.2).2 h2 h.2 i hi
      refine ⟨fun hH h => ?_, fun hH h => ?_⟩
      · simp only [planH, Bool.and_eq_true, Bool.not_true, Bool.false_or, List.all_eq_true, bne_iff_ne] at hH
        obtain ⟨⟨⟨⟨hall, hne⟩, hne2⟩, h1⟩, h2⟩ := hH
        have hk := key h1 h2 h
        obtain ⟨f', rfl⟩ : ∃ f', f = f' + 1 := by
          cases hh : heads p ++ heads q with
          | nil => rw [hh] at hne; simp at hne
          | cons i r => obtain ⟨f', e, _⟩ := hk i (by rw [hh]; simp); exact ⟨f', e⟩
        refine ⟨hne2, fun i hi => ?_, fun i hi => ?_⟩
        · obtain ⟨f'', e, h3, _⟩ := hk i (by simpa using hall i hi)
          exact h3
        · obtain ⟨f'', e, _, h3⟩ := hk i (by simpa using hall i hi)
          obtain rfl : f'' = f' := by omega
          exact h3
      · simp only [planH, Bool.and_eq_true, Bool.not_false, Bool.true_or, true_and] at hH
        exact key hH.1 hH.2 h
    | _ => simp [Plan.map] at hl
def planOrder (ops : Array Oper) (m n : Nat) (p : Plan Nat) : Bool :=
  Region.noSelect ops && barrierT ops m && decide (m + n = ops.size) && planB ops m n m p (Array.replicate ops.size false) && planH ops true p (Array.replicate ops.size false)
theorem wpAny_of_X {m tail : Nat} : ∀ (fuel : Nat) (listed : Array Bool) (a : Act) (w : World), wpAnyX P ops Q S m (fun listed a w => wpAny P .any ops Q tail listed a w) fuel listed a w → wpAny P .any ops Q (fuel + tail) listed a w
  | 0, listed, a, w, h => by rw [Nat.zero_add]; exact h.2
  | fuel + 1, listed, a, w, h => by
    rw [show fuel + 1 + tail = (fuel + tail) + 1 by omega]
    exact ⟨fun h0 => absurd h0 h.1, fun i hi => wpOp_mono (fun a' w' h' => wpAny_of_X fuel _ a' w' h'.2) (h.2.2 i hi)⟩
def o0P : Oper := { dst := none, op := .move (.const undef), type := 0, pos := "", after := #[], guard := none }
theorem wp_region_plan_core {id : Nat} {a : Act} {w : World} (m n : Nat) (p : Plan Nat) (l t : List Oper) (pl : Plan Oper) (S : World → Prop) (hm : P.follows .mixedOrders = true) (hops : ops.toList = l ++ t) (hl : l.length = m) (ht : t.length = n)
    (hls : p.map (fun k => ops[k]?) = pl.map some)
    (ho : planOrder ops m n p = true) (hQ : ∀ c a d v w, Q (.panic c) (Act.put a d v) w → Q (.panic c) a w) (hS : S w.drew)
    (h : wpPlan P (yielded ops) Q S (fun a2 w2 => wpList P ops Q t a2 w2) pl a w.drew) : (Code.region id ops true).wp P Q a w := by
  simp only [planOrder, Bool.and_eq_true, decide_eq_true_eq] at ho
  obtain ⟨⟨⟨⟨hsel, hbar⟩, hsz⟩, hpb⟩, hph⟩ := ho
  refine wp_region_any hm ?_
  have H := (plan_head (X := fun listed a w => wpAny P .any ops Q n listed a w) hbar hsel hQ rfl (fun listed a2 w2 hforce h2 => wpAny_forced n m _ t ht (fun j => by
      have hj := congrArg (fun x => x[m + j]?) hops
      simp only [Array.getElem?_toList] at hj
      rw [hj, List.getElem?_append_right (by omega), hl, Nat.add_sub_cancel_left]
      split
      · rfl
      · exact List.getElem?_eq_none (by omega)) (by omega) hforce a2 w2 h2) p pl m (Array.replicate ops.size false) a _ (downC_start _) hS hls hpb).1 hph h
  have := wpAny_of_X _ _ _ _ H
  rw [hsz] at this
  exact this
/-- As the core, whatever the post says of a panic; the rest for whatever continuation. -/
theorem wp_region_plan {id : Nat} {a : Act} {w : World} (m n : Nat) (p : Plan Nat) (l t : List Oper) (o0 : Oper) (S : World → Prop) (hm : P.follows .mixedOrders = true) (hops : ops.toList = l ++ t) (hl : l.length = m) (ht : t.length = n)
    (hls : p.map (fun k => ops[k]?) = (p.map (fun k => l.getD k o0)).map some)
    (ho : planOrder ops m n p = true) (hS : S w.drew)
    (h : ∀ (Y : Array Value → Nat → Option Bool) (Q' : Exit → Act → World → Prop) (F : Act → World → Prop), (∀ t, Y t = yielded ops t) →
      Shut' (∀ a' w', (∀ (K : Act → World → Prop), Shut' (∀ a w, Q .normal a w → K a w) → wpList P ops (OnlyK K) t a' w') → F a' w') →
      wpPlan P Y Q' S F (p.map (fun k => l.getD k o0)) a w.drew) : (Code.region id ops true).wp P Q a w :=
  Code.wp_mono (OnlyK.imp (fun _ _ h => h)) (wp_region_plan_core m n p l t _ S hm hops hl ht hls ho (fun _ _ _ _ _ h => h) hS
    (h _ (OnlyK fun a w => Q .normal a w) (fun a2 w2 => wpList P ops (OnlyK fun a w => Q .normal a w) t a2 w2) (fun _ => rfl) (fun _ _ h => h (fun a w => Q .normal a w) (fun _ _ h => h))))
variable {Y : Array Value → Nat → Option Bool} {o : Oper} {rest : Plan Oper} {a : Act} {v : Value} {f : FuncId} {args : Array Value} {G : Act → World → Prop} {w w' : World}
theorem wpPlan_read (hw : Region.wanted o (Y a.tmps) = true) (h : ∀ w, S w → (execOp a.eval o).run P w = .ok (.value v) w) (h2 : wpPlan P Y Q S G rest (a.put o.dst v) w) : wpPlan P Y Q S G (.read o rest) a w := ⟨v, .inl ⟨hw, h⟩, h2⟩
theorem wpPlan_value (hw : Region.wanted o (Y a.tmps) = true) (hr : (execOp a.eval o).run P w = .ok (.value v) w') (hS : S w') (h : wpPlan P Y Q S G rest (a.put o.dst v) w') : wpPlan P Y Q S G (.one o rest) a w := by
  unfold wpPlan
  rw [if_pos hw]
  exact .inl (by unfold Oper.wp; rw [hr]; exact ⟨hS, h⟩)
theorem wpPlan_call (hw : Region.wanted o (Y a.tmps) = true) (hr : (execOp a.eval o).run P w = .ok (.enter f args) w)
    (h : Calls P f args w fun e w' => ∃ v, e = .returned v ∧ S w' ∧ wpPlan P Y Q S G rest (a.put o.dst v) w') : wpPlan P Y Q S G (.one o rest) a w := by
  unfold wpPlan
  rw [if_pos hw]
  refine .inl ?_
  unfold Oper.wp
  rw [hr]
  refine Calls.mono h ?_
  rintro e w' ⟨v, rfl, hS, h⟩
  exact ⟨hS, h⟩
theorem wpPlan_done (h : G a w) : wpPlan P Y Q S G .done a w := h
theorem wpPlan_two {p q : Plan Oper} (h1 : wpPlan P Y Q S G p a w) (h2 : wpPlan P Y Q S G q a w) : wpPlan P Y Q S G (.two p q) a w := ⟨h1, h2⟩
end
end Go.Proofs.YtieeogndnhighaaGreat
