/- A range over an iterator that itself ranges over another one: the contract of such an iterator and the law of the loop over it. No condition. -/
import Derived.Test.YtalidjgniebohaaBase14
import Derived.RangeFuncWrites
set_option linter.unusedSimpArgs false
set_option linter.unusedVariables false
set_option linter.unusedSectionVars false
namespace Go.Proofs.Ytalidjgniebohaa
open Go.RowKit Go.Shelf

section
variable {F : Fence} {n : Nat} {P : Program} {α : Type}

/-- Whatever lies at or beyond B lies as it lay. -/
structure SameFrom (B : Nat) (W W' : World) : Prop where
  size : W.heap.size ≤ W'.heap.size
  same : ∀ k, B ≤ k → k < W.heap.size → W'.heap[k]? = W.heap[k]?
theorem SameFrom.at {B : Nat} {W W' : World} (h : SameFrom B W W') (k : Nat) (o : Obj) (hB : B ≤ k) (hk : W.heap[k]? = some o) : W'.heap[k]? = some o :=
  (h.same k hB (Array.getElem?_eq_some_iff.1 hk).1).trans hk
theorem SameFrom.trans {B : Nat} {X Y Z : World} (h : SameFrom B X Y) (k : SameFrom B Y Z) : SameFrom B X Z :=
  ⟨Nat.le_trans h.size k.size, fun i hB hi => (k.same i hB (Nat.lt_of_lt_of_le hi h.size)).trans (h.same i hB hi)⟩
theorem SameFrom.up {B B' : Nat} {W W' : World} (h : SameFrom B W W') (hb : B ≤ B') : SameFrom B' W W' := ⟨h.size, fun k hk => h.same k (by omega)⟩
theorem SameFrom.put {B l : Nat} (W : World) (o : Obj) (h : l < B) : SameFrom B W (W.putObj l o) := by
  have hg := grownBy_putObj' W l o
  exact ⟨hg.size, fun k hB hk => hg.block k hk (fun e => by cases e; omega)⟩
theorem SameFrom.keeps {B : Nat} {W W' : World} (h : SameFrom B W W') : KeepsFrom B W W' := ⟨h.size, fun k o hB hk _ => h.at k o hB hk⟩
theorem SameFrom.refl (B : Nat) (W : World) : SameFrom B W W := ⟨Nat.le_refl _, fun _ _ _ => rfl⟩
theorem SameFrom.setCell {B b i : Nat} (W : World) (v : Value) (h : b < B) : SameFrom B W (W.setCell ⟨b, i, none⟩ v) :=
  ⟨by simp, fun k hB _ => heap_setCell_other W ⟨b, i, none⟩ k v (fun e => by simp at e; omega)⟩
theorem SameFrom.below {B : Nat} {W W' : World} (h : Below W.heap.size W W') : SameFrom B W W' := ⟨h.size, fun k _ hk => h.block k hk⟩

/-- But for one block, what is cells lies as it lay. -/
def KpO (c : Nat) (A B : World) : Prop := A.heap.size ≤ B.heap.size ∧ ∀ (k : Nat) (o : Obj), ¬ k = c → A.heap[k]? = some o → o.isCells = true → B.heap[k]? = some o
theorem KpO.trans {c : Nat} {A B C : World} (h : KpO c A B) (k : KpO c B C) : KpO c A C := ⟨Nat.le_trans h.1 k.1, fun i o hi ha ho => k.2 i o hi (h.2 i o hi ha ho) ho⟩
theorem KpO.refl (c : Nat) (A : World) : KpO c A A := ⟨Nat.le_refl _, fun _ _ _ h _ => h⟩
theorem KpO.put {c l : Nat} {W : World} {o : Obj} (o' : Obj) (hl : W.heap[l]? = some o) (hc : o.isCells = false) : KpO c W (W.putObj l o') := by
  have hg := grownBy_putObj' W l o'
  refine ⟨hg.size, fun k x _ hk hx => ?_⟩
  rw [hg.block k (Array.getElem?_eq_some_iff.1 hk).1 (fun e => by cases e; rw [hl] at hk; cases hk; rw [hc] at hx; cases hx)]
  exact hk
theorem KpO.below {c : Nat} {W W' : World} (hb : Below W.heap.size W W') : KpO c W W' := ⟨hb.size, fun k o _ hk _ => (hb.block k (Array.getElem?_eq_some_iff.1 hk).1).trans hk⟩
theorem KpO.setCell {c i : Nat} (W : World) (v : Value) : KpO c W (W.setCell ⟨c, i, none⟩ v) :=
  ⟨by simp, fun k o hk ho _ => (heap_setCell_other W ⟨c, i, none⟩ k v (fun e => hk (by simp at e; omega))).trans ho⟩
theorem KpO.blk {c : Nat} {W W' : World} (h : KpO c W W') {b : Nat} {cs : List Value} {t : TypeId} (hb : Blk W b cs t) (h1 : ¬ b = c) : Blk W' b cs t := h.2 b _ h1 hb rfl
theorem KpO.cell {c : Nat} {W W' : World} (h : KpO c W W') {p : Addr} {v : Value} (hc : W.cell? p = some v) (h1 : ¬ p.block = c) : W'.cell? p = some v := by
  unfold World.cell? at hc ⊢
  cases ho : W.heap[p.block]? with
  | none => rw [ho] at hc; simp at hc
  | some o =>
    rw [ho] at hc
    have hcc : o.isCells = true := by cases o <;> simp_all [Obj.isCells]
    rw [h.2 _ _ h1 ho hcc]
    exact hc
theorem Rd.kpo {w w' : World} {c : Nat} {a : Option Addr} {vals : List Value} (h : Rd w a vals) (hk : KpO c w w') (hb : ∀ b o, a = some ⟨b, o, none⟩ → vals ≠ [] → ¬ b = c) : Rd w' a vals := fun hne => by
  obtain ⟨b, o, rfl, hcs⟩ := h hne
  exact ⟨b, o, rfl, fun j v hv => hk.cell (hcs j v hv) (hb b o rfl hne)⟩

/-- The contract of an iterator that lays loops of its own: a round leaves what was laid since the iterator began as it lay. -/
def SeqW (F : Fence) (n : Nat) (P : Program) (g : Nat) (lb : Array Value) (encs : α → Array Value) (c₀ : Nat) (S Sp : List α → Prop) (N : Nat) (w : World) : Prop :=
  ∀ (l : Nat) (J Jx : List α → World → Prop) (W : World), Below w.heap.size w W → OwnFrom W.heap.size J → OwnFrom W.heap.size Jx →
    (∀ m pre x W1, J pre W1 → pre.length < N → YieldAt F m P l (encs x) W1 fun e W' =>
      (e = .returned (.bool true) ∧ J (pre ++ [x]) W' ∧ SameFrom W.heap.size W1 W' ∧ KpO c₀ W1 W') ∨ (e = .returned (.bool false) ∧ Jx (pre ++ [x]) W' ∧ SameFrom W.heap.size W1 W')) →
    J [] W →
    CallsIn F n P g (#[.func (.yield l) #[] #[]] ++ lb) W fun e W' => (∃ v, e = .returned v) ∧ ((∃ xs, S xs ∧ J xs W') ∨ (∃ pre, Sp pre ∧ Jx pre W'))

/-- How a round of the loop may be left. -/
def postW (B c₀ : Nat) (I : List α → World → Prop) (Ix : Code → List α → World → Prop) (xs : List α) (W : World) : Exit → Act → World → Prop
  | .normal, _, W' => SameFrom B W W' ∧ KpO c₀ W W' ∧ I xs W'
  | .ret, _, W' => SameFrom B W W' ∧ Ix .ret xs W'
  | .exit id, _, W' => SameFrom B W W' ∧ Ix (.exit id) xs W'
  | .goto t, _, W' => SameFrom B W W' ∧ Ix (.goto t) xs W'
  | .panic _, _, _ => False
  | .outgrown, _, _ => False

theorem wpIn_rangeFunc_W {g : Operand} {ps : Array Tmp} {assign body : Code} {Q : Exit → Act → World → Prop} {a : Act} {w w0 : World} {gf : Nat} {lb : Array Value} {encs : α → Array Value} {c₀ : Nat} {S Sp : List α → Prop} {N : Nat}
    (hro : F.round = none) (h1 : 1 ≤ n) (hg : a.eval g = .func (.func gf) #[] lb) (hFg : F.fn gf) (eg : ∀ args w, (callFunc gf args).run P w = .ok (.enter gf args) w)
    (hseq : SeqW F (n - 1) P gf lb encs c₀ S Sp N w0) (hb0 : Below w0.heap.size w0 w) (hps : ∀ x, (encs x).size = ps.size)
    (I : List α → World → Prop) (Ix : Code → List α → World → Prop) (hI : OwnFrom w.heap.size I) (hIx : ∀ c, OwnFrom w.heap.size (Ix c)) (h0 : I [] w) (a₁ : α → Act)
    (hassign : ∀ (m l : Nat) (x : α) (W : World) (K : Act → World → Prop), K (a₁ x) W →
      assign.wpIn (F.inRound l) m P (Exit.then K (fun _ _ _ => False)) { tmps := (ps.zip (encs x)).foldl (fun t (p, v) => t.setIfInBounds p v) a.tmps, defers := [] } W)
    (hbody : ∀ (m l : Nat) (pre : List α) (x : α) (W : World), I pre W → pre.length < N → body.wpIn (F.inRound l) m P (postW w.heap.size c₀ I Ix (pre ++ [x]) W) (a₁ x) W)
    (hdone : ∀ (D : Nat) (xs : List α) (W : World), w.heap.size ≤ D → S xs → I xs W → W.heap[D]? = some (.deferred (some [])) → Q .normal { a with defers := { target := .collected D, args := #[] } :: a.defers } W)
    (hstop : ∀ (D : Nat) (c : Code) (pre : List α) (W : World), w.heap.size ≤ D → Sp pre → Ix c pre W → W.heap[D]? = some (.deferred (some [])) → c.wpIn F n P Q { a with defers := { target := .collected D, args := #[] } :: a.defers } W) :
    (Code.rangeFunc g ps assign body).wpIn F n P Q a w := by
  obtain ⟨B, hB⟩ : ∃ B, w.heap.size = B := ⟨_, rfl⟩
  rw [hB] at hI hIx hbody hdone hstop
  refine wpIn_rangeFunc fun fn hfn => ?_
  rw [hro]
  let rec_ : LoopState → Option Code → Loop := fun st pe => { state := st, pending := pe, fn, tmps := a.tmps, params := ps, assign, body, defers := B }
  obtain ⟨V, hV⟩ : ∃ V, (w.alloc (.deferred (some []))).alloc (.loop (rec_ .ready none)) = V := ⟨_, rfl⟩
  have vs : V.heap.size = B + 2 := by rw [← hV, ← hB]; simp
  have vL : V.heap[B + 1]? = some (.loop (rec_ .ready none)) := by
    have := World.alloc_heap_new (w.alloc (.deferred (some []))) (.loop (rec_ .ready none))
    rw [World.size_alloc, hB, hV] at this; exact this
  have vD : V.heap[B]? = some (.deferred (some [])) := by
    rw [← hV, ← hB]; exact (Below.heap_alloc _ _ _ (by simp)).trans (World.alloc_heap_new w _)
  have vI : I [] V := by rw [← hV]; exact hI.alloc _ (hI.alloc _ h0)
  have vB : Below w0.heap.size w0 V := by
    rw [← hV]; exact hb0.trans ((((Below.refl _ w).alloc (Nat.le_refl _) _).alloc (by simp) _).mono hb0.size)
  have hrun := run_enterLoop_outer (P := P) (w := w) fn a.tmps ps assign body
  rw [hB] at hrun
  let Own2 : LoopState → Option Code → World → Prop := fun st pe W => W.heap[B + 1]? = some (.loop (rec_ st pe)) ∧ W.heap[B]? = some (.deferred (some []))
  have own2 : ∀ (st : LoopState) (pe : Option Code) (X Y : World) (row : Option Nat), Own2 st pe X → X.grownBy Y row → (∀ r, row = some r → B + 2 ≤ r) → Own2 st pe Y := fun st pe X Y row h hg hr =>
    ⟨(hg.block _ (Array.getElem?_eq_some_iff.1 h.1).1 (fun e => by have := hr _ e.symm; omega)).trans h.1, (hg.block _ (Array.getElem?_eq_some_iff.1 h.2).1 (fun e => by have := hr _ e.symm; omega)).trans h.2⟩
  have putR : ∀ (st : LoopState) (pe : Option Code) (st' : LoopState) (pe' : Option Code) (X : World), Own2 st pe X → Own2 st' pe' (X.putObj (B + 1) (.loop (rec_ st' pe'))) := fun st pe st' pe' X h =>
    ⟨World.putObj_heap_same (Array.getElem?_eq_some_iff.1 h.1).1, (World.putObj_heap_other (by omega)).trans h.2⟩
  refine ⟨B + 1, [{ target := .collected B, args := #[] }], V, { target := .fn (.func gf) lb, args := #[.func (.yield (B + 1)) #[] #[]] }, V, gf, #[.func (.yield (B + 1)) #[] #[]] ++ lb, V,
    by rw [← hV]; exact hrun, by simp only [resolve, hg]; simp [go_sem], fun f' hf' => by simp [Target.leads] at hf'; subst hf'; exact hFg, by simp [invoke, go_sem, eg], fun _ => h1, ?_⟩
  refine (hseq (B + 1) (fun pre W => I pre W ∧ Own2 .ready none W) (fun pre W => ∃ c, Ix c pre W ∧ Own2 .done (some c) W) V vB
    (fun s X Y row hs hg' hr => ⟨hI s X Y row hs.1 hg' (fun r e => ⟨by have := (hr r e).1; omega, (hr r e).2⟩), own2 _ _ _ _ _ hs.2 hg' (fun r e => by have := (hr r e).1; omega)⟩)
    (fun s X Y row hs hg' hr => by
      obtain ⟨c, hc, ho⟩ := hs
      exact ⟨c, hIx c s X Y row hc hg' (fun r e => ⟨by have := (hr r e).1; omega, (hr r e).2⟩), own2 _ _ _ _ _ ho hg' (fun r e => by have := (hr r e).1; omega)⟩)
    ?_ ⟨vI, vL, vD⟩).mono ?_
  · rintro m pre x W ⟨hi, ho⟩ hlen
    have hy := run_yield (P := P) (args := encs x) ho.1 (hps x)
    refine ⟨fn, _, assign, body, hy, roundIn_of_wpIn hfn (hassign _ _ x W _ ⟨_, run_beginRound ho.1 rfl, ?_⟩)⟩
    have ho2 := putR .ready none .busy none W ho
    have s1 := (Array.getElem?_eq_some_iff.1 ho.1).1
    refine wpIn_mono (hbody _ _ pre x _ (hI.putObj _ hi (by omega) ho.1 rfl) hlen) ?_
    have fin : ∀ (jump : Option Code) (X : World), SameFrom B (W.putObj (B + 1) (.loop (rec_ .busy none))) X →
        (Instr.endRound (B + 1) jump).run P X = .ok (.bool jump.isNone) (X.putObj (B + 1) (.loop (rec_ (if jump.isNone then .ready else .done) jump))) ∧ Own2 .busy none X := fun jump X hk => by
      have hx : Own2 .busy none X := ⟨hk.at _ _ (by omega) ho2.1, hk.at _ _ (Nat.le_refl _) ho2.2⟩
      exact ⟨run_endRound (P := P) jump hx.1, hx⟩
    have kf : ∀ (jump : Option Code) (X : World), SameFrom B (W.putObj (B + 1) (.loop (rec_ .busy none))) X → SameFrom V.heap.size W (X.putObj (B + 1) (.loop (rec_ (if jump.isNone then .ready else .done) jump))) := fun jump X hk =>
      ((SameFrom.put W _ (by omega)).trans (hk.up (by omega))).trans (SameFrom.put X _ (by omega))
    have stop : ∀ (c : Code) (X : World), SameFrom B (W.putObj (B + 1) (.loop (rec_ .busy none))) X → Ix c (pre ++ [x]) X →
        ∃ d, Ix d (pre ++ [x]) (X.putObj (B + 1) (.loop (rec_ .done (some c)))) ∧ Own2 .done (some d) (X.putObj (B + 1) (.loop (rec_ .done (some c)))) := fun c X hk hi3 =>
      ⟨c, (hIx c).putObj _ hi3 (by omega) (fin (some c) X hk).2.1 rfl, putR _ _ _ _ X (fin (some c) X hk).2⟩
    rintro e a3 X hp
    cases e with
    | normal =>
      obtain ⟨hk, hb, hi3⟩ := hp
      obtain ⟨hr, hx⟩ := fin none X hk
      refine ⟨_, _, hr, .inl ⟨rfl, ⟨hI.putObj _ hi3 (by omega) hx.1 rfl, putR _ _ _ _ X hx⟩, kf none X hk, ?_⟩⟩
      exact ((KpO.put _ ho.1 rfl).trans hb).trans (KpO.put _ hx.1 rfl)
    | ret => exact ⟨_, _, (fin (some .ret) X hp.1).1, .inr ⟨rfl, stop _ X hp.1 hp.2, kf (some .ret) X hp.1⟩⟩
    | exit id => exact ⟨_, _, (fin (some (.exit id)) X hp.1).1, .inr ⟨rfl, stop _ X hp.1 hp.2, kf (some (.exit id)) X hp.1⟩⟩
    | goto t => exact ⟨_, _, (fin (some (.goto t)) X hp.1).1, .inr ⟨rfl, stop _ X hp.1 hp.2, kf (some (.goto t)) X hp.1⟩⟩
    | panic ch => exact hp.elim
    | outgrown => exact hp.elim
  · rintro e X ⟨⟨v, rfl⟩, ⟨xs, hS, hi, ho⟩ | ⟨pre, hSp, c, hi, ho⟩⟩
    · exact ⟨none, _, run_endLoop (P := P) ho.1 (by simp [rec_]), hdone _ xs _ (Nat.le_refl _) hS (hI.putObj _ hi (by omega) ho.1 rfl) ((World.putObj_heap_other (by omega)).trans ho.2)⟩
    · exact ⟨some c, _, run_endLoop (P := P) ho.1 (by simp [rec_]), hstop _ c pre _ (Nat.le_refl _) hSp ((hIx c).putObj _ hi (by omega) ho.1 rfl) ((World.putObj_heap_other (by omega)).trans ho.2)⟩
end
end Go.Proofs.Ytalidjgniebohaa
