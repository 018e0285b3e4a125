/- The rows that have a byte, as an iterator, and the links (layer 33). No condition. -/
import Derived.Test.YtalidjgniebohaaW17f
import Derived.Test.YtalidjgniebohaaBase17
import Derived.Sort.BigQuietIn
import Derived.Sort.QuietIn
set_option linter.unusedSimpArgs false
set_option linter.unusedVariables false
set_option linter.unusedSectionVars false
namespace Go.Proofs.Ytalidjgniebohaa
open Go.RowKit Go.Shelf
attribute [local go_sem] Oper.semAt_some

/-- But for some blocks, what is cells lies as it lay. -/
def KpP (p : Nat → Prop) (A B : World) : Prop := A.heap.size ≤ B.heap.size ∧ ∀ (k : Nat) (o : Obj), ¬ p k → A.heap[k]? = some o → o.isCells = true → B.heap[k]? = some o
section
variable {p : Nat → Prop}
theorem KpP.trans {A B C : World} (h : KpP p A B) (k : KpP p B C) : KpP p A C := ⟨Nat.le_trans h.1 k.1, fun i o hi ha ho => k.2 i o hi (h.2 i o hi ha ho) ho⟩
theorem KpP.refl (A : World) : KpP p A A := ⟨Nat.le_refl _, fun _ _ _ h _ => h⟩
theorem KpP.put {l : Nat} {W : World} {o : Obj} (o' : Obj) (hl : W.heap[l]? = some o) (hc : o.isCells = false) : KpP p W (W.putObj l o') := by
  have hg := grownBy_putObj' W l o'
  refine ⟨hg.size, fun k x _ hk hx => ?_⟩
  rw [hg.block k (Array.getElem?_eq_some_iff.1 hk).1 (fun e => by cases e; rw [hl] at hk; cases hk; rw [hc] at hx; cases hx)]
  exact hk
theorem KpP.below {W W' : World} (hb : Below W.heap.size W W') : KpP p W W' := ⟨hb.size, fun k o _ hk _ => (hb.block k (Array.getElem?_eq_some_iff.1 hk).1).trans hk⟩
theorem KpP.setCell {c i : Nat} (hc : p c) (W : World) (v : Value) : KpP p W (W.setCell ⟨c, i, none⟩ v) :=
  ⟨by simp, fun k o hk ho _ => (heap_setCell_other W ⟨c, i, none⟩ k v (fun e => hk (by simp at e; rw [e]; exact hc))).trans ho⟩
theorem KpP.cell {W W' : World} (h : KpP p W W') {a : Addr} {v : Value} (hc : W.cell? a = some v) (h1 : ¬ p a.block) : W'.cell? a = some v := by
  unfold World.cell? at hc ⊢
  cases ho : W.heap[a.block]? with
  | none => rw [ho] at hc; simp at hc
  | some o =>
    rw [ho] at hc
    have hcc : o.isCells = true := by cases o <;> simp_all [Obj.isCells]
    rw [h.2 _ _ h1 ho hcc]
    exact hc
theorem Rd.kpp {w w' : World} {a : Option Addr} {vals : List Value} (h : Rd w a vals) (hk : KpP p w w') (hb : ∀ b o, a = some ⟨b, o, none⟩ → vals ≠ [] → ¬ p b) : Rd w' a vals := fun hne => by
  obtain ⟨b, o, rfl, hcs⟩ := h hne
  exact ⟨b, o, rfl, fun j v hv => hk.cell (hcs j v hv) (hb b o rfl hne)⟩
end

/-- The row of a byte. -/
def S17.row (prim i : Nat) : Nat := if prim ≤ i then i + 1 else i
abbrev Under (m : Nat) := { k : Nat // k < m }

set_option maxRecDepth 100000 in
set_option maxHeartbeats 1000000 in
theorem all1_in (n : Nat) (l B prim : Nat) (p : Nat → Prop) (a : Option Addr) (cap : Nat) (xs : List Int) (hlen : xs.length ≤ 1000000) (hpB : ¬ p B) (ha : ∀ b o, a = some ⟨b, o, none⟩ → Bts xs ≠ [] → ¬ p b) (J Jx : List Nat → World → Prop)
    (hY : ∀ pre x W, x < xs.length → J pre W → pre.length < xs.length → YieldAt Fence.wide (n - 1) Try.prog l #[.int .i64 (S17.row prim x : Int), .int .u8 (xs.getD x 0)] W fun e W' =>
      (e = .returned (.bool true) ∧ J (pre ++ [x]) W' ∧ KpP p W W') ∨ (e = .returned (.bool false) ∧ Jx (pre ++ [x]) W'))
    (W : World) (hB0 : W.cell? ⟨B, 0, none⟩ = some (.slice a xs.length cap)) (hB1 : W.cell? ⟨B, 1, none⟩ = some (.int .i64 (prim : Int))) (hrd : Rd W a (Bts xs)) (h0 : J [] W) :
    CallsIn Fence.wide n Try.prog 35 #[.func (.yield l) #[] #[], .pointer (some ⟨B, 0, none⟩)] W fun e W' => (∃ v, e = .returned v) ∧
      ((∃ ys, ys = List.range xs.length ∧ J ys W') ∨ (∃ pre, (∃ k, k ≤ xs.length ∧ pre = List.range k) ∧ Jx pre W')) := by
  refine callsIn_of_wp Try.func35 rfl trivial ?_ rfl
  simp only [Try.ntmps35, List.size_toArray, List.length_cons, List.length_nil, Nat.reduceAdd, Nat.reduceSub, Array.replicate_succ, Array.replicate_zero, List.push_toArray, List.append_toArray, List.nil_append, List.cons_append]
  gi_wp2
  gi_loopw [9] (fun i wr => ∃ k : Nat, k ≤ xs.length ∧ i = .int .i64 (k : Int) ∧ J (List.range k) wr ∧ KpP p W wr)
    (fun i _ => xs.length - (intOf i).toNat)
  case atStart => exact ⟨0, Nat.zero_le _, rfl, h0, KpP.refl _⟩
  case round =>
    obtain ⟨k, hk, rfl, hJs, hnx⟩ := hrel
    have hcs : wr.cell? ⟨B, 1, none⟩ = some (.int .i64 (prim : Int)) := hnx.cell hB1 hpB
    by_cases hlt : k < xs.length
    · obtain ⟨g, o, rfl, hc⟩ := Bts_at (hrd.kpp hnx ha) (i := k) hlt
      have hkz : (k : Int) < (xs.length : Int) := by omega
      have hY1 := hY _ k wr hlt hJs (by rw [List.length_range]; exact hlt)
      obtain ⟨xv, hxv⟩ : ∃ v, xs.getD k 0 = v := ⟨_, rfl⟩
      rw [hxv] at hc hY1
      unfold S17.row at hY1
      by_cases hp : prim ≤ k
      · rw [if_pos hp] at hY1
        have hpz : (prim : Int) ≤ (k : Int) := by omega
        have e1 : ((k + 1 : Nat) : Int) = (k : Int) + 1 := by omega
        rw [e1] at hY1
        obtain ⟨fn, tmps, assign, body, hy, hR⟩ := hY1
        gi_wp2
        refine ⟨fun h => (by cases h), hR.mono ?_⟩
        rintro e W3 (⟨rfl, hJ3, hk3⟩ | ⟨rfl, hJx3⟩)
        · gi_wp2
          go_roundw
          case rel => exact ⟨k + 1, by omega, by simp; try omega, by rw [List.range_succ]; exact hJ3, hnx.trans hk3⟩
          case measure => simp [intOf]; try omega
        · gi_wp2
          refine bodyPost_ret (results_none rfl _ _ _) rfl ?_
          exact ⟨⟨_, rfl⟩, .inr ⟨_, ⟨k + 1, by omega, List.range_succ.symm⟩, hJx3⟩⟩
      · rw [if_neg hp] at hY1
        have hpz : ¬ (prim : Int) ≤ (k : Int) := by omega
        obtain ⟨fn, tmps, assign, body, hy, hR⟩ := hY1
        gi_wp2
        refine ⟨fun h => (by cases h), hR.mono ?_⟩
        rintro e W3 (⟨rfl, hJ3, hk3⟩ | ⟨rfl, hJx3⟩)
        · gi_wp2
          go_roundw
          case rel => exact ⟨k + 1, by omega, by simp; try omega, by rw [List.range_succ]; exact hJ3, hnx.trans hk3⟩
          case measure => simp [intOf]; try omega
        · gi_wp2
          refine bodyPost_ret (results_none rfl _ _ _) rfl ?_
          exact ⟨⟨_, rfl⟩, .inr ⟨_, ⟨k + 1, by omega, List.range_succ.symm⟩, hJx3⟩⟩
    · obtain rfl : k = xs.length := by omega
      gi_wp2
      go_end0
      exact ⟨⟨_, rfl⟩, .inl ⟨_, rfl, hJs⟩⟩

theorem all_any (a : Option Addr) (n c : Nat) (p : Int) (w : World) :
    Calls Try.prog 22 #[.agg #[.slice a n c, .int .i64 p]] w fun e w' => e = .returned (.func (.func 35) #[] #[.pointer (some ⟨w.heap.size, 0, none⟩)]) ∧ w' = w.alloc (.cells #[.slice a n c, .int .i64 p] 39) := by
  go_enter Try.func22, Try.ntmps22
  go_wp2
  go_returns
  exact ⟨rfl, rfl⟩

theorem all_stops (n : Nat) (B prim : Nat) (p : Nat → Prop) (a : Option Addr) (cap : Nat) (xs : List Int) (hlen : xs.length ≤ 1000000) (hpB : ¬ p B) (ha : ∀ b o, a = some ⟨b, o, none⟩ → Bts xs ≠ [] → ¬ p b) (w : World)
    (hB0 : w.cell? ⟨B, 0, none⟩ = some (.slice a xs.length cap)) (hB1 : w.cell? ⟨B, 1, none⟩ = some (.int .i64 (prim : Int))) (hrd : Rd w a (Bts xs)) :
    SeqStopsK Fence.wide n Try.prog 35 #[.pointer (some ⟨B, 0, none⟩)] (fun k : Under xs.length => #[.int .i64 (S17.row prim k.1 : Int), .int .u8 (xs.getD k.1 0)]) (KpP p)
      (fun ys => ys.map Subtype.val = List.range xs.length) (fun pre => ∃ k, k ≤ xs.length ∧ pre.map Subtype.val = List.range k) xs.length w := fun l J Jx W hW hJ hJx hY h0 => by
  refine CallsIn.mono (all1_in n l B prim p a cap xs hlen hpB ha (fun p W => ∃ q, q.map Subtype.val = p ∧ J q W) (fun p W => ∃ q, q.map Subtype.val = p ∧ Jx q W)
    (fun pre x W1 hx ⟨p, hp, h⟩ hlen => ?_) W ((hW.cell (p := ⟨B, 0, none⟩) (block_lt_of_cell hB0)).trans hB0) ((hW.cell (p := ⟨B, 1, none⟩) (block_lt_of_cell hB1)).trans hB1) (hrd.step hW) ⟨[], rfl, h0⟩) ?_
  · obtain ⟨fn, tmps, assign, body, hy, hR⟩ := hY p ⟨x, hx⟩ W1 h (by rw [← hp] at hlen; simpa using hlen)
    refine ⟨fn, tmps, assign, body, hy, hR.mono ?_⟩
    rintro e W' (⟨h1, h2, h3⟩ | ⟨h1, h2⟩)
    · exact .inl ⟨h1, ⟨_, by simp [hp], h2⟩, h3⟩
    · exact .inr ⟨h1, _, by simp [hp], h2⟩
  · rintro e W' ⟨h1, ⟨ys, h2, q, h3, h4⟩ | ⟨pre, ⟨k, h2, h3⟩, q, h4, h5⟩⟩
    · exact ⟨h1, .inl ⟨q, h3.trans h2, h4⟩⟩
    · exact ⟨h1, .inr ⟨q, ⟨k, h2, h4.trans h3⟩, h5⟩⟩

set_option maxRecDepth 100000 in
set_option maxHeartbeats 2000000 in
theorem newRows_any (a : Option Addr) (n cap : Nat) (p : Nat) (hn : n ≤ 150) (hp : p ≤ n) (w : World) :
    Calls Try.prog 15 #[.slice a n cap, .int .i64 (p : Int)] w fun e w' => e = .returned (.tuple #[.agg #[.slice a n cap, .int .i64 (p : Int)], .int .i64 0]) ∧ Below w.heap.size w w' := by
  have h1 : ¬ (65536 : Int) < (n : Int) := by omega
  have h2 : ¬ (p : Int) < 0 := by omega
  have h3 : ¬ (n : Int) < (p : Int) := by omega
  go_enter Try.func15, Try.ntmps15
  go_wp2
  go_returns
  refine ⟨by simp, ?_⟩
  go_grown
end Go.Proofs.Ytalidjgniebohaa
