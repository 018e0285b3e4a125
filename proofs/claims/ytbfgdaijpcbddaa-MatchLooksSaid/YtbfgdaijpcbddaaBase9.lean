/- The walk's steps for regions with fresh values (Base8). No condition. -/
import Derived.Test.YtbfgdaijpcbddaaBase8
set_option linter.unusedSimpArgs false
set_option linter.unusedVariables false
set_option linter.unusedSectionVars false
namespace Go.Proofs.Ytbfgdaijpcbddaa
open Go.RowKit

section
variable {P : Program} {ops : Array Oper} {Q : Exit → Act → World → Prop} {S : World → Prop}

theorem wpN_mono {Y : Array Value → Nat → Option Bool} {Z : Fresh} {c : Nat → Value} {F F' : Act → Prop} (hF : ∀ a, F a → F' a) : ∀ (l : List Oper) (k : Nat) (a : Act), wpN P Y S Z c F k l a → wpN P Y S Z c F' k l a
  | [], _, a, h => hF a h
  | o :: rest, k, a, h => by
    unfold wpN at h ⊢
    split
    · rename_i h1; rw [if_pos h1] at h; exact wpN_mono hF rest _ _ h
    · rename_i h1
      rw [if_neg h1] at h
      split
      · rename_i h2; rw [if_pos h2] at h; exact ⟨h.1, wpN_mono hF rest _ _ h.2⟩
      · rename_i h2; rw [if_neg h2] at h; obtain ⟨v, hv, h⟩ := h; exact ⟨v, hv, wpN_mono hF rest _ _ h⟩

/-- As the core, whatever the post says of a panic. -/
theorem wp_region_fresh {id : Nat} {a : Act} {w : World} (m n : Nat) (l t : List Oper) (S : World → Prop) (Z : Fresh) (hm : P.follows .mixedOrders = true) (hops : ops.toList = l ++ t) (hl : l.length = m) (ht : t.length = n)
    (ho : freshB ops m n Z = true) (hS : S w.drew)
    (hSst : ∀ w w', S w → Below w.heap.size w w' → S w') (hRst : ∀ k ∈ Z.nd, ∀ u w w', Z.R k u w → Below w.heap.size w w' → Z.R k u w')
    (hdef : ∃ c : Nat → Value, ∀ k ∈ Z.nd, Z.Sh k (c k))
    (h : ∀ (Y : Array Value → Nat → Option Bool) (F : (Nat → Value) → Act → Prop), (∀ t, Y t = yielded ops t) →
      Shut' (∀ c a', (∀ (K : Act → World → Prop) w', Shut' (∀ a w, Q .normal a w → K a w) → S w' → AllP (fun k => Z.R k (c k) w') Z.fin → wpList P ops (OnlyK K) t a' w') → F c a') →
      wpC P Y S Z (fun a1 => ∀ c : Nat → Value, (∀ k ∈ Z.nd, Z.Sh k (c k)) → wpN P Y S Z c (F c) 0 l a1) 0 l a) : (Code.region id ops true).wp P Q a w :=
  Code.wp_mono (OnlyK.imp (fun _ _ h => h)) (wp_region_fresh_core m n l t S Z hm hops hl ht ho (fun _ _ _ _ _ h => h) hS hSst hRst hdef
    (h _ (fun c a' => ∀ w', S w' → AllP (fun k => Z.R k (c k) w') Z.fin → wpList P ops (OnlyK fun a w => Q .normal a w) t a' w') (fun _ => rfl) (fun c _ h w' hS' hR => h (fun a w => Q .normal a w) w' (fun _ _ h => h) hS' hR)))

variable {Y : Array Value → Nat → Option Bool} {Z : Fresh} {k : Nat} {o : Oper} {rest : List Oper} {a : Act} {v : Value} {f : FuncId} {args : Array Value} {c : Nat → Value} {F : Act → Prop}

theorem wpC_value (hC : Z.isC k = true) (hw : Region.wanted o (Y a.tmps) = true) (h : ∀ w, S w → (execOp a.eval o).run P w = .ok (.value v) w) (h2 : wpC P Y S Z F (k + 1) rest (a.put o.dst v)) : wpC P Y S Z F k (o :: rest) a := by
  unfold wpC; rw [if_pos hC]
  exact ⟨v, .inl ⟨hw, fun w hS => by rw [h w hS]; exact ⟨rfl, rfl⟩⟩, h2⟩
theorem wpC_call (hC : Z.isC k = true) (hw : Region.wanted o (Y a.tmps) = true) (hr : ∀ w, S w → (execOp a.eval o).run P w = .ok (.enter f args) w)
    (h : ∀ w, S w → Calls P f args w fun e w' => e = .returned v ∧ Below w.heap.size w w') (h2 : wpC P Y S Z F (k + 1) rest (a.put o.dst v)) : wpC P Y S Z F k (o :: rest) a := by
  unfold wpC; rw [if_pos hC]
  exact ⟨v, .inl ⟨hw, fun w hS => by rw [hr w hS]; exact ⟨rfl, h w hS⟩⟩, h2⟩
theorem wpC_skip (hC : Z.isC k = false) (h2 : wpC P Y S Z F (k + 1) rest a) : wpC P Y S Z F k (o :: rest) a := by
  unfold wpC; rw [if_neg (by rw [hC]; simp)]; exact h2
theorem wpN_skip (hC : Z.isC k = true) (h2 : wpN P Y S Z c F (k + 1) rest a) : wpN P Y S Z c F k (o :: rest) a := by
  unfold wpN; rw [if_pos hC]; exact h2
theorem wpN_pure (hC : Z.isC k = false) (hn : Z.nd.contains k = false) (hw : Region.wanted o (Y a.tmps) = true) (h : ∀ w, (execOp a.eval o).run P w = .ok (.value v) w) (h2 : wpN P Y S Z c F (k + 1) rest (a.put o.dst v)) : wpN P Y S Z c F k (o :: rest) a := by
  unfold wpN; rw [if_neg (by rw [hC]; simp), if_neg (by rw [hn]; simp)]
  exact ⟨v, .inl ⟨hw, h⟩, h2⟩
theorem keepR (hRst : ∀ k ∈ Z.nd, ∀ u w w', Z.R k u w → Below w.heap.size w w' → Z.R k u w') {w w' : World} (hb : Below w.heap.size w w') {e e' : List Nat} : ∀ j ∈ Z.nd, j ∉ e → j ∉ e' → ∀ u, Z.Sh j u → Z.R j u w → Z.R j u w' := fun j hj _ _ u _ h => hRst j hj u w w' h hb
/-- A fresh value that an operation makes by itself, only adding memory. -/
theorem wpN_value (hC : Z.isC k = false) (hn : Z.nd.contains k = true) (hw : Region.wanted o (Y a.tmps) = true)
    (hSst : ∀ w w', S w → Below w.heap.size w w' → S w') (hRst : ∀ k ∈ Z.nd, ∀ u w w', Z.R k u w → Below w.heap.size w w' → Z.R k u w')
    (h : ∀ w, S w → AllP (fun j => Z.R j (c j) w) (Z.D k) → ∃ u w', (execOp a.eval o).run P w = .ok (.value u) w' ∧ Z.Sh k u ∧ Z.R k u w' ∧ Below w.heap.size w w') (h2 : wpN P Y S Z c F (k + 1) rest (a.put o.dst (c k))) : wpN P Y S Z c F k (o :: rest) a := by
  unfold wpN; rw [if_neg (by rw [hC]; simp), if_pos hn]
  refine ⟨⟨hw, fun w hS hD => ?_⟩, h2⟩
  obtain ⟨u, w', e, h1, h2, h3⟩ := h w hS hD
  rw [e]
  exact ⟨h1, h2, hSst _ _ hS h3, keepR hRst h3⟩
/-- A fresh value that an operation makes by itself, whatever it does to memory. -/
theorem wpN_run (hC : Z.isC k = false) (hn : Z.nd.contains k = true) (hw : Region.wanted o (Y a.tmps) = true)
    (h : ∀ w, S w → AllP (fun j => Z.R j (c j) w) (Z.D k) → ∃ u w', (execOp a.eval o).run P w = .ok (.value u) w' ∧ Z.Sh k u ∧ Z.R k u w' ∧ S w' ∧ ∀ j ∈ Z.nd, j ∉ Z.ex k → j ∉ Z.lat k → ∀ u, Z.Sh j u → Z.R j u w → Z.R j u w') (h2 : wpN P Y S Z c F (k + 1) rest (a.put o.dst (c k))) : wpN P Y S Z c F k (o :: rest) a := by
  unfold wpN; rw [if_neg (by rw [hC]; simp), if_pos hn]
  refine ⟨⟨hw, fun w hS hD => ?_⟩, h2⟩
  obtain ⟨u, w', e, h1, h2, h3, h4⟩ := h w hS hD
  rw [e]
  exact ⟨h1, h2, h3, h4⟩
/-- A fresh value that a call gives, only adding memory. -/
theorem wpN_call (hC : Z.isC k = false) (hn : Z.nd.contains k = true) (hw : Region.wanted o (Y a.tmps) = true)
    (hSst : ∀ w w', S w → Below w.heap.size w w' → S w') (hRst : ∀ k ∈ Z.nd, ∀ u w w', Z.R k u w → Below w.heap.size w w' → Z.R k u w')
    (hr : ∀ w, S w → AllP (fun j => Z.R j (c j) w) (Z.D k) → (execOp a.eval o).run P w = .ok (.enter f args) w)
    (h : ∀ w, S w → AllP (fun j => Z.R j (c j) w) (Z.D k) → Calls P f args w fun e w' => ∃ u, e = .returned u ∧ Z.Sh k u ∧ Z.R k u w' ∧ Below w.heap.size w w') (h2 : wpN P Y S Z c F (k + 1) rest (a.put o.dst (c k))) : wpN P Y S Z c F k (o :: rest) a := by
  unfold wpN; rw [if_neg (by rw [hC]; simp), if_pos hn]
  refine ⟨⟨hw, fun w hS hD => ?_⟩, h2⟩
  rw [hr w hS hD]
  refine ⟨rfl, (h w hS hD).mono ?_⟩
  rintro e w' ⟨u, rfl, h1, h2, h3⟩
  exact ⟨u, rfl, h1, h2, hSst _ _ hS h3, keepR hRst h3⟩
end
end Go.Proofs.Ytbfgdaijpcbddaa
