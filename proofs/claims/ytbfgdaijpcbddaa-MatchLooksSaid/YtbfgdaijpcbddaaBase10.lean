/- Appending as one operation of a region with fresh values; cells kept by what grows. No condition. -/
import Derived.Test.YtbfgdaijpcbddaaBase9
import Derived.Maps.AppendAt
set_option linter.unusedSimpArgs false
set_option linter.unusedVariables false
set_option linter.unusedSectionVars false
namespace Go.Proofs.Ytbfgdaijpcbddaa
open Go.RowKit

theorem op_append_rd {P : Program} {w : World} {o : Oper} {a : Act} (s x : Operand) (t e : TypeId) (size bytes : Nat) (zc : List Value) (base : Nat)
    (he : Elems P t e size bytes zc) (ho : o.op = .call { callee := .builtin .append, args := #[s, x], argTypes := #[t, t] })
    (v : Value) (n : Nat) (xs : List Value) (hs : a.eval s = v) (hown : w.ownsRow base e size v n xs)
    (ad : Option Addr) (m c : Nat) (news : List Value) (hx : a.eval x = .slice ad m c) (hl : news.length = m * size) (hnews : Rd w ad news) (h1 : ∀ u ∈ news, u.oneCell' = true)
    (h63 : n + m ≤ maxLen) (hbytes : (n + m) * bytes ≤ 140737488355328) (hbase : base ≤ w.heap.size) :
    ∃ a' cap' w', (execOp a.eval o).run P w = .ok (.value (.slice a' (n + m) cap')) w' ∧ w'.ownsRow base e size (.slice a' (n + m) cap') (n + m) (xs ++ news) ∧ w.grownBy w' v.ownBlock := by
  obtain ⟨i, z, hi, hz, hsz, hby, hzs, hzc⟩ := he.open
  cases ad with
  | some ad =>
    have hnews' : ∀ j u, news[j]? = some u → w.cell? (ad.add j) = some u := by
      intro j u hu
      obtain ⟨b, off, e1, hr⟩ := hnews (fun e => by rw [e] at hu; simp at hu)
      cases e1
      rw [Addr.add_mid]; exact hr j u hu
    obtain ⟨v', w', hr, h2, h3, h4, h5⟩ := run_append_own_at (P := P) w base t o.type e i z size bytes he.1 hi hz hsz hby hzs he.2.2.2 v n xs hown ad m c news hl hnews' h1 h63 hbytes hbase
    obtain ⟨a', cap', rfl, _⟩ := owns_slice h2
    refine ⟨a', cap', w', ?_, h2, h3⟩
    unfold execOp
    simp only [ho, resolve, invoke, builtin, Sem.run_bind, Sem.run_pure, Result.andThen_ok, List.map_toArray, List.map_cons, List.map_nil, hs, hx, hr]
  | none =>
    have hn : news = [] := by
      cases hnn : news with
      | nil => rfl
      | cons y ys => obtain ⟨b, off, e1, _⟩ := hnews (by rw [hnn]; simp); simp at e1
    subst hn
    have hm : m = 0 := by
      have h0 : m * size = 0 := by simpa using hl.symm
      rcases Nat.mul_eq_zero.1 h0 with h | h
      · exact h
      · have := he.2.2.2; omega
    subst hm
    obtain ⟨a0, cap0, rfl, hnc, _⟩ := owns_slice hown
    refine ⟨a0, cap0, w, ?_, by simpa using hown, ⟨rfl, rfl, rfl, Nat.le_refl _, fun _ _ _ => rfl⟩⟩
    cases a0 with
    | none => simp [execOp, ho, resolve, invoke, builtin, hs, hx, Builtin.append_, run_underlying he.1, sizeOf, typeInfo, hi, Builtin.lenOf, Builtin.firstCells, hnc, Result.andThen]
    | some a0 => simp [execOp, ho, resolve, invoke, builtin, hs, hx, Builtin.append_, run_underlying he.1, sizeOf, typeInfo, hi, Builtin.lenOf, Builtin.firstCells, hnc, storeCells, Result.andThen]

/-- An append to a slice of the call's own, as an operation that gives a fresh value. -/
theorem wpN_append {P : Program} {Y : Array Value → Nat → Option Bool} {S : World → Prop} {Z : Fresh} {k : Nat} {o : Oper} {rest : List Oper} {a : Act} {c : Nat → Value} {F : Act → Prop}
    (s x : Operand) (t e : TypeId) (size bytes : Nat) (zc : List Value) (base : Nat) (he : Elems P t e size bytes zc)
    (v : Value) (n : Nat) (xs : List Value) (ad : Option Addr) (m cap : Nat) (news : List Value)
    (hC : Z.isC k = false) (hn : Z.nd.contains k = true) (hw : Region.wanted o (Y a.tmps) = true)
    (ho : o.op = .call { callee := .builtin .append, args := #[s, x], argTypes := #[t, t] }) (hs : a.eval s = v) (hx : a.eval x = .slice ad m cap)
    (hl : news.length = m * size) (h1 : ∀ u ∈ news, u.oneCell' = true) (h63 : n + m ≤ maxLen) (hbytes : (n + m) * bytes ≤ 140737488355328)
    (h : ∀ w, S w → AllP (fun j => Z.R j (c j) w) (Z.D k) → w.ownsRow base e size v n xs ∧ Rd w ad news ∧ base ≤ w.heap.size ∧
      ∀ a' cap' w', w'.ownsRow base e size (.slice a' (n + m) cap') (n + m) (xs ++ news) → w.grownBy w' v.ownBlock →
        Z.Sh k (.slice a' (n + m) cap') ∧ Z.R k (.slice a' (n + m) cap') w' ∧ S w' ∧ ∀ j ∈ Z.nd, j ∉ Z.ex k → j ∉ Z.lat k → ∀ u, Z.Sh j u → Z.R j u w → Z.R j u w')
    (h2 : wpN P Y S Z c F (k + 1) rest (a.put o.dst (c k))) : wpN P Y S Z c F k (o :: rest) a := by
  refine wpN_run hC hn hw (fun w hS hD => ?_) h2
  obtain ⟨k1, k2, k3, k4⟩ := h w hS hD
  obtain ⟨a', cap', w', r1, r2, r3⟩ := op_append_rd (w := w) s x t e size bytes zc base he ho v n xs hs k1 ad m cap news hx hl k2 h1 h63 hbytes k3
  exact ⟨_, w', r1, k4 a' cap' w' r2 r3⟩

theorem Cells.under {W w : World} {B : Nat} (hb : Below B W w) : ∀ {l : List (Addr × Value)}, (∀ p ∈ l, p.1.block < B) → Cells W l → Cells w l
  | [], _, h => h
  | (a, v) :: l, hl, ⟨h1, h2⟩ => ⟨by rw [hb.cell (hl (a, v) (by simp))]; exact h1, Cells.under hb (fun p hp => hl p (by simp [hp])) h2⟩
theorem Cells.lt {W : World} : ∀ {l : List (Addr × Value)}, Cells W l → ∀ p ∈ l, p.1.block < W.heap.size
  | [], _, p, hp => by simp at hp
  | (a, v) :: l, ⟨h1, h2⟩, p, hp => by
    rcases List.mem_cons.1 hp with rfl | hp
    · exact block_lt_of_cell h1
    · exact Cells.lt h2 p hp
theorem Keeps.of {W w : World} {l : List (Addr × Value)} (hl : Cells W l) (hb : Below W.heap.size W w) : Keeps W l w := ⟨hb, Cells.under hb hl.lt hl⟩
/-- What grows one block of the call's own keeps what lies below. -/
theorem grown_keeps {W w w' : World} {row : Option Nat} (hb : Below W.heap.size W w) (hg : w.grownBy w' row) (hr : ∀ k, row = some k → W.heap.size ≤ k) : Below W.heap.size W w' := Below.grown hb hg hb.size hr
theorem Blk.grown {w w' : World} {row : Option Nat} {b : Nat} {cs : List Value} {t : TypeId} (h : Blk w b cs t) (hg : w.grownBy w' row) (hne : some b ≠ row) : Blk w' b cs t := by
  unfold Blk at *
  rw [hg.block b (Array.getElem?_eq_some_iff.1 h).1 hne]; exact h
/-- The block of a slice of the call's own. -/
theorem owns_block {w : World} {base : Nat} {e : TypeId} {size n : Nat} {v : Value} {xs : List Value} (h : w.ownsRow base e size v n xs) {g : Nat} (hg : v.ownBlock = some g) : base ≤ g ∧ ∃ cur, w.heap[g]? = some (.cells cur e (0, 0)) := by
  rcases h.2 with ⟨rfl, _⟩ | ⟨g', cap, cur, rfl, hb, hh, _⟩
  · simp [Value.ownBlock] at hg
  · simp [Value.ownBlock] at hg
    subst hg
    exact ⟨hb, cur, hh⟩
end Go.Proofs.Ytbfgdaijpcbddaa
