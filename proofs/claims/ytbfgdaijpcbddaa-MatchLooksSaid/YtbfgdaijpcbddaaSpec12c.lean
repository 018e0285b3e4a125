/- A match model stays well-formed. No program, no condition. -/
import Derived.Test.YtbfgdaijpcbddaaSpec12b
set_option linter.unusedSimpArgs false
set_option linter.unusedVariables false
set_option linter.unusedSectionVars false
namespace Go.Proofs.Ytbfgdaijpcbddaa.S12

theorem getD_in {α : Type} (l : List α) (d : α) {i : Nat} (hi : i < l.length) : l.getD i d = l[i] := by rw [List.getD, List.getElem?_eq_getElem hi]; rfl
theorem getD_out {α : Type} (l : List α) (d : α) {i : Nat} (hi : l.length ≤ i) : l.getD i d = d := by rw [List.getD, List.getElem?_eq_none hi]; rfl
theorem exp_inv {x pt b : Nat} (hx : x < 256) (h1 : 1 ≤ pt) (h2 : pt ≤ 255) (he : exp x (pt : Int) = some b) : ∃ n, n ≤ 7 ∧ 2 ^ n ≤ pt ∧ pt < 2 ^ (n + 1) ∧ (256 + x) / 2 ^ (8 - n) = pt ∧ b = x / 2 ^ (7 - n) % 2 := by
  obtain ⟨n, hn, a, c⟩ := log_of h1 h2
  rw [exp_at hx hn a c] at he
  split at he
  · rename_i h
    exact ⟨n, hn, a, c, h, (Option.some.inj he).symm⟩
  · cases he
theorem half_top {x n : Nat} (hn : n ≤ 7) : (256 + x) / 2 ^ (7 - n) = 2 * ((256 + x) / 2 ^ (8 - n)) + x / 2 ^ (7 - n) % 2 := by
  have e1 : (256 + x) / 2 ^ (7 - n) = 2 ^ (n + 1) + x / 2 ^ (7 - n) := by
    have e : 256 = 2 ^ (n + 1) * 2 ^ (7 - n) := by rw [← Nat.pow_add, show n + 1 + (7 - n) = 8 by omega]
    rw [e, Nat.add_comm, Nat.add_mul_div_right _ _ (Nat.two_pow_pos _), Nat.add_comm]
  have e2 : (256 + x) / 2 ^ (8 - n) = (256 + x) / 2 ^ (7 - n) / 2 := by rw [Nat.div_div_eq_div_mul, ← Nat.pow_succ, show (7 - n).succ = 8 - n by omega]
  rw [e2, e1, Nat.pow_succ]
  omega
theorem exp_next {x pt b : Nat} (hx : x < 256) (h1 : 1 ≤ pt) (h2 : pt ≤ 127) (he : exp x (pt : Int) = some b) : ∃ c, exp x ((2 * pt + b : Nat) : Int) = some c := by
  obtain ⟨n, hn, h3, h4, h5, rfl⟩ := exp_inv hx h1 (by omega) he
  have hn6 : n ≤ 6 := by
    have : 2 ^ n < 2 ^ 7 := by omega
    have := (Nat.pow_lt_pow_iff_right (by omega : 1 < 2)).1 this
    omega
  have ht := half_top (x := x) hn
  have q1 : 2 ^ (n + 1) = 2 * 2 ^ n := by rw [Nat.pow_succ, Nat.mul_comm]
  have q2 : 2 ^ (n + 1 + 1) = 2 * 2 ^ (n + 1) := by rw [Nat.pow_succ, Nat.mul_comm]
  have := Nat.mod_lt (x / 2 ^ (7 - n)) (show 0 < 2 by omega)
  rw [exp_at (n := n + 1) hx (by omega) (by omega) (by omega), if_pos (by rw [show 8 - (n + 1) = 7 - n by omega]; omega)]
  exact ⟨_, rfl⟩
theorem exp_full {x pt b : Nat} (hx : x < 256) (h1 : 128 ≤ pt) (h2 : pt ≤ 255) (he : exp x (pt : Int) = some b) : 256 + x = 2 * pt + b := by
  obtain ⟨n, hn, h3, h4, h5, rfl⟩ := exp_inv hx (by omega) h2 he
  have hn7 : n = 7 := by
    have : 2 ^ 7 < 2 ^ (n + 1) := by omega
    have := (Nat.pow_lt_pow_iff_right (by omega : 1 < 2)).1 this
    omega
  subst hn7
  have ht := half_top (x := x) (n := 7) (by omega)
  simp only [Nat.sub_self, Nat.pow_zero, Nat.div_one] at ht h5 ⊢
  omega
theorem exp_first {x : Nat} (hx : x < 256) : ∃ c, exp x (1 : Int) = some c := by
  have := exp_at (x := x) (pt := 1) (n := 0) hx (by omega) (by omega) (by omega)
  rw [if_pos (by omega)] at this
  exact ⟨_, this⟩
theorem exp_lt {x : Nat} {pt : Int} {b : Nat} (h : exp x pt = some b) : b < 2 := by
  have key : ∀ k, expFrom x pt k = some b → b < 2 := fun k => by
    induction k with
    | zero => intro h; cases h
    | succ k ih =>
      intro h
      unfold expFrom at h
      split at h
      · have := Option.some.inj h; omega
      · exact ih h
  exact key 8 h

/-- The bytes are bytes. -/
def Byt (l : List Int) : Prop := ∀ x ∈ l, 0 ≤ x ∧ x < 256
theorem Byt.at {l : List Int} (h : Byt l) (i : Nat) : (l.getD i 0).toNat < 256 := by
  by_cases hi : i < l.length
  · rw [getD_in _ _ hi]; have := h _ (List.getElem_mem hi); omega
  · rw [getD_out _ _ (by omega)]; decide
theorem Byt.get {l : List Int} (h : Byt l) (i : Nat) : 0 ≤ l.getD i 0 := by
  by_cases hi : i < l.length
  · rw [getD_in _ _ hi]; have := h _ (List.getElem_mem hi); omega
  · rw [getD_out _ _ (by omega)]; decide

/-- A match, opened. -/
structure Mat (m : M) : Prop where
  len : 1 ≤ m.len ∧ m.len ≤ 255
  at_ : m.len ≤ m.at_ ∧ m.at_ ≤ (m.bytes.length : Int) - 1
  rep : m.len ≤ (rep m.bytes m.at_.toNat : Int)
  exp : ∃ b : Nat, exp (m.bytes.getD m.at_.toNat 0).toNat m.part = some b ∧ m.bit = b
theorem matched_iff (m : M) : matched m = true ↔ (m.len = 0 ∧ m.at_ = 0 ∧ m.bit = 2) ∨ Mat m := by
  constructor
  · intro h
    unfold matched at h
    split at h
    · rename_i h0
      simp at h
      exact .inl ⟨h0, h.1, h.2⟩
    · rename_i h0
      simp only [Bool.and_eq_true, decide_eq_true_eq] at h
      obtain ⟨⟨⟨h1, h2⟩, h3⟩, h4⟩ := h
      refine .inr ⟨h1, h2, h3, ?_⟩
      split at h4
      · rename_i b hb
        exact ⟨b, hb, by simp at h4; exact h4.symm⟩
      · cases h4
  · rintro (⟨h0, h1, h2⟩ | h)
    · unfold matched; rw [if_pos h0]; simp [h1, h2]
    · have := h.len
      unfold matched; rw [if_neg (by omega)]
      obtain ⟨b, hb, he⟩ := h.exp
      rw [hb]
      have h1 := h.len
      have h2 := h.at_
      have h3 := h.rep
      simp [h1, h2, h3, he]

theorem getD_app (l : List Int) (x : Int) (i : Nat) (hi : i < l.length) : (l ++ [x]).getD i 0 = l.getD i 0 := by
  rw [getD_in _ _ (by simp; omega), getD_in _ _ hi, List.getElem_append_left hi]
theorem getD_last (l : List Int) (x : Int) : (l ++ [x]).getD l.length 0 = x := by
  rw [getD_in _ _ (by simp), List.getElem_append_right (Nat.le_refl _)]; simp
theorem rep_extend {l : List Int} {x : Int} {p n : Nat} (hp : p < l.length) (hn : n ≤ rep l p) (hx : l.getD p 0 = x) : min (n + 1) 255 ≤ rep (l ++ [x]) (p + 1) := by
  have hr := rep_le l p
  refine le_rep (by omega) (fun i hi => ?_)
  unfold eqAt
  simp only [List.length_append, List.length_singleton, Nat.add_sub_cancel]
  cases i with
  | zero =>
    rw [Nat.sub_zero, Nat.sub_zero, getD_last, getD_app _ _ _ hp, hx]
    simp
  | succ i =>
    rw [getD_app _ _ _ (by omega), getD_app _ _ _ (by omega)]
    have := rep_eq l p i (by omega)
    unfold eqAt at this
    rw [show p - (i + 1) = p - 1 - i by omega, show l.length - (i + 1) = l.length - 1 - i by omega]
    exact this

theorem learn_ctr {c : Int × Int} (h : S08.check c.1 c.2 255 = 0) {r : Int} (hr : r = 0 ∨ r = 1) : S08.check (S08.step c.1 c.2 r) (min (c.2 + 1) 255) 255 = 0 := by
  have hc := S08.check_ok h
  have hb := S08.step_between (p := c.1) (n := c.2) (bit := r) (by omega) (by omega) (by omega) hr
  unfold S08.check
  rw [if_neg (by omega), if_neg]
  rcases hr with rfl | rfl
  · have := hb.2 rfl; omega
  · have := hb.1 rfl; omega

/-- What learning leaves. -/
structure Lrn (m m' : M) (b : Int) : Prop where
  bits : m'.bits = m.bits
  least : m'.least = m.least
  heads : m'.heads = m.heads
  bytes : m'.bytes = m.bytes
  part : m'.part = m.part
  len : m'.ctrs.length = m.ctrs.length
  ctr : ∀ c ∈ m'.ctrs, S08.check c.1 c.2 255 = 0
  alt : (m'.len = 0 ∧ m'.at_ = 0) ∨ (m.len ≠ 0 ∧ b = m.bit ∧ m'.len = m.len ∧ m'.at_ = m.at_)
theorem WF.at0 {m : M} (h : WF m) (h0 : m.len = 0) : m.at_ = 0 ∧ m.bit = 2 := by
  rcases (matched_iff m).1 h.mat with ⟨_, h1, h2⟩ | h
  · exact ⟨h1, h2⟩
  · have := h.len; omega
theorem WF.Mat {m : M} (h : WF m) (h0 : m.len ≠ 0) : Mat m := by
  rcases (matched_iff m).1 h.mat with ⟨h1, _⟩ | h
  · exact absurd h1 h0
  · exact h
theorem WF.learn {m : M} (h : WF m) (b : Int) : Lrn m (learn m b) b := by
  have hset : ∀ (i : Nat) (r : Int), (r = 0 ∨ r = 1) → ∀ c ∈ m.ctrs.set i (S08.step (m.ctrs.getD i (0, 0)).1 (m.ctrs.getD i (0, 0)).2 r, min ((m.ctrs.getD i (0, 0)).2 + 1) 255), S08.check c.1 c.2 255 = 0 := fun i r hr c hc => by
    rcases List.mem_or_eq_of_mem_set hc with hc | rfl
    · exact h.ctr c hc
    · by_cases hi : i < m.ctrs.length
      · exact learn_ctr (h.ctr _ (by rw [getD_in _ _ hi]; exact List.getElem_mem hi)) hr
      · rw [getD_out _ _ (by omega)]; rcases hr with rfl | rfl <;> decide
  unfold S12.learn
  split
  · rename_i h0
    exact ⟨rfl, rfl, rfl, rfl, rfl, rfl, h.ctr, .inl ⟨h0, (h.at0 h0).1⟩⟩
  · rename_i h0
    split
    · rename_i hb
      exact ⟨rfl, rfl, rfl, rfl, rfl, List.length_set, hset _ 1 (.inr rfl), .inr ⟨h0, hb, rfl, rfl⟩⟩
    · exact ⟨rfl, rfl, rfl, rfl, rfl, List.length_set, hset _ 0 (.inl rfl), .inl ⟨rfl, rfl⟩⟩

/-- What a search leaves, at a model whose match goes on or is none. -/
theorem WF.bitM {m : M} (h : WF m) (hB : Byt m.bytes) {b : Int} (hb : b = 0 ∨ b = 1) (hE : bitE m b = 0) : WF (bitM m b) := by
  have hck := (check_iff m).2 h
  have hroom : ¬ (128 ≤ m.part ∧ 65536 ≤ m.bytes.length) := by
    unfold bitE at hE
    rw [if_neg (by rw [hck]; simp), if_neg (by omega)] at hE
    split at hE
    · cases hE
    · assumption
  have hL := h.learn b
  have hp := h.part
  have hfew := h.few
  have hbits := h.bits
  have hle := h.least
  unfold S12.bitM
  generalize S12.learn m b = n at hL ⊢
  obtain ⟨n1, n2, n3, n4, n5, n6, n7, n8⟩ := hL
  have hmat : m.len ≠ 0 → S12.Mat m := h.Mat
  obtain ⟨pt, hpt⟩ : ∃ pt : Nat, m.part = pt := ⟨m.part.toNat, by omega⟩
  have hbN : ∀ c : Nat, m.bit = c → b = m.bit → 2 * m.part + b = ((2 * pt + c : Nat) : Int) := fun c h1 h2 => by omega
  by_cases hfull : 255 < 2 * n.part + b
  · unfold take
    rw [if_pos hfull]
    have hpt2 : 128 ≤ pt := by omega
    have hlen : m.bytes.length < 65536 := by omega
    obtain ⟨y, hy⟩ : ∃ y, 2 * n.part + b - 256 = y := ⟨_, rfl⟩
    rw [hy]
    have hyr : 0 ≤ y ∧ y < 256 := by omega
    have hB2 : Byt (m.bytes ++ [y]) := fun z hz => by
      rcases List.mem_append.1 hz with hz | hz
      · exact hB z hz
      · rw [List.mem_singleton.1 hz]; exact hyr
    have hex1 : ∀ i : Nat, ∃ c : Nat, exp ((m.bytes ++ [y]).getD i 0).toNat 1 = some c := fun i => exp_first (hB2.at i)
    have hexI : ∀ i : Nat, ∃ c : Nat, exp ((m.bytes ++ [y]).getD i 0).toNat 1 = some c ∧ expI ((m.bytes ++ [y]).getD i 0) 1 = c := fun i => by
      obtain ⟨c, hc⟩ := hex1 i
      exact ⟨c, hc, by unfold expI; rw [hc]⟩
    -- the extended model
    obtain ⟨q, hq⟩ : ∃ q, extend { n with bytes := n.bytes ++ [y], part := 1 } = q := ⟨_, rfl⟩
    rw [hq]
    have qf : q.bits = m.bits ∧ q.least = m.least ∧ q.heads = m.heads ∧ q.bytes = m.bytes ++ [y] ∧ q.part = 1 ∧ q.ctrs = n.ctrs := by
      rw [← hq]; unfold extend
      split <;> simp [n1, n2, n3, n4]
    have qa : (q.len = 0 ∧ q.at_ = 0) ∨ (1 ≤ q.len ∧ q.len ≤ 255 ∧ q.len ≤ q.at_ ∧ q.at_ ≤ m.bytes.length ∧ q.len ≤ (rep (m.bytes ++ [y]) q.at_.toNat : Int)) := by
      rw [← hq]; unfold extend
      rcases n8 with ⟨a1, a2⟩ | ⟨a1, a2, a3, a4⟩
      · rw [if_neg (by simp only; omega)]; exact .inl ⟨a1, a2⟩
      · have hM := hmat a1
        have b1 := hM.len
        have b2 := hM.at_
        have b3 := hM.rep
        rw [if_pos (by simp only; omega)]
        simp only
        rw [a3, a4]
        obtain ⟨c, hc, hcb⟩ := hM.exp
        have hxx : m.bytes.getD m.at_.toNat 0 = y := by
          have := exp_full (hB.at m.at_.toNat) hpt2 (by omega) (by rw [← hpt]; exact hc)
          have := hbN c hcb a2
          have := hB.get m.at_.toNat
          omega
        have hrx := rep_extend (l := m.bytes) (x := y) (p := m.at_.toNat) (n := m.len.toNat) (by omega) (by omega) hxx
        refine .inr ⟨by omega, by omega, by omega, by omega, ?_⟩
        rw [show (m.at_ + 1).toNat = m.at_.toNat + 1 by omega]
        omega
    clear hq hbN
    obtain ⟨q1, q2, q3, q4, q5, q6⟩ := qf
    have hqc : q.ctrs.length = 16 := by rw [q6, n6]; exact h.ctrs
    have hqh : ∀ x ∈ q.heads, 0 ≤ x ∧ x ≤ (m.bytes.length : Int) := by rw [q3]; exact h.head
    unfold search
    split
    · refine ⟨by simpa [expect, q1] using h.bits, by simpa [expect, q2] using h.least, by simp [expect, q4]; omega, by simp [expect, q1, q3]; exact h.heads, by simpa [expect] using hqc, by simp [expect, q5], ?_, by simpa [expect, q6] using n7, ?_⟩
      · simp only [expect, q4, List.length_append, List.length_singleton]
        intro x hx
        have := hqh x hx
        omega
      · rw [matched_iff]
        rcases qa with ⟨a1, a2⟩ | ⟨a1, a2, a3, a4, a5⟩
        · exact .inl ⟨a1, a2, by simp [expect, a1]⟩
        · refine .inr ⟨⟨a1, a2⟩, ⟨a3, by simp [expect, q4]; omega⟩, by simpa [expect, q4] using a5, ?_⟩
          obtain ⟨c, hc, hc2⟩ := hexI q.at_.toNat
          refine ⟨c, by simp only [expect, q4, q5]; exact hc, ?_⟩
          simp only [expect, q4, q5]
          rw [if_pos (by omega)]; exact hc2
    · have hil := idx_lt (m.bytes ++ [y]) m.least h.bits
      refine ⟨by simpa [expect, q1] using h.bits, by simpa [expect, q2] using h.least, by simp [expect, q4]; omega, by simp [expect, q1, q3]; exact h.heads, by simpa [expect] using hqc, by simp [expect, q5], ?_, by simpa [expect, q6] using n7, ?_⟩
      · simp only [expect, q4, List.length_append, List.length_singleton]
        intro x hx
        rcases List.mem_or_eq_of_mem_set hx with hx | rfl
        · have := hqh x hx; omega
        · omega
      · rw [matched_iff]
        simp only [expect]
        obtain ⟨hd, hhd⟩ : ∃ hd, q.heads.getD (idx q.bytes q.bits q.least) 0 = hd := ⟨_, rfl⟩
        have hdr : hd ≤ (m.bytes.length : Int) := by
          rw [← hhd]
          by_cases hi : idx q.bytes q.bits q.least < q.heads.length
          · rw [getD_in _ _ hi]; exact (hqh _ (List.getElem_mem hi)).2
          · rw [getD_out _ _ (by omega)]; omega
        cases hf : found q with
        | true =>
          unfold found at hf
          rw [hhd] at hf
          simp only [Bool.and_eq_true, decide_eq_true_eq] at hf
          obtain ⟨⟨f1, f2⟩, f3⟩ := hf
          have hrl := rep_le q.bytes hd.toNat
          have hq2 : 1 ≤ q.least := by rw [q2]; exact hle.1
          simp only [if_true, hhd]
          rw [q4] at f3 hrl
          refine .inr ⟨by simp only [q4]; omega, by simp only [q4, List.length_append, List.length_singleton]; omega, by simp only [q4]; omega, ?_⟩
          obtain ⟨c, hc, hc2⟩ := hexI hd.toNat
          refine ⟨c, by simp only [q4, q5]; exact hc, ?_⟩
          simp only [q4, q5]
          rw [if_pos (by omega)]; exact hc2
        | false =>
          simp only [Bool.false_eq_true, if_false]
          rcases qa with ⟨a1, a2⟩ | ⟨a1, a2, a3, a4, a5⟩
          · exact .inl ⟨a1, a2, by simp [a1]⟩
          · refine .inr ⟨⟨a1, a2⟩, ⟨a3, by simp [q4]; omega⟩, by simpa [q4] using a5, ?_⟩
            obtain ⟨c, hc, hc2⟩ := hexI q.at_.toNat
            refine ⟨c, by simp only [q4, q5]; exact hc, ?_⟩
            simp only [q4, q5]
            rw [if_pos (by omega)]; exact hc2
  · unfold take
    rw [if_neg hfull]
    refine ⟨by simpa [expect, n1] using h.bits, by simpa [expect, n2] using h.least, by simpa [expect, n4] using h.few, by simp [expect, n1, n3]; exact h.heads, by simp [expect, n6]; exact h.ctrs, by simp only [expect]; omega, by simp only [expect, n3, n4]; exact h.head, by simpa [expect] using n7, ?_⟩
    rw [matched_iff]
    simp only [expect]
    rcases n8 with ⟨a1, a2⟩ | ⟨a1, a2, a3, a4⟩
    · exact .inl ⟨a1, a2, by simp [a1]⟩
    · have hM := hmat a1
      have b1 := hM.len
      have b2 := hM.at_
      have b3 := hM.rep
      obtain ⟨c, hc, hcb⟩ := hM.exp
      rw [hpt] at hc
      obtain ⟨d, hd⟩ := exp_next (hB.at m.at_.toNat) (by omega) (by omega) hc
      have e := hbN c hcb a2
      rw [n5]
      refine .inr ⟨by simp only; omega, by simp only [n4]; omega, by simp only [n4, a3, a4]; exact b3, d, ?_, ?_⟩
      · simp only [n4, a4]; rw [e]; exact hd
      · simp only [n4, a4]
        rw [if_pos (by omega)]
        unfold expI
        rw [e, hd]
end Go.Proofs.Ytbfgdaijpcbddaa.S12
