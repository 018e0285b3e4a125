/- A match model that is fed with bytes. No program, no condition. -/
import Derived.Test.YtbfgdaijpcbddaaSpec12c
set_option linter.unusedSimpArgs false
set_option linter.unusedVariables false
set_option linter.unusedSectionVars false
namespace Go.Proofs.Ytbfgdaijpcbddaa.S12

/-- The model behind the last k bits of a byte. -/
def byteM (m : M) (x : Nat) : Nat → M
  | 0 => m
  | k + 1 => byteM (bitM m ((x / 2 ^ k % 2 : Nat) : Int)) x k
def fedM (m : M) : List Int → M
  | [] => m
  | x :: xs => fedM (byteM m x.toNat 8) xs
theorem fedM_app (m : M) (xs ys : List Int) : fedM m (xs ++ ys) = fedM (fedM m xs) ys := by
  induction xs generalizing m with
  | nil => rfl
  | cons x xs ih => exact ih _
def start (bits least : Int) : M := ⟨bits, least, List.replicate (2 ^ bits.toNat) 0, [], 0, 0, 1, 2, List.replicate 16 (32768, 0)⟩

/-- What holds of a model that has been fed: J what is said of its bytes, places and lengths besides. -/
structure Fed (bits least : Int) (bs : List Int) (m : M) : Prop where
  wf : WF m
  bits : m.bits = bits
  least : m.least = least
  bytes : m.bytes = bs
  part : m.part = 1
  long : m.len = 0 ∨ m.least ≤ m.len

theorem start_wf {bits least : Int} (h1 : 1 ≤ bits ∧ bits ≤ 16) (h2 : 1 ≤ least ∧ least ≤ 32) : Fed bits least [] (start bits least) := by
  refine ⟨⟨h1, h2, by simp [start], by simp [start], by simp [start], by simp [start], ?_, ?_, ?_⟩, rfl, rfl, rfl, rfl, .inl rfl⟩
  · intro x hx; rw [List.eq_of_mem_replicate hx]; simp [start]
  · intro c hc; rw [List.eq_of_mem_replicate hc]; rfl
  · rw [matched_iff]; exact .inl ⟨rfl, rfl, rfl⟩

theorem learn_bits (m : M) (b : Int) : (learn m b).bits = m.bits ∧ (learn m b).least = m.least ∧ (learn m b).bytes = m.bytes ∧ (learn m b).part = m.part ∧ (learn m b).heads = m.heads := by
  unfold learn; split
  · exact ⟨rfl, rfl, rfl, rfl, rfl⟩
  · split <;> exact ⟨rfl, rfl, rfl, rfl, rfl⟩
theorem learn_len (m : M) (b : Int) : ((learn m b).len = 0 ∧ m.len ≠ 0) ∨ ((learn m b).len = m.len ∧ (learn m b).at_ = m.at_ ∧ (m.len = 0 ∨ b = m.bit)) := by
  unfold learn; split
  · rename_i h; exact .inr ⟨rfl, rfl, .inl h⟩
  · rename_i h; split
    · rename_i h2; exact .inr ⟨rfl, rfl, .inr h2⟩
    · exact .inl ⟨rfl, h⟩
theorem search_facts (m : M) : (search m).bits = m.bits ∧ (search m).least = m.least ∧ (search m).bytes = m.bytes ∧ (search m).part = m.part ∧ ((search m).len = m.len ∨ m.least ≤ (search m).len) := by
  unfold search; split
  · exact ⟨rfl, rfl, rfl, rfl, .inl rfl⟩
  · refine ⟨rfl, rfl, rfl, rfl, ?_⟩
    cases hf : found m with
    | true =>
      right
      simp only [if_true]
      unfold found at hf
      simp only [Bool.and_eq_true, decide_eq_true_eq] at hf
      exact hf.2
    | false => left; simp
theorem bitE_ok {m : M} (h : WF m) {b : Int} (hb : b = 0 ∨ b = 1) (hr : m.bytes.length < 65536) : bitE m b = 0 := by
  unfold bitE
  rw [if_neg (by rw [(check_iff m).2 h]; simp), if_neg (by omega), if_neg (by omega)]

/-- A bit within a byte. -/
theorem bit_within {m : M} (h : WF m) (hB : Byt m.bytes) {b : Int} (hb : b = 0 ∨ b = 1) (hr : m.bytes.length < 65536) (hp : m.part ≤ 127) :
    WF (bitM m b) ∧ (bitM m b).bits = m.bits ∧ (bitM m b).least = m.least ∧ (bitM m b).bytes = m.bytes ∧ (bitM m b).part = 2 * m.part + b ∧ ((bitM m b).len = 0 ∨ (bitM m b).len = m.len) := by
  obtain ⟨l1, l2, l3, l4, l5⟩ := learn_bits m b
  have hl := learn_len m b
  have ht : take (learn m b) (2 * (learn m b).part + b) = { learn m b with part := 2 * m.part + b } := by
    unfold take; rw [l4, if_neg (by omega)]
  refine ⟨h.bitM hB hb (bitE_ok h hb hr), ?_⟩
  unfold bitM
  rw [ht]
  refine ⟨l1, l2, l3, rfl, ?_⟩
  rcases hl with ⟨h1, _⟩ | ⟨h1, _⟩
  · exact .inl h1
  · exact .inr h1
/-- A bit that completes a byte. -/
theorem bit_full {m : M} (h : WF m) (hB : Byt m.bytes) {b : Int} (hb : b = 0 ∨ b = 1) (hr : m.bytes.length < 65536) (hp : 128 ≤ m.part) (hl : m.len = 0 ∨ m.least ≤ m.len) :
    WF (bitM m b) ∧ (bitM m b).bits = m.bits ∧ (bitM m b).least = m.least ∧ (bitM m b).bytes = m.bytes ++ [2 * m.part + b - 256] ∧ (bitM m b).part = 1 ∧ ((bitM m b).len = 0 ∨ (bitM m b).least ≤ (bitM m b).len) := by
  obtain ⟨l1, l2, l3, l4, l5⟩ := learn_bits m b
  have hll := learn_len m b
  have ht : take (learn m b) (2 * (learn m b).part + b) = search (extend { learn m b with bytes := m.bytes ++ [2 * m.part + b - 256], part := 1 }) := by
    unfold take; rw [l4, if_pos (by omega), l3]
  refine ⟨h.bitM hB hb (bitE_ok h hb hr), ?_⟩
  have hle := h.least
  unfold bitM
  rw [ht]
  obtain ⟨q, hq⟩ : ∃ q, extend { learn m b with bytes := m.bytes ++ [2 * m.part + b - 256], part := 1 } = q := ⟨_, rfl⟩
  rw [hq]
  have qf : q.bits = m.bits ∧ q.least = m.least ∧ q.bytes = m.bytes ++ [2 * m.part + b - 256] ∧ q.part = 1 ∧ (q.len = 0 ∨ m.least ≤ q.len) := by
    rw [← hq]; unfold extend
    split
    · refine ⟨l1, l2, rfl, rfl, .inr ?_⟩
      rename_i h0
      simp only at h0 ⊢
      rcases hll with ⟨h1, _⟩ | ⟨h1, _⟩
      · omega
      · rw [h1]; omega
    · refine ⟨l1, l2, rfl, rfl, .inl ?_⟩
      rename_i h0
      simp only at h0 ⊢
      rcases hll with ⟨h1, _⟩ | ⟨h1, _⟩
      · exact h1
      · rw [h1] at h0 ⊢; omega
  obtain ⟨s1, s2, s3, s4, s5⟩ := search_facts q
  obtain ⟨q1, q2, q3, q4, q5⟩ := qf
  refine ⟨s1.trans q1, s2.trans q2, s3.trans q3, s4.trans q4, ?_⟩
  show (search q).len = 0 ∨ (search q).least ≤ (search q).len
  rw [s2, q2]
  rcases s5 with h1 | h1
  · rw [h1]; exact q5
  · rw [q2] at h1; exact .inr h1

/-- Within a byte: j bits are seen, k are still to come. -/
structure Mid (bits least : Int) (bs : List Int) (x k : Nat) (m : M) : Prop where
  wf : WF m
  bits : m.bits = bits
  least : m.least = least
  bytes : m.bytes = bs
  part : m.part = (((256 + x) / 2 ^ k : Nat) : Int)
  long : m.len = 0 ∨ m.least ≤ m.len
theorem Fed.mid {bits least : Int} {bs : List Int} {m : M} (h : Fed bits least bs m) {x : Nat} (hx : x < 256) : Mid bits least bs x 8 m :=
  ⟨h.wf, h.bits, h.least, h.bytes, by rw [h.part, show (256 + x) / 2 ^ 8 = 1 by omega]; rfl, h.long⟩
theorem half (x k : Nat) : (256 + x) / 2 ^ k = 2 * ((256 + x) / 2 ^ (k + 1)) + (256 + x) / 2 ^ k % 2 := by
  rw [Nat.pow_succ, ← Nat.div_div_eq_div_mul]; omega
theorem bit_of {x k : Nat} (hk : k ≤ 7) : (256 + x) / 2 ^ k % 2 = x / 2 ^ k % 2 := by
  have e : 256 = 2 ^ (8 - k) * 2 ^ k := by rw [← Nat.pow_add, show 8 - k + k = 8 by omega]
  rw [e, Nat.add_comm, Nat.add_mul_div_right _ _ (Nat.two_pow_pos _)]
  have : 2 ^ (8 - k) = 2 * 2 ^ (7 - k) := by rw [show 8 - k = 7 - k + 1 by omega, Nat.pow_succ, Nat.mul_comm]
  omega
theorem part_lt {x k : Nat} (hx : x < 256) (hk : 2 ≤ k) : (256 + x) / 2 ^ k ≤ 127 := by
  have : (256 + x) / 2 ^ k ≤ (256 + x) / 2 ^ 2 := Nat.div_le_div_left (Nat.pow_le_pow_right (by omega) hk) (by decide)
  omega
theorem Mid.within {bits least : Int} {bs : List Int} {x k : Nat} {m : M} (h : Mid bits least bs x (k + 2) m) (hx : x < 256) (hk : k ≤ 6) (hB : Byt bs) (hr : bs.length < 65536) : Mid bits least bs x (k + 1) (bitM m ((x / 2 ^ (k + 1) % 2 : Nat) : Int)) := by
  have hb : ((x / 2 ^ (k + 1) % 2 : Nat) : Int) = 0 ∨ ((x / 2 ^ (k + 1) % 2 : Nat) : Int) = 1 := by omega
  have hp := part_lt hx (show 2 ≤ k + 2 by omega)
  obtain ⟨a1, a2, a3, a4, a5, a6⟩ := bit_within h.wf (by rw [h.bytes]; exact hB) hb (by rw [h.bytes]; exact hr) (by rw [h.part]; omega)
  refine ⟨a1, a2.trans h.bits, a3.trans h.least, a4.trans h.bytes, ?_, ?_⟩
  · rw [a5, h.part]
    have h1 := half x (k + 1)
    have h2 := bit_of (x := x) (show k + 1 ≤ 7 by omega)
    rw [h2, show k + 1 + 1 = k + 2 from rfl] at h1
    generalize (256 + x) / 2 ^ (k + 2) = A at h1 ⊢
    generalize (256 + x) / 2 ^ (k + 1) = C at h1 ⊢
    generalize x / 2 ^ (k + 1) % 2 = D at h1 ⊢
    omega
  · rw [a3]
    have := h.long
    omega
theorem Mid.last {bits least : Int} {bs : List Int} {x : Nat} {m : M} (h : Mid bits least bs x 1 m) (hx : x < 256) (hB : Byt bs) (hr : bs.length < 65536) : Fed bits least (bs ++ [(x : Int)]) (bitM m ((x / 2 ^ 0 % 2 : Nat) : Int)) := by
  have hb : ((x / 2 ^ 0 % 2 : Nat) : Int) = 0 ∨ ((x / 2 ^ 0 % 2 : Nat) : Int) = 1 := by omega
  have hpt := h.part
  obtain ⟨a1, a2, a3, a4, a5, a6⟩ := bit_full h.wf (by rw [h.bytes]; exact hB) hb (by rw [h.bytes]; exact hr) (by rw [h.part]; omega) h.long
  refine ⟨a1, a2.trans h.bits, a3.trans h.least, ?_, a5, a6⟩
  rw [a4, h.bytes, h.part]
  congr 2
  simp only [Nat.pow_zero, Nat.div_one, Nat.pow_one]
  omega
theorem Fed.byte {bits least : Int} {bs : List Int} {m : M} (h : Fed bits least bs m) {x : Nat} (hx : x < 256) (hB : Byt bs) (hr : bs.length < 65536) : Fed bits least (bs ++ [(x : Int)]) (byteM m x 8) := by
  have h8 := h.mid hx
  have h7 := h8.within (k := 6) hx (by omega) hB hr
  have h6 := h7.within (k := 5) hx (by omega) hB hr
  have h5 := h6.within (k := 4) hx (by omega) hB hr
  have h4 := h5.within (k := 3) hx (by omega) hB hr
  have h3 := h4.within (k := 2) hx (by omega) hB hr
  have h2 := h3.within (k := 1) hx (by omega) hB hr
  have h1 := h2.within (k := 0) hx (by omega) hB hr
  exact h1.last hx hB hr
theorem Fed.bytes_ {bits least : Int} : ∀ (xs : List Int) {bs : List Int} {m : M}, Fed bits least bs m → Byt bs → Byt xs → bs.length + xs.length ≤ 65536 → Fed bits least (bs ++ xs) (fedM m xs)
  | [], bs, m, h, _, _, _ => by rw [List.append_nil]; exact h
  | x :: xs, bs, m, h, hB, hX, hl => by
    have hx := hX x (List.mem_cons_self)
    obtain ⟨n, rfl⟩ : ∃ n : Nat, x = n := ⟨x.toNat, by omega⟩
    rw [List.length_cons] at hl
    have h1 := h.byte (x := n) (by omega) hB (by omega)
    have h2 := Fed.bytes_ xs h1 (fun z hz => by
      rcases List.mem_append.1 hz with hz | hz
      · exact hB z hz
      · rw [List.mem_singleton.1 hz]; exact hx) (fun z hz => hX z (List.mem_cons_of_mem _ hz)) (by simp; omega)
    rw [List.append_assoc] at h2
    exact h2
theorem fed_ok {bits least : Int} (h1 : 1 ≤ bits ∧ bits ≤ 16) (h2 : 1 ≤ least ∧ least ≤ 32) {xs : List Int} (hX : Byt xs) (hl : xs.length ≤ 65536) : Fed bits least xs (fedM (start bits least) xs) := by
  have := Fed.bytes_ xs (start_wf h1 h2) (fun z hz => absurd hz List.not_mem_nil) hX (by simpa using hl)
  rwa [List.nil_append] at this
end Go.Proofs.Ytbfgdaijpcbddaa.S12
