/- What Bit and Longest (layer 12) compute, in plain functions, and that a model stays well-formed. No program, no condition. -/
import Derived.Test.YtbfgdaijpcbddaaSpec12
set_option linter.unusedSimpArgs false
set_option linter.unusedVariables false
set_option linter.unusedSectionVars false
namespace Go.Proofs.Ytbfgdaijpcbddaa.S12

/-- The expected bit, as a number: 2 if there is none. -/
def expI (x : Int) (pt : Int) : Int := match exp x.toNat pt with | some b => (b : Int) | none => 2
def factor : Nat := 2654435761
def hash (b : List Int) : Nat := b.foldl (fun h (x : Int) => (h + x.toNat + 1) * factor % 4294967296) 0
def idx (b : List Int) (bits least : Int) : Nat := hash (b.drop (b.length - least.toNat)) / 2 ^ (32 - bits.toNat)
def learn (m : M) (b : Int) : M :=
  if m.len = 0 then m
  else if b = m.bit then { m with ctrs := m.ctrs.set (min m.len.toNat 15) (S08.step (m.ctrs.getD (min m.len.toNat 15) (0, 0)).1 (m.ctrs.getD (min m.len.toNat 15) (0, 0)).2 1, min ((m.ctrs.getD (min m.len.toNat 15) (0, 0)).2 + 1) 255) }
  else { m with ctrs := m.ctrs.set (min m.len.toNat 15) (S08.step (m.ctrs.getD (min m.len.toNat 15) (0, 0)).1 (m.ctrs.getD (min m.len.toNat 15) (0, 0)).2 0, min ((m.ctrs.getD (min m.len.toNat 15) (0, 0)).2 + 1) 255), at_ := 0, len := 0 }
def extend (m : M) : M := if 0 < m.len then { m with at_ := m.at_ + 1, len := min (m.len + 1) 255 } else m
def found (m : M) : Bool := decide (m.len = 0) && decide (0 < m.heads.getD (idx m.bytes m.bits m.least) 0) && decide (m.least ≤ (rep m.bytes (m.heads.getD (idx m.bytes m.bits m.least) 0).toNat : Int))
def search (m : M) : M :=
  if (m.bytes.length : Int) < m.least then m
  else { m with
    at_ := if found m then m.heads.getD (idx m.bytes m.bits m.least) 0 else m.at_,
    len := if found m then (rep m.bytes (m.heads.getD (idx m.bytes m.bits m.least) 0).toNat : Int) else m.len,
    heads := m.heads.set (idx m.bytes m.bits m.least) m.bytes.length }
def take (m : M) (p : Int) : M := if 255 < p then search (extend { m with bytes := m.bytes ++ [p - 256], part := 1 }) else { m with part := p }
def expect (m : M) : M := { m with bit := if 0 < m.len then expI (m.bytes.getD m.at_.toNat 0) m.part else 2 }
def bitM (m : M) (b : Int) : M := expect (take (learn m b) (2 * (learn m b).part + b))
def bitE (m : M) (b : Int) : Int := if check m ≠ 0 then check m else if ¬ (0 ≤ b ∧ b ≤ 1) then 1 else if 128 ≤ m.part ∧ 65536 ≤ m.bytes.length then 11 else 0
/-- The longest repetition before a place. -/
def longTo (b : List Int) (least : Int) : Nat → Nat × Nat
  | 0 => (0, 0)
  | p + 1 => if p = 0 then (0, 0) else if (longTo b least p).2 ≤ rep b p ∧ least ≤ rep b p then (p, rep b p) else longTo b least p
def longest (b : List Int) (least : Int) : Nat × Nat := if least < 1 ∨ 65536 < b.length then (0, 0) else longTo b least b.length

/-- The parts of a well-formed model. -/
structure WF (m : M) : Prop where
  bits : 1 ≤ m.bits ∧ m.bits ≤ 16
  least : 1 ≤ m.least ∧ m.least ≤ 32
  few : m.bytes.length ≤ 65536
  heads : m.heads.length = 2 ^ m.bits.toNat
  ctrs : m.ctrs.length = 16
  part : 1 ≤ m.part ∧ m.part ≤ 255
  head : ∀ h ∈ m.heads, 0 ≤ h ∧ h ≤ m.bytes.length
  ctr : ∀ c ∈ m.ctrs, S08.check c.1 c.2 255 = 0
  mat : matched m = true
theorem check_iff (m : M) : check m = 0 ↔ WF m := by
  have hf : far m = false ↔ ∀ h ∈ m.heads, 0 ≤ h ∧ h ≤ m.bytes.length := by
    unfold far; rw [List.any_eq_false]; simp
  have hb : bad m = false ↔ ∀ c ∈ m.ctrs, S08.check c.1 c.2 255 = 0 := by
    unfold bad; rw [List.any_eq_false]; simp
  have hfo : form m = true ↔ m.heads.length = 2 ^ m.bits.toNat ∧ m.ctrs.length = 16 ∧ 1 ≤ m.part ∧ m.part ≤ 255 := by unfold form; simp [and_assoc]
  constructor
  · intro h
    unfold check at h
    split at h
    · cases h
    · rename_i h1
      split at h
      · cases h
      · rename_i h2
        split at h
        · cases h
        · rename_i h3
          split at h
          · cases h
          · rename_i h4
            have h3' : form m = true := by cases e : form m <;> simp_all
            obtain ⟨a, b, c⟩ := hfo.1 h3'
            refine ⟨by omega, by omega, by omega, a, b, c, hf.1 (by cases e : far m <;> simp_all), hb.1 (by cases e : bad m <;> simp_all), by cases e : matched m <;> simp_all⟩
  · intro h
    unfold check
    have := h.bits
    have := h.least
    have := h.few
    rw [if_neg (by omega), if_neg (by omega), if_neg (by rw [hfo.2 ⟨h.heads, h.ctrs, h.part⟩]; simp), if_neg (by rw [hf.2 h.head, hb.2 h.ctr, h.mat]; simp)]

theorem hash_lt (b : List Int) : hash b < 4294967296 := by
  have key : ∀ (b : List Int) (h : Nat), h < 4294967296 → b.foldl (fun h (x : Int) => (h + x.toNat + 1) * factor % 4294967296) h < 4294967296 := fun b => by
    induction b with
    | nil => exact fun h hh => hh
    | cons x xs ih => exact fun h _ => ih _ (Nat.mod_lt _ (by omega))
  exact key b 0 (by omega)
theorem idx_lt (b : List Int) {bits : Int} (least : Int) (h : 1 ≤ bits ∧ bits ≤ 16) : idx b bits least < 2 ^ bits.toNat := by
  unfold idx
  rw [Nat.div_lt_iff_lt_mul (Nat.two_pow_pos _), ← Nat.pow_add]
  have e : bits.toNat + (32 - bits.toNat) = 32 := by omega
  rw [e]
  exact hash_lt _

/-- Which bit is expected, by the number of the bits that were seen. -/
theorem exp_at {x pt n : Nat} (hx : x < 256) (hn : n ≤ 7) (h1 : 2 ^ n ≤ pt) (h2 : pt < 2 ^ (n + 1)) : exp x (pt : Int) = if (256 + x) / 2 ^ (8 - n) = pt then some (x / 2 ^ (7 - n) % 2) else none := by
  have key : ∀ k, k ≤ 8 → expFrom x (pt : Int) k = if 8 - n ≤ k ∧ (256 + x) / 2 ^ (8 - n) = pt then some (x / 2 ^ (7 - n) % 2) else none := by
    intro k
    induction k with
    | zero => intro _; rw [if_neg (by omega)]; rfl
    | succ k ih =>
      intro hk
      have hi := ih (by omega)
      unfold expFrom
      by_cases hkn : k = 7 - n
      · subst hkn
        rw [show 7 - n + 1 = 8 - n by omega]
        by_cases he : (256 + x) / 2 ^ (8 - n) = pt
        · rw [if_pos (by exact_mod_cast he), if_pos ⟨Nat.le_refl _, he⟩]
          congr 1
          have : (256 + x) / 2 ^ (7 - n) = 2 ^ (n + 1) + x / 2 ^ (7 - n) := by
            have e : 256 = 2 ^ (n + 1) * 2 ^ (7 - n) := by rw [← Nat.pow_add, show n + 1 + (7 - n) = 8 by omega]
            rw [e, Nat.add_comm, Nat.add_mul_div_right _ _ (Nat.two_pow_pos _), Nat.add_comm]
          rw [this, Nat.pow_succ]
          omega
        · rw [if_neg (by exact_mod_cast he), if_neg (by omega), hi, if_neg (by omega)]
      · have hne : ¬ (256 + x) / 2 ^ (k + 1) = pt := by
          intro he
          have p1 : 2 ^ (7 - k) ≤ (256 + x) / 2 ^ (k + 1) := by
            rw [Nat.le_div_iff_mul_le (Nat.two_pow_pos _), ← Nat.pow_add, show 7 - k + (k + 1) = 8 by omega]; omega
          have p2 : (256 + x) / 2 ^ (k + 1) < 2 ^ (8 - k) := by
            rw [Nat.div_lt_iff_lt_mul (Nat.two_pow_pos _), ← Nat.pow_add, show 8 - k + (k + 1) = 9 by omega]; omega
          rw [he] at p1 p2
          have q1 : 7 - k < n + 1 := (Nat.pow_lt_pow_iff_right (by omega : 1 < 2)).1 (Nat.lt_of_le_of_lt p1 h2)
          have q2 : n < 8 - k := (Nat.pow_lt_pow_iff_right (by omega : 1 < 2)).1 (Nat.lt_of_le_of_lt h1 p2)
          omega
        rw [if_neg (by exact_mod_cast hne), hi]
        by_cases hc : 8 - n ≤ k
        · simp only [hc, true_and, show 8 - n ≤ k + 1 by omega]
        · rw [if_neg (by omega), if_neg (by omega)]
  have := key 8 (by omega)
  unfold exp
  rw [this]
  simp only [show 8 - n ≤ 8 by omega, true_and]
theorem log_of {pt : Nat} (h1 : 1 ≤ pt) (h2 : pt ≤ 255) : ∃ n, n ≤ 7 ∧ 2 ^ n ≤ pt ∧ pt < 2 ^ (n + 1) := by
  have a := Nat.log2_self_le (n := pt) (by omega)
  have b := Nat.lt_log2_self (n := pt)
  have c : pt.log2 < 8 := (Nat.pow_lt_pow_iff_right (by omega : 1 < 2)).1 (Nat.lt_of_le_of_lt a (by omega))
  exact ⟨pt.log2, by omega, a, b⟩
end Go.Proofs.Ytbfgdaijpcbddaa.S12
