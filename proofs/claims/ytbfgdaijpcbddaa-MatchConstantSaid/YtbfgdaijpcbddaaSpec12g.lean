/- A match model that sees one and the same byte. No program, no condition. -/
import Derived.Test.YtbfgdaijpcbddaaSpec12f
set_option linter.unusedSimpArgs false
set_option linter.unusedVariables false
set_option linter.unusedSectionVars false
namespace Go.Proofs.Ytbfgdaijpcbddaa.S12

def CtrUp (m : M) : Prop := ∀ c ∈ m.ctrs, 32768 ≤ c.1
theorem CtrUp.learn {m : M} (h : CtrUp m) (hw : WF m) {b : Int} (hb : m.len = 0 ∨ b = m.bit) : CtrUp (learn m b) := by
  unfold S12.learn
  by_cases h0 : m.len = 0
  · rw [if_pos h0]; exact h
  · rw [if_neg h0]
    rcases hb with hb | hb
    · exact absurd hb h0
    · rw [if_pos hb]
      intro c hc
      rcases List.mem_or_eq_of_mem_set hc with hc | rfl
      · exact h c hc
      · have hk : min m.len.toNat 15 < m.ctrs.length := by have := hw.ctrs; omega
        have hm : m.ctrs.getD (min m.len.toNat 15) (0, 0) ∈ m.ctrs := by rw [getD_in _ _ hk]; exact List.getElem_mem hk
        have h1 := h _ hm
        have h2 := S08.check_ok (hw.ctr _ hm)
        have h3 := (S08.step_between (p := (m.ctrs.getD (min m.len.toNat 15) (0, 0)).1) (n := (m.ctrs.getD (min m.len.toNat 15) (0, 0)).2) (bit := 1) (by omega) (by omega) (by omega) (.inr rfl)).1 rfl
        simp only
        omega
theorem search_ctrs (m : M) : (search m).ctrs = m.ctrs := by unfold search; split <;> rfl
theorem extend_ctrs (m : M) : (extend m).ctrs = m.ctrs := by unfold extend; split <;> rfl
theorem take_ctrs (m : M) (p : Int) : (take m p).ctrs = m.ctrs := by
  unfold take
  split
  · rw [search_ctrs, extend_ctrs]
  · rfl
theorem CtrUp.bit {m : M} (h : CtrUp m) (hw : WF m) {b : Int} (hb : m.len = 0 ∨ b = m.bit) : CtrUp (bitM m b) := by
  have := h.learn hw hb
  intro c hc
  refine this c ?_
  unfold bitM at hc
  have e : (expect (take (S12.learn m b) (2 * (S12.learn m b).part + b))).ctrs = (S12.learn m b).ctrs := take_ctrs _ _
  rw [e] at hc
  exact hc

theorem getD_replicate {n i : Nat} {x : Int} (h : i < n) : (List.replicate n x).getD i 0 = x := by
  rw [getD_in _ _ (by simpa using h)]; simp
theorem rep_const {j p : Nat} (x : Int) (hp : p < j) : rep (List.replicate j x) p = min 255 p := by
  refine rep_of (Nat.le_refl _) (fun i hi => ?_) (.inl rfl)
  unfold eqAt
  rw [List.length_replicate, getD_replicate (by omega), getD_replicate (by omega)]
  simp
theorem idx_const {j n : Nat} (x : Int) (hj : n ≤ j) (nb : Int) : idx (List.replicate j x) nb (n : Int) = hash (List.replicate n x) / 2 ^ (32 - nb.toNat) := by
  unfold idx
  rw [List.length_replicate, Int.toNat_natCast, List.drop_replicate, show j - (j - n) = n by omega]
theorem Byt_replicate {x : Nat} (hx : x < 256) (j : Nat) : Byt (List.replicate j (x : Int)) := fun z hz => by rw [List.eq_of_mem_replicate hz]; omega

/-- The state behind j bytes, all x. -/
structure Con (nb n x j : Nat) (m : M) : Prop where
  fed : Fed nb n (List.replicate j (x : Int)) m
  ctr : CtrUp m
  early : j < n → m.heads = List.replicate (2 ^ nb) 0 ∧ m.len = 0
  mark : j = n → m.len = 0 ∧ m.heads.getD (hash (List.replicate n (x : Int)) / 2 ^ (32 - nb)) 0 = n
  late : n < j → m.len ≠ 0
/-- The same within a byte. -/
structure ConMid (nb n x j k : Nat) (m : M) : Prop where
  mid : Mid nb n (List.replicate j (x : Int)) x k m
  ctr : CtrUp m
  early : j < n → m.heads = List.replicate (2 ^ nb) 0 ∧ m.len = 0
  mark : j = n → m.len = 0 ∧ m.heads.getD (hash (List.replicate n (x : Int)) / 2 ^ (32 - nb)) 0 = n
  late : n < j → m.len ≠ 0
theorem Con.mid {nb n x j : Nat} {m : M} (h : Con nb n x j m) (hx : x < 256) : ConMid nb n x j 8 m := ⟨h.fed.mid hx, h.ctr, h.early, h.mark, h.late⟩
/-- The bit that comes is the expected one. -/
theorem ConMid.hit {nb n x j k : Nat} {m : M} (h : ConMid nb n x j (k + 1) m) (hx : x < 256) (hk : k ≤ 7) : m.len = 0 ∨ ((x / 2 ^ k % 2 : Nat) : Int) = m.bit := by
  by_cases h0 : m.len = 0
  · exact .inl h0
  · obtain ⟨l, p, f, _, _, _, _, _, _, hp, hf, _, hb, _, _⟩ := h.mid.bit hx hk (Byt_replicate hx j) h0
    rw [List.length_replicate] at hp
    rw [getD_replicate hp] at hf
    have : x = f := by exact_mod_cast hf
    subst this
    exact .inr hb.symm
theorem ConMid.within {nb n x j k : Nat} {m : M} (h : ConMid nb n x j (k + 2) m) (hx : x < 256) (hk : k ≤ 6) (hj : j ≤ 60000) : ConMid nb n x j (k + 1) (bitM m ((x / 2 ^ (k + 1) % 2 : Nat) : Int)) := by
  have hh := h.hit hx (by omega)
  have hm := h.mid.within hx hk (Byt_replicate hx j) (by rw [List.length_replicate]; omega)
  have hp : m.part ≤ 127 := by rw [h.mid.part]; have := part_lt hx (show 2 ≤ k + 2 by omega); omega
  obtain ⟨e1, e2, e3⟩ := bit_hit (b := ((x / 2 ^ (k + 1) % 2 : Nat) : Int)) hh (by omega) hp
  exact ⟨hm, h.ctr.bit h.mid.wf hh, fun hl => ⟨e3.trans (h.early hl).1, e1.trans (h.early hl).2⟩, fun he => ⟨e1.trans (h.mark he).1, by rw [e3]; exact (h.mark he).2⟩, fun hl => by rw [e1]; exact h.late hl⟩
theorem ConMid.last {nb n x j : Nat} {m : M} (h : ConMid nb n x j 1 m) (hx : x < 256) (hj : j ≤ 60000) (hn : 1 ≤ n) (hn2 : n ≤ 32) (hnb : 1 ≤ nb ∧ nb ≤ 16) : Con nb n x (j + 1) (bitM m ((x / 2 ^ 0 % 2 : Nat) : Int)) := by
  have hh := h.hit hx (by omega)
  have hF := h.mid.last hx (Byt_replicate hx j) (by rw [List.length_replicate]; omega)
  have hrs : List.replicate j (x : Int) ++ [(x : Int)] = List.replicate (j + 1) (x : Int) := by rw [List.replicate_succ']
  rw [hrs] at hF
  have hpt := h.mid.part
  have hp128 : 128 ≤ m.part := by rw [hpt]; omega
  obtain ⟨l1, l2, l3, l4, l5⟩ := learn_bits m ((x / 2 ^ 0 % 2 : Nat) : Int)
  have hb256 : 2 * m.part + ((x / 2 ^ 0 % 2 : Nat) : Int) - 256 = (x : Int) := by rw [hpt]; simp only [Nat.pow_zero, Nat.div_one, Nat.pow_one]; omega
  have ht : take (learn m ((x / 2 ^ 0 % 2 : Nat) : Int)) (2 * (learn m ((x / 2 ^ 0 % 2 : Nat) : Int)).part + ((x / 2 ^ 0 % 2 : Nat) : Int)) = search (extend { learn m ((x / 2 ^ 0 % 2 : Nat) : Int) with bytes := List.replicate (j + 1) (x : Int), part := 1 }) := by
    unfold take; rw [l4, if_pos (by omega), l3, hb256, h.mid.bytes, hrs]
  have hheads : ∀ q : M, q = extend { learn m ((x / 2 ^ 0 % 2 : Nat) : Int) with bytes := List.replicate (j + 1) (x : Int), part := 1 } → m.len = 0 → q.len = 0 ∧ q.heads = m.heads ∧ q.bytes = List.replicate (j + 1) (x : Int) ∧ q.bits = nb ∧ q.least = n := fun q hq h0 => by
    have hll : (learn m ((x / 2 ^ 0 % 2 : Nat) : Int)) = m := by unfold learn; rw [if_pos h0]
    rw [hq, hll]
    unfold extend
    rw [if_neg (by simp only; omega)]
    exact ⟨h0, rfl, rfl, h.mid.bits, h.mid.least⟩
  have hlenE : (bitM m ((x / 2 ^ 0 % 2 : Nat) : Int)).len = (search (extend { learn m ((x / 2 ^ 0 % 2 : Nat) : Int) with bytes := List.replicate (j + 1) (x : Int), part := 1 })).len := by
    unfold bitM; rw [ht]; rfl
  have hheadE : (bitM m ((x / 2 ^ 0 % 2 : Nat) : Int)).heads = (search (extend { learn m ((x / 2 ^ 0 % 2 : Nat) : Int) with bytes := List.replicate (j + 1) (x : Int), part := 1 })).heads := by
    unfold bitM; rw [ht]; rfl
  obtain ⟨q, hq⟩ : ∃ q, extend { learn m ((x / 2 ^ 0 % 2 : Nat) : Int) with bytes := List.replicate (j + 1) (x : Int), part := 1 } = q := ⟨_, rfl⟩
  rw [hq] at hlenE hheadE
  have hheads := hheads q hq.symm
  refine ⟨hF, h.ctr.bit h.mid.wf hh, fun hl => ?_, fun he => ?_, fun hl => ?_⟩
  · obtain ⟨h1, h2⟩ := h.early (by omega)
    obtain ⟨a1, a2, a3, a4, a5⟩ := hheads h2
    have hs : search q = q := by unfold search; rw [a3, a5, List.length_replicate, if_pos (by omega)]
    rw [hlenE, hheadE, hs]
    exact ⟨a2.trans h1, a1⟩
  · obtain ⟨h1, h2⟩ := h.early (by omega)
    obtain ⟨a1, a2, a3, a4, a5⟩ := hheads h2
    have hi : idx q.bytes q.bits q.least = hash (List.replicate n (x : Int)) / 2 ^ (32 - nb) := by rw [a3, a4, a5, idx_const _ (by omega), Int.toNat_natCast]
    have hil := idx_lt q.bytes (bits := q.bits) q.least (by rw [a4]; omega)
    rw [a4, Int.toNat_natCast] at hil
    have hf : found q = false := by
      unfold found
      rw [a2, h1, getD_in _ _ (by simp only [List.length_replicate]; rw [a4] at *; exact hil)]
      simp
    have hs : search q = { q with heads := q.heads.set (idx q.bytes q.bits q.least) q.bytes.length } := by
      unfold search
      rw [hf, if_neg (by rw [a3, a5, List.length_replicate]; omega)]
      rfl
    rw [hlenE, hheadE, hs]
    refine ⟨a1, ?_⟩
    simp only
    rw [← hi, a2, h1, List.getD, List.getElem?_set_self (by simp only [List.length_replicate]; rw [a4]; exact hil), a3, List.length_replicate]
    simp; omega
  · by_cases hjn : j = n
    · obtain ⟨h1, h2⟩ := h.mark hjn
      obtain ⟨a1, a2, a3, a4, a5⟩ := hheads h1
      have hi : idx q.bytes q.bits q.least = hash (List.replicate n (x : Int)) / 2 ^ (32 - nb) := by rw [a3, a4, a5, idx_const _ (by omega), Int.toNat_natCast]
      have hr : rep q.bytes n = min 255 n := by rw [a3, rep_const _ (by omega)]
      have hh : q.heads.getD (idx q.bytes q.bits q.least) 0 = n := by rw [hi, a2]; exact h2
      have hf : found q = true := by
        unfold found
        rw [hh, Int.toNat_natCast, hr, a1, a5]
        simp
        omega
      rw [hlenE]
      unfold search
      rw [hf, if_neg (by rw [a3, a5, List.length_replicate]; omega)]
      simp only [if_true, hh, Int.toNat_natCast, hr]
      omega
    · have h0 := h.late (by omega)
      have hb : ((x / 2 ^ 0 % 2 : Nat) : Int) = m.bit := hh.resolve_left h0
      exact (bit_hit_full h.mid.wf h0 hb (by omega) hp128).2
theorem Con.byte {nb n x j : Nat} {m : M} (h : Con nb n x j m) (hx : x < 256) (hj : j ≤ 60000) (hn : 1 ≤ n) (hn2 : n ≤ 32) (hnb : 1 ≤ nb ∧ nb ≤ 16) : Con nb n x (j + 1) (byteM m x 8) := by
  have h8 := h.mid hx
  have h7 := h8.within (k := 6) hx (by omega) hj
  have h6 := h7.within (k := 5) hx (by omega) hj
  have h5 := h6.within (k := 4) hx (by omega) hj
  have h4 := h5.within (k := 3) hx (by omega) hj
  have h3 := h4.within (k := 2) hx (by omega) hj
  have h2 := h3.within (k := 1) hx (by omega) hj
  have h1 := h2.within (k := 0) hx (by omega) hj
  exact h1.last hx hj hn hn2 hnb
theorem con_start {nb n x : Nat} (hnb : 1 ≤ nb ∧ nb ≤ 16) (hn : 1 ≤ n) (hn2 : n ≤ 32) : Con nb n x 0 (start nb n) := by
  refine ⟨start_wf (by omega) (by omega), ?_, fun _ => ⟨by simp [start], rfl⟩, fun h => by omega, fun h => by omega⟩
  intro c hc
  rw [List.eq_of_mem_replicate hc]
  decide
theorem con_fed {nb n x : Nat} (hx : x < 256) (hnb : 1 ≤ nb ∧ nb ≤ 16) (hn : 1 ≤ n) (hn2 : n ≤ 32) : ∀ j, j ≤ 60000 → Con nb n x j (fedM (start nb n) (List.replicate j (x : Int)))
  | 0, _ => con_start hnb hn hn2
  | j + 1, hj => by
    have h := (con_fed hx hnb hn hn2 j (by omega)).byte hx (by omega) hn hn2 hnb
    rw [List.replicate_succ', fedM_app]
    exact h
/-- What Predict says while the byte goes on. -/
theorem ConMid.pred {nb n x j k : Nat} {m : M} (h : ConMid nb n x j (k + 1) m) (hx : x < 256) (hk : k ≤ 7) (hl : n < j) :
    predB m = true ∧ m.bit = ((x / 2 ^ k % 2 : Nat) : Int) ∧ (x / 2 ^ k % 2 = 1 → 2048 ≤ predP m) ∧ (x / 2 ^ k % 2 = 0 → predP m ≤ 2048) := by
  have h0 := h.late hl
  have hb := (h.hit hx hk).resolve_left h0
  obtain ⟨p1, p2, p3, p4⟩ := h.mid.wf.pred1 h0
  have hk16 : min m.len.toNat 15 < m.ctrs.length := by have := h.mid.wf.ctrs; omega
  have hm : m.ctrs.getD (min m.len.toNat 15) (0, 0) ∈ m.ctrs := by rw [getD_in _ _ hk16]; exact List.getElem_mem hk16
  have hc := h.ctr _ hm
  have hr := predict_range (h.mid.wf.ctr_at (min m.len.toNat 15) (by omega))
  refine ⟨p1, hb.symm, fun h1 => ?_, fun h1 => ?_⟩
  · rw [p4, ← hb, h1, if_neg (by decide)]; omega
  · rw [p4, ← hb, h1, if_pos (show ((0 : Nat) : Int) = 0 from rfl)]; omega
end Go.Proofs.Ytbfgdaijpcbddaa.S12
