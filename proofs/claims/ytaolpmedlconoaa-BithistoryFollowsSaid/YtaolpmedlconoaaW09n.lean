/- The laws BithistoryFollows, BithistoryForgets and BithistoryMirrors at every input. No condition. -/
import Derived.Test.YtaolpmedlconoaaW09l
set_option linter.unusedSimpArgs false
set_option linter.unusedVariables false
set_option linter.unusedSectionVars false
namespace Go.Proofs.Ytaolpmedlconoaa
open Go.RowKit

/-! Plain facts. -/
theorem S09.step_facts : S09.allStates (fun s =>
    let z := S09.hz s; let o := S09.ho s
    decide (S09.z2 z o 0 + S09.o2 z o 0 ≤ z + o + 1) && decide (S09.z2 z o 1 + S09.o2 z o 1 ≤ z + o + 1) &&
    decide (1 ≤ S09.z2 z o 0 ∧ S09.z2 z o 0 ≤ z + 1 ∧ S09.o2 z o 0 ≤ o ∧ (o ≤ 2 ∨ S09.o2 z o 0 < o)) && decide (1 ≤ S09.o2 z o 1 ∧ S09.o2 z o 1 ≤ o + 1 ∧ S09.z2 z o 1 ≤ z ∧ (z ≤ 2 ∨ S09.z2 z o 1 < z)) &&
    decide (S09.z2 z o 0 = S09.o2 o z 1 ∧ S09.o2 z o 0 = S09.z2 o z 1 ∧ S09.z2 z o 1 = S09.o2 o z 0 ∧ S09.o2 z o 1 = S09.z2 o z 0) &&
    decide ((S09.chance z o + S09.chance o z = 65536 ∨ S09.chance z o + S09.chance o z = 65535) ∧ decide (S09.chance o z < S09.chance z o) = decide (z < o))) = true := by decide +kernel
theorem S09.step_fact {s : Int} (hf : S09.found s = true) :
    (S09.z2 (S09.hz s) (S09.ho s) 0 + S09.o2 (S09.hz s) (S09.ho s) 0 ≤ S09.hz s + S09.ho s + 1 ∧ S09.z2 (S09.hz s) (S09.ho s) 1 + S09.o2 (S09.hz s) (S09.ho s) 1 ≤ S09.hz s + S09.ho s + 1) ∧
    (1 ≤ S09.z2 (S09.hz s) (S09.ho s) 0 ∧ S09.z2 (S09.hz s) (S09.ho s) 0 ≤ S09.hz s + 1 ∧ S09.o2 (S09.hz s) (S09.ho s) 0 ≤ S09.ho s ∧ (S09.ho s ≤ 2 ∨ S09.o2 (S09.hz s) (S09.ho s) 0 < S09.ho s)) ∧
    (1 ≤ S09.o2 (S09.hz s) (S09.ho s) 1 ∧ S09.o2 (S09.hz s) (S09.ho s) 1 ≤ S09.ho s + 1 ∧ S09.z2 (S09.hz s) (S09.ho s) 1 ≤ S09.hz s ∧ (S09.hz s ≤ 2 ∨ S09.z2 (S09.hz s) (S09.ho s) 1 < S09.hz s)) ∧
    (S09.z2 (S09.hz s) (S09.ho s) 0 = S09.o2 (S09.ho s) (S09.hz s) 1 ∧ S09.o2 (S09.hz s) (S09.ho s) 0 = S09.z2 (S09.ho s) (S09.hz s) 1 ∧ S09.z2 (S09.hz s) (S09.ho s) 1 = S09.o2 (S09.ho s) (S09.hz s) 0 ∧ S09.o2 (S09.hz s) (S09.ho s) 1 = S09.z2 (S09.ho s) (S09.hz s) 0) ∧
    ((S09.chance (S09.hz s) (S09.ho s) + S09.chance (S09.ho s) (S09.hz s) = 65536 ∨ S09.chance (S09.hz s) (S09.ho s) + S09.chance (S09.ho s) (S09.hz s) = 65535) ∧ decide (S09.chance (S09.ho s) (S09.hz s) < S09.chance (S09.hz s) (S09.ho s)) = decide (S09.hz s < S09.ho s)) := by
  obtain ⟨h0, h1⟩ := S09.found_bounds hf
  obtain ⟨n, rfl⟩ := Int.eq_ofNat_of_zero_le h0
  have := S09.allStates_spec S09.step_facts (s := n) (by omega)
  simp only [Bool.and_eq_true] at this
  obtain ⟨⟨⟨⟨⟨e1, e2⟩, e3⟩, e4⟩, e5⟩, e6⟩ := this
  exact ⟨⟨of_decide_eq_true e1, of_decide_eq_true e2⟩, of_decide_eq_true e3, of_decide_eq_true e4, of_decide_eq_true e5, of_decide_eq_true e6⟩

theorem S09.walk_total : ∀ (bs : List Bool) (s : Int), S09.found s = true → S09.hz (S09.walk false bs s) + S09.ho (S09.walk false bs s) ≤ S09.hz s + S09.ho s + bs.length
  | [], s, _ => by simp [S09.walk]
  | x :: bs, s, h => by
    have hn := S09.next_at h _ (S09.bit_or x false)
    have ih := S09.walk_total bs _ hn.1
    have hs := (S09.step_fact h).1
    have e : S09.walk false (x :: bs) s = S09.walk false bs (S09.nextS s (S09.bit x false)) := rfl
    rw [e, List.length_cons]
    rw [hn.2.1, hn.2.2.1] at ih
    rcases S09.bit_or x false with hb | hb
    · rw [hb] at ih ⊢; push_cast; omega
    · rw [hb] at ih ⊢; push_cast; omega
theorem S09.walk_append (flip : Bool) (bs : List Bool) (x : Bool) (s : Int) : S09.walk flip (bs ++ [x]) s = S09.nextS (S09.walk flip bs s) (S09.bit x flip) := by
  simp only [S09.walk, List.foldl_append, List.foldl_cons, List.foldl_nil]
theorem S09.walk_last (flip : Bool) (bs : List Bool) (x : Bool) (s : Int) (h : S09.found s = true) : S09.hl (S09.walk flip (bs ++ [x]) s) = S09.bit x flip := by
  rw [S09.walk_append]
  exact (S09.next_at (S09.walk_found flip bs s h) _ (S09.bit_or x flip)).2.2.2
theorem S09.found_zero : S09.found 0 = true := by decide
theorem S09.zero_hist : S09.hz 0 = 0 ∧ S09.ho 0 = 0 ∧ S09.hl 0 = 0 := by decide +kernel
theorem S09.equal_bits : (List.range 31).all (fun k => decide (S09.hz (S09.walk false (List.replicate k false) 0) = k ∧ S09.ho (S09.walk false (List.replicate k false) 0) = 0 ∧ S09.ho (S09.walk false (List.replicate k true) 0) = k ∧ S09.hz (S09.walk false (List.replicate k true) 0) = 0)) = true := by decide +kernel
theorem S09.equal_bit {k : Nat} (h : k < 31) : S09.hz (S09.walk false (List.replicate k false) 0) = k ∧ S09.ho (S09.walk false (List.replicate k false) 0) = 0 ∧ S09.ho (S09.walk false (List.replicate k true) 0) = k ∧ S09.hz (S09.walk false (List.replicate k true) 0) = 0 := by
  have := S09.equal_bits
  simp only [List.all_eq_true, List.mem_range] at this
  exact of_decide_eq_true (this k h)
theorem S09.bit_flip (x : Bool) : S09.bit x true = 1 - S09.bit x false := by cases x <;> rfl
theorem S09.walk_mirror : ∀ (bs : List Bool) (s t : Int), S09.found s = true → S09.found t = true → S09.hz s = S09.ho t → S09.ho s = S09.hz t →
    S09.hz (S09.walk false bs s) = S09.ho (S09.walk true bs t) ∧ S09.ho (S09.walk false bs s) = S09.hz (S09.walk true bs t)
  | [], s, t, _, _, h1, h2 => ⟨h1, h2⟩
  | x :: bs, s, t, hs, ht, h1, h2 => by
    have ns := S09.next_at hs _ (S09.bit_or x false)
    have nt := S09.next_at ht _ (S09.bit_or x true)
    have hm := (S09.step_fact hs).2.2.2.1
    refine S09.walk_mirror bs _ _ ns.1 nt.1 ?_ ?_
    · rw [ns.2.1, nt.2.2.1, ← h1, ← h2, S09.bit_flip]
      rcases S09.bit_or x false with hb | hb
      · rw [hb]; exact hm.1
      · rw [hb]; exact hm.2.2.1
    · rw [ns.2.2.1, nt.2.1, ← h1, ← h2, S09.bit_flip]
      rcases S09.bit_or x false with hb | hb
      · rw [hb]; exact hm.2.1
      · rw [hb]; exact hm.2.2.2
theorem S09.err_zero {s : Int} (h : S09.found s = true) : S09.err s = 0 := by simp [S09.err, h]
theorem long_slice {bs : List Bool} (h : bs ≠ []) : ∃ (init : List Bool) (x : Bool), bs = init ++ [x] := ⟨_, _, (List.dropLast_concat_getLast h).symm⟩

set_option maxHeartbeats 1000000 in
theorem bithistoryForgets_any (a : Option Addr) (bs : List Bool) (cap : Nat) (bit : Bool) (w : World) (hlen : bs.length ≤ 9223372036854775807) (hrd : Rd w a (Bools bs)) :
    Calls Try.prog 5 #[.slice a bs.length cap, .bool bit] w fun e w' => e = .returned (.bool true) ∧ Below w.heap.size w w' := by
  by_cases hlong : 200 < bs.length
  · have hl3 : (200 : Int) < (bs.length : Int) := by omega
    go_enter Try.func5, Try.ntmps5
    go_wp2_with fail
    refine (awake09_any _).mono ?_
    rintro e w1 ⟨rfl, hb1⟩
    have hB1 : Below w.heap.size w w1 := below_trans (by go_grown) hb1
    have z1 : w.heap.size ≤ w1.heap.size := hB1.size
    go_wp2
    go_returns
    exact ⟨rfl, hB1⟩
  · have hl3 : ¬ (200 : Int) < (bs.length : Int) := by omega
    have H1 := Lib.hid (after09_any 0 a bs cap false w S09.found_zero hlen hrd)
    have hf := S09.walk_found false bs 0 S09.found_zero
    have hb0 := S09.h_bounds (S09.walk false bs 0)
    have HC1 := Lib.hid fun W => counts09_any (S09.walk false bs 0) W
    rw [S09.err_zero hf] at HC1
    have hfact := S09.step_fact hf
    obtain ⟨t, ht⟩ : ∃ t, t = S09.walk false [bit] (S09.walk false bs 0) := ⟨_, rfl⟩
    have H2 := Lib.hid fun (W : World) => after09_any (S09.walk false bs 0) (some ⟨W.heap.size, 0, none⟩) [bit] 1 false (W.alloc (Obj.cells #[.bool bit] 4)) hf (by simp) (fun _ => ⟨_, 0, rfl, (Blk.new W [.bool bit] 4).cells⟩)
    have hna := S09.next_at hf _ (S09.bit_or bit false)
    have htt : t = S09.nextS (S09.walk false bs 0) (S09.bit bit false) := ht
    rw [← htt] at hna
    rw [← ht] at H2
    have HC2 := Lib.hid fun W => counts09_any t W
    rw [S09.err_zero hna.1] at HC2
    have hb1 := S09.h_bounds t
    obtain ⟨_, q1, q2, _⟩ := hna
    have hcase : (bit = false ∧ 1 ≤ S09.hz t ∧ S09.hz t ≤ S09.hz (S09.walk false bs 0) + 1 ∧ S09.ho t ≤ S09.ho (S09.walk false bs 0) ∧ (S09.ho (S09.walk false bs 0) ≤ 2 ∨ (¬ S09.ho (S09.walk false bs 0) ≤ 2 ∧ S09.ho t < S09.ho (S09.walk false bs 0)))) ∨
        (bit = true ∧ 1 ≤ S09.ho t ∧ S09.ho t ≤ S09.ho (S09.walk false bs 0) + 1 ∧ S09.hz t ≤ S09.hz (S09.walk false bs 0) ∧ (S09.hz (S09.walk false bs 0) ≤ 2 ∨ (¬ S09.hz (S09.walk false bs 0) ≤ 2 ∧ S09.hz t < S09.hz (S09.walk false bs 0)))) := by
      rw [q1, q2]
      cases bit
      · left
        have hx : S09.bit false false = 0 := rfl
        rw [hx]
        obtain ⟨_, h2, _⟩ := hfact
        refine ⟨rfl, h2.1, h2.2.1, h2.2.2.1, by omega⟩
      · right
        have hx : S09.bit true false = 1 := rfl
        rw [hx]
        obtain ⟨_, _, h2, _⟩ := hfact
        refine ⟨rfl, h2.1, h2.2.1, h2.2.2.1, by omega⟩
    clear q1 q2 hfact ht htt hf hrd
    generalize S09.walk false bs 0 = s at *
    generalize S09.hz s = z at *
    generalize S09.ho s = o at *
    generalize S09.hl s = l at *
    generalize S09.hz t = z' at *
    generalize S09.ho t = o' at *
    generalize S09.hl t = l' at *
    obtain ⟨u1, u2, u3, u4, u5, u6⟩ := hb0
    obtain ⟨v1, v2, v3, v4, v5, v6⟩ := hb1
    rcases hcase with ⟨rfl, g1, g2, g3, g4⟩ | ⟨rfl, g1, g2, g3, g4⟩
    all_goals
      rcases g4 with g4 | ⟨g4, g5⟩
      all_goals
        go_enter Try.func5, Try.ntmps5
        go_wp2_with fail
        refine (H1.out).mono ?_
        rintro e w1 ⟨rfl, hb1⟩
        have hB1 : Below w.heap.size w w1 := below_trans (by go_grown) hb1
        have z1 : w.heap.size ≤ w1.heap.size := hB1.size
        go_wp2_with fail
        refine (H2.out _).mono ?_
        rintro e w2 ⟨rfl, hb2⟩
        have hB2 : Below w.heap.size w w2 := below_trans (by go_grown) hb2
        have z2 : w.heap.size ≤ w2.heap.size := hB2.size
        go_wp2_with fail
        refine (HC1.out _).mono ?_
        rintro e w3 ⟨rfl, hb3⟩
        have hB3 : Below w.heap.size w w3 := below_trans (by go_grown) hb3
        have z3 : w.heap.size ≤ w3.heap.size := hB3.size
        go_wp2_with fail
        refine (HC2.out _).mono ?_
        rintro e w4 ⟨rfl, hb4⟩
        have hB4 : Below w.heap.size w w4 := below_trans (by go_grown) hb4
        have z4 : w.heap.size ≤ w4.heap.size := hB4.size
        go_wp2_with fail
        refine (awake09_any _).mono ?_
        rintro e w5 ⟨rfl, hb5⟩
        have hB5 : Below w.heap.size w w5 := below_trans (by go_grown) hb5
        have z5 : w.heap.size ≤ w5.heap.size := hB5.size
        go_wp2
        go_returns
        exact ⟨rfl, hB5⟩
end Go.Proofs.Ytaolpmedlconoaa
