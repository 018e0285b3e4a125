/- Learn at any input, and its reference (layer 13). No condition. -/
import Derived.Test.YtkpkkbpfcchgaaaW13q
set_option linter.unusedSimpArgs false
set_option linter.unusedVariables false
set_option linter.unusedSectionVars false
namespace Go.Proofs.Ytkpkkbpfcchgaaa
open Go.RowKit

/-- The error of Learn, and the mixer. -/
def S13.learnE (n : Int) (L : List (List Int)) (c : Int) (xs : List Int) (bit rate : Int) : Int :=
  if S13.usable 16 n L c xs ≠ 0 then S13.usable 16 n L c xs else if bit ≠ 0 ∧ bit ≠ 1 then 1 else if rate < 1 ∨ 255 < rate then 2 else 0
def S13.learnN (n : Int) (L : List (List Int)) (c : Int) (xs : List Int) (bit rate : Int) : Int := if S13.learnE n L c xs bit rate = 0 then n else 0
def S13.learnLL (n : Int) (L : List (List Int)) (c : Int) (xs : List Int) (bit rate : Int) : List (List Int) := if S13.learnE n L c xs bit rate = 0 then S13.learnL L c.toNat xs bit rate else []
theorem S13.learnE_zero {n : Int} {L : List (List Int)} {c : Int} {xs : List Int} {bit rate : Int} (h : S13.learnE n L c xs bit rate = 0) : S13.usable 16 n L c xs = 0 ∧ (bit = 0 ∨ bit = 1) ∧ 1 ≤ rate ∧ rate ≤ 255 := by
  unfold S13.learnE at h
  split at h
  · exact absurd h (by assumption)
  · rename_i h1
    split at h
    · simp at h
    · split at h
      · simp at h
      · exact ⟨by simpa using h1, by omega, by omega, by omega⟩
theorem S13.learnE_ways {n : Int} {L : List (List Int)} {c : Int} {xs : List Int} {bit rate : Int} (h : S13.learnE n L c xs bit rate ≠ 0) :
    (S13.usable 16 n L c xs ≠ 0 ∧ S13.learnE n L c xs bit rate = S13.usable 16 n L c xs) ∨ (S13.usable 16 n L c xs = 0 ∧ bit ≠ 0 ∧ bit ≠ 1 ∧ S13.learnE n L c xs bit rate = 1) ∨
    (S13.usable 16 n L c xs = 0 ∧ (bit = 0 ∨ bit = 1) ∧ (rate < 1 ∨ (¬ rate < 1 ∧ 255 < rate)) ∧ S13.learnE n L c xs bit rate = 2) := by
  unfold S13.learnE at h ⊢
  by_cases hu : S13.usable 16 n L c xs = 0
  · rw [if_neg (by simpa using hu)] at h ⊢
    by_cases hb : bit ≠ 0 ∧ bit ≠ 1
    · rw [if_pos hb]; right; left; exact ⟨hu, hb.1, hb.2, rfl⟩
    · rw [if_neg hb] at h ⊢
      by_cases hr : rate < 1 ∨ 255 < rate
      · rw [if_pos hr]; right; right; exact ⟨hu, by omega, by omega, rfl⟩
      · rw [if_neg hr] at h; exact absurd rfl h
  · rw [if_pos hu]; left; exact ⟨hu, rfl⟩

theorem learn13_err (n : Int) (L : List (List Int)) (V : Value) (c : Int) (xs : List Int) (a : Option Addr) (cap : Nat) (bit rate : Int) (w : World) (hV : MixIs n L V w) (hlen : xs.length ≤ 9223372036854775807) (hrd : Rd w a (Ints xs)) (he : S13.learnE n L c xs bit rate ≠ 0) :
    Calls Try.prog 19 #[V, .int .i64 c, .slice a xs.length cap, .int .i64 bit, .int .i64 rate] w fun e w' =>
      ∃ V', e = .returned (.tuple #[V', .int .i64 (S13.learnE n L c xs bit rate)]) ∧ MixIs 0 [] V' w' ∧ Below w.heap.size w w' := by
  have HU := Lib.hid fun W (hb : Below w.heap.size w W) => usable13_any n L _ c xs a cap W (hV.step hb) hlen (hrd.step hb)
  have hways := S13.learnE_ways he
  obtain ⟨ma, mc, rfl, m1, m2, hM⟩ := mixOpen hV
  have HB1 := Lib.hid fun W => between13_any bit 0 1 W
  have HB2 := Lib.hid fun W => between13_any rate 1 255 W
  clear he hV hM hrd
  generalize S13.learnE n L c xs bit rate = E at *
  generalize S13.usable 16 n L c xs = y at *
  generalize xs.length = l at *
  generalize L.length = m at *
  have hr0 : ∀ W : World, Below (((w.alloc (Obj.cells #[.int .i64 n, .slice ma m mc] 24)).alloc (Obj.cells #[.int .i64 rate] 3)).alloc (Obj.cells #[.int .i64 0, .slice none 0 0] 24)).heap.size (((w.alloc (Obj.cells #[.int .i64 n, .slice ma m mc] 24)).alloc (Obj.cells #[.int .i64 rate] 3)).alloc (Obj.cells #[.int .i64 0, .slice none 0 0] 24)) W →
      Blk W (w.heap.size + 2) [.int .i64 0, .slice none 0 0] 24 ∧ Blk W (w.heap.size + 1) [.int .i64 rate] 3 := fun W hb => by
    have h0 := Blk.new ((w.alloc (Obj.cells #[.int .i64 n, .slice ma m mc] 24)).alloc (Obj.cells #[.int .i64 rate] 3)) [.int .i64 0, .slice none 0 0] 24
    have h1 := (Blk.new (w.alloc (Obj.cells #[.int .i64 n, .slice ma m mc] 24)) [.int .i64 rate] 3).alloc (Obj.cells #[.int .i64 0, .slice none 0 0] 24)
    refine ⟨?_, ?_⟩
    · have := h0.step hb; simpa using this
    · have := h1.step hb; simpa using this
  have Hr0 := Lib.hid hr0
  clear hr0
  rcases hways with ⟨hy, rfl⟩ | ⟨rfl, hb1, hb2, rfl⟩ | ⟨rfl, hbt, hrt, rfl⟩
  · have hy2 : ((E : Int) != 0) = true := by simpa using hy
    clear hy
    go_enter Try.func19, Try.ntmps19
    go_wp2_with fail
    refine (HU.out _ (by go_grown)).mono ?_
    rintro e w1 ⟨rfl, hb1⟩
    have hB1 : Below w.heap.size w w1 := below_trans (by go_grown) hb1
    have hres := (Hr0.out _ hb1).1
    have r0 := hres.cell 0
    have r1 := hres.cell 1
    have f0 := hres.free 0
    have f1 := hres.free 1
    have s1 := ((hres.set 0 (.int .i64 0)).set 1 (.slice none 0 0)).cell 0
    have s2 := ((hres.set 0 (.int .i64 0)).set 1 (.slice none 0 0)).cell 1
    simp only [List.set_cons_zero, List.set_cons_succ, List.getElem?_cons_zero, List.getElem?_cons_succ] at r0 r1 s1 s2
    clear hres
    go_wp2
    refine bodyPost_ret (v := .tuple #[.agg #[.int .i64 0, .slice none 0 0], .int .i64 E]) (by simp [results, Try.results19, go_sem, s1, s2]) rfl ⟨_, rfl, MixIs.nil _, ?_⟩
    exact (hB1.setCell (by simp only; omega) _).setCell (by simp only; omega) _
  · have hb : (decide ((0 : Int) ≤ bit) && decide (bit ≤ 1)) = false := by rw [Bool.and_eq_false_iff, decide_eq_false_iff_not, decide_eq_false_iff_not]; omega
    rw [hb] at HB1
    clear hb hb1 hb2
    go_enter Try.func19, Try.ntmps19
    go_wp2_with fail
    refine (HU.out _ (by go_grown)).mono ?_
    rintro e w1 ⟨rfl, hb1⟩
    have hB1 : Below w.heap.size w w1 := below_trans (by go_grown) hb1
    have Hres1 := Lib.hid (Hr0.out _ hb1).1
    go_wp2_with fail
    refine (HB1.out _).mono ?_
    rintro e w2 ⟨rfl, hb2⟩
    have hB2 : Below w.heap.size w w2 := below_trans hB1 hb2
    have hres := Hres1.out.step hb2
    have r0 := hres.cell 0
    have r1 := hres.cell 1
    have f0 := hres.free 0
    have f1 := hres.free 1
    have s1 := ((hres.set 0 (.int .i64 0)).set 1 (.slice none 0 0)).cell 0
    have s2 := ((hres.set 0 (.int .i64 0)).set 1 (.slice none 0 0)).cell 1
    simp only [List.set_cons_zero, List.set_cons_succ, List.getElem?_cons_zero, List.getElem?_cons_succ] at r0 r1 s1 s2
    clear hres
    go_wp2
    refine bodyPost_ret (v := .tuple #[.agg #[.int .i64 0, .slice none 0 0], .int .i64 1]) (by simp [results, Try.results19, go_sem, s1, s2]) rfl ⟨_, rfl, MixIs.nil _, ?_⟩
    exact (hB2.setCell (by simp only; omega) _).setCell (by simp only; omega) _
  · have hb : (decide ((0 : Int) ≤ bit) && decide (bit ≤ 1)) = true := by rw [Bool.and_eq_true, decide_eq_true_eq, decide_eq_true_eq]; omega
    have hb' : (decide ((1 : Int) ≤ rate) && decide (rate ≤ 255)) = false := by rw [Bool.and_eq_false_iff, decide_eq_false_iff_not, decide_eq_false_iff_not]; omega
    rw [hb] at HB1
    rw [hb'] at HB2
    clear hb hb' hbt hrt
    go_enter Try.func19, Try.ntmps19
    go_wp2_with fail
    refine (HU.out _ (by go_grown)).mono ?_
    rintro e w1 ⟨rfl, hb1⟩
    have hB1 : Below w.heap.size w w1 := below_trans (by go_grown) hb1
    have Hres1 := Lib.hid (Hr0.out _ hb1)
    go_wp2_with fail
    refine (HB1.out _).mono ?_
    rintro e w2 ⟨rfl, hb2⟩
    have hB2 : Below w.heap.size w w2 := below_trans hB1 hb2
    have Hres2 := Lib.hid (Hres1.out.1.step hb2)
    have hrt := (Hres1.out.2.step hb2).cell 0
    have hrl := (Hres1.out.2.step hb2).lt
    simp only [List.getElem?_cons_zero] at hrt
    go_wp2_with fail
    refine (HB2.out _).mono ?_
    rintro e w3 ⟨rfl, hb3⟩
    have hB3 : Below w.heap.size w w3 := below_trans hB2 hb3
    have hres := Hres2.out.step hb3
    have r0 := hres.cell 0
    have r1 := hres.cell 1
    have f0 := hres.free 0
    have f1 := hres.free 1
    have s1 := ((hres.set 0 (.int .i64 0)).set 1 (.slice none 0 0)).cell 0
    have s2 := ((hres.set 0 (.int .i64 0)).set 1 (.slice none 0 0)).cell 1
    simp only [List.set_cons_zero, List.set_cons_succ, List.getElem?_cons_zero, List.getElem?_cons_succ] at r0 r1 s1 s2
    clear hres
    go_wp2
    refine bodyPost_ret (v := .tuple #[.agg #[.int .i64 0, .slice none 0 0], .int .i64 2]) (by simp [results, Try.results19, go_sem, s1, s2]) rfl ⟨_, rfl, MixIs.nil _, ?_⟩
    exact (hB3.setCell (by simp only; omega) _).setCell (by simp only; omega) _

theorem learn13_any (n : Int) (L : List (List Int)) (V : Value) (c : Int) (xs : List Int) (a : Option Addr) (cap : Nat) (bit rate : Int) (w : World) (hV : MixIs n L V w) (hlen : xs.length ≤ 9223372036854775807) (hrd : Rd w a (Ints xs)) :
    Calls Try.prog 19 #[V, .int .i64 c, .slice a xs.length cap, .int .i64 bit, .int .i64 rate] w fun e w' =>
      ∃ V', e = .returned (.tuple #[V', .int .i64 (S13.learnE n L c xs bit rate)]) ∧ MixIs (S13.learnN n L c xs bit rate) (S13.learnLL n L c xs bit rate) V' w' ∧ Below w.heap.size w w' := by
  by_cases he : S13.learnE n L c xs bit rate = 0
  · have e1 : S13.learnN n L c xs bit rate = n := by unfold S13.learnN; rw [if_pos he]
    have e2 : S13.learnLL n L c xs bit rate = S13.learnL L c.toNat xs bit rate := by unfold S13.learnLL; rw [if_pos he]
    rw [he, e1, e2]
    obtain ⟨hu, hb, hr1, hr2⟩ := S13.learnE_zero he
    obtain ⟨c, rfl⟩ := Int.eq_ofNat_of_zero_le (S13.usable_zero hu).2.1
    obtain ⟨ma, mc, rfl, m1, m2, hM⟩ := mixOpen hV
    exact learn13_ok n L ma mc c xs a cap bit rate w hM hrd hu (by omega) ⟨hr1, hr2⟩
  · have e1 : S13.learnN n L c xs bit rate = 0 := by unfold S13.learnN; rw [if_neg he]
    have e2 : S13.learnLL n L c xs bit rate = [] := by unfold S13.learnLL; rw [if_neg he]
    rw [e1, e2]
    exact learn13_err n L V c xs a cap bit rate w hV hlen hrd he
end Go.Proofs.Ytkpkkbpfcchgaaa
