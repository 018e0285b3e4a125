/- The reference Learn (layer 13). No condition. -/
import Derived.Test.YtkpkkbpfcchgaaaW13r
set_option linter.unusedSimpArgs false
set_option linter.unusedVariables false
set_option linter.unusedSectionVars false
namespace Go.Proofs.Ytkpkkbpfcchgaaa
open Go.RowKit

theorem refLearn13_err (n : Int) (L : List (List Int)) (V : Value) (c : Int) (xs : List Int) (a : Option Addr) (cap : Nat) (bit rate : Int) (w : World) (hV : MixIs n L V w) (hlen : xs.length ≤ 9223372036854775807) (hrd : Rd w a (Ints xs)) (he : S13.learnE n L c xs bit rate ≠ 0) :
    Calls Try.prog 20 #[V, .int .i64 c, .slice a xs.length cap, .int .i64 bit, .int .i64 rate] w fun e w' =>
      ∃ V', e = .returned (.tuple #[V', .int .i64 (S13.learnE n L c xs bit rate)]) ∧ MixIs 0 [] V' w' ∧ Below w.heap.size w w' := by
  have HU := Lib.hid fun W (hb : Below w.heap.size w W) => refMix13_any n L _ c xs a cap W (hV.step hb) hlen (hrd.step hb)
  have hways := S13.learnE_ways he
  obtain ⟨ma, mc, rfl, m1, m2, hM⟩ := mixOpen hV
  clear he hV hM hrd
  generalize S13.learnE n L c xs bit rate = E at *
  generalize S13.usable 16 n L c xs = y at *
  generalize S13.mixR n L c xs = mx at *
  generalize xs.length = l at *
  generalize L.length = m at *
  have hr0 : ∀ W : World, Below ((w.alloc (Obj.cells #[.int .i64 n, .slice ma m mc] 24)).alloc (Obj.cells #[.int .i64 0, .slice none 0 0] 24)).heap.size ((w.alloc (Obj.cells #[.int .i64 n, .slice ma m mc] 24)).alloc (Obj.cells #[.int .i64 0, .slice none 0 0] 24)) W →
      Blk W (w.heap.size + 1) [.int .i64 0, .slice none 0 0] 24 := fun W hb => by
    have h0 := Blk.new (w.alloc (Obj.cells #[.int .i64 n, .slice ma m mc] 24)) [.int .i64 0, .slice none 0 0] 24
    have := h0.step hb; simpa using this
  have Hr0 := Lib.hid hr0
  clear hr0
  have hw : ((y != 0) = true ∧ E = y) ∨ (y = 0 ∧ (bit != 0) = true ∧ (bit != 1) = true ∧ E = 1) ∨ (y = 0 ∧ (bit != 0) = false ∧ rate < 1 ∧ E = 2) ∨ (y = 0 ∧ (bit != 0) = true ∧ (bit != 1) = false ∧ rate < 1 ∧ E = 2) ∨ (y = 0 ∧ (bit != 0) = false ∧ ¬ rate < 1 ∧ 255 < rate ∧ E = 2) ∨ (y = 0 ∧ (bit != 0) = true ∧ (bit != 1) = false ∧ ¬ rate < 1 ∧ 255 < rate ∧ E = 2) := by
    rcases hways with ⟨hy, rfl⟩ | ⟨rfl, hb1, hb2, rfl⟩ | ⟨rfl, rfl | rfl, h1 | ⟨h1, h2⟩, rfl⟩
    · left; exact ⟨by simpa using hy, rfl⟩
    · right; left; exact ⟨rfl, by simpa using hb1, by simpa using hb2, rfl⟩
    · right; right; left; exact ⟨rfl, rfl, h1, rfl⟩
    · right; right; right; right; left; exact ⟨rfl, rfl, h1, h2, rfl⟩
    · right; right; right; left; exact ⟨rfl, rfl, rfl, h1, rfl⟩
    · right; right; right; right; right; exact ⟨rfl, rfl, rfl, h1, h2, rfl⟩
  clear hways
  rcases hw with ⟨g1, rfl⟩ | ⟨rfl, g1, g2, rfl⟩ | ⟨rfl, g1, g3, rfl⟩ | ⟨rfl, g1, g2, g3, rfl⟩ | ⟨rfl, g1, g3, g4, rfl⟩ | ⟨rfl, g1, g2, g3, g4, rfl⟩
  all_goals
    go_enter Try.func20, Try.ntmps20
    go_wp2_with fail
    refine (HU.out _ (by go_grown)).mono ?_
    rintro e w1 ⟨rfl, hb1⟩
    have hB1 : Below w.heap.size w w1 := below_trans (by go_grown) hb1
    have hres := Hr0.out _ hb1
    have r0 := hres.cell 0
    have r1 := hres.cell 1
    have f0 := hres.free 0
    have f1 := hres.free 1
    have s1 := ((hres.set 0 (.int .i64 0)).set 1 (.slice none 0 0)).cell 0
    have s2 := ((hres.set 0 (.int .i64 0)).set 1 (.slice none 0 0)).cell 1
    simp only [List.set_cons_zero, List.set_cons_succ, List.getElem?_cons_zero, List.getElem?_cons_succ] at r0 r1 s1 s2
    clear hres
    go_wp2
    refine bodyPost_ret (v := .tuple #[.agg #[.int .i64 0, .slice none 0 0], .int .i64 _]) (by simp [results, Try.results20, go_sem, s1, s2]; first | rfl | exact ⟨rfl, rfl⟩ | skip) rfl ⟨_, rfl, MixIs.nil _, ?_⟩
    exact (hB1.setCell (by simp only; omega) _).setCell (by simp only; omega) _
end Go.Proofs.Ytkpkkbpfcchgaaa
