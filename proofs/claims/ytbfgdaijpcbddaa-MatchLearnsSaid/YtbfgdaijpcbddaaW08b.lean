/- What the functions of layer 8 (counter) and its reference do: the step of a counter. No condition. -/
import Derived.Test.YtbfgdaijpcbddaaRows
import Derived.Test.YtbfgdaijpcbddaaBase2
import Derived.Test.YtbfgdaijpcbddaaSpec08
import Derived.WalkSpells
import Derived.WalkLawsBesides
import Derived.Handy
import Derived.Deep.Light
import Derived.Deep.MidRow
set_option linter.unusedSimpArgs false
set_option linter.unusedVariables false
set_option linter.unusedSectionVars false
namespace Go.Proofs.Ytbfgdaijpcbddaa
open Go.RowKit

namespace S08
/-- The divisors, the first k of them filled in. -/
def divs (k : Nat) : Array Value := Array.ofFn (n := 1024) fun i => .int .i64 (if i.val < k then 2 * (i.val : Int) + 3 else 0)
theorem divs_size (k : Nat) : (divs k).size = 1024 := by unfold divs; rw [Array.size_ofFn]
theorem divs_get (k j : Nat) (h : j < 1024) : (divs k)[j]? = some (.int .i64 (if j < k then 2 * (j : Int) + 3 else 0)) := by
  unfold divs; rw [Array.getElem?_ofFn, dif_pos h]
theorem divs_set (k : Nat) (h : k < 1024) : (divs k).setIfInBounds k (.int .i64 (2 * (k : Int) + 3)) = divs (k + 1) := by
  refine Array.ext_getElem? fun j => ?_
  rw [Array.getElem?_setIfInBounds]
  by_cases hj : j < 1024
  · rw [divs_get _ j hj, divs_get _ j hj, divs_size]
    by_cases e : k = j
    · subst e; rw [if_pos rfl, if_pos (by omega), if_pos (by omega)]
    · rw [if_neg e]
      by_cases hl : j < k
      · rw [if_pos hl, if_pos (by omega)]
      · rw [if_neg hl, if_neg (by omega)]
  · rw [Array.getElem?_eq_none (by rw [divs_size]; omega), Array.getElem?_eq_none (by rw [divs_size]; omega), divs_size]
    by_cases e : k = j
    · omega
    · rw [if_neg e]
theorem divs_cells (k : Nat) : ∀ v ∈ (divs k).toList, v.oneCell' = true := by
  intro v hv
  obtain ⟨j, hj⟩ := List.getElem?_of_mem hv
  have hj' : (divs k)[j]? = some v := by simpa using hj
  have : j < 1024 := by have := (Array.getElem?_eq_some_iff.1 hj').1; rwa [divs_size] at this
  rw [divs_get k j this] at hj'
  cases hj'; rfl
theorem divs_zero : divs 0 = Array.replicate 1024 (.int .i64 0) := by
  refine Array.ext_getElem? fun j => ?_
  rw [Array.getElem?_replicate]
  by_cases hj : j < 1024
  · rw [divs_get _ j hj, if_pos hj, if_neg (by omega)]
  · rw [Array.getElem?_eq_none (by rw [divs_size]; omega), if_neg hj]
attribute [irreducible] divs
end S08

theorem divs_alloc0 (w : World) : (Instr.alloc 112 true (.tuple #[])).run Try.prog w = .ok (.pointer (some ⟨w.heap.size, 0, none⟩)) (w.alloc (.cells (Array.replicate 1024 (.int .i64 0)) 112)) := by kernel_rfl
theorem divs_alloc (w : World) : (Instr.alloc 112 true (.tuple #[])).run Try.prog w = .ok (.pointer (some ⟨w.heap.size, 0, none⟩)) (w.alloc (.cells (S08.divs 0) 112)) := by rw [S08.divs_zero]; exact divs_alloc0 w
theorem divs_info : (Try.prog.info? 112).map (·.size) = some 1024 := by kernel_rfl

set_option maxHeartbeats 400000 in
set_option maxRecDepth 100000 in
theorem divisors_any (w : World) : Calls Try.prog 73 #[] w fun e w' => e = .returned (.agg (S08.divs 1024)) ∧ Below w.heap.size w w' := by
  go_enter Try.func73, Try.ntmps73
  go_wp2_with (refine wpList_alloc 112 (S08.divs 0) divs_alloc rfl rfl ?_)
  go_loopw [3] (fun v wr => ∃ k : Nat, k ≤ 1024 ∧ v = .int .i64 k ∧ wr.heap[w.heap.size]? = some (.cells (S08.divs 0) 112 (0, 0)) ∧ wr.heap[w.heap.size + 1]? = some (.cells (S08.divs k) 112 (0, 0)) ∧ Below w.heap.size w wr) (fun v _ => 1024 - (intOf v).toNat)
  case atStart => exact ⟨0, by omega, rfl, heap_alloc2_old _ _ _, heap_alloc2_new _ _ _, by go_grown⟩
  case round =>
    rename_i wr _
    obtain ⟨k, hk, rfl, h0, h1, hB⟩ := hrel
    by_cases hlt : k < 1024
    · have hc : wr.cell? ⟨w.heap.size + 1, k, none⟩ = some (.int .i64 0) := by rw [cell_of_row _ _ _ _ _ _ h1, S08.divs_get k k hlt, if_neg (by omega)]
      have hf : wr.frozen? ⟨w.heap.size + 1, k, none⟩ = false := frozen_of_row _ _ _ _ _ h1
      have H0 := Lib.hid h0
      have H1 := Lib.hid h1
      clear h0 h1
      go_wp2
      go_roundw
      case rel => exact ⟨k + 1, by omega, by go_num, by rw [heap_setCell_other _ _ _ _ (by simp)]; exact H0.out, by rw [heap_setCell_same _ _ _ _ _ _ H1.out, S08.divs_set k hlt], hB.setCell (by simp) _⟩
      case measure => simp [intOf]; omega
    · obtain rfl : k = 1024 := by omega
      have ht : wr.there w.heap.size 0 (S08.divs 1024).size := by
        rw [S08.divs_size]; intro j hj
        rw [Nat.zero_add, cell_of_row _ _ _ _ _ _ h0, S08.divs_get 0 j hj]
        exact ⟨rfl, frozen_of_row _ _ _ _ _ h0⟩
      have H1 := Lib.hid h1
      have Ht := Lib.hid ht
      clear h0 h1 ht
      go_wp2_with (first | (refine wpList_load_row rfl 112 _ rfl (w.heap.size + 1) rfl _ _ _ _ H1.out Try.underlying112 rfl (by rw [S08.divs_size]; exact divs_info) ?_) | (refine wpList_store_mid rfl 112 _ _ rfl w.heap.size 0 _ rfl rfl Ht.out (by rw [S08.divs_size]; exact divs_info) (Array.all_eq_true_iff_forall_mem.2 (fun v hv => S08.divs_cells _ v (by simpa using hv))) ?_))
      have hr := run_loadVar_mid (P := Try.prog) (wr.setCells w.heap.size 0 (S08.divs 1024).toList) w.heap.size 0 112 (S08.divs 1024).toList _ (World.rangeAt_setCells_same wr w.heap.size 0 _ (by rw [Array.length_toList]; exact Ht.out)) Try.underlying112 rfl (by rw [Array.length_toList, S08.divs_size]; exact divs_info)
      rw [Array.toArray_toList] at hr
      refine bodyPost_ret (v := .agg (S08.divs 1024)) ?_ rfl ⟨rfl, ?_⟩
      · simp [results, Try.results73, asAddr, Act.put, hr]
      · exact hB.trans (below_setCells (Nat.le_refl _) _ _ _)

/-- Moving a counter: P goes towards the target. -/
def S08.towards (p n target : Int) : Int := p + (2 * (target - p)).tdiv (2 * n + 3)

theorem S08.divs_index (n : Int) (h0 : 0 ≤ n) (h1 : n ≤ 1023) (w : World) :
    (Instr.index 112 (.agg (S08.divs 1024)) (.int .i64 n)).run Try.prog w = .ok (.int .i64 (2 * n + 3)) w := by
  obtain ⟨k, rfl⟩ := Int.eq_ofNat_of_zero_le h0
  have hg := S08.divs_get 1024 k (by omega)
  rw [if_pos (by omega)] at hg
  have hlt : (k : Int) < 1024 := by omega
  simp [Instr.index, run_underlying Try.underlying112, asIntOf, part, isAgg, run_underlying Try.underlying3, sizeOf, go_sem, hlt, hg]
  rw [if_pos (by omega), show Try.t3.size = 1 from rfl, Nat.mul_one, hg]
  rfl

end Go.Proofs.Ytbfgdaijpcbddaa
