/- Tables of counters: the reference's table and its comparison. No condition. -/
import Derived.Test.YtgeebnpnjimcjaaW08i
import Derived.Test.YtgeebnpnjimcjaaBase4
set_option linter.unusedSimpArgs false
set_option linter.unusedVariables false
set_option linter.unusedSectionVars false
namespace Go.Proofs.Ytgeebnpnjimcjaa
open Go.RowKit

theorem elems_ctrs : Elems Try.prog 43 23 2 16 [.int .i64 0, .int .i64 0] := ⟨Try.underlying43, by kernel_rfl, rfl, by decide⟩

/-- The cells of n counters at rest. -/
def S08.fresh (n : Nat) : List Value := (List.replicate n [Value.int .i64 32768, Value.int .i64 0]).flatten
theorem S08.fresh_zero : S08.fresh 0 = [] := rfl
theorem S08.fresh_length (n : Nat) : (S08.fresh n).length = n * 2 := by simp [S08.fresh]
theorem S08.fresh_add (m n : Nat) : S08.fresh (m + n) = S08.fresh m ++ S08.fresh n := by
  rw [S08.fresh, ← List.replicate_append_replicate, List.flatten_append]; rfl
theorem S08.fresh_succ (n : Nat) : S08.fresh (n + 1) = S08.fresh n ++ [.int .i64 32768, .int .i64 0] := by
  rw [S08.fresh_add]; rfl
theorem S08.fresh_at {n i : Nat} (hi : i < n) : (S08.fresh n)[i * 2]? = some (.int .i64 32768) ∧ (S08.fresh n)[i * 2 + 1]? = some (.int .i64 0) := by
  obtain ⟨m, rfl⟩ : ∃ m, n = i + (1 + m) := ⟨n - i - 1, by omega⟩
  rw [S08.fresh_add, S08.fresh_add]
  have e : (S08.fresh 1) = [.int .i64 32768, .int .i64 0] := rfl
  rw [e]
  constructor
  · rw [List.getElem?_append_right (by rw [S08.fresh_length]; omega), S08.fresh_length, Nat.sub_self]; rfl
  · rw [List.getElem?_append_right (by rw [S08.fresh_length]; omega), S08.fresh_length, Nat.add_sub_cancel_left]; rfl

def S08.tableLen (n : Int) : Nat := if n < 1 ∨ 65536 < n then 0 else n.toNat
def S08.tableErr (n : Int) : Int := if n < 1 ∨ 65536 < n then 2 else 0

set_option maxHeartbeats 1000000 in
theorem refTable08_any (n : Int) (w : World) (hn : -9223372036854775808 ≤ n) (hn' : n ≤ 9223372036854775807) :
    Calls Try.prog 21 #[.int .i64 n] w fun e w' => ∃ a cap, e = .returned (.tuple #[.slice a (S08.tableLen n) cap, .int .i64 (S08.tableErr n)]) ∧
      w'.ownsRow w.heap.size 23 2 (.slice a (S08.tableLen n) cap) (S08.tableLen n) (S08.fresh (S08.tableLen n)) ∧ Below w.heap.size w w' := by
  by_cases h1 : n < 1
  · go_enter Try.func21, Try.ntmps21
    go_wp2
    go_returns
    simp only [S08.tableLen, S08.tableErr, h1, true_or, if_true]
    exact ⟨none, 0, rfl, ⟨by simp [S08.fresh], .inl ⟨rfl, rfl⟩⟩, by go_grown⟩
  by_cases h2 : 65536 < n
  · go_enter Try.func21, Try.ntmps21
    go_wp2
    go_returns
    simp only [S08.tableLen, S08.tableErr, h2, or_true, if_true]
    exact ⟨none, 0, rfl, ⟨by simp [S08.fresh], .inl ⟨rfl, rfl⟩⟩, by go_grown⟩
  obtain ⟨m, rfl⟩ : ∃ m : Nat, n = m := ⟨n.toNat, by omega⟩
  have hm : m ≤ 65536 := by omega
  have hLen : S08.tableLen (m : Int) = m := by simp only [S08.tableLen]; rw [if_neg (by omega)]; omega
  have hErr : S08.tableErr (m : Int) = 0 := by simp only [S08.tableErr]; rw [if_neg (by omega)]
  rw [hLen, hErr]
  go_enter Try.func21, Try.ntmps21
  go_wp2_with fail
  go_loopw [4, 5] (fun v4 i wr => ∃ (k : Nat) (a4 : Option Addr) (c4 : Nat), k ≤ m ∧ i = .int .i64 k ∧ v4 = .slice a4 k c4 ∧ wr.ownsRow w.heap.size 23 2 (.slice a4 k c4) k (S08.fresh k) ∧ Below w.heap.size w wr)
    (fun _ i _ => m - (intOf i).toNat)
  case atStart => exact ⟨0, none, 0, by omega, rfl, rfl, ⟨by simp [S08.fresh], .inl ⟨rfl, rfl⟩⟩, by go_grown⟩
  case round =>
    obtain ⟨k, a4, c4, hk, rfl, rfl, hown, hB⟩ := hrel
    have zr : w.heap.size ≤ wr.heap.size := hB.size
    have Hown := Lib.hid hown
    clear hown
    by_cases hlt : k < m
    · have hl4 : (k : Int) < (m : Int) := by omega
      go_wp2_with (at_builtin; refine wpList_append_at_rd (.tmp 17) (.tmp 19) 43 23 2 16 _ w.heap.size elems_ctrs rfl rfl (.slice a4 k c4) k (S08.fresh k) rfl (Hown.out.alloc _) (some ⟨wr.heap.size, 0, none⟩) 1 1 [.int .i64 32768, .int .i64 0] rfl rfl (Rd.new wr [.int .i64 32768, .int .i64 0] 23) (by simp [Value.oneCell']) (by unfold maxLen; omega) (by omega) (by simp; omega) ?_; intro a4' c4' w4 hown4 hgrow4 hat4; have hB4 : Below w.heap.size w w4 := Below.grown (by go_grown) hgrow4 (by simp; omega) (fun k e => (Hown.out.lt k e).1); rw [← S08.fresh_succ] at hown4; have Hown4 := Lib.hid hown4; clear hown4 hgrow4 hat4)
      go_roundw
      case rel => exact ⟨k + 1, a4', c4', by omega, by go_num, rfl, Hown4.out, hB4⟩
      case measure => simp [intOf]; omega
    · obtain rfl : k = m := by omega
      go_wp2
      go_returns
      exact ⟨a4, c4, rfl, Hown.out, hB⟩

set_option maxHeartbeats 1000000 in
theorem sameAll08_fresh (n : Nat) (a b : Option Addr) (ca cb : Nat) (w : World) (hn : n ≤ 65536) (ha : Rd w a (S08.fresh n)) (hb : Rd w b (S08.fresh n)) :
    Calls Try.prog 22 #[.slice a n ca, .slice b n cb] w fun e w' => e = .returned (.bool true) ∧ Below w.heap.size w w' := by
  go_enter Try.func22, Try.ntmps22
  go_wp2_with fail
  go_loopw [5] (fun i wr => ∃ k : Nat, k ≤ n ∧ i = .int .i64 k ∧ Below w.heap.size w wr)
    (fun i _ => n - (intOf i).toNat)
  case atStart => exact ⟨0, by omega, rfl, by go_grown⟩
  case round =>
    obtain ⟨k, hk, rfl, hB⟩ := hrel
    by_cases hlt : k < n
    · have hl4 : (k : Int) < (n : Int) := by omega
      have hf := S08.fresh_at hlt
      have hfl := S08.fresh_length n
      obtain ⟨ba, oa, rfl, hra⟩ := (ha.step hB).at (i := k * 2) (by omega)
      obtain ⟨bb, ob, rfl, hrb⟩ := (hb.step hB).at (i := k * 2) (by omega)
      have c1 : wr.cell? ⟨ba, oa + k * 2, none⟩ = some (.int .i64 32768) := by rw [hra (k * 2) (by omega), ← hf.1, List.getElem?_eq_getElem]
      have c2 : wr.cell? ⟨ba, oa + k * 2 + 1, none⟩ = some (.int .i64 0) := by rw [Nat.add_assoc, hra (k * 2 + 1) (by omega), ← hf.2, List.getElem?_eq_getElem]
      have c3 : wr.cell? ⟨bb, ob + k * 2, none⟩ = some (.int .i64 32768) := by rw [hrb (k * 2) (by omega), ← hf.1, List.getElem?_eq_getElem]
      have c4 : wr.cell? ⟨bb, ob + k * 2 + 1, none⟩ = some (.int .i64 0) := by rw [Nat.add_assoc, hrb (k * 2 + 1) (by omega), ← hf.2, List.getElem?_eq_getElem]
      clear hra hrb hf hfl
      go_wp2_with fail
      refine wp_region_all 9 (Keeps wr [(⟨ba, oa + k * 2, none⟩, .int .i64 32768), (⟨ba, oa + k * 2 + 1, none⟩, .int .i64 0), (⟨bb, ob + k * 2, none⟩, .int .i64 32768), (⟨bb, ob + k * 2 + 1, none⟩, .int .i64 0)]) (by kernel_rfl) rfl (by kernel_rfl) (Keeps.start (by simp only [Cells]; exact ⟨c1, c2, c3, c4, trivial⟩)) (fun Y F hY hF => ?_)
      have hk0 : 0 ≤ (k : Int) := by omega
      repeat
        apply wpSteady_value (by first | rfl | (rw [hY]; rfl))
        · intro w2 ⟨hB2, hk2⟩
          simp only [Cells] at hk2
          go_simp
          with_reducible rfl
        simp only [Act.put, List.setIfInBounds_toArray, List.set_cons_zero, List.set_cons_succ]
      refine hF.out _ (fun w4 hS4 => ?_)
      clear hF hY
      have hB4 : Below w.heap.size w w4 := below_trans (by go_grown) hS4.1
      go_wp2
      go_roundw
      case rel => exact ⟨k + 1, by omega, by go_num, hB4⟩
      case measure => simp [intOf]; omega
    · obtain rfl : k = n := by omega
      go_wp2
      go_returns
      exact ⟨rfl, hB⟩
end Go.Proofs.Ytgeebnpnjimcjaa
