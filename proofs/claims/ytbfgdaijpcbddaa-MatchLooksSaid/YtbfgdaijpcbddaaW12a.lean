/- The bytes from behind, in pairs: the iterators of layer 12, and the length of a repetition. No condition. -/
import Derived.Test.YtbfgdaijpcbddaaBase16
import Derived.Test.YtbfgdaijpcbddaaW08e
import Derived.Test.YtbfgdaijpcbddaaSpec12c
import Derived.WalkSpells
import Derived.WalkLawsBesides
import Derived.Handy
import Derived.Lib.Hide
import Derived.Sort.BigQuietIn
import Derived.Sort.QuietIn
import Derived.Lib.MinMax
set_option linter.unusedSimpArgs false
set_option linter.unusedVariables false
set_option linter.unusedSectionVars false
namespace Go.Proofs.Ytbfgdaijpcbddaa
open Go.RowKit Go.Shelf
attribute [local go_sem] Oper.semAt_some

def Bts (l : List Int) : List Value := l.map fun x => .int .u8 x
theorem Bts_length (l : List Int) : (Bts l).length = l.length := by simp [Bts]
theorem Bts_at {w : World} {a : Option Addr} {l : List Int} (h : Rd w a (Bts l)) {i : Nat} (hi : i < l.length) : ∃ b o, a = some ⟨b, o, none⟩ ∧ ∀ j, j < l.length → w.cell? ⟨b, o + j, none⟩ = some (.int .u8 (l.getD j 0)) := by
  obtain ⟨b, o, rfl, hcs⟩ := h.at (i := i) (by rw [Bts_length]; exact hi)
  refine ⟨b, o, rfl, fun j hj => ?_⟩
  rw [hcs j (by rw [Bts_length]; exact hj), S12.getD_in _ _ hj]
  simp [Bts]
set_option maxRecDepth 100000 in
set_option maxHeartbeats 1000000 in
theorem back1_in (n : Nat) (l Bs c : Nat) (a : Option Addr) (cap : Nat) (xs : List Int) (hlen : xs.length ≤ 1000000) (hbs : ¬ Bs = c) (ha : ∀ b o, a = some ⟨b, o, none⟩ → Bts xs ≠ [] → ¬ b = c) (J Jx : List Nat → World → Prop)
    (hY : ∀ pre x W, x < xs.length → J pre W → pre.length < xs.length → YieldAt Fence.wide (n - 1) Try.prog l #[.int .i64 ((xs.length : Int) - 1 - x), .int .u8 (xs.getD (xs.length - 1 - x) 0)] W fun e W' =>
      (e = .returned (.bool true) ∧ J (pre ++ [x]) W' ∧ KpO c W W') ∨ (e = .returned (.bool false) ∧ Jx (pre ++ [x]) W'))
    (W : World) (hBs : W.cell? ⟨Bs, 0, none⟩ = some (.slice a xs.length cap)) (hrd : Rd W a (Bts xs)) (h0 : J [] W) :
    CallsIn Fence.wide n Try.prog 72 #[.func (.yield l) #[] #[], .pointer (some ⟨Bs, 0, none⟩)] W fun e W' => (∃ v, e = .returned v) ∧
      ((∃ ys, ys = List.range xs.length ∧ J ys W') ∨ (∃ pre, (∃ k, k ≤ xs.length ∧ pre = List.range k) ∧ Jx pre W')) := by
  refine callsIn_of_wp Try.func72 rfl trivial ?_ rfl
  simp only [Try.ntmps72, List.size_toArray, List.length_cons, List.length_nil, Nat.reduceAdd, Nat.reduceSub, Array.replicate_succ, Array.replicate_zero, List.push_toArray, List.append_toArray, List.nil_append, List.cons_append]
  gi_wp2
  gi_loopw [3] (fun i wr => ∃ k : Nat, k ≤ xs.length ∧ i = .int .i64 ((xs.length : Int) - 1 - k) ∧ J (List.range k) wr ∧ KpO c W wr)
    (fun i _ => (intOf i + 1).toNat)
  case atStart => exact ⟨0, Nat.zero_le _, by go_num, h0, KpO.refl _ _⟩
  case round =>
    obtain ⟨k, hk, rfl, hJs, hnx⟩ := hrel
    have hcs : wr.cell? ⟨Bs, 0, none⟩ = some (.slice a xs.length cap) := hnx.cell hBs hbs
    by_cases hlt : k < xs.length
    · obtain ⟨g, o, rfl, hcc⟩ := Bts_at (hrd.kpo hnx ha) (i := k) hlt
      have hc := hcc (xs.length - 1 - k) (by omega)
      obtain ⟨i, hi⟩ : ∃ i, xs.length - 1 - k = i := ⟨_, rfl⟩
      have hii : (xs.length : Int) - 1 - k = (i : Int) := by omega
      rw [hii]
      have hY1 := hY _ k wr hlt hJs (by rw [List.length_range]; exact hlt)
      rw [hii, hi] at hY1
      rw [hi] at hc
      obtain ⟨xv, hxv⟩ : ∃ v, xs.getD i 0 = v := ⟨_, rfl⟩
      rw [hxv] at hc hY1
      obtain ⟨fn, tmps, assign, body, hy, hR⟩ := hY1
      gi_wp2
      refine ⟨fun h => (by cases h), hR.mono ?_⟩
      rintro e W3 (⟨rfl, hJ3, hk3⟩ | ⟨rfl, hJx3⟩)
      · gi_wp2
        go_roundw
        case rel => exact ⟨k + 1, by omega, by simp; try omega, by rw [List.range_succ]; exact hJ3, hnx.trans hk3⟩
        case measure => simp [intOf]; try omega
      · gi_wp2
        refine bodyPost_ret (results_none rfl _ _ _) rfl ?_
        exact ⟨⟨_, rfl⟩, .inr ⟨_, ⟨k + 1, by omega, List.range_succ.symm⟩, hJx3⟩⟩
    · obtain rfl : k = xs.length := by omega
      gi_wp2
      go_end0
      exact ⟨⟨_, rfl⟩, .inl ⟨_, rfl, hJs⟩⟩

theorem backward_any (a : Option Addr) (n c : Nat) (w : World) :
    Calls Try.prog 68 #[.slice a n c] w fun e w' => e = .returned (.func (.func 72) #[] #[.pointer (some ⟨w.heap.size, 0, none⟩)]) ∧ w' = w.alloc (.cells #[.slice a n c] 22) := by
  go_enter Try.func68, Try.ntmps68
  go_wp2
  go_returns
  exact ⟨rfl, rfl⟩

theorem pairs_any (a : Option Addr) (n c : Nat) (p : Int) (w : World) :
    Calls Try.prog 63 #[.slice a n c, .int .i64 p] w fun e w' => e = .returned (.func (.func 67) #[] #[.pointer (some ⟨w.heap.size, 0, none⟩), .pointer (some ⟨w.heap.size + 1, 0, none⟩)]) ∧
      w' = (w.alloc (.cells #[.slice a n c] 22)).alloc (.cells #[.int .i64 p] 3) := by
  go_enter Try.func63, Try.ntmps63
  go_wp2
  go_returns
  exact ⟨rfl, rfl⟩
end Go.Proofs.Ytbfgdaijpcbddaa
