/- The bytes of a slot, as the law takes them. No condition. -/
import Derived.Test.YtgbjckjfjoiilaaW10ai
set_option linter.unusedSimpArgs false
set_option linter.unusedVariables false
set_option linter.unusedSectionVars false
namespace Go.Proofs.Ytgbjckjfjoiilaa
open Go.RowKit

/-- The bytes of slot i. -/
def S10.slotB (xs : List Int) (i : Nat) : List Int := (xs.drop (16 * i)).take 16
theorem slotB_len {xs : List Int} {i : Nat} (h : 16 * i + 16 ≤ xs.length) : (S10.slotB xs i).length = 16 := by
  unfold S10.slotB
  rw [List.length_take, List.length_drop]; omega
theorem slotB_getD {xs : List Int} {i j : Nat} (hj : j < 16) : (S10.slotB xs i).getD j 0 = xs.getD (16 * i + j) 0 := by
  unfold S10.slotB
  rw [List.getD_eq_getElem?_getD, List.getD_eq_getElem?_getD, List.getElem?_take, if_pos hj, List.getElem?_drop]
theorem slotB_ext {xs ys : List Int} {i : Nat} (h : 16 * i + 16 ≤ xs.length) (h' : 16 * i + 16 ≤ ys.length) (he : ∀ j < 16, xs.getD (16 * i + j) 0 = ys.getD (16 * i + j) 0) : S10.slotB xs i = S10.slotB ys i := by
  apply List.ext_getElem
  · rw [slotB_len h, slotB_len h']
  · intro j h1 h2
    rw [slotB_len h] at h1
    have := he j h1
    rw [← slotB_getD h1, ← slotB_getD h1] at this
    rw [List.getD_eq_getElem?_getD, List.getD_eq_getElem?_getD, List.getElem?_eq_getElem (by rw [slotB_len h]; exact h1), List.getElem?_eq_getElem (by rw [slotB_len h']; exact h1)] at this
    simpa using this
theorem Tab.slotRd {xs : List Int} {b o cap : Nat} {w : World} (h : Tab xs (some ⟨b, o, none⟩) cap w) (hne : xs ≠ []) (i : Nat) : Rd w (some ⟨b, o + 16 * i, none⟩) (Bts (S10.slotB xs i)) := fun _ => by
  obtain ⟨b', o', e, hr⟩ := h.rd (fun e => hne (by have := congrArg List.length e; rw [Bts_length] at this; exact List.length_eq_zero_iff.1 (by simpa using this)))
  cases e
  refine ⟨b, o + 16 * i, rfl, fun j v hv => ?_⟩
  have hj : j < 16 := by
    have := (List.getElem?_eq_some_iff.1 hv).1
    rw [Bts_length] at this
    unfold S10.slotB at this
    rw [List.length_take] at this
    omega
  have e2 : o + 16 * i + j = o + (16 * i + j) := by omega
  rw [e2]
  refine hr (16 * i + j) v ?_
  unfold Bts S10.slotB at *
  rw [List.getElem?_map] at hv ⊢
  rw [List.getElem?_take, if_pos hj, List.getElem?_drop] at hv
  exact hv

set_option maxHeartbeats 1000000 in
theorem lslot10_any (bits : Int) (xs : List Int) (i b o cap : Nat) (hin : 16 * i + 16 ≤ xs.length) (hle : xs.length ≤ 1048576) (hcap : xs.length ≤ cap) (w : World) :
    Calls Try.prog 33 #[tabV bits xs (some ⟨b, o, none⟩) cap, .int .i64 (i : Int)] w fun e w' => ∃ c', e = .returned (.slice (some ⟨b, o + 16 * i, none⟩) 16 c') ∧ 16 ≤ c' ∧ Below w.heap.size w w' := by
  unfold tabV
  have n1 : ¬ ((i : Int) < 0) := by omega
  go_enter Try.func33, Try.ntmps33
  go_wp2
  go_returns
  have e1 : (i + 1) * 16 - 16 * i = 16 := by omega
  have e2 : i * 16 = 16 * i := by omega
  refine ⟨cap - 16 * i, ?_, by omega, by go_grown⟩
  simp [e1, e2]

theorem conv10n {xs : List Int} {n : Nat} (hl : xs.length = n) (a : Option Addr) (cap : Nat) (w : World) (hrd : Rd w a (Bts xs)) : (convert 24 9 (.slice a n cap)).run Try.prog w = .ok (.string (strOfNums xs)) w := by
  subst hl; exact conv10 xs a cap w hrd

theorem S10.least_min_aux (xs : List Int) : ∀ (l : List Nat) (o : Option Nat) (i : Nat), l.foldl (S10.lstep xs) o = some i → (∀ b, o = some b → S10.prio xs i ≤ S10.prio xs b) ∧ ∀ k ∈ l, S10.prio xs i ≤ S10.prio xs k
  | [], o, i, h => ⟨fun b hb => by
      have e : o = some i := h
      rw [hb] at e
      rw [Option.some.inj e]; exact Int.le_refl _, fun k hk => by cases hk⟩
  | x :: l, o, i, h => by
    obtain ⟨h1, h2⟩ := S10.least_min_aux xs l (S10.lstep xs o x) i h
    have hx : S10.prio xs i ≤ S10.prio xs x ∧ ∀ b, o = some b → S10.prio xs i ≤ S10.prio xs b := by
      cases o with
      | none => exact ⟨h1 x rfl, fun b hb => by cases hb⟩
      | some c =>
        rw [lstep_some] at h1
        split at h1
        · rename_i hlt
          have := h1 x rfl
          exact ⟨this, fun b hb => by cases hb; omega⟩
        · rename_i hlt
          have := h1 c rfl
          exact ⟨by omega, fun b hb => by cases hb; exact this⟩
    exact ⟨hx.2, fun k hk => by
      rcases List.mem_cons.1 hk with rfl | hk
      · exact hx.1
      · exact h2 k hk⟩
theorem S10.least_min {xs : List Int} {l : List Nat} {i : Nat} (h : S10.least xs l = some i) : ∀ k ∈ l, S10.prio xs i ≤ S10.prio xs k := (S10.least_min_aux xs l none i h).2
end Go.Proofs.Ytgbjckjfjoiilaa
