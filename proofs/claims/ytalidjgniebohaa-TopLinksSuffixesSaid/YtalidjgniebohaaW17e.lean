/- What Ranks (layer 32) returns for an order of places. No condition. -/
import Derived.Test.YtalidjgniebohaaW17d
set_option linter.unusedSimpArgs false
set_option linter.unusedVariables false
set_option linter.unusedSectionVars false
namespace Go.Proofs.Ytalidjgniebohaa
open Go.RowKit Go.Shelf

theorem Nats_rd {w : World} {a : Option Addr} {n : Nat} {pl : List Nat} (h : Rd w a (Nats pl)) (hp : S17.Perm n pl) {i : Nat} (hi : i ≤ n) : ∃ b o, a = some ⟨b, o, none⟩ ∧ w.cell? ⟨b, o + i, none⟩ = some (.int .i64 ((pl.getD i 0 : Nat) : Int)) := by
  have hl := hp.len
  obtain ⟨b, o, rfl, hcs⟩ := h.at (i := i) (by rw [Nats_length]; omega)
  refine ⟨b, o, rfl, ?_⟩
  have := hcs i (by rw [Nats_length]; omega)
  rw [this, ← List.getElem?_eq_getElem]
  exact Nats_at (by omega)
theorem Blk.rd {w : World} {b : Nat} {cs : List Value} {t : TypeId} (h : Blk w b cs t) : Rd w (some ⟨b, 0, none⟩) cs := fun _ => ⟨b, 0, rfl, h.cells⟩

/-- The rows of the places. -/
def S17.RanksOf (n : Nat) (pl : List Nat) (rk : List Int) : Prop := rk.length = n + 1 ∧ ∀ i, i ≤ n → rk.getD (pl.getD i 0) 0 = (i : Int)

set_option maxRecDepth 100000 in
set_option maxHeartbeats 2000000 in
theorem ranks17_any (n : Nat) (hn : n ≤ 150) (pl : List Nat) (hp : S17.Perm n pl) (P cap : Nat) (w : World) (hrd : Blk w P (Nats pl) 3) :
    Calls Try.prog 5 #[.slice (some ⟨P, 0, none⟩) (n + 1) cap] w fun e w' => ∃ B, e = .returned (.tuple #[.slice (some ⟨B, 0, none⟩) (n + 1) (n + 1), .int .i64 0]) ∧ w.heap.size ≤ B ∧ (∃ rk, Blk w' B (Ints rk) 3 ∧ S17.RanksOf n pl rk) ∧ Below w.heap.size w w' := by
  have HR := Lib.hid fun (W : World) (a : Option Addr) (c : Nat) (h : Rd W a (Ints [-1])) => repeatIntsB_any [-1] (n + 1) a c W (by simp) (by simp) (by omega) h
  simp only [List.length_cons, List.length_nil, Nat.zero_add, Nat.mul_one] at HR
  rw [show ((n + 1 : Nat) : Int) = (n : Int) + 1 by omega] at HR
  have hP := Lib.hid hrd
  have HP := Lib.hid hp
  have hlP := hrd.lt
  clear hp hrd
  have hnz : ¬ ((n : Int) + 1 < 1) := by omega
  have hnz2 : ¬ ((65537 : Int) < (n : Int) + 1) := by omega
  have hrd1 : Rd (w.alloc (.cells #[.int .i64 (-1)] 3)) (some ⟨w.heap.size, 0, none⟩) (Ints [-1]) := (Blk.new w [.int .i64 (-1)] 3).rd
  have HR1 := Lib.hid (HR.out _ _ 1 hrd1)
  clear HR hrd1
  go_enter Try.func5, Try.ntmps5
  go_wp2_with fail
  refine HR1.out.mono ?_
  rintro e w1 ⟨B, rfl, hBB, hb, hB1⟩
  have hB0 : Below w.heap.size w w1 := ((Below.refl _ _).alloc (Nat.le_refl _) _).trans (hB1.mono (by simp))
  have hBw : w.heap.size < B := by simp at hBB; omega
  clear hB1 hBB HR1
  have hb0 : Blk w1 B (Ints (List.replicate (n + 1) (-1))) 3 := by
    have e : reps [-1] (n + 1) = List.replicate (n + 1) (-1) := by simp [reps, List.flatten_replicate_singleton]
    rw [← e]; exact hb
  clear hb
  go_wp2_with fail
  go_loopw [21] (fun v W => ∃ (k : Nat) (ol : List Int), k ≤ n + 1 ∧ v = .int .i64 (k : Int) ∧ Hid (ol.length = n + 1) ∧ Hid (∀ i, i < k → ol.getD (pl.getD i 0) 0 = (i : Int)) ∧ Hid (∀ i, k ≤ i → i ≤ n → ol.getD (pl.getD i 0) 0 = -1) ∧
    Blk W B (Ints ol) 3 ∧ Below w.heap.size w W) (fun v _ => n + 1 - (intOf v).toNat)
  case atStart =>
    refine ⟨0, List.replicate (n + 1) (-1), by omega, rfl, Lib.hid (by simp), Lib.hid (fun i hi => by omega), Lib.hid (fun i _ hi => ?_), hb0, hB0⟩
    have := HP.out.le hi
    rw [List.getD_eq_getElem?_getD, List.getElem?_replicate, if_pos (by omega)]; rfl
  case round =>
    clear hb0 hB0
    obtain ⟨k, ol, hk, rfl, hol, h1, h2, hb, hB⟩ := hrel
    by_cases hlt : k < n + 1
    · have cP := Nats_cell (hP.out.below hB hlP) HP.out (i := k) (by omega)
      have hpn := HP.out.le (i := k) (by omega)
      have cO := Ints_at hb (i := pl.getD k 0) (by have := hol.out; omega)
      have fO := hb.free (pl.getD k 0)
      rw [h2.out k (Nat.le_refl _) (by omega)] at cO
      have Hinj := Lib.hid fun (i : Nat) (hi : i ≤ n) (e : pl.getD k 0 = pl.getD i 0) => HP.out.inj (i := k) (j := i) (by omega) hi e
      obtain ⟨p, hpv⟩ : ∃ p, pl.getD k 0 = p := ⟨_, rfl⟩
      rw [hpv] at cP cO fO Hinj hpn
      have Hpv := Lib.hid hpv
      clear hpv
      have hkz : (k : Int) < (n : Int) + 1 := by omega
      have hkz2 : k < n + 1 := hlt
      have hpz : (p : Int) < (n : Int) + 1 := by omega
      have hpz2 : ¬ ((p : Int) < 0) := by omega
      have hpz3 : ¬ ((n : Int) + 1 ≤ (p : Int)) := by omega
      have hs := hb.set p (.int .i64 (k : Int))
      rw [← Ints_set] at hs
      have hBs : Below w.heap.size w (wr.setCell ⟨B, p, none⟩ (.int .i64 (k : Int))) := hB.setCell (p := ⟨B, p, none⟩) (by simp; omega) _
      go_wp2
      go_roundw
      case rel =>
        refine ⟨k + 1, ol.set p (k : Int), by omega, by simp, Lib.hid (by rw [List.length_set]; exact hol.out), Lib.hid (fun i hi => ?_), Lib.hid (fun i hi hi2 => ?_), hs, hBs⟩
        · by_cases e : i = k
          · rw [e, Hpv.out, getD_set_same (by have := hol.out; omega)]
          · rw [getD_set_other (fun e' => by have := Hinj.out i (by omega) e'; omega)]
            exact h1.out i (by omega)
        · rw [getD_set_other (fun e' => by have := Hinj.out i (by omega) e'; omega)]
          exact h2.out i (by omega) hi2
      case measure => simp [intOf]; omega
    · obtain rfl : k = n + 1 := by omega
      have hfin := Lib.hid (show ∀ i, i ≤ n → ol.getD (pl.getD i 0) 0 = (i : Int) from fun i hi => h1.out i (by omega))
      have hkn2 : ¬ (((n + 1 : Nat) : Int) < (n : Int) + 1) := by omega
      go_wp2
      go_returns
      exact ⟨B, rfl, by omega, ⟨ol, hb, hol.out, hfin.out⟩, hB⟩
end Go.Proofs.Ytalidjgniebohaa
