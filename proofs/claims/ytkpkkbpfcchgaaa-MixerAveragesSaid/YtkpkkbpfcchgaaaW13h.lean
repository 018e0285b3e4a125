/- The walks of Mix and of the references Check and Mix (layer 13). No condition. -/
import Derived.Test.YtkpkkbpfcchgaaaW13g
set_option linter.unusedSimpArgs false
set_option linter.unusedVariables false
set_option linter.unusedSectionVars false
namespace Go.Proofs.Ytkpkkbpfcchgaaa
open Go.RowKit

theorem S13.rows_zero {n : Int} : ∀ {L : List (List Int)}, S13.rows n L = 0 → ∀ l ∈ L, (l.length : Int) = n ∧ l.any S13.heavy = false
  | [], _, l, hl => by simp at hl
  | a :: r, h, l, hl => by
    unfold S13.rows at h
    split at h
    · simp at h
    · rename_i h1
      split at h
      · simp at h
      · rename_i h2
        rcases List.mem_cons.1 hl with rfl | hl
        · exact ⟨by simpa using h1, by simpa using h2⟩
        · exact S13.rows_zero h l hl
theorem S13.rows_of {n : Int} : ∀ {L : List (List Int)}, (∀ l ∈ L, (l.length : Int) = n ∧ l.any S13.heavy = false) → S13.rows n L = 0
  | [], _ => rfl
  | a :: r, h => by
    unfold S13.rows
    have h1 := h a (by simp)
    rw [if_neg (by simpa using h1.1), if_neg (by rw [h1.2]; simp)]
    exact S13.rows_of fun l hl => h l (by simp [hl])
theorem S13.check_zero {n : Int} {L : List (List Int)} (h : S13.check 16 n L = 0) : 1 ≤ n ∧ n ≤ 16 ∧ 1 ≤ L.length ∧ L.length ≤ 65536 ∧ ∀ l ∈ L, (l.length : Int) = n ∧ l.any S13.heavy = false := by
  unfold S13.check at h
  split at h
  · simp at h
  · exact ⟨by omega, by omega, by omega, by omega, S13.rows_zero h⟩
theorem S13.check_of {n : Int} {L : List (List Int)} (h1 : 1 ≤ n) (h2 : n ≤ 16) (h3 : 1 ≤ L.length) (h4 : L.length ≤ 65536) (h : ∀ l ∈ L, (l.length : Int) = n ∧ l.any S13.heavy = false) : S13.check 16 n L = 0 := by
  unfold S13.check
  rw [if_neg (by omega)]
  exact S13.rows_of h
theorem S13.light {l : List Int} (h : l.any S13.heavy = false) : ∀ x ∈ l, -1048576 ≤ x ∧ x ≤ 1048576 := by
  intro x hx
  rw [List.any_eq_false] at h
  have := h x hx
  simp [S13.heavy] at this
  omega
theorem S13.weak {l : List Int} (h : l.any S13.strong = false) : ∀ x ∈ l, -3071 ≤ x ∧ x ≤ 3071 := by
  intro x hx
  rw [List.any_eq_false] at h
  have := h x hx
  simp [S13.strong] at this
  omega
theorem S13.usable_zero {n c : Int} {L : List (List Int)} {xs : List Int} (h : S13.usable 16 n L c xs = 0) :
    S13.check 16 n L = 0 ∧ 0 ≤ c ∧ c < L.length ∧ (xs.length : Int) = n ∧ 1 ≤ xs.length ∧ xs.any S13.strong = false ∧ S13.fits (L.getD c.toNat []) xs := by
  unfold S13.usable at h
  split at h
  · exact absurd h (by assumption)
  · rename_i hc
    have hc : S13.check 16 n L = 0 := by simpa using hc
    split at h
    · simp at h
    · split at h
      · simp at h
      · rename_i hr hl
        split at h
        · simp at h
        · rename_i hs
          obtain ⟨k1, k2, k3, k4, k5⟩ := S13.check_zero hc
          have hs : xs.any S13.strong = false := by simpa using hs
          have hl : (xs.length : Int) = n := by simpa using hl
          have hm : L.getD c.toNat [] ∈ L := by
            rw [List.getD_eq_getElem?_getD, List.getElem?_eq_getElem (show c.toNat < L.length by omega)]
            exact List.getElem_mem _
          have hk := k5 _ hm
          refine ⟨hc, by omega, by omega, hl, by omega, hs, by omega, by omega, S13.light hk.2, S13.weak hs⟩

/-- What Mix returns: the evidence, the error. -/
def S13.mixR (n : Int) (L : List (List Int)) (c : Int) (xs : List Int) : Int := if S13.usable 16 n L c xs = 0 then S13.mix (L.getD c.toNat []) xs else 0

/-- A row of a mixer. -/
theorem row13_at {R : List Row13} {a : Option Addr} {w : World} (hrd : Rd w a (R.map Row13.head)) (hok : ∀ r ∈ R, r.ok w) {k : Nat} (hk : k < R.length) :
    ∃ r g o, R[k]? = some r ∧ a = some ⟨g, o, none⟩ ∧ w.cell? ⟨g, o + k, none⟩ = some (.slice r.a r.l.length r.cap) ∧ r.ok w ∧ (R.map Row13.l).getD k [] = r.l := by
  obtain ⟨g, o, rfl, hcs⟩ := hrd.at (i := k) (by rw [List.length_map]; exact hk)
  refine ⟨R[k], g, o, List.getElem?_eq_getElem hk, rfl, ?_, hok _ (List.getElem_mem hk), ?_⟩
  · rw [hcs k (by rw [List.length_map]; exact hk), List.getElem_map]; rfl
  · rw [List.getD_eq_getElem?_getD, List.getElem?_map, List.getElem?_eq_getElem hk]; rfl

set_option maxHeartbeats 1000000 in
theorem mixM13_any (n : Int) (L : List (List Int)) (V : Value) (c : Int) (xs : List Int) (a : Option Addr) (cap : Nat) (w : World) (hV : MixIs n L V w) (hlen : xs.length ≤ 9223372036854775807) (hrd : Rd w a (Ints xs)) :
    Calls Try.prog 17 #[V, .int .i64 c, .slice a xs.length cap] w fun e w' => e = .returned (.tuple #[.int .i64 (S13.mixR n L c xs), .int .i64 (S13.usable 16 n L c xs)]) ∧ Below w.heap.size w w' := by
  have HU := Lib.hid fun W (hb : Below w.heap.size w W) => usable13_any n L V c xs a cap W (hV.step hb) hlen (hrd.step hb)
  by_cases hu : S13.usable 16 n L c xs = 0
  · obtain ⟨k1, k2, k3, k4, k5, k6, k7⟩ := S13.usable_zero hu
    have hr : S13.mixR n L c xs = S13.mix (L.getD c.toNat []) xs := by unfold S13.mixR; rw [if_pos hu]
    rw [hr]
    rw [hu] at HU ⊢
    obtain ⟨R, ma, mc, rfl, rfl, h1, h2, hrm, hok⟩ := hV
    obtain ⟨c, rfl⟩ := Int.eq_ofNat_of_zero_le k2
    have hcR : c < R.length := by rw [List.length_map] at k3; omega
    obtain ⟨r, g, o, hRr, rfl, hcell, hro, hgl⟩ := row13_at hrm hok hcR
    simp only [Int.toNat_natCast] at k7 ⊢
    rw [hgl] at k7 ⊢
    have hrl : r.l.length = xs.length := k7.1
    have HM := Lib.hid fun W (hb : Below w.heap.size w W) => mix13_any r.l xs r.a a r.cap cap W k7 k5 (hro.2.2.step hb) (hrd.step hb)
    rw [hrl] at hcell
    have hgb := block_lt_of_cell hcell
    have i1 : (c : Int) < R.length := by omega
    clear hrm hok hro hgl k7 k6 k1 hr hu hRr hrd hrl
    generalize S13.mix r.l xs = q at *
    generalize xs.length = l at *
    generalize R.length = m at *
    go_enter Try.func17, Try.ntmps17
    go_wp2_with fail
    refine (HU.out _ (by go_grown)).mono ?_
    rintro e w1 ⟨rfl, hb1⟩
    have hB1 : Below w.heap.size w w1 := below_trans (by go_grown) hb1
    have z1 : w.heap.size ≤ w1.heap.size := hB1.size
    have hs1 : w.heap.size < w1.heap.size := by have := hb1.size; simp at this; omega
    have k1 : w1.cell? ⟨w.heap.size, 0, none⟩ = some (.int .i64 n) := (hb1.cell (by simp <;> omega)).trans (by go_simp)
    have k2 : w1.cell? ⟨w.heap.size, 1, none⟩ = some (.slice (some ⟨g, o, none⟩) m mc) := (hb1.cell (by simp <;> omega)).trans (by go_simp)
    have hcell1 : w1.cell? ⟨g, o + c, none⟩ = some (.slice r.a l r.cap) := (hB1.cell hgb).trans hcell
    go_wp2_with fail
    refine (HM.out _ hB1).mono ?_
    rintro e w2 ⟨rfl, hb2⟩
    have hB2 : Below w.heap.size w w2 := below_trans (by go_grown) hb2
    have z2 : w.heap.size ≤ w2.heap.size := hB2.size
    go_wp2
    go_returns
    exact ⟨rfl, hB2⟩
  · have hr : S13.mixR n L c xs = 0 := by unfold S13.mixR; rw [if_neg hu]
    have hu2 : ((S13.usable 16 n L c xs : Int) != 0) = true := by simpa using hu
    rw [hr]
    obtain ⟨ma, mc, rfl, m1, m2, hV⟩ := mixOpen hV
    clear hu hr hV hrd
    generalize S13.usable 16 n L c xs = y at *
    generalize xs.length = l at *
    generalize L.length = m at *
    go_enter Try.func17, Try.ntmps17
    go_wp2_with fail
    refine (HU.out _ (by go_grown)).mono ?_
    rintro e w1 ⟨rfl, hb1⟩
    have hB1 : Below w.heap.size w w1 := below_trans (by go_grown) hb1
    have z1 : w.heap.size ≤ w1.heap.size := hB1.size
    go_wp2
    go_returns
    exact ⟨rfl, hB1⟩
end Go.Proofs.Ytkpkkbpfcchgaaa
