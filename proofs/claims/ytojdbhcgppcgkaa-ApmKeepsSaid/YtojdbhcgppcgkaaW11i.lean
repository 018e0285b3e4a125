/- awake (law 11): the examples of the chapter. No condition. -/
import Derived.Test.YtojdbhcgppcgkaaW11h
set_option linter.unusedSimpArgs false
set_option linter.unusedVariables false
set_option linter.unusedSectionVars false
namespace Go.Proofs.Ytojdbhcgppcgkaa
open Go.RowKit

theorem update11_any (L : List Int) (V : Value) (c p bit rate : Int) (w : World) (hV : MapIs L V w) :
    Calls Try.prog 19 #[V, .int .i64 c, .int .i64 p, .int .i64 bit, .int .i64 rate] w fun e w' =>
      ∃ V', e = .returned (.tuple #[V', .int .i64 (S11.updE L c p bit rate)]) ∧ MapIs (S11.updL L c p bit rate) V' w' ∧ Below w.heap.size w w' := by
  obtain ⟨a, cap, rfl, h1, h2, hrd⟩ := hV
  by_cases he : S11.updE L c p bit rate = 0
  · have hl : S11.updL L c p bit rate = S11.update L c.toNat p bit rate := by unfold S11.updL; rw [if_pos he]
    rw [he, hl]
    have hu : S11.usable L c p = 0 := by
      by_cases h : S11.usable L c p = 0
      · exact h
      · unfold S11.updE at he; rw [if_pos h] at he; exact absurd he h
    have hb : ¬ (bit ≠ 0 ∧ bit ≠ 1) := by
      intro hb; unfold S11.updE at he; rw [if_neg (by simpa using hu), if_pos hb] at he; omega
    have hr : ¬ (rate < 1 ∨ 255 < rate) := by
      intro hr; unfold S11.updE at he; rw [if_neg (by simpa using hu), if_neg hb, if_pos hr] at he; omega
    obtain ⟨k1, k2, k3, k4, k5⟩ := S11.usable_zero hu
    obtain ⟨q1, q2, q3, q4⟩ := S11.check_zero k1
    obtain ⟨c, rfl⟩ := Int.eq_ofNat_of_zero_le k2
    obtain ⟨g, o, rfl, _⟩ := hrd.at (i := 0) (by rw [Ints_length]; omega)
    exact update11_ok L g o cap c p bit rate w h1 h2 hrd hu (by omega) (by omega) (by omega)
  · have hl : S11.updL L c p bit rate = [] := by unfold S11.updL; rw [if_neg he]
    rw [hl]
    exact update11_err L a cap c p bit rate w h1 h2 hrd he
theorem refUpdate11_any (L : List Int) (V : Value) (c p bit rate : Int) (w : World) (hV : MapIs L V w) :
    Calls Try.prog 20 #[V, .int .i64 c, .int .i64 p, .int .i64 bit, .int .i64 rate] w fun e w' =>
      ∃ V', e = .returned (.tuple #[V', .int .i64 (S11.updE L c p bit rate)]) ∧ MapIs (S11.updL L c p bit rate) V' w' ∧ Below w.heap.size w w' := by
  obtain ⟨a, cap, rfl, h1, h2, hrd⟩ := hV
  by_cases he : S11.updE L c p bit rate = 0
  · have hl : S11.updL L c p bit rate = S11.update L c.toNat p bit rate := by unfold S11.updL; rw [if_pos he]
    rw [he, hl]
    have hu : S11.usable L c p = 0 := by
      by_cases h : S11.usable L c p = 0
      · exact h
      · unfold S11.updE at he; rw [if_pos h] at he; exact absurd he h
    have hb : ¬ (bit ≠ 0 ∧ bit ≠ 1) := by
      intro hb; unfold S11.updE at he; rw [if_neg (by simpa using hu), if_pos hb] at he; omega
    have hr : ¬ (rate < 1 ∨ 255 < rate) := by
      intro hr; unfold S11.updE at he; rw [if_neg (by simpa using hu), if_neg hb, if_pos hr] at he; omega
    obtain ⟨k1, k2, k3, k4, k5⟩ := S11.usable_zero hu
    obtain ⟨q1, q2, q3, q4⟩ := S11.check_zero k1
    obtain ⟨c, rfl⟩ := Int.eq_ofNat_of_zero_le k2
    obtain ⟨g, o, rfl, _⟩ := hrd.at (i := 0) (by rw [Ints_length]; omega)
    exact refUpdate11_ok L g o cap c p bit rate w h1 h2 hrd hu (by omega) (by omega) (by omega)
  · have hl : S11.updL L c p bit rate = [] := by unfold S11.updL; rw [if_neg he]
    rw [hl]
    exact refUpdate11_err L a cap c p bit rate w h1 h2 hrd he

/-- Refine of a map. -/
theorem refineM11_any (L : List Int) (V : Value) (c p : Int) (w : World) (hV : MapIs L V w) :
    Calls Try.prog 17 #[V, .int .i64 c, .int .i64 p] w fun e w' => e = .returned (.tuple #[.int .i64 (S11.refineR L c p), .int .i64 (S11.usable L c p)]) ∧ Below w.heap.size w w' := by
  obtain ⟨a, cap, rfl, h1, h2, hrd⟩ := hV
  exact refine11_any L a cap c p w h1 h2 hrd

def S11.A : List Int := S11.newL 2
def S11.Bm : List Int := S11.updL S11.A 1 2048 1 128
def S11.Cm : List Int := S11.updL S11.A 1 2048 0 128
theorem S11.awake_facts : S11.newE 2 = 0 ∧ S11.refineR S11.A 1 2048 = 2048 ∧ S11.usable S11.A 1 2048 = 0 ∧ S11.updE S11.A 1 2048 1 128 = 0 ∧ S11.refineR S11.Bm 1 2048 = 3071 ∧ S11.usable S11.Bm 1 2048 = 0 ∧
    S11.updE S11.A 1 2048 0 128 = 0 ∧ S11.refineR S11.Cm 1 2048 = 1024 ∧ S11.usable S11.Cm 1 2048 = 0 ∧ S11.A.length = 66 ∧ S11.Bm.length = 66 ∧ S11.Bm[49]? = some 49151 ∧ S11.Bm[16]? = some 32768 := by decide +kernel

theorem mapOpen {L : List Int} {V : Value} {w : World} (h : MapIs L V w) {n : Nat} (hn : L.length = n) : ∃ a cap, V = .agg #[.slice a n cap] ∧ MapIs L (.agg #[.slice a n cap]) w ∧ Rd w a (Ints L) := by
  obtain ⟨a, cap, rfl, h1, h2, h3⟩ := h
  subst hn
  exact ⟨a, cap, rfl, ⟨a, cap, rfl, h1, h2, h3⟩, h3⟩
theorem Ints_cell {w : World} {a : Option Addr} {L : List Int} (h : Rd w a (Ints L)) {i : Nat} {x : Int} (hx : L[i]? = some x) : ∃ g o, a = some ⟨g, o, none⟩ ∧ w.cell? ⟨g, o + i, none⟩ = some (.int .i64 x) := by
  have hi : i < L.length := (List.getElem?_eq_some_iff.1 hx).1
  obtain ⟨g, o, rfl, hcs⟩ := h.at (i := i) (by rw [Ints_length]; exact hi)
  refine ⟨g, o, rfl, ?_⟩
  rw [hcs i (by rw [Ints_length]; exact hi)]
  have := (List.getElem?_eq_some_iff.1 hx).2
  simp [Ints, this]

set_option maxHeartbeats 2000000 in
theorem awake11_any (w : World) : Calls Try.prog 11 #[] w fun e w' => e = .returned (.bool true) ∧ Below w.heap.size w w' := by
  obtain ⟨t1, t2, t3, t4, t5, t6, t7, t8, t9, t10, t11, t12, t13⟩ := S11.awake_facts
  have HN := Lib.hid fun W => new11_any 2 W
  have HR1 := Lib.hid fun V W (hV : MapIs S11.A V W) => refineM11_any S11.A V 1 2048 W hV
  have HU1 := Lib.hid fun V W (hV : MapIs S11.A V W) => update11_any S11.A V 1 2048 1 128 W hV
  have HR2 := Lib.hid fun V W (hV : MapIs S11.Bm V W) => refineM11_any S11.Bm V 1 2048 W hV
  have HU2 := Lib.hid fun V W (hV : MapIs S11.A V W) => update11_any S11.A V 1 2048 0 128 W hV
  have HR3 := Lib.hid fun V W (hV : MapIs S11.Cm V W) => refineM11_any S11.Cm V 1 2048 W hV
  rw [t1, show S11.newL 2 = S11.A from rfl] at HN
  rw [t2, t3] at HR1
  rw [t4, show S11.updL S11.A 1 2048 1 128 = S11.Bm from rfl] at HU1
  rw [t5, t6] at HR2
  rw [t7, show S11.updL S11.A 1 2048 0 128 = S11.Cm from rfl] at HU2
  rw [t8, t9] at HR3
  have T10 := Lib.hid t10
  have T11 := Lib.hid t11
  have T12 := Lib.hid t12
  have T13 := Lib.hid t13
  clear t1 t2 t3 t4 t5 t6 t7 t8 t9 t10 t11 t12 t13
  generalize S11.A = A at *
  generalize S11.Bm = Bm at *
  generalize S11.Cm = Cm at *
  go_enter Try.func11, Try.ntmps11
  go_wp2_with fail
  refine (HN.out _).mono ?_
  rintro e w1 ⟨V1, rfl, hA, hb1⟩
  have hB1 : Below w.heap.size w w1 := below_trans (by go_grown) hb1
  have z1 : w.heap.size ≤ w1.heap.size := hB1.size
  obtain ⟨aA, capA, rfl, hA1, _⟩ := mapOpen hA T10.out
  have HA := Lib.hid fun (W : World) (hb : Below w1.heap.size w1 W) => hA1.step hb
  clear hA hA1
  go_wp2_with fail
  refine (HR1.out _ _ (HA.out _ (by go_grown))).mono ?_
  rintro e w2 ⟨rfl, hb2⟩
  have hB2 : Below w.heap.size w w2 := below_trans (by go_grown) hb2
  have hC2 : Below w1.heap.size w1 w2 := below_trans (by go_grown) hb2
  have z2 : w1.heap.size < w2.heap.size := by have := hb2.size; simp at this; omega
  have k1 : w2.cell? ⟨w1.heap.size, 0, none⟩ = some (.slice aA 66 capA) := (hb2.cell (by simp <;> omega)).trans (by go_simp)
  go_wp2_with fail
  refine (HU1.out _ _ (HA.out _ hC2)).mono ?_
  rintro e w3 ⟨V3, rfl, hBm, hb3⟩
  have hB3 : Below w.heap.size w w3 := below_trans hB2 hb3
  have hC3 : Below w1.heap.size w1 w3 := below_trans hC2 hb3
  have z3 : w2.heap.size ≤ w3.heap.size := hb3.size
  have s13 : w1.heap.size < w3.heap.size := by omega
  obtain ⟨aB, capB, rfl, hBm1, hrB⟩ := mapOpen hBm T11.out
  have HBm := Lib.hid fun (W : World) (hb : Below w3.heap.size w3 W) => hBm1.step hb
  have HrB := Lib.hid fun (W : World) (hb : Below w3.heap.size w3 W) => hrB.step hb
  clear hBm hBm1 hrB
  have k2 : w3.cell? ⟨w1.heap.size, 0, none⟩ = some (.slice aA 66 capA) := (hb3.cell (by simp <;> omega)).trans (by go_simp)
  go_wp2_with fail
  refine (HR2.out _ _ (HBm.out _ (by go_grown))).mono ?_
  rintro e w4 ⟨rfl, hb4⟩
  have hB4 : Below w.heap.size w w4 := below_trans (by go_grown) hb4
  have hC4 : Below w1.heap.size w1 w4 := below_trans (by go_grown) hb4
  have hD4 : Below w3.heap.size w3 w4 := below_trans (by go_grown) hb4
  have z4 : w3.heap.size < w4.heap.size := by have := hb4.size; simp at this; omega
  have k3 : w4.cell? ⟨w1.heap.size, 0, none⟩ = some (.slice aA 66 capA) := (hb4.cell (by simp <;> omega)).trans (by go_simp)
  have k4 : w4.cell? ⟨w3.heap.size, 0, none⟩ = some (.slice aB 66 capB) := (hb4.cell (by simp <;> omega)).trans (by go_simp)
  go_wp2_with fail
  refine (HU2.out _ _ (HA.out _ hC4)).mono ?_
  rintro e w5 ⟨V5, rfl, hCm, hb5⟩
  have hB5 : Below w.heap.size w w5 := below_trans hB4 hb5
  have hC5 : Below w1.heap.size w1 w5 := below_trans hC4 hb5
  have hD5 : Below w3.heap.size w3 w5 := below_trans hD4 hb5
  have z5 : w4.heap.size ≤ w5.heap.size := hb5.size
  have s15 : w1.heap.size < w5.heap.size := by omega
  have s35 : w3.heap.size < w5.heap.size := by omega
  have k5 : w5.cell? ⟨w1.heap.size, 0, none⟩ = some (.slice aA 66 capA) := (hb5.cell (by simp <;> omega)).trans (by go_simp)
  have k6 : w5.cell? ⟨w3.heap.size, 0, none⟩ = some (.slice aB 66 capB) := (hb5.cell (by simp <;> omega)).trans (by go_simp)
  obtain ⟨aC, capC, hVC, _, _, _⟩ := hCm
  have hCm1 : MapIs Cm V5 w5 := ⟨aC, capC, hVC, by assumption, by assumption, by assumption⟩
  subst hVC
  have HCm := Lib.hid fun (W : World) (hb : Below w5.heap.size w5 W) => hCm1.step hb
  clear hCm1
  generalize Cm.length = nC at *
  go_wp2_with fail
  refine (HR3.out _ _ (HCm.out _ (by go_grown))).mono ?_
  rintro e w6 ⟨rfl, hb6⟩
  have hB6 : Below w.heap.size w w6 := below_trans (by go_grown) hb6
  have hD6 : Below w3.heap.size w3 w6 := below_trans (by go_grown) hb6
  have k7 : w6.cell? ⟨w1.heap.size, 0, none⟩ = some (.slice aA 66 capA) := (hb6.cell (by simp <;> omega)).trans (by go_simp)
  have k8 : w6.cell? ⟨w3.heap.size, 0, none⟩ = some (.slice aB 66 capB) := (hb6.cell (by simp <;> omega)).trans (by go_simp)
  have hrB := HrB.out _ hD6
  obtain ⟨gB, oB, rfl, x49⟩ := Ints_cell hrB T12.out
  obtain ⟨gB2, oB2, hgo, x16⟩ := Ints_cell hrB T13.out
  obtain ⟨rfl, rfl⟩ : gB = gB2 ∧ oB = oB2 := by simp at hgo; exact hgo
  clear hgo hrB
  go_wp2
  go_returns
  exact ⟨rfl, hB6⟩
end Go.Proofs.Ytojdbhcgppcgkaa
