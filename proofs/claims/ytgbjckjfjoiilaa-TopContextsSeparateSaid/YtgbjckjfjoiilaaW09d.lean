/- What each (layer 9) leaves, whatever visits. No condition. -/
import Derived.Test.YtgbjckjfjoiilaaW09c
set_option linter.unusedSimpArgs false
set_option linter.unusedVariables false
set_option linter.unusedSectionVars false
namespace Go.Proofs.Ytgbjckjfjoiilaa
open Go.RowKit

/-- A history as a value. -/
abbrev S09.hist (z o l : Int) : Value := .agg #[.int .i64 z, .int .i64 o, .int .i64 l]

/-- What each leaves: all states are visited, or the visit of one says no. -/
def S09.Visited (Inv : Nat → World → Prop) (go : Nat → Nat → Nat → Bool) (w' : World) : Prop :=
  Inv 215 w' ∨ ∃ t o l, t ≤ 30 ∧ o ≤ t ∧ l < 2 ∧ S09.ok t o l = true ∧ go t o l = false ∧ Inv (S09.cnt t o l + 1) w'

def S09.Visits (F : FuncId) (caps : Array Value) (Inv : Nat → World → Prop) (go : Nat → Nat → Nat → Bool) : Prop :=
  ∀ t o l w, t ≤ 30 → o ≤ t → l < 2 → S09.ok t o l = true → Inv (S09.cnt t o l) w →
    Calls Try.prog F (#[.int .i64 (S09.cnt t o l), S09.hist ((t : Int) - o) o l] ++ caps) w fun e w' => e = .returned (.bool (go t o l)) ∧ Inv (S09.cnt t o l + 1) w'

theorem S09.allowed_nat {t o : Nat} (ho : o ≤ t) (ht : t ≤ 30) : S09.allowed ((t : Int) - o) o = S09.rallowed ((t : Int) - o) o := by
  have : S09.allPlaces (fun t o _ => S09.allowed ((t : Int) - o) o == S09.rallowed ((t : Int) - o) o) = true := by decide +kernel
  simpa using S09.allPlaces_spec this ht ho (l := 0) (by omega)
theorem S09.ok_eq {t o l : Nat} (ho : o ≤ t) (h1 : 1 ≤ t) (hl : l < 2) : S09.ok t o l = (S09.rallowed ((t : Int) - o) o && (decide (l = 0 ∧ o < t) || decide (l = 1 ∧ 0 < o))) := by
  unfold S09.ok S09.is
  rw [if_neg (by omega)]
  congr 1
  rcases (show l = 0 ∨ l = 1 by omega) with rfl | rfl <;> simp <;> omega
theorem S09.cnt_lt {t o l : Nat} (ht : t ≤ 30) (ho : o ≤ t) (hl : l < 2) (h : S09.ok t o l = true) : S09.cnt t o l < 215 := (S09.at_place ht ho hl h).1

theorem S09.cL_le (t o b : Nat) : ∀ l, S09.cL t o b l ≤ b + l
  | 0 => Nat.le_refl _
  | l + 1 => by have := S09.cL_le t o b l; simp only [S09.cL]; split <;> omega
theorem S09.cO_le (t b : Nat) : ∀ o, S09.cO t b o ≤ b + 2 * o
  | 0 => by simp [S09.cO]
  | o + 1 => by have := S09.cO_le t b o; have := S09.cL_le t o (S09.cO t b o) 2; simp only [S09.cO]; omega
theorem S09.cT_small : (List.range 32).all (fun t => decide (S09.cT t ≤ 215)) = true := by decide +kernel
theorem S09.cT_le {t : Nat} (h : t ≤ 31) : S09.cT t ≤ 215 := by
  have := S09.cT_small
  simp only [List.all_eq_true, List.mem_range, decide_eq_true_eq] at this
  exact this t (by omega)

set_option maxHeartbeats 2000000 in
theorem each09_any (F : FuncId) (hF : ∀ args w, (callFunc F args).run Try.prog w = .ok (.enter F args) w) (caps : Array Value) (Inv : Nat → World → Prop) (go : Nat → Nat → Nat → Bool)
    (hst : ∀ k w w', Inv k w → Below w.heap.size w w' → Inv k w') (hv : S09.Visits F caps Inv go) (w : World) (h0 : Inv 0 w) :
    Calls Try.prog 60 #[.func (.func F) #[] caps] w fun e w' => e = .returned (.tuple #[]) ∧ S09.Visited Inv go w' := by
  have hv0 : Calls Try.prog F (#[.int .i64 0, S09.hist 0 0 0] ++ caps) w fun e w' => e = .returned (.bool (go 0 0 0)) ∧ Inv 1 w' :=
    hv 0 0 0 w (by omega) (by omega) (by omega) (by decide) h0
  have Hst := Lib.hid hst
  have Hv := Lib.hid hv
  have Hv0 := Lib.hid hv0
  clear hv0 hv hst
  cases hg0 : go 0 0 0 with
  | false =>
    rw [hg0] at Hv0
    have Hg0 := Lib.hid hg0
    clear hg0
    go_enter Try.func60, Try.ntmps60
    go_wp2_with fail
    refine Hv0.out.mono ?_
    rintro e w1 ⟨rfl, hi1⟩
    go_wp2
    go_returns
    exact ⟨rfl, .inr ⟨0, 0, 0, by omega, by omega, by omega, by decide, Hg0.out, hi1⟩⟩
  | true =>
    rw [hg0] at Hv0
    clear hg0
    go_enter Try.func60, Try.ntmps60
    go_wp2_with fail
    refine Hv0.out.mono ?_
    rintro e w1 ⟨rfl, hi1⟩
    go_wp2
    go_loopw [2, 3] (fun s t wr => ∃ T : Nat, 1 ≤ T ∧ T ≤ 31 ∧ t = .int .i64 T ∧ s = .int .i64 (S09.cT T) ∧ Inv (S09.cT T) wr) (fun _ t _ => 31 - (intOf t).toNat)
    case atStart => exact ⟨1, by omega, by omega, rfl, rfl, hi1⟩
    case round =>
      obtain ⟨wo, rfl⟩ : ∃ wo : World, wo = wr := ⟨_, rfl⟩
      obtain ⟨T, hT1, hT2, rfl, rfl, hi⟩ := hrel
      have hcT := S09.cT_le hT2
      by_cases hlt : T ≤ 30
      · have d1 : decide ((T : Int) ≤ 30) = true := by simp; omega
        go_wp2
        go_loopw [2, 17] (fun s c wr => ∃ O : Nat, O ≤ T + 1 ∧ c = .int .i64 O ∧ s = .int .i64 (S09.cO T (S09.cT T) O) ∧ Inv (S09.cO T (S09.cT T) O) wr) (fun _ c _ => 32 - (intOf c).toNat)
        case atStart => exact ⟨0, by omega, rfl, rfl, hi⟩
        case round =>
          obtain ⟨O, hO, rfl, rfl, hi2⟩ := hrel
          have hcO := S09.cO_le T (S09.cT T) O
          by_cases hO2 : O ≤ T
          · have d2 : decide ((O : Int) < (T : Int) + 1) = true := by simp; omega
            have hal := S09.allowed_nat hO2 hlt
            have hstep : S09.cO T (S09.cT T) (O + 1) = S09.cL T O (S09.cO T (S09.cT T) O) 2 := rfl
            have Hstep := Lib.hid hstep
            clear hstep
            cases hra : S09.rallowed ((T : Int) - O) O with
            | false =>
              rw [hra] at hal
              have hno : ∀ l, l < 2 → S09.ok T O l = false := fun l hl => by rw [S09.ok_eq hO2 hT1 hl, hra]; rfl
              have hsame : S09.cL T O (S09.cO T (S09.cT T) O) 2 = S09.cO T (S09.cT T) O := by simp [S09.cL, hno 0, hno 1]
              have Hsame := Lib.hid hsame
              clear hsame hno hra
              have HA := Lib.hid fun W => allowed09_any ((T : Int) - O) O W
              rw [hal] at HA
              clear hal
              go_wp2_with fail
              refine (HA.out _).mono ?_
              rintro e w2 ⟨rfl, hb2⟩
              have hi3 := Hst.out _ _ _ hi2 hb2
              go_wp2
              go_roundw
              case rel => exact ⟨O + 1, by omega, by go_num, by rw [Hstep.out, Hsame.out], by rw [Hstep.out, Hsame.out]; exact hi3⟩
              case measure => simp [intOf]; omega
            | true =>
              rw [hra] at hal
              have hok : ∀ l, l < 2 → S09.ok T O l = (decide (l = 0 ∧ O < T) || decide (l = 1 ∧ 0 < O)) := fun l hl => by rw [S09.ok_eq hO2 hT1 hl, hra]; rfl
              have Hok := Lib.hid hok
              clear hok hra
              have HA := Lib.hid fun W => allowed09_any ((T : Int) - O) O W
              rw [hal] at HA
              clear hal
              go_wp2_with fail
              refine (HA.out _).mono ?_
              rintro e w2 ⟨rfl, hb2⟩
              have hi3 := Hst.out _ _ _ hi2 hb2
              obtain ⟨base, hbase⟩ : ∃ b, b = S09.cO T (S09.cT T) O := ⟨_, rfl⟩
              have Hbase := Lib.hid hbase
              rw [← hbase] at hi3 hcO Hstep ⊢
              clear hbase hi2
              go_wp2
              go_loopw [2, 27] (fun s c wr => ∃ L : Nat, L ≤ 2 ∧ c = .int .i64 L ∧ s = .int .i64 (S09.cL T O base L) ∧ Inv (S09.cL T O base L) wr) (fun _ c _ => 2 - (intOf c).toNat)
              case atStart => exact ⟨0, by omega, rfl, rfl, hi3⟩
              case round =>
                obtain ⟨L, hL, rfl, rfl, hi4⟩ := hrel
                have hcL := S09.cL_le T O base L
                have hcnt : S09.cL T O base L = S09.cnt T O L := by rw [Hbase.out]; rfl
                rcases (show L = 2 ∨ L = 0 ∨ L = 1 by omega) with rfl | rfl | rfl
                · go_wp2
                  go_roundw
                  case rel => exact ⟨O + 1, by omega, by go_num, by rw [Hstep.out], by rw [Hstep.out]; exact hi4⟩
                  case measure => simp [intOf]; omega
                · by_cases hz : O = T
                  · have hk : S09.ok T O 0 = false := by rw [Hok.out 0 (by omega)]; simp; omega
                    have hc1 : S09.cL T O base 1 = S09.cL T O base 0 := by simp [S09.cL, hk]
                    have Hc1 := Lib.hid hc1
                    clear hc1 hk
                    have e0 : (T : Int) - O = 0 := by omega
                    subst hz
                    go_wp2
                    go_roundw
                    case rel => exact ⟨1, by omega, by go_num, by rw [Hc1.out], by rw [Hc1.out]; exact hi4⟩
                    case measure => simp [intOf]
                  · have hk : S09.ok T O 0 = true := by rw [Hok.out 0 (by omega)]; simp; omega
                    have hc1 : S09.cL T O base 1 = S09.cL T O base 0 + 1 := by simp [S09.cL, hk]
                    have Hc1 := Lib.hid hc1
                    clear hc1
                    have hv1 := Hv.out T O 0 _ hlt hO2 (by omega) hk (hcnt ▸ hi4)
                    have hne : ¬ (T : Int) - O = 0 := by omega
                    rw [← hcnt] at hv1
                    have Hv1 := Lib.hid hv1
                    clear hv1
                    have Hcnt := Lib.hid hcnt
                    clear hcnt
                    have hb1 : S09.cL T O base 0 ≤ 300 := by omega
                    generalize S09.cL T O base 0 = c0 at *
                    cases hg : go T O 0 with
                    | false =>
                      rw [hg] at Hv1
                      have Hg := Lib.hid hg
                      clear hg
                      go_wp2_with fail
                      refine Hv1.out.mono ?_
                      rintro e w3 ⟨rfl, hi5⟩
                      go_wp2
                      go_returns
                      exact ⟨rfl, .inr ⟨T, O, 0, hlt, hO2, by omega, hk, Hg.out, by rw [← Hcnt.out]; exact hi5⟩⟩
                    | true =>
                      rw [hg] at Hv1
                      clear hg
                      go_wp2_with fail
                      refine Hv1.out.mono ?_
                      rintro e w3 ⟨rfl, hi5⟩
                      go_wp2
                      go_roundw
                      case rel => exact ⟨1, by omega, by go_num, by rw [Hc1.out]; go_num, by rw [Hc1.out]; exact hi5⟩
                      case measure => simp [intOf]
                · by_cases hz : O = 0
                  · have hk : S09.ok T O 1 = false := by rw [Hok.out 1 (by omega)]; simp; omega
                    have hc1 : S09.cL T O base 2 = S09.cL T O base 1 := by simp [S09.cL, hk]
                    have Hc1 := Lib.hid hc1
                    clear hc1 hk
                    subst hz
                    go_wp2
                    go_roundw
                    case rel => exact ⟨2, by omega, by go_num, by rw [Hc1.out], by rw [Hc1.out]; exact hi4⟩
                    case measure => simp [intOf]
                  · have hk : S09.ok T O 1 = true := by rw [Hok.out 1 (by omega)]; simp; omega
                    have hc1 : S09.cL T O base 2 = S09.cL T O base 1 + 1 := by simp [S09.cL, hk]
                    have Hc1 := Lib.hid hc1
                    clear hc1
                    have hv1 := Hv.out T O 1 _ hlt hO2 (by omega) hk (hcnt ▸ hi4)
                    have hne : ¬ (O : Int) = 0 := by omega
                    rw [← hcnt] at hv1
                    have Hv1 := Lib.hid hv1
                    clear hv1
                    have Hcnt := Lib.hid hcnt
                    clear hcnt
                    have hb1 : S09.cL T O base 1 ≤ 300 := by omega
                    generalize S09.cL T O base 1 = c0 at *
                    cases hg : go T O 1 with
                    | false =>
                      rw [hg] at Hv1
                      have Hg := Lib.hid hg
                      clear hg
                      go_wp2_with fail
                      refine Hv1.out.mono ?_
                      rintro e w3 ⟨rfl, hi5⟩
                      go_wp2
                      go_returns
                      exact ⟨rfl, .inr ⟨T, O, 1, hlt, hO2, by omega, hk, Hg.out, by rw [← Hcnt.out]; exact hi5⟩⟩
                    | true =>
                      rw [hg] at Hv1
                      clear hg
                      go_wp2_with fail
                      refine Hv1.out.mono ?_
                      rintro e w3 ⟨rfl, hi5⟩
                      go_wp2
                      go_roundw
                      case rel => exact ⟨2, by omega, by go_num, by rw [Hc1.out]; go_num, by rw [Hc1.out]; exact hi5⟩
                      case measure => simp [intOf]
          · obtain rfl : O = T + 1 := by omega
            go_wp2
            go_roundw
            case rel => exact ⟨T + 1, by omega, by omega, by go_num, rfl, hi2⟩
            case measure => simp [intOf]; omega
      · obtain rfl : T = 31 := by omega
        go_wp2
        go_returns
        exact ⟨rfl, .inl (by rw [S09.cT_all] at hi; exact hi)⟩
end Go.Proofs.Ytgbjckjfjoiilaa
