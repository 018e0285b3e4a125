/- What the reference of layer 9 returns: Counts, Chance, Priority, Count. No condition. -/
import Derived.Test.YtgbjckjfjoiilaaW09g
set_option linter.unusedSimpArgs false
set_option linter.unusedVariables false
set_option linter.unusedSectionVars false
namespace Go.Proofs.Ytgbjckjfjoiilaa
open Go.RowKit

set_option maxHeartbeats 2000000 in
theorem refCounts09_any (s : Int) (w : World) :
    Calls Try.prog 79 #[.int .i64 s] w fun e w' => e = .returned (.tuple #[.int .i64 (S09.hz s), .int .i64 (S09.ho s), .int .i64 (S09.hl s), .int .i64 (S09.err s)]) ∧ Below w.heap.size w w' := by
  have hend : (s < 0 ∨ 215 ≤ s) → S09.hz s = 0 ∧ S09.ho s = 0 ∧ S09.hl s = 0 ∧ S09.err s = 2 := fun h => by
    have hf : S09.found s = false := decide_eq_false (by omega)
    simp [S09.hz, S09.ho, S09.hl, S09.err, hf]
  have hhit : ∀ t o l : Nat, t ≤ 30 → o ≤ t → l < 2 → S09.ok t o l = true → (S09.cnt t o l : Int) = s → S09.hz s = (t : Int) - o ∧ S09.ho s = o ∧ S09.hl s = l ∧ S09.err s = 0 := fun t o l ht ho hl hok e => by
    have hc := S09.cnt_lt ht ho hl hok
    obtain ⟨e1, e2, e3⟩ := S09.at_cnt ht ho hl hok
    rw [e] at e1 e2 e3
    have hf : S09.found s = true := decide_eq_true (by omega)
    exact ⟨e1, e2, e3, by simp [S09.err, hf]⟩
  have Hend := Lib.hid hend
  have Hhit := Lib.hid hhit
  clear hend hhit
  go_enter Try.func79, Try.ntmps79
  go_wp2
  go_loopw [6, 7] (fun k t wr => ∃ T : Nat, T ≤ 31 ∧ t = .int .i64 T ∧ k = .int .i64 (S09.cT T) ∧ (s < 0 ∨ (S09.cT T : Int) ≤ s) ∧ Below w.heap.size w wr) (fun _ t _ => 31 - (intOf t).toNat)
  case atStart => exact ⟨0, by omega, rfl, rfl, by simp only [S09.cT]; omega, Below.refl _ _⟩
  case round =>
    obtain ⟨wo, rfl⟩ : ∃ wo : World, wo = wr := ⟨_, rfl⟩
    obtain ⟨T, hT2, rfl, rfl, hs, hB⟩ := hrel
    have hcT := S09.cT_le hT2
    by_cases hlt : T ≤ 30
    · have d1 : decide ((T : Int) ≤ 30) = true := by simp; omega
      go_wp2
      go_loopw [6, 8] (fun k c wr => ∃ O : Nat, O ≤ T + 1 ∧ c = .int .i64 O ∧ k = .int .i64 (S09.cO T (S09.cT T) O) ∧ (s < 0 ∨ (S09.cO T (S09.cT T) O : Int) ≤ s) ∧ Below w.heap.size w wr) (fun _ c _ => 32 - (intOf c).toNat)
      case atStart => exact ⟨0, by omega, rfl, rfl, hs, hB⟩
      case round =>
        obtain ⟨wm, rfl⟩ : ∃ wm : World, wm = wr := ⟨_, rfl⟩
        obtain ⟨O, hO, rfl, rfl, hs2, hB2⟩ := hrel
        have hcO := S09.cO_le T (S09.cT T) O
        by_cases hO2 : O ≤ T
        · have d2 : decide ((O : Int) ≤ (T : Int)) = true := by simp; omega
          have Hstep := Lib.hid (show S09.cO T (S09.cT T) (O + 1) = S09.cL T O (S09.cO T (S09.cT T) O) 2 from rfl)
          obtain ⟨base, hbase⟩ : ∃ b, b = S09.cO T (S09.cT T) O := ⟨_, rfl⟩
          have Hbase := Lib.hid hbase
          rw [← hbase] at hs2 hcO Hstep ⊢
          clear hbase
          go_wp2
          go_loopw [6, 9] (fun k c wr => ∃ L : Nat, L ≤ 2 ∧ c = .int .i64 L ∧ k = .int .i64 (S09.cL T O base L) ∧ (s < 0 ∨ (S09.cL T O base L : Int) ≤ s) ∧ Below w.heap.size w wr) (fun _ c _ => 2 - (intOf c).toNat)
          case atStart => exact ⟨0, by omega, rfl, rfl, hs2, hB2⟩
          case round =>
            obtain ⟨L, hL, rfl, rfl, hs3, hB3⟩ := hrel
            have hcL := S09.cL_le T O base L
            by_cases hL2 : L < 2
            · have Hcnt := Lib.hid (show S09.cL T O base L = S09.cnt T O L by rw [Hbase.out]; rfl)
              have hsucc : S09.cL T O base (L + 1) = S09.cL T O base L + (if S09.ok T O L then 1 else 0) := rfl
              have HI := Lib.hid fun W => refIs09_any ((T : Int) - O) O L W
              have hok : S09.is ((T : Int) - O) O L = S09.ok T O L := rfl
              rw [hok] at HI
              cases hk : S09.ok T O L with
              | false =>
                rw [hk] at HI hsucc
                have Hsucc := Lib.hid (show S09.cL T O base (L + 1) = S09.cL T O base L from hsucc)
                clear hsucc hok hk
                generalize S09.cL T O base L = c0 at *
                go_wp2_with fail
                refine (HI.out _).mono ?_
                rintro e w3 ⟨rfl, hb3⟩
                have hB4 := below_trans hB3 hb3
                go_wp2
                go_roundw
                case rel => exact ⟨L + 1, by omega, by go_num, by rw [Hsucc.out], by rw [Hsucc.out]; exact hs3, hB4⟩
                case measure => simp [intOf]; omega
              | true =>
                rw [hk] at HI hsucc
                have Hsucc := Lib.hid (show S09.cL T O base (L + 1) = S09.cL T O base L + 1 from hsucc)
                have Hh := Lib.hid (Hhit.out T O L hlt hO2 hL2 hk)
                rw [← Hcnt.out] at Hh
                clear hsucc hok hk
                by_cases he : (S09.cL T O base L : Int) = s
                · have hq := Hh.out he
                  obtain ⟨q1, q2, q3, q4⟩ := hq
                  have he' : ((S09.cL T O base L : Int) == s) = true := by simpa using he
                  have Hq1 := Lib.hid q1
                  have Hq2 := Lib.hid q2
                  have Hq3 := Lib.hid q3
                  have Hq4 := Lib.hid q4
                  clear he q1 q2 q3 q4
                  generalize S09.cL T O base L = c0 at *
                  go_wp2_with fail
                  refine (HI.out _).mono ?_
                  rintro e w3 ⟨rfl, hb3⟩
                  have hB4 := below_trans hB3 hb3
                  go_wp2
                  go_returns
                  rw [Hq1.out, Hq2.out, Hq3.out, Hq4.out]
                  exact ⟨rfl, hB4⟩
                · have he' : ((S09.cL T O base L : Int) == s) = false := by simpa using he
                  have hs4 : s < 0 ∨ ((S09.cL T O base L + 1 : Nat) : Int) ≤ s := by omega
                  clear he
                  generalize S09.cL T O base L = c0 at *
                  go_wp2_with fail
                  refine (HI.out _).mono ?_
                  rintro e w3 ⟨rfl, hb3⟩
                  have hB4 := below_trans hB3 hb3
                  go_wp2
                  go_roundw
                  case rel => exact ⟨L + 1, by omega, by go_num, by rw [Hsucc.out]; go_num, by rw [Hsucc.out]; exact hs4, hB4⟩
                  case measure => simp [intOf]; omega
            · obtain rfl : L = 2 := by omega
              go_wp2
              go_roundw
              case rel => exact ⟨O + 1, by omega, by go_num, by rw [Hstep.out], by rw [Hstep.out]; exact hs3, hB3⟩
              case measure => simp [intOf]; omega
        · obtain rfl : O = T + 1 := by omega
          go_wp2
          go_roundw
          case rel => exact ⟨T + 1, by omega, by go_num, rfl, hs2, hB2⟩
          case measure => simp [intOf]; omega
    · obtain rfl : T = 31 := by omega
      have h215 : S09.cT 31 = 215 := S09.cT_all
      have Hq := Lib.hid (Hend.out (by omega))
      clear h215
      go_wp2
      go_returns
      obtain ⟨q1, q2, q3, q4⟩ := Hq.out
      rw [q1, q2, q3, q4]
      exact ⟨rfl, hB⟩
end Go.Proofs.Ytgbjckjfjoiilaa
