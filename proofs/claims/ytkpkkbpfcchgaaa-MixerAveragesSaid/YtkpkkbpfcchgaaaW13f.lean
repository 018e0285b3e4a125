/- The walk of visit, and mix (layer 13). No condition. -/
import Derived.Test.YtkpkkbpfcchgaaaW13e
import Derived.StillTailTactics
set_option linter.unusedSimpArgs false
set_option linter.unusedVariables false
set_option linter.unusedSectionVars false
namespace Go.Proofs.Ytkpkkbpfcchgaaa
open Go.RowKit

set_option maxHeartbeats 1000000 in
/-- A visitor shows each weight with its input; I k holds before the visit of number k. -/
theorem visit13_any (F : FuncId) (caps : Array Value) (hF : ∀ a b c w, (callFunc F (#[a, b, c] ++ caps)).run Try.prog w = .ok (.enter F (#[a, b, c] ++ caps)) w) (n : Nat) (gw ow cw gx ox cx : Nat) (wt xt : Nat → Int)
    (I : Nat → World → Prop) (hs : ∀ k w w', I k w → Below w.heap.size w w' → I k w')
    (hr : ∀ k w, k < n → I k w → w.cell? ⟨gw, ow + k, none⟩ = some (.int .i64 (wt k)) ∧ w.cell? ⟨gx, ox + k, none⟩ = some (.int .i64 (xt k)))
    (hv : ∀ k w, k < n → I k w → Calls Try.prog F (#[.int .i64 k, .int .i64 (wt k), .int .i64 (xt k)] ++ caps) w fun e w' => e = .returned (.tuple #[]) ∧ I (k + 1) w' ∧ ∀ b cs, Blk w b cs 70 → Blk w' b cs 70)
    (w : World) (h63 : n ≤ 9223372036854775807) (h0 : I 0 w) :
    Calls Try.prog 36 #[.agg #[.func (.func F) #[] caps], .slice (some ⟨gw, ow, none⟩) n cw, .slice (some ⟨gx, ox, none⟩) n cx] w fun e w' => e = .returned (.tuple #[]) ∧ I n w' := by
  have HV := Lib.hid hv
  have HR := Lib.hid hr
  have HS := Lib.hid hs
  have H0 := Lib.hid h0
  clear hv hr hs h0
  go_enter Try.func36, Try.ntmps36
  go_wp2
  have hb0 := Blk.new w [.func (.func F) #[] caps] 70
  have H1 := Lib.hid (HS.out 0 w _ H0.out ((Below.refl _ _).alloc (Nat.le_refl _) (Obj.cells #[.func (.func F) #[] caps] 70)))
  go_loopw [9] (fun i wr => ∃ k : Nat, k ≤ n ∧ i = .int .i64 k ∧ I k wr ∧ Blk wr w.heap.size [.func (.func F) #[] caps] 70) (fun i _ => n - (intOf i).toNat)
  case atStart => exact ⟨0, by omega, rfl, H1.out, hb0⟩
  case round =>
    obtain ⟨k, hk, rfl, hI, hbk⟩ := hrel
    have hbl := hbk.lt
    have hc := hbk.cell 0
    simp only [List.getElem?_cons_zero] at hc
    have Hbk := Lib.hid hbk
    clear hbk
    have HI := Lib.hid hI
    clear hI
    by_cases hlt : k < n
    · have hlt2 : (k : Int) < n := by omega
      have hq1 := (HR.out k wr hlt HI.out).1
      have hq2 := (HR.out k wr hlt HI.out).2
      go_wp2
      go_still_tail 11, (by kernel_rfl)
      have HID := Lib.hid (HS.out k wr wr.drew HI.out (Below.refl _ _).drew)
      have HFn := Lib.hid (hF (.int .i64 k) (.int .i64 (wt k)) (.int .i64 (xt k)))
      go_wp2_with fail
      refine (HV.out k _ hlt HID.out).mono ?_
      rintro e w2 ⟨rfl, hI2, hb2⟩
      have HI2 := Lib.hid hI2
      have HB2 := Lib.hid (hb2 _ _ Hbk.out.drew)
      clear hI2 hb2
      go_wp2
      go_roundw
      case rel => exact ⟨k + 1, by omega, by go_num, HI2.out, HB2.out⟩
      case measure => simp [intOf]; omega
    · obtain rfl : k = n := by omega
      go_wp2
      go_returns
      exact ⟨rfl, HI.out⟩
end Go.Proofs.Ytkpkkbpfcchgaaa
