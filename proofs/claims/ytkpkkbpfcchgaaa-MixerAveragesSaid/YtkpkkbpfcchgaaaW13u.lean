/- awake (law 13): the examples of the chapter. No condition. -/
import Derived.Test.YtkpkkbpfcchgaaaW13t
set_option linter.unusedSimpArgs false
set_option linter.unusedVariables false
set_option linter.unusedSectionVars false
namespace Go.Proofs.Ytkpkkbpfcchgaaa
open Go.RowKit

theorem mix_of_blks {W : World} {b1 b2 : Nat} {x y : Int} (h2 : Blk W b2 [.slice (some ⟨b1, 0, none⟩) 2 2] 36) (h1 : Blk W b1 [.int .i64 x, .int .i64 y] 3) : MixIs 2 [[x, y]] (.agg #[.int .i64 2, .slice (some ⟨b2, 0, none⟩) 1 1]) W :=
  ⟨[⟨some ⟨b1, 0, none⟩, 2, [x, y]⟩], some ⟨b2, 0, none⟩, 1, rfl, rfl, by simp, by omega, fun _ => ⟨b2, 0, rfl, h2.cells⟩, fun r hr => by
    rw [List.mem_singleton.1 hr]
    exact ⟨by simp, by simp, fun _ => ⟨b1, 0, rfl, h1.cells⟩⟩⟩
theorem MixIs.shape1 {n : Int} {l : List Int} {V : Value} {w : World} (h : MixIs n [l] V w) : ∃ a cap, V = .agg #[.int .i64 n, .slice a 1 cap] ∧ MixIs n [l] (.agg #[.int .i64 n, .slice a 1 cap]) w := by
  obtain ⟨a, cap, rfl, _, _, h⟩ := mixOpen h
  exact ⟨a, cap, rfl, h⟩

def S13.A : List (List Int) := [[32768, 32768]]
def S13.B : List (List Int) := [[33327, 33048]]
theorem S13.awake_facts : S13.newE 2 1 = 0 ∧ S13.newN 2 1 = 2 ∧ S13.newL 2 1 = S13.A ∧ S13.mixR 2 S13.A 0 [512, 256] = 384 ∧ S13.usable 16 2 S13.A 0 [512, 256] = 0 ∧ S13.learnE 2 S13.A 0 [512, 256] 1 16 = 0 ∧ S13.learnN 2 S13.A 0 [512, 256] 1 16 = 2 ∧ S13.learnLL 2 S13.A 0 [512, 256] 1 16 = S13.B ∧
    S13.mixR 2 S13.B 0 [512, 256] = 389 ∧ S13.usable 16 2 S13.B 0 [512, 256] = 0 := by decide +kernel

set_option maxHeartbeats 2000000 in
theorem awake13_any (w : World) : Calls Try.prog 11 #[] w fun e w' => e = .returned (.bool true) ∧ Below w.heap.size w w' := by
  obtain ⟨t1, t2, t3, t4, t5, t6, t7, t8, t9, t10⟩ := S13.awake_facts
  have HN := Lib.hid fun W => new13_any 2 1 W
  have HM1 := Lib.hid fun V a W (hV : MixIs 2 S13.A V W) (hr : Rd W a (Ints [512, 256])) => mixM13_any 2 S13.A V 0 [512, 256] a 2 W hV (by simp) hr
  have HL := Lib.hid fun V a W (hV : MixIs 2 S13.A V W) (hr : Rd W a (Ints [512, 256])) => learn13_any 2 S13.A V 0 [512, 256] a 2 1 16 W hV (by simp) hr
  have HM2 := Lib.hid fun V a W (hV : MixIs 2 S13.B V W) (hr : Rd W a (Ints [512, 256])) => mixM13_any 2 S13.B V 0 [512, 256] a 2 W hV (by simp) hr
  rw [t1, t2, t3] at HN
  rw [t4, t5] at HM1
  rw [t6, t7, t8] at HL
  rw [t9, t10] at HM2
  have HS1 := Lib.hid fun V1 V2 W => same13_eq 2 S13.A V1 V2 W
  have HS2 := Lib.hid fun V1 V2 W => same13_eq 2 S13.B V1 V2 W
  clear t1 t2 t3 t4 t5 t6 t7 t8 t9 t10
  simp only [List.length_cons, List.length_nil, Nat.zero_add, Nat.reduceAdd] at HM1 HL HM2
  go_enter Try.func11, Try.ntmps11
  go_wp2_with fail
  refine (HN.out _).mono ?_
  rintro e w1 ⟨V1, rfl, hA, hb1⟩
  have hB1 : Below w.heap.size w w1 := below_trans (by go_grown) hb1
  have z1 : w.heap.size ≤ w1.heap.size := hB1.size
  obtain ⟨aA, capA, rfl, hA1⟩ := hA.shape1
  have HA := Lib.hid fun (W : World) (hb : Below w1.heap.size w1 W) => hA1.step hb
  clear hA hA1
  have hm0 := (Blk.new w1 [.int .i64 2, .slice aA 1 capA] 24).alloc (Obj.cells #[.int .i64 512, .int .i64 256] 3)
  have hl0 : Blk ((w1.alloc (Obj.cells #[.int .i64 2, .slice aA 1 capA] 24)).alloc (Obj.cells #[.int .i64 512, .int .i64 256] 3)) (w1.heap.size + 1) [.int .i64 512, .int .i64 256] 3 := by
    have := Blk.new (w1.alloc (Obj.cells #[.int .i64 2, .slice aA 1 capA] 24)) [.int .i64 512, .int .i64 256] 3
    simpa using this
  have HRd := Lib.hid fun (W : World) (hl : Blk W (w1.heap.size + 1) [.int .i64 512, .int .i64 256] 3) => (fun _ => ⟨_, 0, rfl, hl.cells⟩ : Rd W (some ⟨w1.heap.size + 1, 0, none⟩) (Ints [512, 256]))
  have Hm0 := Lib.hid hm0
  have Hl0 := Lib.hid hl0
  clear hm0 hl0
  go_wp2_with fail
  refine (HM1.out _ _ _ (HA.out _ (by go_grown)) (HRd.out _ Hl0.out)).mono ?_
  rintro e w2 ⟨rfl, hb2⟩
  have hB2 : Below w.heap.size w w2 := below_trans (by go_grown) hb2
  have hC2 : Below w1.heap.size w1 w2 := below_trans (by go_grown) hb2
  have Hm2 := Lib.hid (Hm0.out.step hb2)
  have Hl2 := Lib.hid (Hl0.out.step hb2)
  have c20 := Hm2.out.cell 0
  have c21 := Hm2.out.cell 1
  simp only [List.getElem?_cons_zero, List.getElem?_cons_succ] at c20 c21
  go_wp2_with fail
  refine (HL.out _ _ _ (HA.out _ hC2) (HRd.out _ Hl2.out)).mono ?_
  rintro e w3 ⟨V3, rfl, hBm, hb3⟩
  have hB3 : Below w.heap.size w w3 := below_trans hB2 hb3
  have hC3 : Below w1.heap.size w1 w3 := below_trans hC2 hb3
  have z3 : w.heap.size ≤ w3.heap.size := hB3.size
  have z13 : w1.heap.size ≤ w3.heap.size := hC3.size
  obtain ⟨aB, capB, rfl, hB1'⟩ := hBm.shape1
  have HBm := Lib.hid fun (W : World) (hb : Below w3.heap.size w3 W) => hB1'.step hb
  clear hBm hB1'
  have Hm3 := Lib.hid ((Hm2.out.step hb3).alloc (Obj.cells #[.int .i64 2, .slice aB 1 capB] 24))
  have Hl3 := Lib.hid ((Hl2.out.step hb3).alloc (Obj.cells #[.int .i64 2, .slice aB 1 capB] 24))
  have Hn3 := Lib.hid (Blk.new w3 [.int .i64 2, .slice aB 1 capB] 24)
  go_wp2_with fail
  refine (HM2.out _ _ _ (HBm.out _ (by go_grown)) (HRd.out _ Hl3.out)).mono ?_
  rintro e w4 ⟨rfl, hb4⟩
  have hB4 : Below w.heap.size w w4 := below_trans (by go_grown) hb4
  have hC4 : Below w1.heap.size w1 w4 := below_trans (by go_grown) hb4
  have hD4 : Below w3.heap.size w3 w4 := below_trans (by go_grown) hb4
  have Hm4 := Lib.hid (Hm3.out.step hb4)
  have Hn4 := Lib.hid (Hn3.out.step hb4)
  have d40 := Hn4.out.cell 0
  have d41 := Hn4.out.cell 1
  have e40 := Hm4.out.cell 0
  have e41 := Hm4.out.cell 1
  simp only [List.getElem?_cons_zero, List.getElem?_cons_succ] at d40 d41 e40 e41
  have l4 := Hn4.out.lt
  have l4' := Hm4.out.lt
  have l4a : w3.heap.size < w4.heap.size + 1 := by omega
  have l4b : w3.heap.size < w4.heap.size + 1 + 1 := by omega
  have z4 : w.heap.size ≤ w4.heap.size := hB4.size
  have z14 : w1.heap.size ≤ w4.heap.size := hC4.size
  have z34 : w3.heap.size ≤ w4.heap.size := hD4.size
  obtain ⟨w5, hw5⟩ : ∃ w5, w5 = ((w4.alloc (Obj.cells #[.int .i64 33327, .int .i64 33048] 3)).alloc (Obj.cells #[.slice (some ⟨w4.heap.size, 0, none⟩) 2 2] 36)).alloc (Obj.cells #[.int .i64 2, .slice (some ⟨w4.heap.size + 1, 0, none⟩) 1 1] 24) := ⟨_, rfl⟩
  have hwant : MixIs 2 S13.B (.agg #[.int .i64 2, .slice (some ⟨w4.heap.size + 1, 0, none⟩) 1 1]) w5 := by
    refine mix_of_blks (b1 := w4.heap.size) ?_ ?_
    · have := (Blk.new (w4.alloc (Obj.cells #[.int .i64 33327, .int .i64 33048] 3)) [.slice (some ⟨w4.heap.size, 0, none⟩) 2 2] 36).alloc (Obj.cells #[.int .i64 2, .slice (some ⟨w4.heap.size + 1, 0, none⟩) 1 1] 24)
      rw [hw5]; simpa using this
    · rw [hw5]; exact ((Blk.new w4 [.int .i64 33327, .int .i64 33048] 3).alloc _).alloc _
  have hD5 : Below w3.heap.size w3 w5 := by rw [hw5]; go_grown
  have hB5 : Below w.heap.size w w5 := by rw [hw5]; go_grown
  have hC5 : Below w1.heap.size w1 w5 := by rw [hw5]; go_grown
  have Hwant := Lib.hid hwant
  have Hm5 := Lib.hid (show Blk w5 w1.heap.size [.int .i64 2, .slice aA 1 capA] 24 by rw [hw5]; exact ((Hm4.out.alloc _).alloc _).alloc _)
  go_wp2_with fail
  rw [← hw5]
  refine (HS2.out _ _ _ (HBm.out _ hD5) Hwant.out).mono ?_
  rintro e w6 ⟨rfl, hb6⟩
  have hB6 : Below w.heap.size w w6 := below_trans hB5 hb6
  have hC6 : Below w1.heap.size w1 w6 := below_trans hC5 hb6
  have Hm6 := Lib.hid (Hm5.out.step hb6)
  have g60 := Hm6.out.cell 0
  have g61 := Hm6.out.cell 1
  simp only [List.getElem?_cons_zero, List.getElem?_cons_succ] at g60 g61
  have l6 := Hm6.out.lt
  have l6a : w1.heap.size < w6.heap.size + 1 := by omega
  have z6 : w.heap.size ≤ w6.heap.size := hB6.size
  clear hw5 hwant
  have HA7 := Lib.hid (show MixIs 2 S13.A (.agg #[.int .i64 2, .slice (some ⟨w6.heap.size + 1, 0, none⟩) 1 1]) ((w6.alloc (Obj.cells #[.int .i64 32768, .int .i64 32768] 3)).alloc (Obj.cells #[.slice (some ⟨w6.heap.size, 0, none⟩) 2 2] 36)) by
    refine mix_of_blks (b1 := w6.heap.size) ?_ ?_
    · have := Blk.new (w6.alloc (Obj.cells #[.int .i64 32768, .int .i64 32768] 3)) [.slice (some ⟨w6.heap.size, 0, none⟩) 2 2] 36
      simpa using this
    · exact (Blk.new w6 [.int .i64 32768, .int .i64 32768] 3).alloc _)
  go_wp2_with fail
  refine (HS1.out _ _ _ (HA.out _ (by go_grown)) HA7.out).mono ?_
  rintro e w7 ⟨rfl, hb7⟩
  have hB7 : Below w.heap.size w w7 := below_trans (by go_grown) hb7
  go_wp2
  go_returns
  exact ⟨rfl, hB7⟩
end Go.Proofs.Ytkpkkbpfcchgaaa
