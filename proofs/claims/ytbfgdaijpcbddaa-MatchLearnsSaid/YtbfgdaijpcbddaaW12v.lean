/- awake (layer 12): the examples of the chapter. No condition. -/
import Derived.Test.YtbfgdaijpcbddaaW12u
import Derived.Lib.SmallJoins
import Derived.Lib.SlBytesConst
set_option linter.unusedSimpArgs false
set_option linter.unusedVariables false
set_option linter.unusedSectionVars false
namespace Go.Proofs.Ytbfgdaijpcbddaa
open Go.RowKit

theorem Rd.newM (w : World) (cs : List Value) (t : TypeId) (fr : Nat × Nat) : Rd (w.alloc (.cells cs.toArray t fr)) (some ⟨w.heap.size, 0, none⟩) cs := fun _ => ⟨_, 0, rfl, fun j v hv => by rw [Nat.zero_add, World.cell?_alloc_mark]; simpa using hv⟩
def S12.ab5 : List Int := [97, 98, 99, 97, 98]
def S12.ab6 : List Int := [97, 98, 99, 97, 98, 99]
def S12.m5 : S12.M := S12.fedM (S12.start 4 2) S12.ab5
def S12.m6 : S12.M := S12.fedM (S12.start 4 2) S12.ab6
theorem S12.m5_facts : (S12.m5.at_ = 2 ∧ S12.m5.len = 2 ∧ S12.m5.bit = 0) ∧ (S12.predP S12.m5 = 2048 ∧ S12.predB S12.m5 = true) := ⟨⟨by kernel_rfl, by kernel_rfl, by kernel_rfl⟩, by kernel_rfl, by kernel_rfl⟩
theorem S12.m5_next : (S12.bitM S12.m5 1).len = 0 ∧ S12.predP (S12.bitM S12.m5 1) = 2048 ∧ S12.predB (S12.bitM S12.m5 1) = false := ⟨by kernel_rfl, by kernel_rfl, by kernel_rfl⟩
theorem S12.m6_facts : S12.m6.at_ = 3 ∧ S12.m6.len = 3 := ⟨by kernel_rfl, by kernel_rfl⟩
theorem S12.ab5_long : (S12.longest S12.ab5 2).1 = 2 ∧ (S12.longest S12.ab5 2).2 = 2 := ⟨by kernel_rfl, by kernel_rfl⟩
theorem S12.ab5_byt : S12.Byt S12.ab5 := by unfold S12.ab5 S12.Byt; decide
theorem S12.ab6_byt : S12.Byt S12.ab6 := by unfold S12.ab6 S12.Byt; decide
theorem S12.m5_wf : S12.WF S12.m5 ∧ S12.m5.bytes = S12.ab5 := by
  have h := S12.fed_ok (bits := 4) (least := 2) ⟨by omega, by omega⟩ ⟨by omega, by omega⟩ S12.ab5_byt (by decide)
  exact ⟨h.wf, h.bytes⟩

set_option maxRecDepth 100000 in
set_option maxHeartbeats 2000000 in
theorem awake12_any (w : World) : Calls Try.prog 17 #[] w fun e w' => e = .returned (.bool true) ∧ Below w.heap.size w w' := by
  have HF5 := Lib.hid fun a cap W (h : Rd W a (Bts S12.ab5)) => fed12_any 4 2 ⟨by omega, by omega⟩ ⟨by omega, by omega⟩ S12.ab5 S12.ab5_byt (by decide) a cap W h
  have HF6 := Lib.hid fun a cap W (h : Rd W a (Bts S12.ab6)) => fed12_any 4 2 ⟨by omega, by omega⟩ ⟨by omega, by omega⟩ S12.ab6 S12.ab6_byt (by decide) a cap W h
  have HL := Lib.hid fun a cap W hc (h : Rd W a (Bts S12.ab5)) => longest12_any a cap S12.ab5 2 W (by decide) hc h
  have HP5 := Lib.hid fun p W (h : MIs S12.m5 p W) => predict12_any S12.m5 p W h
  have HPn := Lib.hid fun p W (h : MIs (S12.bitM S12.m5 1) p W) => predict12_any (S12.bitM S12.m5 1) p W h
  have HB := Lib.hid fun p W (h : MIs S12.m5 p W) => bit12_good (b := 1) h S12.m5_wf.1 (.inr rfl) (by rw [S12.m5_wf.2]; decide)
  rw [S12.ab5_long.1, S12.ab5_long.2] at HL
  rw [S12.m5_facts.2.1, S12.m5_facts.2.2] at HP5
  rw [S12.m5_next.2.1, S12.m5_next.2.2] at HPn
  have h5 := S12.m5_facts.1
  have hn := S12.m5_next.1
  have h6 := S12.m6_facts
  have e5 : S12.fedM (S12.start 4 2) S12.ab5 = S12.m5 := rfl
  have e6 : S12.fedM (S12.start 4 2) S12.ab6 = S12.m6 := rfl
  rw [e5] at HF5
  rw [e6] at HF6
  have l5 : S12.ab5.length = 5 := rfl
  have l6 : S12.ab6.length = 6 := rfl
  rw [l5] at HF5 HL
  rw [l6] at HF6
  have R5 : ∀ W : World, Rd (W.alloc (.cells #[.int .u8 97, .int .u8 98, .int .u8 99, .int .u8 97, .int .u8 98] 5 (5, 6))) (some ⟨W.heap.size, 0, none⟩) (Bts S12.ab5) := fun W => Rd.newM W [.int .u8 97, .int .u8 98, .int .u8 99, .int .u8 97, .int .u8 98] 5 (5, 6)
  have R6 : ∀ W : World, Rd (W.alloc (.cells #[.int .u8 97, .int .u8 98, .int .u8 99, .int .u8 97, .int .u8 98, .int .u8 99] 5 (6, 7))) (some ⟨W.heap.size, 0, none⟩) (Bts S12.ab6) := fun W => Rd.newM W [.int .u8 97, .int .u8 98, .int .u8 99, .int .u8 97, .int .u8 98, .int .u8 99] 5 (6, 7)
  have kc := fun (W : World) (C : Array Value) (n c : Nat) => Lib.run_convert_bytes_const (P := Try.prog) W 22 5 C n c Try.underlying22 Try.underlying5
  have HR5 := Lib.hid R5
  have HR6 := Lib.hid R6
  obtain ⟨m, hm⟩ : ∃ m, S12.m5 = m := ⟨_, rfl⟩
  rw [hm] at HF5 HP5 HB HPn hn h5
  obtain ⟨m', hm'⟩ : ∃ m', S12.bitM m 1 = m' := ⟨_, rfl⟩
  rw [hm'] at HB HPn hn
  obtain ⟨m2, hm2⟩ : ∃ m2, S12.m6 = m2 := ⟨_, rfl⟩
  rw [hm2] at HF6 h6
  clear hm hm' hm2 e5 e6 R5 R6 l5 l6
  obtain ⟨h51, h52, h53⟩ := h5
  obtain ⟨h61, h62⟩ := h6
  unfold MV MVals at HF5 HP5 HB HPn HF6
  rw [h51, h52, h53] at HF5 HP5 HB
  rw [hn] at HB HPn
  rw [h61, h62] at HF6
  go_enter Try.func17, Try.ntmps17
  go_wp2_with fail
  refine (HF5.out _ _ _ (HR5.out w)).mono ?_
  rintro e w1 ⟨p1, rfl, hM1, _, hb1⟩
  have hB1 : Below w.heap.size w w1 := below_trans (by go_grown) hb1
  have HM1 := Lib.hid hM1
  clear hM1
  obtain ⟨w2, hw2⟩ : ∃ w2, w1.alloc (.cells #[.int .i64 m.bits, .int .i64 m.least, .slice p1.ah m.heads.length p1.ch, .slice p1.ab m.bytes.length p1.cb, .int .i64 2, .int .i64 2, .int .i64 m.part, .int .i64 0, .slice p1.ac m.ctrs.length p1.cc] 27) = w2 := ⟨_, rfl⟩
  have hb2 : Below w1.heap.size w1 w2 := by rw [← hw2]; exact (Below.refl _ _).alloc (Nat.le_refl _) _
  have B2 : Blk w2 w1.heap.size [.int .i64 m.bits, .int .i64 m.least, .slice p1.ah m.heads.length p1.ch, .slice p1.ab m.bytes.length p1.cb, .int .i64 2, .int .i64 2, .int .i64 m.part, .int .i64 0, .slice p1.ac m.ctrs.length p1.cc] 27 := by rw [← hw2]; exact Blk.new w1 _ _
  obtain ⟨x0, x1, x2, x3, x4, x5, x6, x7, x8⟩ := B2.nine
  go_wp2_with fail
  refine (HP5.out p1 _ (HM1.out.step hb2)).mono ?_
  rintro e w3 ⟨rfl, hb3⟩
  have hB3 := below_trans (below_trans hB1 hb2) hb3
  have B3 := B2.step hb3
  clear x0 x1 x2 x3 x4 x5 x6 x7 x8 hw2
  obtain ⟨x0, x1, x2, x3, x4, x5, x6, x7, x8⟩ := B3.nine
  go_wp2_with fail
  refine (HB.out p1 _ ((HM1.out.step hb2).step hb3)).mono ?_
  rintro e w4 ⟨p2, rfl, hM4, _, hb4⟩
  have hB4 := below_trans hB3 hb4
  have B4 := B3.step hb4
  have HM4 := Lib.hid hM4
  clear hM4 x0 x1 x2 x3 x4 x5 x6 x7 x8
  obtain ⟨w5, hw5⟩ : ∃ w5, w4.alloc (.cells #[.int .i64 m'.bits, .int .i64 m'.least, .slice p2.ah m'.heads.length p2.ch, .slice p2.ab m'.bytes.length p2.cb, .int .i64 m'.at_, .int .i64 0, .int .i64 m'.part, .int .i64 m'.bit, .slice p2.ac m'.ctrs.length p2.cc] 27) = w5 := ⟨_, rfl⟩
  have hb5 : Below w4.heap.size w4 w5 := by rw [← hw5]; exact (Below.refl _ _).alloc (Nat.le_refl _) _
  have C5 : Blk w5 w4.heap.size [.int .i64 m'.bits, .int .i64 m'.least, .slice p2.ah m'.heads.length p2.ch, .slice p2.ab m'.bytes.length p2.cb, .int .i64 m'.at_, .int .i64 0, .int .i64 m'.part, .int .i64 m'.bit, .slice p2.ac m'.ctrs.length p2.cc] 27 := by rw [← hw5]; exact Blk.new w4 _ _
  have hB5 := below_trans hB4 hb5
  have B5 := B4.step hb5
  obtain ⟨x0, x1, x2, x3, x4, x5, x6, x7, x8⟩ := C5.nine
  go_wp2_with fail
  refine (HPn.out p2 _ (HM4.out.step hb5)).mono ?_
  rintro e w6 ⟨rfl, hb6⟩
  have hB6 := below_trans hB5 hb6
  have B6 := B5.step hb6
  have C6 := C5.step hb6
  clear x0 x1 x2 x3 x4 x5 x6 x7 x8 hw5
  go_wp2_with fail
  refine (HF6.out _ _ _ (HR6.out w6)).mono ?_
  rintro e w7 ⟨p3, rfl, hM7, _, hb7⟩
  have hE7 : Below w6.heap.size w6 w7 := below_trans (by go_grown) hb7
  have hB7 := below_trans hB6 hE7
  have B7 := B6.step hE7
  have C7 := C6.step hE7
  obtain ⟨w8, hw8⟩ : ∃ w8, w7.alloc (.cells #[.int .i64 m2.bits, .int .i64 m2.least, .slice p3.ah m2.heads.length p3.ch, .slice p3.ab m2.bytes.length p3.cb, .int .i64 3, .int .i64 3, .int .i64 m2.part, .int .i64 m2.bit, .slice p3.ac m2.ctrs.length p3.cc] 27) = w8 := ⟨_, rfl⟩
  have hb8 : Below w7.heap.size w7 w8 := by rw [← hw8]; exact (Below.refl _ _).alloc (Nat.le_refl _) _
  have D8 : Blk w8 w7.heap.size [.int .i64 m2.bits, .int .i64 m2.least, .slice p3.ah m2.heads.length p3.ch, .slice p3.ab m2.bytes.length p3.cb, .int .i64 3, .int .i64 3, .int .i64 m2.part, .int .i64 m2.bit, .slice p3.ac m2.ctrs.length p3.cc] 27 := by rw [← hw8]; exact Blk.new w7 _ _
  have hB8 := below_trans hB7 hb8
  have B8 := B7.step hb8
  have C8 := C7.step hb8
  clear hM7
  go_wp2_with fail
  refine (HL.out _ _ _ (Nat.le_refl _) (HR5.out w8)).mono ?_
  rintro e w9 ⟨rfl, hb9⟩
  have hE9 : Below w8.heap.size w8 w9 := below_trans (by go_grown) hb9
  have hB9 := below_trans hB8 hE9
  have B9 := B8.step hE9
  have C9 := C8.step hE9
  have D9 := D8.step hE9
  have u4 := B9.cell 4
  have u5 := B9.cell 5
  have u7 := B9.cell 7
  have v5 := C9.cell 5
  have t4 := D9.cell 4
  have t5 := D9.cell 5
  simp only [List.getElem?_cons_zero, List.getElem?_cons_succ] at u4 u5 u7 v5 t4 t5
  go_wp2_with fail
  go_returns
  exact ⟨rfl, hB9⟩
end Go.Proofs.Ytbfgdaijpcbddaa
