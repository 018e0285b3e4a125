/- The reference's Bit (layer 12). No condition. -/
import Derived.Test.YtbfgdaijpcbddaaW12al
import Derived.Test.YtbfgdaijpcbddaaW12t
set_option linter.unusedSimpArgs false
set_option linter.unusedVariables false
set_option linter.unusedSectionVars false
namespace Go.Proofs.Ytbfgdaijpcbddaa
open Go.RowKit

/-- The lists of a model do not lie in a block. -/
def Ap (m : S12.M) (p : Pl) (b : Nat) : Prop := (∀ g o, p.ah = some ⟨g, o, none⟩ → Ints m.heads ≠ [] → ¬ g = b) ∧ (∀ g o, p.ab = some ⟨g, o, none⟩ → Bts m.bytes ≠ [] → ¬ g = b) ∧ (∀ g o, p.ac = some ⟨g, o, none⟩ → Cts m.ctrs ≠ [] → ¬ g = b)
theorem Rd.setO {w : World} {a : Option Addr} {vals : List Value} (h : Rd w a vals) {b : Nat} (hne : ∀ g o, a = some ⟨g, o, none⟩ → vals ≠ [] → ¬ g = b) (i : Nat) (v : Value) : Rd (w.setCell ⟨b, i, none⟩ v) a vals := fun hv => by
  obtain ⟨g, o, e, hr⟩ := h hv
  exact ⟨g, o, e, fun j u hu => (cell?_setCell_blk w b i g (o + j) v (fun h2 => hne g o e hv h2.symm)).trans (hr j u hu)⟩
theorem MIs.setO {m : S12.M} {p : Pl} {w : World} (h : MIs m p w) {b : Nat} (ha : Ap m p b) (i : Nat) (v : Value) : MIs m p (w.setCell ⟨b, i, none⟩ v) :=
  ⟨h.rdh.setO ha.1 i v, h.rdb.setO ha.2.1 i v, h.rdc.setO ha.2.2 i v, h.byt, h.cb, h.lh, h.lb, h.lc⟩
theorem MIs.ap {m : S12.M} {p : Pl} {w : World} (h : MIs m p w) {b : Nat} (hb : w.heap.size ≤ b) : Ap m p b := by
  have key : ∀ {a : Option Addr} {vals : List Value}, Rd w a vals → ∀ g o, a = some ⟨g, o, none⟩ → vals ≠ [] → ¬ g = b := fun hr g o e hne => by
    obtain ⟨g', o', e', hcs⟩ := hr hne
    rw [e] at e'; cases e'
    cases hv : ‹List Value› with
    | nil => exact absurd hv hne
    | cons v vs =>
      have := block_lt_of_cell (hcs 0 v (by rw [hv]; rfl))
      simp only at this
      omega
  exact ⟨key h.rdh, key h.rdb, key h.rdc⟩
theorem Ap.new {m m' : S12.M} {p q : Pl} {b B : Nat} (ha : Ap m p b) (hb : b < B) (hn : NewPl B p q) (e1 : m'.heads.length = m.heads.length) (e3 : m'.ctrs = m.ctrs) : Ap m' q b := by
  obtain ⟨n1, n2, n3⟩ := hn
  refine ⟨fun g o e hne => ?_, fun g o e hne => ?_, fun g o e hne => ?_⟩
  · rcases n1 with n | n
    · refine ha.1 g o (n ▸ e) (fun h => hne ?_)
      have := congrArg List.length h
      rw [Ints_length, ← e1] at this
      exact List.length_eq_zero_iff.1 (by rw [Ints_length]; exact this)
    · have := n g o e; omega
  · have := n2 g o e; omega
  · rcases n3 with n | n
    · exact ha.2.2 g o (n ▸ e) (by rw [← e3]; exact hne)
    · have := n g o e; omega
theorem S12.se_heads (n : S12.M) : (S12.search (S12.extend n)).heads.length = n.heads.length := by
  unfold S12.search S12.extend
  split <;> split <;> simp
theorem S12.se_ctrs (n : S12.M) : (S12.search (S12.extend n)).ctrs = n.ctrs := by
  unfold S12.search S12.extend
  split <;> split <;> simp

theorem Blk.other9 {w : World} {b c : Nat} {t : TypeId} {cs : List Value} (h : Blk w c cs t) (hne : ¬ c = b) (v0 v1 v2 v3 v4 v5 v6 v7 v8 : Value) :
    Blk (((((((((w.setCell ⟨b, 0, none⟩ v0).setCell ⟨b, 1, none⟩ v1).setCell ⟨b, 2, none⟩ v2).setCell ⟨b, 3, none⟩ v3).setCell ⟨b, 4, none⟩ v4).setCell ⟨b, 5, none⟩ v5).setCell ⟨b, 6, none⟩ v6).setCell ⟨b, 7, none⟩ v7).setCell ⟨b, 8, none⟩ v8) c cs t :=
  ((((((((h.other b 0 v0 hne).other b 1 v1 hne).other b 2 v2 hne).other b 3 v3 hne).other b 4 v4 hne).other b 5 v5 hne).other b 6 v6 hne).other b 7 v7 hne).other b 8 v8 hne

theorem rupd12_ok {p n r : Int} (h : S08.check p n 255 = 0) (hr : r = 0 ∨ r = 1) (w : World) :
    Calls Try.prog 50 #[.agg #[.int .i64 p, .int .i64 n], .int .i64 r, .int .i64 255] w fun e w' => e = .returned (.tuple #[.agg #[.int .i64 (S08.step p n r), .int .i64 (min (n + 1) 255)], .int .i64 0]) ∧ Below w.heap.size w w' := by
  have h1 := refUpdate08_any p n r 255 w
  rw [S08.updateV_ok (by unfold S08.updateE; rw [if_neg (by omega), if_neg (by omega)])] at h1
  exact h1

/-- complete, of a model as a whole. -/
theorem rcomplete12_m (n : S12.M) (p : Pl) (w : World) (y : Nat) (hb : 1 ≤ n.bits ∧ n.bits ≤ 16) (hL : 1 ≤ n.least ∧ n.least ≤ 32) (hh : n.heads.length = 2 ^ n.bits.toNat)
    (hhd : ∀ x ∈ n.heads, 0 ≤ x ∧ x ≤ n.bytes.length) (hbl : n.bytes.length < 65536) (hpp : n.part = 256 + (y : Int)) (hy : y < 256) (hlen : 0 ≤ n.len ∧ n.len ≤ 255) (hat : 0 ≤ n.at_ ∧ n.at_ ≤ 65536) (hM : MIs n p w) :
    Calls Try.prog 51 #[MV n p] w fun e w' => ∃ p', e = .returned (MV (S12.search (S12.extend { n with bytes := n.bytes ++ [(y : Int)], part := 1 })) p') ∧ MIs (S12.search (S12.extend { n with bytes := n.bytes ++ [(y : Int)], part := 1 })) p' w' ∧ NewPl w.heap.size p p' ∧ Below w.heap.size w w' := by
  obtain ⟨bits, least, heads, bytes, at_, len, part, bit, ctrs⟩ := n
  simp only at *
  obtain ⟨bn, rfl⟩ : ∃ k : Nat, bits = k := ⟨bits.toNat, by omega⟩
  obtain ⟨L, rfl⟩ : ∃ k : Nat, least = k := ⟨least.toNat, by omega⟩
  exact rcomplete12_any bn L y heads bytes at_ len part bit ctrs p w (by omega) (by omega) (by simpa using hh) hhd hbl hpp hy hlen hat hM









set_option maxRecDepth 100000 in
set_option maxHeartbeats 4000000 in
theorem rbit12_full0 (m : S12.M) (p : Pl) (b : Int) (w : World) (hM : MIs m p w) (hE : S12.bitE m b = 0) (hfull : 128 ≤ m.part) (hbv : b = 0) :
    Calls Try.prog 23 #[MV m p, .int .i64 b] w fun e w' => ∃ p', e = .returned (.tuple #[MV (S12.bitM m b) p', .int .i64 0]) ∧ MIs (S12.bitM m b) p' w' ∧ Below w.heap.size w w' := by
  have hck : S12.check m = 0 := by
    cases h : decide (S12.check m = 0) with
    | true => exact of_decide_eq_true h
    | false => unfold S12.bitE at hE; rw [if_pos (of_decide_eq_false h)] at hE; exact hE
  have hWF := (S12.check_iff m).1 hck
  have hbb : b = 0 ∨ b = 1 := by omega
  have hroom : ¬ (128 ≤ m.part ∧ 65536 ≤ m.bytes.length) := by
    unfold S12.bitE at hE
    rw [if_neg (by rw [hck]; simp), if_neg (by omega)] at hE
    split at hE
    · cases hE
    · assumption
  have HWF' := Lib.hid (hWF.bitM hM.byt hbb hE)
  have HCk := Lib.hid fun W hW => rcheck12_any m p W hW
  rw [hck] at HCk
  have HL := Lib.hid (hWF.learn b)
  have dc : decide (128 ≤ m.part) = true := by simp; omega
  have dl : ((m.bytes.length : Int) == 65536) = false := by simp; have := hWF.few; omega
  have hlb : m.bytes.length ≤ 65536 := hWF.few
  have hmat : m.len = 0 ∨ (1 ≤ m.len ∧ m.len ≤ 255) := by
    rcases (S12.matched_iff m).1 hWF.mat with ⟨h, _⟩ | h
    · exact .inl h
    · exact .inr h.len
  have H16 := Lib.hid hWF.ctrs
  have HWF := Lib.hid hWF
  have HM := Lib.hid hM
  have HRoom := Lib.hid hroom
  have HFul := Lib.hid hfull
  have HA1 := Lib.hid (hM.ap (Nat.le_refl w.heap.size))
  have HA2 := Lib.hid (hM.ap (Nat.le_succ w.heap.size))
  have hB0 : Below w.heap.size w ((w.alloc (.cells (MVals m p).toArray 27)).alloc (.cells #[.int .i64 0, .int .i64 0, .slice none 0 0, .slice none 0 0, .int .i64 0, .int .i64 0, .int .i64 0, .int .i64 0, .slice none 0 0] 27)) := by go_grown
  have A0 : Blk ((w.alloc (.cells (MVals m p).toArray 27)).alloc (.cells #[.int .i64 0, .int .i64 0, .slice none 0 0, .slice none 0 0, .int .i64 0, .int .i64 0, .int .i64 0, .int .i64 0, .slice none 0 0] 27)) w.heap.size (MVals m p) 27 := (Blk.new w _ _).alloc _
  have R0 : Blk ((w.alloc (.cells (MVals m p).toArray 27)).alloc (.cells #[.int .i64 0, .int .i64 0, .slice none 0 0, .slice none 0 0, .int .i64 0, .int .i64 0, .int .i64 0, .int .i64 0, .slice none 0 0] 27)) (w.heap.size + 1) [.int .i64 0, .int .i64 0, .slice none 0 0, .slice none 0 0, .int .i64 0, .int .i64 0, .int .i64 0, .int .i64 0, .slice none 0 0] 27 := by
    have h := Blk.new (w.alloc (.cells (MVals m p).toArray 27)) [.int .i64 0, .int .i64 0, .slice none 0 0, .slice none 0 0, .int .i64 0, .int .i64 0, .int .i64 0, .int .i64 0, .slice none 0 0] 27
    simpa using h
  clear hE hck hWF hM hroom hfull
  obtain ⟨mR, hmR⟩ : ∃ mR, S12.bitM m b = mR := ⟨_, rfl⟩
  rw [hmR] at HWF' ⊢
  have HmR0 := Lib.hid hmR
  clear hmR
  unfold MV at HCk
  unfold MVals at HCk A0 R0 hB0
  show Calls Try.prog 23 #[.agg #[.int .i64 m.bits, .int .i64 m.least, .slice p.ah m.heads.length p.ch, .slice p.ab m.bytes.length p.cb, .int .i64 m.at_, .int .i64 m.len, .int .i64 m.part, .int .i64 m.bit, .slice p.ac m.ctrs.length p.cc], .int .i64 b] w _
  obtain ⟨S, hS⟩ : ∃ S, w.heap.size = S := ⟨_, rfl⟩
  rw [hS] at A0 R0 hB0 HA1 HA2
  obtain ⟨x0, x1, x2, x3, x4, x5, x6, x7, x8⟩ := A0.nine
  obtain ⟨w0, hw0⟩ : ∃ w0, ((w.alloc (.cells #[.int .i64 m.bits, .int .i64 m.least, .slice p.ah m.heads.length p.ch, .slice p.ab m.bytes.length p.cb, .int .i64 m.at_, .int .i64 m.len, .int .i64 m.part, .int .i64 m.bit, .slice p.ac m.ctrs.length p.cc] 27)).alloc (.cells #[.int .i64 0, .int .i64 0, .slice none 0 0, .slice none 0 0, .int .i64 0, .int .i64 0, .int .i64 0, .int .i64 0, .slice none 0 0] 27)) = w0 := ⟨_, rfl⟩
  rw [hw0] at hB0 A0 R0 x0 x1 x2 x3 x4 x5 x6 x7 x8
  have e0 : (b != 0) = false := by rw [hbv]; rfl
  have e1 : (b != 1) = true := by rw [hbv]; rfl
  clear hbv
  rw [hS]
  go_enter Try.func23, Try.ntmps23
  go_wp2_with fail
  refine (HCk.out _ (HM.out.step (hS ▸ hB0))).mono ?_
  rintro e w1 ⟨rfl, hb1⟩
  have hB1 := hB0.trans (hb1.mono (Nat.le_of_lt A0.lt))
  have M1 := A0.step hb1
  have R1 := R0.step hb1
  clear x0 x1 x2 x3 x4 x5 x6 x7 x8 A0 R0 hw0 hb1 hB0
  obtain ⟨x0, x1, x2, x3, x4, x5, x6, x7, x8⟩ := M1.nine
  rcases hmat with h0 | h1
  · have hln : S12.learn m b = m := by unfold S12.learn; rw [if_pos h0]
    have dl0 : decide (0 < m.len) = false := decide_eq_false (by omega)
    have M5 : Blk w1 S (MVals (S12.learn m b) p) 27 := by rw [hln]; exact M1
    have MI5 : MIs (S12.learn m b) p w1 := by rw [hln]; exact HM.out.step (hS ▸ hB1)
    have HapS : RowKit.Hid (Ap (S12.learn m b) p S) := by rw [hln]; exact HA1
    have HapR : RowKit.Hid (Ap (S12.learn m b) p (S + 1)) := by rw [hln]; exact HA2
    have HmR : RowKit.Hid (mR = S12.expect (S12.take (S12.learn m b) (2 * (S12.learn m b).part + b))) := Lib.hid HmR0.out.symm
    have R5 := R1
    have hB5 := hB1
    obtain ⟨n, hn⟩ : ∃ n, S12.learn m b = n := ⟨_, rfl⟩
    rw [hn] at M5 MI5 HapS HapR HmR HL
    have en : n = m := by rw [← hn, hln]
    subst en
    unfold MVals at M5
    clear hn hln M1 R1 hB1 HA1 HA2
    have hn0 := Lib.hid h0
    clear h0
    obtain ⟨P, hP⟩ : ∃ P, 2 * n.part + b = P := ⟨_, rfl⟩
    have hL := HL.out
    have hpr : 1 ≤ n.part ∧ n.part ≤ 255 := by rw [hL.part]; exact HWF.out.part
    have hPr : 2 ≤ P ∧ P ≤ 511 := by omega
    have hPf : 256 ≤ P := by have := hL.part; have := HFul.out; omega
    have hPd : decide (255 < P) = true := by simp; omega
    have hmR : mR = S12.expect (S12.take n P) := by rw [HmR.out, hP]
    have ht : S12.take n P = S12.search (S12.extend { n with bytes := n.bytes ++ [P - 256], part := 1 }) := by unfold S12.take; rw [if_pos (by omega)]
    rw [ht] at hmR
    obtain ⟨x0, x1, x2, x3, x4, x5, x6, x7, x8⟩ := M5.nine
    have f6 := M5.free 6
    have M6 := M5.set 6 (.int .i64 P)
    have R6 := R5.other S 6 (.int .i64 P) (by omega)
    have hB6 := hB5.setCell (p := ⟨S, 6, none⟩) (Nat.le_refl S) (.int .i64 P)
    have MI6 : MIs { n with part := P } p (w1.setCell ⟨S, 6, none⟩ (.int .i64 P)) := by
      have h := MI5.setO HapS.out 6 (.int .i64 P)
      exact ⟨h.rdh, h.rdb, h.rdc, h.byt, h.cb, h.lh, h.lb, h.lc⟩
    simp only [List.set_cons_zero, List.set_cons_succ] at M6
    obtain ⟨w6, hw6⟩ : ∃ w6, w1.setCell ⟨S, 6, none⟩ (.int .i64 P) = w6 := ⟨_, rfl⟩
    rw [hw6] at M6 R6 hB6 MI6
    obtain ⟨z0, z1, z2, z3, z4, z5, z6, z7, z8⟩ := M6.nine
    clear M5 R5 hB5 MI5 hmR ht
    obtain ⟨yn, hyn⟩ : ∃ yn : Nat, P - 256 = yn := ⟨(P - 256).toNat, by omega⟩
    have hyn2 : yn < 256 := by omega
    have hPy : P = 256 + (yn : Int) := by omega
    have hfull9 := S12.full_ok HWF.out hL HM.out.byt (show 0 ≤ (yn : Int) ∧ (yn : Int) < 256 by omega)
    have HmR2 : RowKit.Hid (mR = S12.expect (S12.search (S12.extend { n with bytes := n.bytes ++ [(yn : Int)], part := 1 }))) := by
      have hmR : mR = S12.expect (S12.take n P) := by rw [HmR.out, hP]
      refine Lib.hid ?_
      rw [hmR]
      unfold S12.take
      rw [if_pos (by omega), hyn]
    have hla : (0 ≤ n.len ∧ n.len ≤ 255) ∧ (0 ≤ n.at_ ∧ n.at_ ≤ 65536) := by
      rcases hL.alt with ⟨a1, a2⟩ | ⟨a1, a2, a3, a4⟩
      · omega
      · have hMt := HWF.out.Mat a1
        have c1 := hMt.len
        have c2 := hMt.at_
        have c3 := HWF.out.few
        omega
    have HC := Lib.hid fun W (hW : MIs { n with part := P } p W) => show Calls Try.prog 51 #[.agg #[.int .i64 n.bits, .int .i64 n.least, .slice (p).ah n.heads.length (p).ch, .slice (p).ab n.bytes.length (p).cb, .int .i64 n.at_, .int .i64 n.len, .int .i64 P, .int .i64 n.bit, .slice (p).ac n.ctrs.length (p).cc]] W _ from rcomplete12_m { n with part := P } p W yn (by simp only; rw [hL.bits]; exact HWF.out.bits) (by simp only; rw [hL.least]; exact HWF.out.least) (by simp only; rw [hL.heads, hL.bits]; exact HWF.out.heads) (by simp only; rw [hL.heads, hL.bytes]; exact HWF.out.head) (by simp only; rw [hL.bytes]; have := HRoom.out; have := HFul.out; have := HWF.out.few; omega) hPy hyn2 hla.1 hla.2 hW
    clear hL hfull9 hla hPy hyn
    go_wp2_with fail
    refine (HC.out _ MI6).mono ?_
    rintro e w8 ⟨q8, rfl, MI8, hn8, hb8⟩
    obtain ⟨t8, ht8⟩ : ∃ t8, S12.search (S12.extend { n with bytes := n.bytes ++ [(yn : Int)], part := 1 }) = t8 := ⟨_, rfl⟩
    have HapS8 := HapS.out.new (m' := t8) (Nat.lt_trans (Nat.lt_succ_self S) R6.lt) hn8 (by rw [← ht8]; exact S12.se_heads _) (by rw [← ht8]; exact S12.se_ctrs _)
    have HapR8 := HapR.out.new (m' := t8) R6.lt hn8 (by rw [← ht8]; exact S12.se_heads _) (by rw [← ht8]; exact S12.se_ctrs _)
    rw [ht8] at HmR2 MI8 ⊢
    have M8 := M6.step hb8
    have R8 := R6.step hb8
    have hB8 := hB6.trans (hb8.mono (Nat.le_of_lt M6.lt))
    clear HC M6 R6 hB6 MI6 HapS HapR hn8 x0 x1 x2 x3 x4 x5 x6 x7 x8 z0 z1 z2 z3 z4 z5 z6 z7 z8 f6 hw6
    have HapS := Lib.hid HapS8
    have HapR := Lib.hid HapR8
    obtain ⟨x0, x1, x2, x3, x4, x5, x6, x7, x8⟩ := M8.nine
    have fq0 := M8.free 0
    have fq1 := M8.free 1
    have fq2 := M8.free 2
    have fq3 := M8.free 3
    have fq4 := M8.free 4
    have fq5 := M8.free 5
    have fq6 := M8.free 6
    have fq7 := M8.free 7
    have fq8 := M8.free 8
    have M9 := M8.put9 (.int .i64 t8.bits) (.int .i64 t8.least) (.slice q8.ah t8.heads.length q8.ch) (.slice q8.ab t8.bytes.length q8.cb) (.int .i64 t8.at_) (.int .i64 t8.len) (.int .i64 t8.part) (.int .i64 t8.bit) (.slice q8.ac t8.ctrs.length q8.cc)
    have R9 := R8.other9 (b := S) (by omega) (.int .i64 t8.bits) (.int .i64 t8.least) (.slice q8.ah t8.heads.length q8.ch) (.slice q8.ab t8.bytes.length q8.cb) (.int .i64 t8.at_) (.int .i64 t8.len) (.int .i64 t8.part) (.int .i64 t8.bit) (.slice q8.ac t8.ctrs.length q8.cc)
    have hB9 := below_put9 hB8 (Nat.le_refl S) (.int .i64 t8.bits) (.int .i64 t8.least) (.slice q8.ah t8.heads.length q8.ch) (.slice q8.ab t8.bytes.length q8.cb) (.int .i64 t8.at_) (.int .i64 t8.len) (.int .i64 t8.part) (.int .i64 t8.bit) (.slice q8.ac t8.ctrs.length q8.cc)
    have MI9 := MI8.put9 HapS.out.1 HapS.out.2.1 HapS.out.2.2 (.int .i64 t8.bits) (.int .i64 t8.least) (.slice q8.ah t8.heads.length q8.ch) (.slice q8.ab t8.bytes.length q8.cb) (.int .i64 t8.at_) (.int .i64 t8.len) (.int .i64 t8.part) (.int .i64 t8.bit) (.slice q8.ac t8.ctrs.length q8.cc)
    obtain ⟨w9, hw9⟩ : ∃ w9, ((((((((((w8.setCell ⟨S, 0, none⟩ (.int .i64 t8.bits)).setCell ⟨S, 1, none⟩ (.int .i64 t8.least)).setCell ⟨S, 2, none⟩ (.slice q8.ah t8.heads.length q8.ch)).setCell ⟨S, 3, none⟩ (.slice q8.ab t8.bytes.length q8.cb)).setCell ⟨S, 4, none⟩ (.int .i64 t8.at_)).setCell ⟨S, 5, none⟩ (.int .i64 t8.len)).setCell ⟨S, 6, none⟩ (.int .i64 t8.part)).setCell ⟨S, 7, none⟩ (.int .i64 t8.bit)).setCell ⟨S, 8, none⟩ (.slice q8.ac t8.ctrs.length q8.cc))) = w9 := ⟨_, rfl⟩
    rw [hw9] at M9 R9 hB9 MI9
    clear M8 R8 hB8 MI8
    unfold MV MVals
    obtain ⟨x0, x1, x2, x3, x4, x5, x6, x7, x8⟩ := M9.nine
    have f7 := M9.free 7
    have MB := M9.set 7 (.int .i64 2)
    have RB := R9.other S 7 (.int .i64 2) (by omega)
    have hBB := hB9.setCell (p := ⟨S, 7, none⟩) (Nat.le_refl S) (.int .i64 2)
    have IB := MI9.setO HapS.out 7 (.int .i64 2)
    simp only [List.set_cons_zero, List.set_cons_succ] at MB
    obtain ⟨wB, hwB⟩ : ∃ wB, w9.setCell ⟨S, 7, none⟩ (.int .i64 2) = wB := ⟨_, rfl⟩
    rw [hwB] at MB RB hBB IB
    obtain ⟨z0, z1, z2, z3, z4, z5, z6, z7, z8⟩ := MB.nine
    have lS := MB.lt
    have lR := RB.lt
    clear M9 R9 hB9 MI9
    by_cases hln : 0 < (t8).len
    · skip
      have eR : mR = { t8 with bit := S12.expI ((t8).bytes.getD (t8).at_.toNat 0) (t8).part } := by rw [HmR2.out]; unfold S12.expect; rw [if_pos hln]
      have hWR : S12.WF { t8 with bit := S12.expI ((t8).bytes.getD (t8).at_.toNat 0) (t8).part } := by rw [← eR]; exact HWF'.out
      have hma := hWR.Mat (show (t8).len ≠ 0 by omega)
      have hma1 : (t8).len ≤ (t8).at_ ∧ (t8).at_ ≤ ((t8).bytes.length : Int) - 1 := hma.at_
      have hma2 : 1 ≤ (t8).len ∧ (t8).len ≤ 255 := hma.len
      have hpt : 1 ≤ (t8).part ∧ (t8).part ≤ 255 := hWR.part
      obtain ⟨pt, hptn⟩ : ∃ pt : Nat, (t8).part = pt := ⟨(t8).part.toNat, by omega⟩
      obtain ⟨q, hq⟩ : ∃ q : Nat, (t8).at_ = q := ⟨(t8).at_.toNat, by omega⟩
      have hbyT : S12.Byt (t8).bytes := IB.byt
      have hx0 : 0 ≤ (t8).bytes.getD q 0 := hbyT.get q
      have hx1 : ((t8).bytes.getD q 0).toNat < 256 := hbyT.at q
      obtain ⟨xn, hxn⟩ : ∃ xn : Nat, (t8).bytes.getD q 0 = xn := ⟨((t8).bytes.getD q 0).toNat, (Int.toNat_of_nonneg hx0).symm⟩
      have hxn2 : xn < 256 := by rw [hxn] at hx1; omega
      obtain ⟨gB, oB, eB, hcB⟩ := Bts_at IB.rdb (i := q) (show q < (t8).bytes.length by omega)
      have hcB2 := hcB q (show q < (t8).bytes.length by omega)
      (try simp only at eB hcB2)
      rw [show (t8).bytes.getD q 0 = (xn : Int) from hxn] at hcB2
      have hql : q < (t8).bytes.length := by omega
      have hgS : ¬ gB = S := HapS.out.2.1 gB oB eB (fun h => by have h2 : (Bts (t8).bytes).length = 0 := (by rw [h]; rfl); rw [Bts_length] at h2; omega)
      have hgS2 : ¬ S = gB := fun h => hgS h.symm
      have hC21 : HasC [(⟨S, 3, none⟩, .slice (some ⟨gB, oB, none⟩) (t8).bytes.length (q8).cb), (⟨S, 4, none⟩, .int .i64 (q : Int)), (⟨S, 6, none⟩, .int .i64 (pt : Int)), (⟨gB, oB + q, none⟩, .int .u8 (xn : Int))] wB :=
        ⟨by rw [← eB]; exact z3, by rw [← hq]; exact z4, by rw [← hptn]; exact z6, hcB2, trivial⟩
      have HEx := Lib.hid fun W => rexpected12_any xn pt hxn2 (by omega) (by omega) W
      obtain ⟨bv, hbv⟩ : ∃ bv, S12.optN (S12.exp xn (pt : Int)) = bv := ⟨_, rfl⟩
      have hbv2 : S12.expI ((t8).bytes.getD (t8).at_.toNat 0) (t8).part = bv := by rw [S12.expI_eq, hq, Int.toNat_natCast, hxn, Int.toNat_natCast, hptn, hbv]
      rw [hbv] at HEx
      rw [hbv2] at eR
      have HeR := Lib.hid eR
      obtain ⟨isS, hisS⟩ : ∃ isS, (S12.exp xn (pt : Int)).isSome = isS := ⟨_, rfl⟩
      rw [hisS] at HEx
      have eln : decide (0 < (t8).len) = true := decide_eq_true hln
      have Hqq := Lib.hid hq
      have HeB := Lib.hid eB
      clear hma hma1 hma2 hWR hbv hbv2 hxn hcB hcB2 eR hisS hln hpt hx0 hx1 hq hptn eB hbyT
      go_wp2_with fail
      clear x0 x1 x2 x3 x4 x5 x6 x7 x8 f7 eln z0 z1 z2 z3 z4 z5 z6 z7 z8
      refine wp_region_useq 13 14 0 [(.p, [true]), (.r, [false, true]), (.p, [false, false, true]), (.r, [false, false, false, true]), (.p, [false, false, false, false, true]), (.r, [false, false, false, false, false, true]), (.p, [false, false, false, false, false, false, true]), (.r, [false, false, false, false, false, false, false, true]), (.e, [false, false, false, false, false, false, false, false, true]), (.p, [false, false, false, false, false, false, false, false, false, true, true, true, true]), (.l, [false, false, false, false, false, false, false, false, false, false, false, false, false, true])] _ _ (HasC [(⟨S, 3, none⟩, .slice (some ⟨gB, oB, none⟩) (t8).bytes.length (q8).cb), (⟨S, 4, none⟩, .int .i64 (q : Int)), (⟨S, 6, none⟩, .int .i64 (pt : Int)), (⟨gB, oB + q, none⟩, .int .u8 (xn : Int))]) (by kernel_rfl) (List.take_append_drop 14 _).symm (by kernel_rfl) (by kernel_rfl) (by kernel_rfl) (by kernel_rfl) (hC21) (fun Y Q4 F4 hY hF => ?_)
      simp only [phasedU, List.flatMap_cons, List.flatMap_nil, List.take_succ_cons, List.take_zero, List.drop_succ_cons, List.drop_zero, sel_true, sel_false, sel_nil, List.map_cons, List.map_nil, List.cons_append, List.nil_append, List.append_nil]
      repeat
        first
          | (apply wpSeqU_pure (by first | rfl | (rw [hY]; rfl))
             · intro w2
               go_simp
               with_reducible rfl
             simp only [Act.put, List.setIfInBounds_toArray, List.set_cons_zero, List.set_cons_succ])
          | (apply wpSeqU_read (by first | rfl | (rw [hY]; rfl))
             · intro w2 hS2
               (try simp only [Keeps, Cells] at hS2)
               (try simp only [HasC, Cells] at hS2)
               go_simp
               with_reducible rfl
             simp only [Act.put, List.setIfInBounds_toArray, List.set_cons_zero, List.set_cons_succ])
      apply wpSeqU_call (by first | rfl | (rw [hY]; rfl))
      · go_simp
        with_reducible exact ⟨rfl, rfl⟩
      refine (HEx.out _).mono ?_
      rintro e w22 ⟨rfl, hb22⟩
      have hE22 := below_trans (below_drew wB.heap.size wB) hb22
      refine ⟨_, rfl, Cells.step hE22 hC21, ?_⟩
      simp only [Act.put, List.setIfInBounds_toArray, List.set_cons_zero, List.set_cons_succ]
      repeat
        first
          | (apply wpSeqU_pure (by first | rfl | (rw [hY]; rfl))
             · intro w2
               go_simp
               with_reducible rfl
             simp only [Act.put, List.setIfInBounds_toArray, List.set_cons_zero, List.set_cons_succ])
          | (apply wpSeqU_read (by first | rfl | (rw [hY]; rfl))
             · intro w2 hS2
               (try simp only [Keeps, Cells] at hS2)
               (try simp only [HasC, Cells] at hS2)
               go_simp
               with_reducible rfl
             simp only [Act.put, List.setIfInBounds_toArray, List.set_cons_zero, List.set_cons_succ])
      have M22 := MB.step hE22
      have y7 := M22.cell 7
      have f7 := M22.free 7
      refine wpSeqU_last_store (by first | rfl | (rw [hY]; rfl)) (by go_simp; first | with_reducible exact ⟨rfl, rfl⟩ | with_reducible rfl) ?_
      simp only [Act.put, List.setIfInBounds_toArray, List.set_cons_zero, List.set_cons_succ]
      refine wpSeqU_done (hF.out _ _ (fun K hK => ?_))
      clear hF hY
      have R23 := (RB.step hE22).other S 7 (.int .i64 bv) (by omega)
      have M23 := M22.set 7 (.int .i64 bv)
      have hB23 := (hBB.trans (hE22.mono (Nat.le_of_lt lS))).setCell (p := ⟨S, 7, none⟩) (Nat.le_refl S) (.int .i64 bv)
      have I23 := (IB.step hE22).setO HapS.out 7 (.int .i64 bv)
      simp only [List.set_cons_zero, List.set_cons_succ] at M23
      go_wp2_with fail
      refine OnlyK.mk (hK.out _ _ ?_)
      clear hK y7 f7 hC21 M22
      obtain ⟨w23, hw23⟩ : ∃ w23, w22.setCell ⟨S, 7, none⟩ (.int .i64 bv) = w23 := ⟨_, rfl⟩
      rw [hw23] at M23 hB23 R23 I23 ⊢
      clear hw23
      obtain ⟨x0, x1, x2, x3, x4, x5, x6, x7, x8⟩ := M23.nine
      obtain ⟨z0, z1, z2, z3, z4, z5, z6, z7, z8⟩ := R23.nine
      have fr0 := R23.free 0
      have fr1 := R23.free 1
      have fr2 := R23.free 2
      have fr3 := R23.free 3
      have fr4 := R23.free 4
      have fr5 := R23.free 5
      have fr6 := R23.free 6
      have fr7 := R23.free 7
      have fr8 := R23.free 8
      have Hm : RowKit.Hid (MIs { t8 with bit := bv } q8 w23) := Lib.hid ⟨I23.rdh, I23.rdb, I23.rdc, I23.byt, I23.cb, I23.lh, I23.lb, I23.lc⟩
      have hBF := Lib.hid (below_put9 hB23 (Nat.le_succ S) (.int .i64 (t8).bits) (.int .i64 (t8).least) (.slice (q8).ah (t8).heads.length (q8).ch) (.slice (q8).ab (t8).bytes.length (q8).cb) (.int .i64 (t8).at_) (.int .i64 (t8).len) (.int .i64 (t8).part) (.int .i64 bv) (.slice (q8).ac (t8).ctrs.length (q8).cc))
      have eR := HeR.out
      subst eR
      obtain ⟨y0, y1, y2, y3, y4, y5, y6, y7, y8⟩ := (R23.put9 (.int .i64 (t8).bits) (.int .i64 (t8).least) (.slice (q8).ah (t8).heads.length (q8).ch) (.slice (q8).ab (t8).bytes.length (q8).cb) (.int .i64 (t8).at_) (.int .i64 (t8).len) (.int .i64 (t8).part) (.int .i64 bv) (.slice (q8).ac (t8).ctrs.length (q8).cc)).nine
      clear M23 R23 hB23 I23
      go_wp2_with (exact bodyPost_ret (v := .tuple #[MV { t8 with bit := bv } q8, .int .i64 0]) (by simp [results, Try.results23, go_sem, MV, MVals, y0, y1, y2, y3, y4, y5, y6, y7, y8]) rfl ⟨q8, rfl, Hm.out.put9 HapR.out.1 HapR.out.2.1 HapR.out.2.2 _ _ _ _ _ _ _ _ _, hS ▸ hBF.out⟩)
    · skip
      have eR : mR = { t8 with bit := 2 } := by rw [HmR2.out]; unfold S12.expect; rw [if_neg hln]
      have eln : decide (0 < (t8).len) = false := decide_eq_false hln
      obtain ⟨r0, r1, r2, r3, r4, r5, r6, r7, r8⟩ := RB.nine
      have fr0 := RB.free 0
      have fr1 := RB.free 1
      have fr2 := RB.free 2
      have fr3 := RB.free 3
      have fr4 := RB.free 4
      have fr5 := RB.free 5
      have fr6 := RB.free 6
      have fr7 := RB.free 7
      have fr8 := RB.free 8
      have Hm : RowKit.Hid (MIs { t8 with bit := 2 } q8 wB) := Lib.hid ⟨IB.rdh, IB.rdb, IB.rdc, IB.byt, IB.cb, IB.lh, IB.lb, IB.lc⟩
      have hBF := Lib.hid (below_put9 hBB (Nat.le_succ S) (.int .i64 (t8).bits) (.int .i64 (t8).least) (.slice (q8).ah (t8).heads.length (q8).ch) (.slice (q8).ab (t8).bytes.length (q8).cb) (.int .i64 (t8).at_) (.int .i64 (t8).len) (.int .i64 (t8).part) (.int .i64 2) (.slice (q8).ac (t8).ctrs.length (q8).cc))
      subst eR
      obtain ⟨y0, y1, y2, y3, y4, y5, y6, y7, y8⟩ := (RB.put9 (.int .i64 (t8).bits) (.int .i64 (t8).least) (.slice (q8).ah (t8).heads.length (q8).ch) (.slice (q8).ab (t8).bytes.length (q8).cb) (.int .i64 (t8).at_) (.int .i64 (t8).len) (.int .i64 (t8).part) (.int .i64 2) (.slice (q8).ac (t8).ctrs.length (q8).cc)).nine
      clear MB RB hBB IB hln
      go_wp2_with (exact bodyPost_ret (v := .tuple #[MV { t8 with bit := 2 } q8, .int .i64 0]) (by simp [results, Try.results23, go_sem, MV, MVals, y0, y1, y2, y3, y4, y5, y6, y7, y8]) rfl ⟨q8, rfl, Hm.out.put9 HapR.out.1 HapR.out.2.1 HapR.out.2.2 _ _ _ _ _ _ _ _ _, hS ▸ hBF.out⟩)
  · have dl1 : decide (0 < m.len) = true := decide_eq_true (by omega)
    obtain ⟨k, hk⟩ : ∃ k : Nat, min m.len.toNat 15 = k := ⟨_, rfl⟩
    have hkm : min m.len 15 = (k : Int) := by omega
    obtain ⟨cp, hcp⟩ : ∃ cp, m.ctrs.getD k (0, 0) = cp := ⟨_, rfl⟩
    have hk16 : k < m.ctrs.length := by have := H16.out; omega
    have hok : S08.check cp.1 cp.2 255 = 0 := HWF.out.ctr cp (by rw [← hcp, S12.getD_in _ _ hk16]; exact List.getElem_mem hk16)
    have HU := Lib.hid fun r (hr : r = 0 ∨ r = 1) W => rupd12_ok hok hr W
    have hlearn : S12.learn m b = if b = m.bit then { m with ctrs := m.ctrs.set k (S08.step cp.1 cp.2 1, min (cp.2 + 1) 255) } else { m with ctrs := m.ctrs.set k (S08.step cp.1 cp.2 0, min (cp.2 + 1) 255), at_ := 0, len := 0 } := by
      unfold S12.learn
      rw [if_neg (by omega), hk, hcp]
    obtain ⟨p0, p1⟩ := cp
    have Hcp := Lib.hid hcp
    have Hk16 := Lib.hid hk16
    simp only at hlearn HU
    obtain ⟨n1, hn1⟩ : ∃ n1, min (p1 + 1) 255 = n1 := ⟨_, rfl⟩
    rw [hn1] at hlearn HU
    have hk9 : k < 16 := by omega
    clear hn1 hcp hk16 hok hk h1
    by_cases hbit : b = m.bit
    · rw [if_pos hbit] at hlearn
      have eb : (b == m.bit) = true := by simp [hbit]
      have HU1 := Lib.hid fun W => HU.out 1 (.inr rfl) W
      obtain ⟨s1, hs1⟩ : ∃ s1, S08.step p0 p1 1 = s1 := ⟨_, rfl⟩
      rw [hs1] at HU1 hlearn
      have Hlearn := Lib.hid hlearn
      clear HU hs1 hbit hlearn
      have hrdF := Lib.hid (((HM.out.step (hS ▸ hB1)).rdc).step ((Below.refl w1.heap.size w1).alloc (Nat.le_refl _) (Obj.cells #[] 35)))
      have HM1 := Lib.hid M1
      have HR1 := Lib.hid R1
      have HBB := Lib.hid hB1
      have l1 := R1.lt
      have lS1 := M1.lt
      have f8 := M1.free 8
      clear M1 R1 hB1
      go_wp2_with (first
        | (at_builtin
           refine wpList_append_rd _ _ 25 35 2 16 _ w1.heap.size elems_ctrs rfl rfl _ 0 [] rfl (World.ownsRow_made w1 #[] 0 (Nat.le_refl _) (by decide) rfl) p.ac m.ctrs.length p.cc (Cts m.ctrs) rfl (by rw [Cts_length]) hrdF.out (Cts_one _) (by have := H16.out; unfold maxLen; omega) (by have := H16.out; omega) (by simp) ?_
           intro a2 cap2 w2 hown2 hgrow2
           have hb2 : Below w1.heap.size w1 w2 := Below.grown (by go_grown) hgrow2 (by simp) (fun k e => by cases e; exact Nat.le_refl _)
           simp only [Nat.zero_add, List.nil_append] at hown2 ⊢
           obtain ⟨gc, rfl, hgc, hOC⟩ := Own.of_owns hown2 (by have := H16.out; omega) (by decide)
           clear hown2 hgrow2
           have M2 := HM1.out.step hb2
           have R2 := HR1.out.step hb2
           have hB2 := HBB.out.trans (hb2.mono (Nat.le_of_lt HM1.out.lt))
           have dS : ¬ gc = S := by omega
           have dS2 : ¬ S = gc := by omega
           have dR : ¬ S + 1 = gc := by omega
           have v8 := M2.cell 8
           have e8 := M2.free 8
           have M3 := M2.set 8 (.slice (some ⟨gc, 0, none⟩) m.ctrs.length cap2)
           have R3 := R2.other S 8 (.slice (some ⟨gc, 0, none⟩) m.ctrs.length cap2) (by omega)
           have hB3 := hB2.setCell (p := ⟨S, 8, none⟩) (Nat.le_refl S) (.slice (some ⟨gc, 0, none⟩) m.ctrs.length cap2)
           have C3 := hOC.other S 8 (.slice (some ⟨gc, 0, none⟩) m.ctrs.length cap2) dS
           simp only [List.set_cons_zero, List.set_cons_succ] at M3
           obtain ⟨w3, hw3⟩ : ∃ w3, w2.setCell ⟨S, 8, none⟩ (.slice (some ⟨gc, 0, none⟩) m.ctrs.length cap2) = w3 := ⟨_, rfl⟩
           rw [hw3] at M3 R3 hB3 C3
           have hC3 : HasC [(⟨S, 8, none⟩, .slice (some ⟨gc, 0, none⟩) m.ctrs.length cap2), (⟨gc, k * 2, none⟩, .int .i64 p0), (⟨gc, k * 2 + 1, none⟩, .int .i64 p1)] w3 :=
             ⟨M3.cell 8, by rw [C3.cell (by have := Hk16.out; rw [Cts_length]; omega), (Cts_at Hk16.out).1, ← S12.getD_in _ (0, 0) Hk16.out, Hcp.out], by rw [C3.cell (by have := Hk16.out; rw [Cts_length]; omega), (Cts_at Hk16.out).2, ← S12.getD_in _ (0, 0) Hk16.out, Hcp.out], trivial⟩
           clear M2 R2 hB2 hOC))
      clear v8 e8 f8 hw3 x0 x1 x2 x3 x4 x5 x6 x7 x8
      have hkl := Hk16.out
      refine wp_region_useq 14 15 0 [(.p, [true]), (.r, [false, true]), (.p, [false, false, true, true]), (.r, [false, false, false, false, true]), (.p, [false, false, false, false, false, true, true]), (.r, [false, false, false, false, false, false, false, true]), (.p, [false, false, false, false, false, false, false, false, true]), (.e, [false, false, false, false, false, false, false, false, false, true]), (.p, [false, false, false, false, false, false, false, false, false, false, true, true, true, true]), (.l, [false, false, false, false, false, false, false, false, false, false, false, false, false, false, true])] _ _ (HasC [(⟨S, 8, none⟩, .slice (some ⟨gc, 0, none⟩) m.ctrs.length cap2), (⟨gc, k * 2, none⟩, .int .i64 p0), (⟨gc, k * 2 + 1, none⟩, .int .i64 p1)]) (by kernel_rfl) (List.take_append_drop 15 _).symm (by kernel_rfl) (by kernel_rfl) (by kernel_rfl) (by kernel_rfl) (hC3) (fun Y Q4 F4 hY hF => ?_)
      simp only [phasedU, List.flatMap_cons, List.flatMap_nil, List.take_succ_cons, List.take_zero, List.drop_succ_cons, List.drop_zero, sel_true, sel_false, sel_nil, List.map_cons, List.map_nil, List.cons_append, List.nil_append, List.append_nil]
      repeat
        first
          | (apply wpSeqU_pure (by first | rfl | (rw [hY]; rfl))
             · intro w2
               go_simp
               with_reducible rfl
             simp only [Act.put, List.setIfInBounds_toArray, List.set_cons_zero, List.set_cons_succ])
          | (apply wpSeqU_read (by first | rfl | (rw [hY]; rfl))
             · intro w2 hS2
               (try simp only [Keeps, Cells] at hS2)
               (try simp only [HasC, Cells] at hS2)
               go_simp
               with_reducible rfl
             simp only [Act.put, List.setIfInBounds_toArray, List.set_cons_zero, List.set_cons_succ])
      apply wpSeqU_call (by first | rfl | (rw [hY]; rfl))
      · go_simp
        with_reducible exact ⟨rfl, rfl⟩
      refine (HU1.out _).mono ?_
      rintro e w4 ⟨rfl, hb4⟩
      have hE4 := below_trans (below_drew w3.heap.size w3) hb4
      have hC4 := Cells.step hE4 hC3
      refine ⟨_, rfl, hC4, ?_⟩
      simp only [Act.put, List.setIfInBounds_toArray, List.set_cons_zero, List.set_cons_succ]
      repeat
        first
          | (apply wpSeqU_pure (by first | rfl | (rw [hY]; rfl))
             · intro w2
               go_simp
               with_reducible rfl
             simp only [Act.put, List.setIfInBounds_toArray, List.set_cons_zero, List.set_cons_succ])
          | (apply wpSeqU_read (by first | rfl | (rw [hY]; rfl))
             · intro w2 hS2
               (try simp only [Keeps, Cells] at hS2)
               (try simp only [HasC, Cells] at hS2)
               go_simp
               with_reducible rfl
             simp only [Act.put, List.setIfInBounds_toArray, List.set_cons_zero, List.set_cons_succ])
      have M4 := M3.step hE4
      have R4 := R3.step hE4
      have C4 := C3.step hE4
      have hB4 := hB3.trans (hE4.mono (Nat.le_of_lt M3.lt))
      have y5 : w4.cell? ⟨gc, k * 2, none⟩ = some (.int .i64 p0) := hC4.2.1
      have y6 : w4.cell? ⟨gc, k * 2 + 1, none⟩ = some (.int .i64 p1) := hC4.2.2.1
      have g5 := C4.free (k * 2)
      have g6 := C4.free (k * 2 + 1)
      refine wpSeqU_last_store (by first | rfl | (rw [hY]; rfl)) (by go_simp; first | with_reducible exact ⟨rfl, rfl⟩ | with_reducible rfl) ?_
      simp only [Act.put, List.setIfInBounds_toArray, List.set_cons_zero, List.set_cons_succ]
      refine wpSeqU_done (hF.out _ _ (fun K hK => ?_))
      clear hF hY
      have M5 := (M4.other gc (k * 2) (.int .i64 s1) dS2).other gc (k * 2 + 1) (.int .i64 n1) dS2
      have R5 := (R4.other gc (k * 2) (.int .i64 s1) dR).other gc (k * 2 + 1) (.int .i64 n1) dR
      have hB5 := (hB4.setCell (p := ⟨gc, k * 2, none⟩) (show S ≤ gc by omega) (.int .i64 s1)).setCell (p := ⟨gc, k * 2 + 1, none⟩) (show S ≤ gc by omega) (.int .i64 n1)
      have C5 := (C4.set (i := k * 2) (by rw [Cts_length]; omega) (.int .i64 s1)).set (i := k * 2 + 1) (by rw [List.length_set, Cts_length]; omega) (.int .i64 n1)
      rw [← Cts_set] at C5
      go_wp2_with fail
      refine OnlyK.mk (hK.out _ _ ?_)
      clear hK hC3 hC4 y5 y6 g5 g6 M4 R4 C4 hB4 M3 R3 C3 hB3
      obtain ⟨w5, hw5⟩ : ∃ w5, (w4.setCell ⟨gc, k * 2, none⟩ (.int .i64 s1)).setCell ⟨gc, k * 2 + 1, none⟩ (.int .i64 n1) = w5 := ⟨_, rfl⟩
      rw [hw5] at M5 R5 hB5 C5 ⊢
      clear hw5
      have HL0 := HM.out.step (below_of hS hB5)
      have M9 : Blk w5 S (MVals (S12.learn m b) ⟨p.ah, p.ch, p.ab, p.cb, some ⟨gc, 0, none⟩, cap2⟩) 27 := by
        rw [Hlearn.out]; unfold MVals; simp only [List.length_set]; exact M5
      have MI9 : MIs (S12.learn m b) ⟨p.ah, p.ch, p.ab, p.cb, some ⟨gc, 0, none⟩, cap2⟩ w5 := by
        rw [Hlearn.out]; exact ⟨HL0.rdh, HL0.rdb, C5.rd, HL0.byt, HL0.cb, HL0.lh, HL0.lb, by simp only [List.length_set]; exact HL0.lc⟩
      have HapS : RowKit.Hid (Ap (S12.learn m b) ⟨p.ah, p.ch, p.ab, p.cb, some ⟨gc, 0, none⟩, cap2⟩ S) := by
        rw [Hlearn.out]; exact Lib.hid ⟨HA1.out.1, HA1.out.2.1, fun g o e _ => by cases e; omega⟩
      have HapR : RowKit.Hid (Ap (S12.learn m b) ⟨p.ah, p.ch, p.ab, p.cb, some ⟨gc, 0, none⟩, cap2⟩ (S + 1)) := by
        rw [Hlearn.out]; exact Lib.hid ⟨HA2.out.1, HA2.out.2.1, fun g o e _ => by cases e; omega⟩
      have HmR : RowKit.Hid (mR = S12.expect (S12.take (S12.learn m b) (2 * (S12.learn m b).part + b))) := Lib.hid HmR0.out.symm
      obtain ⟨n, hn⟩ : ∃ n, S12.learn m b = n := ⟨_, rfl⟩
      obtain ⟨qn, hqn⟩ : ∃ qn : Pl, (⟨p.ah, p.ch, p.ab, p.cb, some ⟨gc, 0, none⟩, cap2⟩ : Pl) = qn := ⟨_, rfl⟩
      rw [hn] at M9 MI9 HapS HapR HmR HL
      rw [hqn] at M9 MI9 HapS HapR
      have R9 := R5
      have hB9 := hB5
      unfold MVals at M9
      clear HL0 hn hqn Hlearn M5 C5 R5 hB5 HA1 HA2 eb dl1 dS dS2 dR hkl
      obtain ⟨P, hP⟩ : ∃ P, 2 * n.part + b = P := ⟨_, rfl⟩
      have hL := HL.out
      have hpr : 1 ≤ n.part ∧ n.part ≤ 255 := by rw [hL.part]; exact HWF.out.part
      have hPr : 2 ≤ P ∧ P ≤ 511 := by omega
      have hPf : 256 ≤ P := by have := hL.part; have := HFul.out; omega
      have hPd : decide (255 < P) = true := by simp; omega
      have hmR : mR = S12.expect (S12.take n P) := by rw [HmR.out, hP]
      have ht : S12.take n P = S12.search (S12.extend { n with bytes := n.bytes ++ [P - 256], part := 1 }) := by unfold S12.take; rw [if_pos (by omega)]
      rw [ht] at hmR
      obtain ⟨x0, x1, x2, x3, x4, x5, x6, x7, x8⟩ := M9.nine
      have f6 := M9.free 6
      have M6 := M9.set 6 (.int .i64 P)
      have R6 := R9.other S 6 (.int .i64 P) (by omega)
      have hB6 := hB9.setCell (p := ⟨S, 6, none⟩) (Nat.le_refl S) (.int .i64 P)
      have MI6 : MIs { n with part := P } qn (w5.setCell ⟨S, 6, none⟩ (.int .i64 P)) := by
        have h := MI9.setO HapS.out 6 (.int .i64 P)
        exact ⟨h.rdh, h.rdb, h.rdc, h.byt, h.cb, h.lh, h.lb, h.lc⟩
      simp only [List.set_cons_zero, List.set_cons_succ] at M6
      obtain ⟨w6, hw6⟩ : ∃ w6, w5.setCell ⟨S, 6, none⟩ (.int .i64 P) = w6 := ⟨_, rfl⟩
      rw [hw6] at M6 R6 hB6 MI6
      obtain ⟨z0, z1, z2, z3, z4, z5, z6, z7, z8⟩ := M6.nine
      clear M9 R9 hB9 MI9 hmR ht
      obtain ⟨yn, hyn⟩ : ∃ yn : Nat, P - 256 = yn := ⟨(P - 256).toNat, by omega⟩
      have hyn2 : yn < 256 := by omega
      have hPy : P = 256 + (yn : Int) := by omega
      have hfull9 := S12.full_ok HWF.out hL HM.out.byt (show 0 ≤ (yn : Int) ∧ (yn : Int) < 256 by omega)
      have HmR2 : RowKit.Hid (mR = S12.expect (S12.search (S12.extend { n with bytes := n.bytes ++ [(yn : Int)], part := 1 }))) := by
        have hmR : mR = S12.expect (S12.take n P) := by rw [HmR.out, hP]
        refine Lib.hid ?_
        rw [hmR]
        unfold S12.take
        rw [if_pos (by omega), hyn]
      have hla : (0 ≤ n.len ∧ n.len ≤ 255) ∧ (0 ≤ n.at_ ∧ n.at_ ≤ 65536) := by
        rcases hL.alt with ⟨a1, a2⟩ | ⟨a1, a2, a3, a4⟩
        · omega
        · have hMt := HWF.out.Mat a1
          have c1 := hMt.len
          have c2 := hMt.at_
          have c3 := HWF.out.few
          omega
      have HC := Lib.hid fun W (hW : MIs { n with part := P } qn W) => show Calls Try.prog 51 #[.agg #[.int .i64 n.bits, .int .i64 n.least, .slice (qn).ah n.heads.length (qn).ch, .slice (qn).ab n.bytes.length (qn).cb, .int .i64 n.at_, .int .i64 n.len, .int .i64 P, .int .i64 n.bit, .slice (qn).ac n.ctrs.length (qn).cc]] W _ from rcomplete12_m { n with part := P } qn W yn (by simp only; rw [hL.bits]; exact HWF.out.bits) (by simp only; rw [hL.least]; exact HWF.out.least) (by simp only; rw [hL.heads, hL.bits]; exact HWF.out.heads) (by simp only; rw [hL.heads, hL.bytes]; exact HWF.out.head) (by simp only; rw [hL.bytes]; have := HRoom.out; have := HFul.out; have := HWF.out.few; omega) hPy hyn2 hla.1 hla.2 hW
      clear hL hfull9 hla hPy hyn
      go_wp2_with fail
      refine (HC.out _ MI6).mono ?_
      rintro e w8 ⟨q8, rfl, MI8, hn8, hb8⟩
      obtain ⟨t8, ht8⟩ : ∃ t8, S12.search (S12.extend { n with bytes := n.bytes ++ [(yn : Int)], part := 1 }) = t8 := ⟨_, rfl⟩
      have HapS8 := HapS.out.new (m' := t8) (Nat.lt_trans (Nat.lt_succ_self S) R6.lt) hn8 (by rw [← ht8]; exact S12.se_heads _) (by rw [← ht8]; exact S12.se_ctrs _)
      have HapR8 := HapR.out.new (m' := t8) R6.lt hn8 (by rw [← ht8]; exact S12.se_heads _) (by rw [← ht8]; exact S12.se_ctrs _)
      rw [ht8] at HmR2 MI8 ⊢
      have M8 := M6.step hb8
      have R8 := R6.step hb8
      have hB8 := hB6.trans (hb8.mono (Nat.le_of_lt M6.lt))
      clear HC M6 R6 hB6 MI6 HapS HapR hn8 x0 x1 x2 x3 x4 x5 x6 x7 x8 z0 z1 z2 z3 z4 z5 z6 z7 z8 f6 hw6
      have HapS := Lib.hid HapS8
      have HapR := Lib.hid HapR8
      obtain ⟨x0, x1, x2, x3, x4, x5, x6, x7, x8⟩ := M8.nine
      have fq0 := M8.free 0
      have fq1 := M8.free 1
      have fq2 := M8.free 2
      have fq3 := M8.free 3
      have fq4 := M8.free 4
      have fq5 := M8.free 5
      have fq6 := M8.free 6
      have fq7 := M8.free 7
      have fq8 := M8.free 8
      have M9 := M8.put9 (.int .i64 t8.bits) (.int .i64 t8.least) (.slice q8.ah t8.heads.length q8.ch) (.slice q8.ab t8.bytes.length q8.cb) (.int .i64 t8.at_) (.int .i64 t8.len) (.int .i64 t8.part) (.int .i64 t8.bit) (.slice q8.ac t8.ctrs.length q8.cc)
      have R9 := R8.other9 (b := S) (by omega) (.int .i64 t8.bits) (.int .i64 t8.least) (.slice q8.ah t8.heads.length q8.ch) (.slice q8.ab t8.bytes.length q8.cb) (.int .i64 t8.at_) (.int .i64 t8.len) (.int .i64 t8.part) (.int .i64 t8.bit) (.slice q8.ac t8.ctrs.length q8.cc)
      have hB9 := below_put9 hB8 (Nat.le_refl S) (.int .i64 t8.bits) (.int .i64 t8.least) (.slice q8.ah t8.heads.length q8.ch) (.slice q8.ab t8.bytes.length q8.cb) (.int .i64 t8.at_) (.int .i64 t8.len) (.int .i64 t8.part) (.int .i64 t8.bit) (.slice q8.ac t8.ctrs.length q8.cc)
      have MI9 := MI8.put9 HapS.out.1 HapS.out.2.1 HapS.out.2.2 (.int .i64 t8.bits) (.int .i64 t8.least) (.slice q8.ah t8.heads.length q8.ch) (.slice q8.ab t8.bytes.length q8.cb) (.int .i64 t8.at_) (.int .i64 t8.len) (.int .i64 t8.part) (.int .i64 t8.bit) (.slice q8.ac t8.ctrs.length q8.cc)
      obtain ⟨w9, hw9⟩ : ∃ w9, ((((((((((w8.setCell ⟨S, 0, none⟩ (.int .i64 t8.bits)).setCell ⟨S, 1, none⟩ (.int .i64 t8.least)).setCell ⟨S, 2, none⟩ (.slice q8.ah t8.heads.length q8.ch)).setCell ⟨S, 3, none⟩ (.slice q8.ab t8.bytes.length q8.cb)).setCell ⟨S, 4, none⟩ (.int .i64 t8.at_)).setCell ⟨S, 5, none⟩ (.int .i64 t8.len)).setCell ⟨S, 6, none⟩ (.int .i64 t8.part)).setCell ⟨S, 7, none⟩ (.int .i64 t8.bit)).setCell ⟨S, 8, none⟩ (.slice q8.ac t8.ctrs.length q8.cc))) = w9 := ⟨_, rfl⟩
      rw [hw9] at M9 R9 hB9 MI9
      clear M8 R8 hB8 MI8
      unfold MV MVals
      obtain ⟨x0, x1, x2, x3, x4, x5, x6, x7, x8⟩ := M9.nine
      have f7 := M9.free 7
      have MB := M9.set 7 (.int .i64 2)
      have RB := R9.other S 7 (.int .i64 2) (by omega)
      have hBB := hB9.setCell (p := ⟨S, 7, none⟩) (Nat.le_refl S) (.int .i64 2)
      have IB := MI9.setO HapS.out 7 (.int .i64 2)
      simp only [List.set_cons_zero, List.set_cons_succ] at MB
      obtain ⟨wB, hwB⟩ : ∃ wB, w9.setCell ⟨S, 7, none⟩ (.int .i64 2) = wB := ⟨_, rfl⟩
      rw [hwB] at MB RB hBB IB
      obtain ⟨z0, z1, z2, z3, z4, z5, z6, z7, z8⟩ := MB.nine
      have lS := MB.lt
      have lR := RB.lt
      clear M9 R9 hB9 MI9
      by_cases hln : 0 < (t8).len
      · skip
        have eR : mR = { t8 with bit := S12.expI ((t8).bytes.getD (t8).at_.toNat 0) (t8).part } := by rw [HmR2.out]; unfold S12.expect; rw [if_pos hln]
        have hWR : S12.WF { t8 with bit := S12.expI ((t8).bytes.getD (t8).at_.toNat 0) (t8).part } := by rw [← eR]; exact HWF'.out
        have hma := hWR.Mat (show (t8).len ≠ 0 by omega)
        have hma1 : (t8).len ≤ (t8).at_ ∧ (t8).at_ ≤ ((t8).bytes.length : Int) - 1 := hma.at_
        have hma2 : 1 ≤ (t8).len ∧ (t8).len ≤ 255 := hma.len
        have hpt : 1 ≤ (t8).part ∧ (t8).part ≤ 255 := hWR.part
        obtain ⟨pt, hptn⟩ : ∃ pt : Nat, (t8).part = pt := ⟨(t8).part.toNat, by omega⟩
        obtain ⟨q, hq⟩ : ∃ q : Nat, (t8).at_ = q := ⟨(t8).at_.toNat, by omega⟩
        have hbyT : S12.Byt (t8).bytes := IB.byt
        have hx0 : 0 ≤ (t8).bytes.getD q 0 := hbyT.get q
        have hx1 : ((t8).bytes.getD q 0).toNat < 256 := hbyT.at q
        obtain ⟨xn, hxn⟩ : ∃ xn : Nat, (t8).bytes.getD q 0 = xn := ⟨((t8).bytes.getD q 0).toNat, (Int.toNat_of_nonneg hx0).symm⟩
        have hxn2 : xn < 256 := by rw [hxn] at hx1; omega
        obtain ⟨gB, oB, eB, hcB⟩ := Bts_at IB.rdb (i := q) (show q < (t8).bytes.length by omega)
        have hcB2 := hcB q (show q < (t8).bytes.length by omega)
        (try simp only at eB hcB2)
        rw [show (t8).bytes.getD q 0 = (xn : Int) from hxn] at hcB2
        have hql : q < (t8).bytes.length := by omega
        have hgS : ¬ gB = S := HapS.out.2.1 gB oB eB (fun h => by have h2 : (Bts (t8).bytes).length = 0 := (by rw [h]; rfl); rw [Bts_length] at h2; omega)
        have hgS2 : ¬ S = gB := fun h => hgS h.symm
        have hC21 : HasC [(⟨S, 3, none⟩, .slice (some ⟨gB, oB, none⟩) (t8).bytes.length (q8).cb), (⟨S, 4, none⟩, .int .i64 (q : Int)), (⟨S, 6, none⟩, .int .i64 (pt : Int)), (⟨gB, oB + q, none⟩, .int .u8 (xn : Int))] wB :=
          ⟨by rw [← eB]; exact z3, by rw [← hq]; exact z4, by rw [← hptn]; exact z6, hcB2, trivial⟩
        have HEx := Lib.hid fun W => rexpected12_any xn pt hxn2 (by omega) (by omega) W
        obtain ⟨bv, hbv⟩ : ∃ bv, S12.optN (S12.exp xn (pt : Int)) = bv := ⟨_, rfl⟩
        have hbv2 : S12.expI ((t8).bytes.getD (t8).at_.toNat 0) (t8).part = bv := by rw [S12.expI_eq, hq, Int.toNat_natCast, hxn, Int.toNat_natCast, hptn, hbv]
        rw [hbv] at HEx
        rw [hbv2] at eR
        have HeR := Lib.hid eR
        obtain ⟨isS, hisS⟩ : ∃ isS, (S12.exp xn (pt : Int)).isSome = isS := ⟨_, rfl⟩
        rw [hisS] at HEx
        have eln : decide (0 < (t8).len) = true := decide_eq_true hln
        have Hqq := Lib.hid hq
        have HeB := Lib.hid eB
        clear hma hma1 hma2 hWR hbv hbv2 hxn hcB hcB2 eR hisS hln hpt hx0 hx1 hq hptn eB hbyT
        go_wp2_with fail
        clear x0 x1 x2 x3 x4 x5 x6 x7 x8 f7 eln z0 z1 z2 z3 z4 z5 z6 z7 z8
        refine wp_region_useq 13 14 0 [(.p, [true]), (.r, [false, true]), (.p, [false, false, true]), (.r, [false, false, false, true]), (.p, [false, false, false, false, true]), (.r, [false, false, false, false, false, true]), (.p, [false, false, false, false, false, false, true]), (.r, [false, false, false, false, false, false, false, true]), (.e, [false, false, false, false, false, false, false, false, true]), (.p, [false, false, false, false, false, false, false, false, false, true, true, true, true]), (.l, [false, false, false, false, false, false, false, false, false, false, false, false, false, true])] _ _ (HasC [(⟨S, 3, none⟩, .slice (some ⟨gB, oB, none⟩) (t8).bytes.length (q8).cb), (⟨S, 4, none⟩, .int .i64 (q : Int)), (⟨S, 6, none⟩, .int .i64 (pt : Int)), (⟨gB, oB + q, none⟩, .int .u8 (xn : Int))]) (by kernel_rfl) (List.take_append_drop 14 _).symm (by kernel_rfl) (by kernel_rfl) (by kernel_rfl) (by kernel_rfl) (hC21) (fun Y Q4 F4 hY hF => ?_)
        simp only [phasedU, List.flatMap_cons, List.flatMap_nil, List.take_succ_cons, List.take_zero, List.drop_succ_cons, List.drop_zero, sel_true, sel_false, sel_nil, List.map_cons, List.map_nil, List.cons_append, List.nil_append, List.append_nil]
        repeat
          first
            | (apply wpSeqU_pure (by first | rfl | (rw [hY]; rfl))
               · intro w2
                 go_simp
                 with_reducible rfl
               simp only [Act.put, List.setIfInBounds_toArray, List.set_cons_zero, List.set_cons_succ])
            | (apply wpSeqU_read (by first | rfl | (rw [hY]; rfl))
               · intro w2 hS2
                 (try simp only [Keeps, Cells] at hS2)
                 (try simp only [HasC, Cells] at hS2)
                 go_simp
                 with_reducible rfl
               simp only [Act.put, List.setIfInBounds_toArray, List.set_cons_zero, List.set_cons_succ])
        apply wpSeqU_call (by first | rfl | (rw [hY]; rfl))
        · go_simp
          with_reducible exact ⟨rfl, rfl⟩
        refine (HEx.out _).mono ?_
        rintro e w22 ⟨rfl, hb22⟩
        have hE22 := below_trans (below_drew wB.heap.size wB) hb22
        refine ⟨_, rfl, Cells.step hE22 hC21, ?_⟩
        simp only [Act.put, List.setIfInBounds_toArray, List.set_cons_zero, List.set_cons_succ]
        repeat
          first
            | (apply wpSeqU_pure (by first | rfl | (rw [hY]; rfl))
               · intro w2
                 go_simp
                 with_reducible rfl
               simp only [Act.put, List.setIfInBounds_toArray, List.set_cons_zero, List.set_cons_succ])
            | (apply wpSeqU_read (by first | rfl | (rw [hY]; rfl))
               · intro w2 hS2
                 (try simp only [Keeps, Cells] at hS2)
                 (try simp only [HasC, Cells] at hS2)
                 go_simp
                 with_reducible rfl
               simp only [Act.put, List.setIfInBounds_toArray, List.set_cons_zero, List.set_cons_succ])
        have M22 := MB.step hE22
        have y7 := M22.cell 7
        have f7 := M22.free 7
        refine wpSeqU_last_store (by first | rfl | (rw [hY]; rfl)) (by go_simp; first | with_reducible exact ⟨rfl, rfl⟩ | with_reducible rfl) ?_
        simp only [Act.put, List.setIfInBounds_toArray, List.set_cons_zero, List.set_cons_succ]
        refine wpSeqU_done (hF.out _ _ (fun K hK => ?_))
        clear hF hY
        have R23 := (RB.step hE22).other S 7 (.int .i64 bv) (by omega)
        have M23 := M22.set 7 (.int .i64 bv)
        have hB23 := (hBB.trans (hE22.mono (Nat.le_of_lt lS))).setCell (p := ⟨S, 7, none⟩) (Nat.le_refl S) (.int .i64 bv)
        have I23 := (IB.step hE22).setO HapS.out 7 (.int .i64 bv)
        simp only [List.set_cons_zero, List.set_cons_succ] at M23
        go_wp2_with fail
        refine OnlyK.mk (hK.out _ _ ?_)
        clear hK y7 f7 hC21 M22
        obtain ⟨w23, hw23⟩ : ∃ w23, w22.setCell ⟨S, 7, none⟩ (.int .i64 bv) = w23 := ⟨_, rfl⟩
        rw [hw23] at M23 hB23 R23 I23 ⊢
        clear hw23
        obtain ⟨x0, x1, x2, x3, x4, x5, x6, x7, x8⟩ := M23.nine
        obtain ⟨z0, z1, z2, z3, z4, z5, z6, z7, z8⟩ := R23.nine
        have fr0 := R23.free 0
        have fr1 := R23.free 1
        have fr2 := R23.free 2
        have fr3 := R23.free 3
        have fr4 := R23.free 4
        have fr5 := R23.free 5
        have fr6 := R23.free 6
        have fr7 := R23.free 7
        have fr8 := R23.free 8
        have Hm : RowKit.Hid (MIs { t8 with bit := bv } q8 w23) := Lib.hid ⟨I23.rdh, I23.rdb, I23.rdc, I23.byt, I23.cb, I23.lh, I23.lb, I23.lc⟩
        have hBF := Lib.hid (below_put9 hB23 (Nat.le_succ S) (.int .i64 (t8).bits) (.int .i64 (t8).least) (.slice (q8).ah (t8).heads.length (q8).ch) (.slice (q8).ab (t8).bytes.length (q8).cb) (.int .i64 (t8).at_) (.int .i64 (t8).len) (.int .i64 (t8).part) (.int .i64 bv) (.slice (q8).ac (t8).ctrs.length (q8).cc))
        have eR := HeR.out
        subst eR
        obtain ⟨y0, y1, y2, y3, y4, y5, y6, y7, y8⟩ := (R23.put9 (.int .i64 (t8).bits) (.int .i64 (t8).least) (.slice (q8).ah (t8).heads.length (q8).ch) (.slice (q8).ab (t8).bytes.length (q8).cb) (.int .i64 (t8).at_) (.int .i64 (t8).len) (.int .i64 (t8).part) (.int .i64 bv) (.slice (q8).ac (t8).ctrs.length (q8).cc)).nine
        clear M23 R23 hB23 I23
        go_wp2_with (exact bodyPost_ret (v := .tuple #[MV { t8 with bit := bv } q8, .int .i64 0]) (by simp [results, Try.results23, go_sem, MV, MVals, y0, y1, y2, y3, y4, y5, y6, y7, y8]) rfl ⟨q8, rfl, Hm.out.put9 HapR.out.1 HapR.out.2.1 HapR.out.2.2 _ _ _ _ _ _ _ _ _, hS ▸ hBF.out⟩)
      · skip
        have eR : mR = { t8 with bit := 2 } := by rw [HmR2.out]; unfold S12.expect; rw [if_neg hln]
        have eln : decide (0 < (t8).len) = false := decide_eq_false hln
        obtain ⟨r0, r1, r2, r3, r4, r5, r6, r7, r8⟩ := RB.nine
        have fr0 := RB.free 0
        have fr1 := RB.free 1
        have fr2 := RB.free 2
        have fr3 := RB.free 3
        have fr4 := RB.free 4
        have fr5 := RB.free 5
        have fr6 := RB.free 6
        have fr7 := RB.free 7
        have fr8 := RB.free 8
        have Hm : RowKit.Hid (MIs { t8 with bit := 2 } q8 wB) := Lib.hid ⟨IB.rdh, IB.rdb, IB.rdc, IB.byt, IB.cb, IB.lh, IB.lb, IB.lc⟩
        have hBF := Lib.hid (below_put9 hBB (Nat.le_succ S) (.int .i64 (t8).bits) (.int .i64 (t8).least) (.slice (q8).ah (t8).heads.length (q8).ch) (.slice (q8).ab (t8).bytes.length (q8).cb) (.int .i64 (t8).at_) (.int .i64 (t8).len) (.int .i64 (t8).part) (.int .i64 2) (.slice (q8).ac (t8).ctrs.length (q8).cc))
        subst eR
        obtain ⟨y0, y1, y2, y3, y4, y5, y6, y7, y8⟩ := (RB.put9 (.int .i64 (t8).bits) (.int .i64 (t8).least) (.slice (q8).ah (t8).heads.length (q8).ch) (.slice (q8).ab (t8).bytes.length (q8).cb) (.int .i64 (t8).at_) (.int .i64 (t8).len) (.int .i64 (t8).part) (.int .i64 2) (.slice (q8).ac (t8).ctrs.length (q8).cc)).nine
        clear MB RB hBB IB hln
        go_wp2_with (exact bodyPost_ret (v := .tuple #[MV { t8 with bit := 2 } q8, .int .i64 0]) (by simp [results, Try.results23, go_sem, MV, MVals, y0, y1, y2, y3, y4, y5, y6, y7, y8]) rfl ⟨q8, rfl, Hm.out.put9 HapR.out.1 HapR.out.2.1 HapR.out.2.2 _ _ _ _ _ _ _ _ _, hS ▸ hBF.out⟩)
    · rw [if_neg hbit] at hlearn
      have eb : (b == m.bit) = false := by simp [hbit]
      have HU1 := Lib.hid fun W => HU.out 0 (.inl rfl) W
      obtain ⟨s1, hs1⟩ : ∃ s1, S08.step p0 p1 0 = s1 := ⟨_, rfl⟩
      rw [hs1] at HU1 hlearn
      have Hlearn := Lib.hid hlearn
      clear HU hs1 hbit hlearn
      have hrdF := Lib.hid (((HM.out.step (hS ▸ hB1)).rdc).step ((Below.refl w1.heap.size w1).alloc (Nat.le_refl _) (Obj.cells #[] 35)))
      have HM1 := Lib.hid M1
      have HR1 := Lib.hid R1
      have HBB := Lib.hid hB1
      have l1 := R1.lt
      have lS1 := M1.lt
      have f8 := M1.free 8
      clear M1 R1 hB1
      go_wp2_with (first
        | (at_builtin
           refine wpList_append_rd _ _ 25 35 2 16 _ w1.heap.size elems_ctrs rfl rfl _ 0 [] rfl (World.ownsRow_made w1 #[] 0 (Nat.le_refl _) (by decide) rfl) p.ac m.ctrs.length p.cc (Cts m.ctrs) rfl (by rw [Cts_length]) hrdF.out (Cts_one _) (by have := H16.out; unfold maxLen; omega) (by have := H16.out; omega) (by simp) ?_
           intro a2 cap2 w2 hown2 hgrow2
           have hb2 : Below w1.heap.size w1 w2 := Below.grown (by go_grown) hgrow2 (by simp) (fun k e => by cases e; exact Nat.le_refl _)
           simp only [Nat.zero_add, List.nil_append] at hown2 ⊢
           obtain ⟨gc, rfl, hgc, hOC⟩ := Own.of_owns hown2 (by have := H16.out; omega) (by decide)
           clear hown2 hgrow2
           have M2 := HM1.out.step hb2
           have R2 := HR1.out.step hb2
           have hB2 := HBB.out.trans (hb2.mono (Nat.le_of_lt HM1.out.lt))
           have dS : ¬ gc = S := by omega
           have dS2 : ¬ S = gc := by omega
           have dR : ¬ S + 1 = gc := by omega
           have v8 := M2.cell 8
           have e8 := M2.free 8
           have M3 := M2.set 8 (.slice (some ⟨gc, 0, none⟩) m.ctrs.length cap2)
           have R3 := R2.other S 8 (.slice (some ⟨gc, 0, none⟩) m.ctrs.length cap2) (by omega)
           have hB3 := hB2.setCell (p := ⟨S, 8, none⟩) (Nat.le_refl S) (.slice (some ⟨gc, 0, none⟩) m.ctrs.length cap2)
           have C3 := hOC.other S 8 (.slice (some ⟨gc, 0, none⟩) m.ctrs.length cap2) dS
           simp only [List.set_cons_zero, List.set_cons_succ] at M3
           obtain ⟨w3, hw3⟩ : ∃ w3, w2.setCell ⟨S, 8, none⟩ (.slice (some ⟨gc, 0, none⟩) m.ctrs.length cap2) = w3 := ⟨_, rfl⟩
           rw [hw3] at M3 R3 hB3 C3
           have hC3 : HasC [(⟨S, 8, none⟩, .slice (some ⟨gc, 0, none⟩) m.ctrs.length cap2), (⟨gc, k * 2, none⟩, .int .i64 p0), (⟨gc, k * 2 + 1, none⟩, .int .i64 p1)] w3 :=
             ⟨M3.cell 8, by rw [C3.cell (by have := Hk16.out; rw [Cts_length]; omega), (Cts_at Hk16.out).1, ← S12.getD_in _ (0, 0) Hk16.out, Hcp.out], by rw [C3.cell (by have := Hk16.out; rw [Cts_length]; omega), (Cts_at Hk16.out).2, ← S12.getD_in _ (0, 0) Hk16.out, Hcp.out], trivial⟩
           clear M2 R2 hB2 hOC))
      clear v8 e8 f8 hw3 x0 x1 x2 x3 x4 x5 x6 x7 x8
      have hkl := Hk16.out
      refine wp_region_useq 14 15 0 [(.p, [true]), (.r, [false, true]), (.p, [false, false, true, true]), (.r, [false, false, false, false, true]), (.p, [false, false, false, false, false, true, true]), (.r, [false, false, false, false, false, false, false, true]), (.p, [false, false, false, false, false, false, false, false, true]), (.e, [false, false, false, false, false, false, false, false, false, true]), (.p, [false, false, false, false, false, false, false, false, false, false, true, true, true, true]), (.l, [false, false, false, false, false, false, false, false, false, false, false, false, false, false, true])] _ _ (HasC [(⟨S, 8, none⟩, .slice (some ⟨gc, 0, none⟩) m.ctrs.length cap2), (⟨gc, k * 2, none⟩, .int .i64 p0), (⟨gc, k * 2 + 1, none⟩, .int .i64 p1)]) (by kernel_rfl) (List.take_append_drop 15 _).symm (by kernel_rfl) (by kernel_rfl) (by kernel_rfl) (by kernel_rfl) (hC3) (fun Y Q4 F4 hY hF => ?_)
      simp only [phasedU, List.flatMap_cons, List.flatMap_nil, List.take_succ_cons, List.take_zero, List.drop_succ_cons, List.drop_zero, sel_true, sel_false, sel_nil, List.map_cons, List.map_nil, List.cons_append, List.nil_append, List.append_nil]
      repeat
        first
          | (apply wpSeqU_pure (by first | rfl | (rw [hY]; rfl))
             · intro w2
               go_simp
               with_reducible rfl
             simp only [Act.put, List.setIfInBounds_toArray, List.set_cons_zero, List.set_cons_succ])
          | (apply wpSeqU_read (by first | rfl | (rw [hY]; rfl))
             · intro w2 hS2
               (try simp only [Keeps, Cells] at hS2)
               (try simp only [HasC, Cells] at hS2)
               go_simp
               with_reducible rfl
             simp only [Act.put, List.setIfInBounds_toArray, List.set_cons_zero, List.set_cons_succ])
      apply wpSeqU_call (by first | rfl | (rw [hY]; rfl))
      · go_simp
        with_reducible exact ⟨rfl, rfl⟩
      refine (HU1.out _).mono ?_
      rintro e w4 ⟨rfl, hb4⟩
      have hE4 := below_trans (below_drew w3.heap.size w3) hb4
      have hC4 := Cells.step hE4 hC3
      refine ⟨_, rfl, hC4, ?_⟩
      simp only [Act.put, List.setIfInBounds_toArray, List.set_cons_zero, List.set_cons_succ]
      repeat
        first
          | (apply wpSeqU_pure (by first | rfl | (rw [hY]; rfl))
             · intro w2
               go_simp
               with_reducible rfl
             simp only [Act.put, List.setIfInBounds_toArray, List.set_cons_zero, List.set_cons_succ])
          | (apply wpSeqU_read (by first | rfl | (rw [hY]; rfl))
             · intro w2 hS2
               (try simp only [Keeps, Cells] at hS2)
               (try simp only [HasC, Cells] at hS2)
               go_simp
               with_reducible rfl
             simp only [Act.put, List.setIfInBounds_toArray, List.set_cons_zero, List.set_cons_succ])
      have M4 := M3.step hE4
      have R4 := R3.step hE4
      have C4 := C3.step hE4
      have hB4 := hB3.trans (hE4.mono (Nat.le_of_lt M3.lt))
      have y5 : w4.cell? ⟨gc, k * 2, none⟩ = some (.int .i64 p0) := hC4.2.1
      have y6 : w4.cell? ⟨gc, k * 2 + 1, none⟩ = some (.int .i64 p1) := hC4.2.2.1
      have g5 := C4.free (k * 2)
      have g6 := C4.free (k * 2 + 1)
      refine wpSeqU_last_store (by first | rfl | (rw [hY]; rfl)) (by go_simp; first | with_reducible exact ⟨rfl, rfl⟩ | with_reducible rfl) ?_
      simp only [Act.put, List.setIfInBounds_toArray, List.set_cons_zero, List.set_cons_succ]
      refine wpSeqU_done (hF.out _ _ (fun K hK => ?_))
      clear hF hY
      have M5 := (M4.other gc (k * 2) (.int .i64 s1) dS2).other gc (k * 2 + 1) (.int .i64 n1) dS2
      have R5 := (R4.other gc (k * 2) (.int .i64 s1) dR).other gc (k * 2 + 1) (.int .i64 n1) dR
      have hB5 := (hB4.setCell (p := ⟨gc, k * 2, none⟩) (show S ≤ gc by omega) (.int .i64 s1)).setCell (p := ⟨gc, k * 2 + 1, none⟩) (show S ≤ gc by omega) (.int .i64 n1)
      have C5 := (C4.set (i := k * 2) (by rw [Cts_length]; omega) (.int .i64 s1)).set (i := k * 2 + 1) (by rw [List.length_set, Cts_length]; omega) (.int .i64 n1)
      rw [← Cts_set] at C5
      go_wp2_with fail
      refine OnlyK.mk (hK.out _ _ ?_)
      clear hK hC3 hC4 y5 y6 g5 g6 M4 R4 C4 hB4 M3 R3 C3 hB3
      obtain ⟨w5, hw5⟩ : ∃ w5, (w4.setCell ⟨gc, k * 2, none⟩ (.int .i64 s1)).setCell ⟨gc, k * 2 + 1, none⟩ (.int .i64 n1) = w5 := ⟨_, rfl⟩
      rw [hw5] at M5 R5 hB5 C5 ⊢
      clear hw5
      obtain ⟨x0, x1, x2, x3, x4, x5, x6, x7, x8⟩ := M5.nine
      have f5 := M5.free 5
      have f4 := (M5.set 5 (.int .i64 0)).free 4
      have u4 := (M5.set 5 (.int .i64 0)).cell 4
      have M7 := (M5.set 5 (.int .i64 0)).set 4 (.int .i64 0)
      have R7 := (R5.other S 5 (.int .i64 0) (by omega)).other S 4 (.int .i64 0) (by omega)
      have hB7 := (hB5.setCell (p := ⟨S, 5, none⟩) (Nat.le_refl S) (.int .i64 0)).setCell (p := ⟨S, 4, none⟩) (Nat.le_refl S) (.int .i64 0)
      have C7 := (C5.other S 5 (.int .i64 0) dS).other S 4 (.int .i64 0) dS
      simp only [List.set_cons_zero, List.set_cons_succ] at M7 u4
      obtain ⟨w7, hw7⟩ : ∃ w7, (w5.setCell ⟨S, 5, none⟩ (.int .i64 0)).setCell ⟨S, 4, none⟩ (.int .i64 0) = w7 := ⟨_, rfl⟩
      rw [hw7] at M7 R7 hB7 C7
      clear M5 R5 hB5 C5
      have HL0 := HM.out.step (below_of hS hB7)
      have M9 : Blk w7 S (MVals (S12.learn m b) ⟨p.ah, p.ch, p.ab, p.cb, some ⟨gc, 0, none⟩, cap2⟩) 27 := by
        rw [Hlearn.out]; unfold MVals; simp only [List.length_set]; exact M7
      have MI9 : MIs (S12.learn m b) ⟨p.ah, p.ch, p.ab, p.cb, some ⟨gc, 0, none⟩, cap2⟩ w7 := by
        rw [Hlearn.out]; exact ⟨HL0.rdh, HL0.rdb, C7.rd, HL0.byt, HL0.cb, HL0.lh, HL0.lb, by simp only [List.length_set]; exact HL0.lc⟩
      have HapS : RowKit.Hid (Ap (S12.learn m b) ⟨p.ah, p.ch, p.ab, p.cb, some ⟨gc, 0, none⟩, cap2⟩ S) := by
        rw [Hlearn.out]; exact Lib.hid ⟨HA1.out.1, HA1.out.2.1, fun g o e _ => by cases e; omega⟩
      have HapR : RowKit.Hid (Ap (S12.learn m b) ⟨p.ah, p.ch, p.ab, p.cb, some ⟨gc, 0, none⟩, cap2⟩ (S + 1)) := by
        rw [Hlearn.out]; exact Lib.hid ⟨HA2.out.1, HA2.out.2.1, fun g o e _ => by cases e; omega⟩
      have HmR : RowKit.Hid (mR = S12.expect (S12.take (S12.learn m b) (2 * (S12.learn m b).part + b))) := Lib.hid HmR0.out.symm
      obtain ⟨n, hn⟩ : ∃ n, S12.learn m b = n := ⟨_, rfl⟩
      obtain ⟨qn, hqn⟩ : ∃ qn : Pl, (⟨p.ah, p.ch, p.ab, p.cb, some ⟨gc, 0, none⟩, cap2⟩ : Pl) = qn := ⟨_, rfl⟩
      rw [hn] at M9 MI9 HapS HapR HmR HL
      rw [hqn] at M9 MI9 HapS HapR
      have R9 := R7
      have hB9 := hB7
      unfold MVals at M9
      clear HL0 hn hqn Hlearn M7 C7 R7 hB7 HA1 HA2 eb dl1 dS dS2 dR hkl
      obtain ⟨P, hP⟩ : ∃ P, 2 * n.part + b = P := ⟨_, rfl⟩
      have hL := HL.out
      have hpr : 1 ≤ n.part ∧ n.part ≤ 255 := by rw [hL.part]; exact HWF.out.part
      have hPr : 2 ≤ P ∧ P ≤ 511 := by omega
      have hPf : 256 ≤ P := by have := hL.part; have := HFul.out; omega
      have hPd : decide (255 < P) = true := by simp; omega
      have hmR : mR = S12.expect (S12.take n P) := by rw [HmR.out, hP]
      have ht : S12.take n P = S12.search (S12.extend { n with bytes := n.bytes ++ [P - 256], part := 1 }) := by unfold S12.take; rw [if_pos (by omega)]
      rw [ht] at hmR
      obtain ⟨x0, x1, x2, x3, x4, x5, x6, x7, x8⟩ := M9.nine
      have f6 := M9.free 6
      have M6 := M9.set 6 (.int .i64 P)
      have R6 := R9.other S 6 (.int .i64 P) (by omega)
      have hB6 := hB9.setCell (p := ⟨S, 6, none⟩) (Nat.le_refl S) (.int .i64 P)
      have MI6 : MIs { n with part := P } qn (w7.setCell ⟨S, 6, none⟩ (.int .i64 P)) := by
        have h := MI9.setO HapS.out 6 (.int .i64 P)
        exact ⟨h.rdh, h.rdb, h.rdc, h.byt, h.cb, h.lh, h.lb, h.lc⟩
      simp only [List.set_cons_zero, List.set_cons_succ] at M6
      obtain ⟨w6, hw6⟩ : ∃ w6, w7.setCell ⟨S, 6, none⟩ (.int .i64 P) = w6 := ⟨_, rfl⟩
      rw [hw6] at M6 R6 hB6 MI6
      obtain ⟨z0, z1, z2, z3, z4, z5, z6, z7, z8⟩ := M6.nine
      clear M9 R9 hB9 MI9 hmR ht
      obtain ⟨yn, hyn⟩ : ∃ yn : Nat, P - 256 = yn := ⟨(P - 256).toNat, by omega⟩
      have hyn2 : yn < 256 := by omega
      have hPy : P = 256 + (yn : Int) := by omega
      have hfull9 := S12.full_ok HWF.out hL HM.out.byt (show 0 ≤ (yn : Int) ∧ (yn : Int) < 256 by omega)
      have HmR2 : RowKit.Hid (mR = S12.expect (S12.search (S12.extend { n with bytes := n.bytes ++ [(yn : Int)], part := 1 }))) := by
        have hmR : mR = S12.expect (S12.take n P) := by rw [HmR.out, hP]
        refine Lib.hid ?_
        rw [hmR]
        unfold S12.take
        rw [if_pos (by omega), hyn]
      have hla : (0 ≤ n.len ∧ n.len ≤ 255) ∧ (0 ≤ n.at_ ∧ n.at_ ≤ 65536) := by
        rcases hL.alt with ⟨a1, a2⟩ | ⟨a1, a2, a3, a4⟩
        · omega
        · have hMt := HWF.out.Mat a1
          have c1 := hMt.len
          have c2 := hMt.at_
          have c3 := HWF.out.few
          omega
      have HC := Lib.hid fun W (hW : MIs { n with part := P } qn W) => show Calls Try.prog 51 #[.agg #[.int .i64 n.bits, .int .i64 n.least, .slice (qn).ah n.heads.length (qn).ch, .slice (qn).ab n.bytes.length (qn).cb, .int .i64 n.at_, .int .i64 n.len, .int .i64 P, .int .i64 n.bit, .slice (qn).ac n.ctrs.length (qn).cc]] W _ from rcomplete12_m { n with part := P } qn W yn (by simp only; rw [hL.bits]; exact HWF.out.bits) (by simp only; rw [hL.least]; exact HWF.out.least) (by simp only; rw [hL.heads, hL.bits]; exact HWF.out.heads) (by simp only; rw [hL.heads, hL.bytes]; exact HWF.out.head) (by simp only; rw [hL.bytes]; have := HRoom.out; have := HFul.out; have := HWF.out.few; omega) hPy hyn2 hla.1 hla.2 hW
      clear hL hfull9 hla hPy hyn
      go_wp2_with fail
      refine (HC.out _ MI6).mono ?_
      rintro e w8 ⟨q8, rfl, MI8, hn8, hb8⟩
      obtain ⟨t8, ht8⟩ : ∃ t8, S12.search (S12.extend { n with bytes := n.bytes ++ [(yn : Int)], part := 1 }) = t8 := ⟨_, rfl⟩
      have HapS8 := HapS.out.new (m' := t8) (Nat.lt_trans (Nat.lt_succ_self S) R6.lt) hn8 (by rw [← ht8]; exact S12.se_heads _) (by rw [← ht8]; exact S12.se_ctrs _)
      have HapR8 := HapR.out.new (m' := t8) R6.lt hn8 (by rw [← ht8]; exact S12.se_heads _) (by rw [← ht8]; exact S12.se_ctrs _)
      rw [ht8] at HmR2 MI8 ⊢
      have M8 := M6.step hb8
      have R8 := R6.step hb8
      have hB8 := hB6.trans (hb8.mono (Nat.le_of_lt M6.lt))
      clear HC M6 R6 hB6 MI6 HapS HapR hn8 x0 x1 x2 x3 x4 x5 x6 x7 x8 z0 z1 z2 z3 z4 z5 z6 z7 z8 f6 hw6
      have HapS := Lib.hid HapS8
      have HapR := Lib.hid HapR8
      obtain ⟨x0, x1, x2, x3, x4, x5, x6, x7, x8⟩ := M8.nine
      have fq0 := M8.free 0
      have fq1 := M8.free 1
      have fq2 := M8.free 2
      have fq3 := M8.free 3
      have fq4 := M8.free 4
      have fq5 := M8.free 5
      have fq6 := M8.free 6
      have fq7 := M8.free 7
      have fq8 := M8.free 8
      have M9 := M8.put9 (.int .i64 t8.bits) (.int .i64 t8.least) (.slice q8.ah t8.heads.length q8.ch) (.slice q8.ab t8.bytes.length q8.cb) (.int .i64 t8.at_) (.int .i64 t8.len) (.int .i64 t8.part) (.int .i64 t8.bit) (.slice q8.ac t8.ctrs.length q8.cc)
      have R9 := R8.other9 (b := S) (by omega) (.int .i64 t8.bits) (.int .i64 t8.least) (.slice q8.ah t8.heads.length q8.ch) (.slice q8.ab t8.bytes.length q8.cb) (.int .i64 t8.at_) (.int .i64 t8.len) (.int .i64 t8.part) (.int .i64 t8.bit) (.slice q8.ac t8.ctrs.length q8.cc)
      have hB9 := below_put9 hB8 (Nat.le_refl S) (.int .i64 t8.bits) (.int .i64 t8.least) (.slice q8.ah t8.heads.length q8.ch) (.slice q8.ab t8.bytes.length q8.cb) (.int .i64 t8.at_) (.int .i64 t8.len) (.int .i64 t8.part) (.int .i64 t8.bit) (.slice q8.ac t8.ctrs.length q8.cc)
      have MI9 := MI8.put9 HapS.out.1 HapS.out.2.1 HapS.out.2.2 (.int .i64 t8.bits) (.int .i64 t8.least) (.slice q8.ah t8.heads.length q8.ch) (.slice q8.ab t8.bytes.length q8.cb) (.int .i64 t8.at_) (.int .i64 t8.len) (.int .i64 t8.part) (.int .i64 t8.bit) (.slice q8.ac t8.ctrs.length q8.cc)
      obtain ⟨w9, hw9⟩ : ∃ w9, ((((((((((w8.setCell ⟨S, 0, none⟩ (.int .i64 t8.bits)).setCell ⟨S, 1, none⟩ (.int .i64 t8.least)).setCell ⟨S, 2, none⟩ (.slice q8.ah t8.heads.length q8.ch)).setCell ⟨S, 3, none⟩ (.slice q8.ab t8.bytes.length q8.cb)).setCell ⟨S, 4, none⟩ (.int .i64 t8.at_)).setCell ⟨S, 5, none⟩ (.int .i64 t8.len)).setCell ⟨S, 6, none⟩ (.int .i64 t8.part)).setCell ⟨S, 7, none⟩ (.int .i64 t8.bit)).setCell ⟨S, 8, none⟩ (.slice q8.ac t8.ctrs.length q8.cc))) = w9 := ⟨_, rfl⟩
      rw [hw9] at M9 R9 hB9 MI9
      clear M8 R8 hB8 MI8
      unfold MV MVals
      obtain ⟨x0, x1, x2, x3, x4, x5, x6, x7, x8⟩ := M9.nine
      have f7 := M9.free 7
      have MB := M9.set 7 (.int .i64 2)
      have RB := R9.other S 7 (.int .i64 2) (by omega)
      have hBB := hB9.setCell (p := ⟨S, 7, none⟩) (Nat.le_refl S) (.int .i64 2)
      have IB := MI9.setO HapS.out 7 (.int .i64 2)
      simp only [List.set_cons_zero, List.set_cons_succ] at MB
      obtain ⟨wB, hwB⟩ : ∃ wB, w9.setCell ⟨S, 7, none⟩ (.int .i64 2) = wB := ⟨_, rfl⟩
      rw [hwB] at MB RB hBB IB
      obtain ⟨z0, z1, z2, z3, z4, z5, z6, z7, z8⟩ := MB.nine
      have lS := MB.lt
      have lR := RB.lt
      clear M9 R9 hB9 MI9
      by_cases hln : 0 < (t8).len
      · skip
        have eR : mR = { t8 with bit := S12.expI ((t8).bytes.getD (t8).at_.toNat 0) (t8).part } := by rw [HmR2.out]; unfold S12.expect; rw [if_pos hln]
        have hWR : S12.WF { t8 with bit := S12.expI ((t8).bytes.getD (t8).at_.toNat 0) (t8).part } := by rw [← eR]; exact HWF'.out
        have hma := hWR.Mat (show (t8).len ≠ 0 by omega)
        have hma1 : (t8).len ≤ (t8).at_ ∧ (t8).at_ ≤ ((t8).bytes.length : Int) - 1 := hma.at_
        have hma2 : 1 ≤ (t8).len ∧ (t8).len ≤ 255 := hma.len
        have hpt : 1 ≤ (t8).part ∧ (t8).part ≤ 255 := hWR.part
        obtain ⟨pt, hptn⟩ : ∃ pt : Nat, (t8).part = pt := ⟨(t8).part.toNat, by omega⟩
        obtain ⟨q, hq⟩ : ∃ q : Nat, (t8).at_ = q := ⟨(t8).at_.toNat, by omega⟩
        have hbyT : S12.Byt (t8).bytes := IB.byt
        have hx0 : 0 ≤ (t8).bytes.getD q 0 := hbyT.get q
        have hx1 : ((t8).bytes.getD q 0).toNat < 256 := hbyT.at q
        obtain ⟨xn, hxn⟩ : ∃ xn : Nat, (t8).bytes.getD q 0 = xn := ⟨((t8).bytes.getD q 0).toNat, (Int.toNat_of_nonneg hx0).symm⟩
        have hxn2 : xn < 256 := by rw [hxn] at hx1; omega
        obtain ⟨gB, oB, eB, hcB⟩ := Bts_at IB.rdb (i := q) (show q < (t8).bytes.length by omega)
        have hcB2 := hcB q (show q < (t8).bytes.length by omega)
        (try simp only at eB hcB2)
        rw [show (t8).bytes.getD q 0 = (xn : Int) from hxn] at hcB2
        have hql : q < (t8).bytes.length := by omega
        have hgS : ¬ gB = S := HapS.out.2.1 gB oB eB (fun h => by have h2 : (Bts (t8).bytes).length = 0 := (by rw [h]; rfl); rw [Bts_length] at h2; omega)
        have hgS2 : ¬ S = gB := fun h => hgS h.symm
        have hC21 : HasC [(⟨S, 3, none⟩, .slice (some ⟨gB, oB, none⟩) (t8).bytes.length (q8).cb), (⟨S, 4, none⟩, .int .i64 (q : Int)), (⟨S, 6, none⟩, .int .i64 (pt : Int)), (⟨gB, oB + q, none⟩, .int .u8 (xn : Int))] wB :=
          ⟨by rw [← eB]; exact z3, by rw [← hq]; exact z4, by rw [← hptn]; exact z6, hcB2, trivial⟩
        have HEx := Lib.hid fun W => rexpected12_any xn pt hxn2 (by omega) (by omega) W
        obtain ⟨bv, hbv⟩ : ∃ bv, S12.optN (S12.exp xn (pt : Int)) = bv := ⟨_, rfl⟩
        have hbv2 : S12.expI ((t8).bytes.getD (t8).at_.toNat 0) (t8).part = bv := by rw [S12.expI_eq, hq, Int.toNat_natCast, hxn, Int.toNat_natCast, hptn, hbv]
        rw [hbv] at HEx
        rw [hbv2] at eR
        have HeR := Lib.hid eR
        obtain ⟨isS, hisS⟩ : ∃ isS, (S12.exp xn (pt : Int)).isSome = isS := ⟨_, rfl⟩
        rw [hisS] at HEx
        have eln : decide (0 < (t8).len) = true := decide_eq_true hln
        have Hqq := Lib.hid hq
        have HeB := Lib.hid eB
        clear hma hma1 hma2 hWR hbv hbv2 hxn hcB hcB2 eR hisS hln hpt hx0 hx1 hq hptn eB hbyT
        go_wp2_with fail
        clear x0 x1 x2 x3 x4 x5 x6 x7 x8 f7 eln z0 z1 z2 z3 z4 z5 z6 z7 z8
        refine wp_region_useq 13 14 0 [(.p, [true]), (.r, [false, true]), (.p, [false, false, true]), (.r, [false, false, false, true]), (.p, [false, false, false, false, true]), (.r, [false, false, false, false, false, true]), (.p, [false, false, false, false, false, false, true]), (.r, [false, false, false, false, false, false, false, true]), (.e, [false, false, false, false, false, false, false, false, true]), (.p, [false, false, false, false, false, false, false, false, false, true, true, true, true]), (.l, [false, false, false, false, false, false, false, false, false, false, false, false, false, true])] _ _ (HasC [(⟨S, 3, none⟩, .slice (some ⟨gB, oB, none⟩) (t8).bytes.length (q8).cb), (⟨S, 4, none⟩, .int .i64 (q : Int)), (⟨S, 6, none⟩, .int .i64 (pt : Int)), (⟨gB, oB + q, none⟩, .int .u8 (xn : Int))]) (by kernel_rfl) (List.take_append_drop 14 _).symm (by kernel_rfl) (by kernel_rfl) (by kernel_rfl) (by kernel_rfl) (hC21) (fun Y Q4 F4 hY hF => ?_)
        simp only [phasedU, List.flatMap_cons, List.flatMap_nil, List.take_succ_cons, List.take_zero, List.drop_succ_cons, List.drop_zero, sel_true, sel_false, sel_nil, List.map_cons, List.map_nil, List.cons_append, List.nil_append, List.append_nil]
        repeat
          first
            | (apply wpSeqU_pure (by first | rfl | (rw [hY]; rfl))
               · intro w2
                 go_simp
                 with_reducible rfl
               simp only [Act.put, List.setIfInBounds_toArray, List.set_cons_zero, List.set_cons_succ])
            | (apply wpSeqU_read (by first | rfl | (rw [hY]; rfl))
               · intro w2 hS2
                 (try simp only [Keeps, Cells] at hS2)
                 (try simp only [HasC, Cells] at hS2)
                 go_simp
                 with_reducible rfl
               simp only [Act.put, List.setIfInBounds_toArray, List.set_cons_zero, List.set_cons_succ])
        apply wpSeqU_call (by first | rfl | (rw [hY]; rfl))
        · go_simp
          with_reducible exact ⟨rfl, rfl⟩
        refine (HEx.out _).mono ?_
        rintro e w22 ⟨rfl, hb22⟩
        have hE22 := below_trans (below_drew wB.heap.size wB) hb22
        refine ⟨_, rfl, Cells.step hE22 hC21, ?_⟩
        simp only [Act.put, List.setIfInBounds_toArray, List.set_cons_zero, List.set_cons_succ]
        repeat
          first
            | (apply wpSeqU_pure (by first | rfl | (rw [hY]; rfl))
               · intro w2
                 go_simp
                 with_reducible rfl
               simp only [Act.put, List.setIfInBounds_toArray, List.set_cons_zero, List.set_cons_succ])
            | (apply wpSeqU_read (by first | rfl | (rw [hY]; rfl))
               · intro w2 hS2
                 (try simp only [Keeps, Cells] at hS2)
                 (try simp only [HasC, Cells] at hS2)
                 go_simp
                 with_reducible rfl
               simp only [Act.put, List.setIfInBounds_toArray, List.set_cons_zero, List.set_cons_succ])
        have M22 := MB.step hE22
        have y7 := M22.cell 7
        have f7 := M22.free 7
        refine wpSeqU_last_store (by first | rfl | (rw [hY]; rfl)) (by go_simp; first | with_reducible exact ⟨rfl, rfl⟩ | with_reducible rfl) ?_
        simp only [Act.put, List.setIfInBounds_toArray, List.set_cons_zero, List.set_cons_succ]
        refine wpSeqU_done (hF.out _ _ (fun K hK => ?_))
        clear hF hY
        have R23 := (RB.step hE22).other S 7 (.int .i64 bv) (by omega)
        have M23 := M22.set 7 (.int .i64 bv)
        have hB23 := (hBB.trans (hE22.mono (Nat.le_of_lt lS))).setCell (p := ⟨S, 7, none⟩) (Nat.le_refl S) (.int .i64 bv)
        have I23 := (IB.step hE22).setO HapS.out 7 (.int .i64 bv)
        simp only [List.set_cons_zero, List.set_cons_succ] at M23
        go_wp2_with fail
        refine OnlyK.mk (hK.out _ _ ?_)
        clear hK y7 f7 hC21 M22
        obtain ⟨w23, hw23⟩ : ∃ w23, w22.setCell ⟨S, 7, none⟩ (.int .i64 bv) = w23 := ⟨_, rfl⟩
        rw [hw23] at M23 hB23 R23 I23 ⊢
        clear hw23
        obtain ⟨x0, x1, x2, x3, x4, x5, x6, x7, x8⟩ := M23.nine
        obtain ⟨z0, z1, z2, z3, z4, z5, z6, z7, z8⟩ := R23.nine
        have fr0 := R23.free 0
        have fr1 := R23.free 1
        have fr2 := R23.free 2
        have fr3 := R23.free 3
        have fr4 := R23.free 4
        have fr5 := R23.free 5
        have fr6 := R23.free 6
        have fr7 := R23.free 7
        have fr8 := R23.free 8
        have Hm : RowKit.Hid (MIs { t8 with bit := bv } q8 w23) := Lib.hid ⟨I23.rdh, I23.rdb, I23.rdc, I23.byt, I23.cb, I23.lh, I23.lb, I23.lc⟩
        have hBF := Lib.hid (below_put9 hB23 (Nat.le_succ S) (.int .i64 (t8).bits) (.int .i64 (t8).least) (.slice (q8).ah (t8).heads.length (q8).ch) (.slice (q8).ab (t8).bytes.length (q8).cb) (.int .i64 (t8).at_) (.int .i64 (t8).len) (.int .i64 (t8).part) (.int .i64 bv) (.slice (q8).ac (t8).ctrs.length (q8).cc))
        have eR := HeR.out
        subst eR
        obtain ⟨y0, y1, y2, y3, y4, y5, y6, y7, y8⟩ := (R23.put9 (.int .i64 (t8).bits) (.int .i64 (t8).least) (.slice (q8).ah (t8).heads.length (q8).ch) (.slice (q8).ab (t8).bytes.length (q8).cb) (.int .i64 (t8).at_) (.int .i64 (t8).len) (.int .i64 (t8).part) (.int .i64 bv) (.slice (q8).ac (t8).ctrs.length (q8).cc)).nine
        clear M23 R23 hB23 I23
        go_wp2_with (exact bodyPost_ret (v := .tuple #[MV { t8 with bit := bv } q8, .int .i64 0]) (by simp [results, Try.results23, go_sem, MV, MVals, y0, y1, y2, y3, y4, y5, y6, y7, y8]) rfl ⟨q8, rfl, Hm.out.put9 HapR.out.1 HapR.out.2.1 HapR.out.2.2 _ _ _ _ _ _ _ _ _, hS ▸ hBF.out⟩)
      · skip
        have eR : mR = { t8 with bit := 2 } := by rw [HmR2.out]; unfold S12.expect; rw [if_neg hln]
        have eln : decide (0 < (t8).len) = false := decide_eq_false hln
        obtain ⟨r0, r1, r2, r3, r4, r5, r6, r7, r8⟩ := RB.nine
        have fr0 := RB.free 0
        have fr1 := RB.free 1
        have fr2 := RB.free 2
        have fr3 := RB.free 3
        have fr4 := RB.free 4
        have fr5 := RB.free 5
        have fr6 := RB.free 6
        have fr7 := RB.free 7
        have fr8 := RB.free 8
        have Hm : RowKit.Hid (MIs { t8 with bit := 2 } q8 wB) := Lib.hid ⟨IB.rdh, IB.rdb, IB.rdc, IB.byt, IB.cb, IB.lh, IB.lb, IB.lc⟩
        have hBF := Lib.hid (below_put9 hBB (Nat.le_succ S) (.int .i64 (t8).bits) (.int .i64 (t8).least) (.slice (q8).ah (t8).heads.length (q8).ch) (.slice (q8).ab (t8).bytes.length (q8).cb) (.int .i64 (t8).at_) (.int .i64 (t8).len) (.int .i64 (t8).part) (.int .i64 2) (.slice (q8).ac (t8).ctrs.length (q8).cc))
        subst eR
        obtain ⟨y0, y1, y2, y3, y4, y5, y6, y7, y8⟩ := (RB.put9 (.int .i64 (t8).bits) (.int .i64 (t8).least) (.slice (q8).ah (t8).heads.length (q8).ch) (.slice (q8).ab (t8).bytes.length (q8).cb) (.int .i64 (t8).at_) (.int .i64 (t8).len) (.int .i64 (t8).part) (.int .i64 2) (.slice (q8).ac (t8).ctrs.length (q8).cc)).nine
        clear MB RB hBB IB hln
        go_wp2_with (exact bodyPost_ret (v := .tuple #[MV { t8 with bit := 2 } q8, .int .i64 0]) (by simp [results, Try.results23, go_sem, MV, MVals, y0, y1, y2, y3, y4, y5, y6, y7, y8]) rfl ⟨q8, rfl, Hm.out.put9 HapR.out.1 HapR.out.2.1 HapR.out.2.2 _ _ _ _ _ _ _ _ _, hS ▸ hBF.out⟩)
set_option maxRecDepth 100000 in
set_option maxHeartbeats 4000000 in
theorem rbit12_part0 (m : S12.M) (p : Pl) (b : Int) (w : World) (hM : MIs m p w) (hE : S12.bitE m b = 0) (hfull : ¬ 128 ≤ m.part) (hbv : b = 0) :
    Calls Try.prog 23 #[MV m p, .int .i64 b] w fun e w' => ∃ p', e = .returned (.tuple #[MV (S12.bitM m b) p', .int .i64 0]) ∧ MIs (S12.bitM m b) p' w' ∧ Below w.heap.size w w' := by
  have hck : S12.check m = 0 := by
    cases h : decide (S12.check m = 0) with
    | true => exact of_decide_eq_true h
    | false => unfold S12.bitE at hE; rw [if_pos (of_decide_eq_false h)] at hE; exact hE
  have hWF := (S12.check_iff m).1 hck
  have hbb : b = 0 ∨ b = 1 := by omega
  have hroom : ¬ (128 ≤ m.part ∧ 65536 ≤ m.bytes.length) := by
    unfold S12.bitE at hE
    rw [if_neg (by rw [hck]; simp), if_neg (by omega)] at hE
    split at hE
    · cases hE
    · assumption
  have HWF' := Lib.hid (hWF.bitM hM.byt hbb hE)
  have HCk := Lib.hid fun W hW => rcheck12_any m p W hW
  rw [hck] at HCk
  have HL := Lib.hid (hWF.learn b)
  have dc : decide (128 ≤ m.part) = false := by simp; omega
  have hlb : m.bytes.length ≤ 65536 := hWF.few
  have hmat : m.len = 0 ∨ (1 ≤ m.len ∧ m.len ≤ 255) := by
    rcases (S12.matched_iff m).1 hWF.mat with ⟨h, _⟩ | h
    · exact .inl h
    · exact .inr h.len
  have H16 := Lib.hid hWF.ctrs
  have HWF := Lib.hid hWF
  have HM := Lib.hid hM
  have HRoom := Lib.hid hroom
  have HFul := Lib.hid hfull
  have HA1 := Lib.hid (hM.ap (Nat.le_refl w.heap.size))
  have HA2 := Lib.hid (hM.ap (Nat.le_succ w.heap.size))
  have hB0 : Below w.heap.size w ((w.alloc (.cells (MVals m p).toArray 27)).alloc (.cells #[.int .i64 0, .int .i64 0, .slice none 0 0, .slice none 0 0, .int .i64 0, .int .i64 0, .int .i64 0, .int .i64 0, .slice none 0 0] 27)) := by go_grown
  have A0 : Blk ((w.alloc (.cells (MVals m p).toArray 27)).alloc (.cells #[.int .i64 0, .int .i64 0, .slice none 0 0, .slice none 0 0, .int .i64 0, .int .i64 0, .int .i64 0, .int .i64 0, .slice none 0 0] 27)) w.heap.size (MVals m p) 27 := (Blk.new w _ _).alloc _
  have R0 : Blk ((w.alloc (.cells (MVals m p).toArray 27)).alloc (.cells #[.int .i64 0, .int .i64 0, .slice none 0 0, .slice none 0 0, .int .i64 0, .int .i64 0, .int .i64 0, .int .i64 0, .slice none 0 0] 27)) (w.heap.size + 1) [.int .i64 0, .int .i64 0, .slice none 0 0, .slice none 0 0, .int .i64 0, .int .i64 0, .int .i64 0, .int .i64 0, .slice none 0 0] 27 := by
    have h := Blk.new (w.alloc (.cells (MVals m p).toArray 27)) [.int .i64 0, .int .i64 0, .slice none 0 0, .slice none 0 0, .int .i64 0, .int .i64 0, .int .i64 0, .int .i64 0, .slice none 0 0] 27
    simpa using h
  clear hE hck hWF hM hroom hfull
  obtain ⟨mR, hmR⟩ : ∃ mR, S12.bitM m b = mR := ⟨_, rfl⟩
  rw [hmR] at HWF' ⊢
  have HmR0 := Lib.hid hmR
  clear hmR
  unfold MV at HCk
  unfold MVals at HCk A0 R0 hB0
  show Calls Try.prog 23 #[.agg #[.int .i64 m.bits, .int .i64 m.least, .slice p.ah m.heads.length p.ch, .slice p.ab m.bytes.length p.cb, .int .i64 m.at_, .int .i64 m.len, .int .i64 m.part, .int .i64 m.bit, .slice p.ac m.ctrs.length p.cc], .int .i64 b] w _
  obtain ⟨S, hS⟩ : ∃ S, w.heap.size = S := ⟨_, rfl⟩
  rw [hS] at A0 R0 hB0 HA1 HA2
  obtain ⟨x0, x1, x2, x3, x4, x5, x6, x7, x8⟩ := A0.nine
  obtain ⟨w0, hw0⟩ : ∃ w0, ((w.alloc (.cells #[.int .i64 m.bits, .int .i64 m.least, .slice p.ah m.heads.length p.ch, .slice p.ab m.bytes.length p.cb, .int .i64 m.at_, .int .i64 m.len, .int .i64 m.part, .int .i64 m.bit, .slice p.ac m.ctrs.length p.cc] 27)).alloc (.cells #[.int .i64 0, .int .i64 0, .slice none 0 0, .slice none 0 0, .int .i64 0, .int .i64 0, .int .i64 0, .int .i64 0, .slice none 0 0] 27)) = w0 := ⟨_, rfl⟩
  rw [hw0] at hB0 A0 R0 x0 x1 x2 x3 x4 x5 x6 x7 x8
  have e0 : (b != 0) = false := by rw [hbv]; rfl
  have e1 : (b != 1) = true := by rw [hbv]; rfl
  clear hbv
  rw [hS]
  go_enter Try.func23, Try.ntmps23
  go_wp2_with fail
  refine (HCk.out _ (HM.out.step (hS ▸ hB0))).mono ?_
  rintro e w1 ⟨rfl, hb1⟩
  have hB1 := hB0.trans (hb1.mono (Nat.le_of_lt A0.lt))
  have M1 := A0.step hb1
  have R1 := R0.step hb1
  clear x0 x1 x2 x3 x4 x5 x6 x7 x8 A0 R0 hw0 hb1 hB0
  obtain ⟨x0, x1, x2, x3, x4, x5, x6, x7, x8⟩ := M1.nine
  rcases hmat with h0 | h1
  · have hln : S12.learn m b = m := by unfold S12.learn; rw [if_pos h0]
    have dl0 : decide (0 < m.len) = false := decide_eq_false (by omega)
    have M5 : Blk w1 S (MVals (S12.learn m b) p) 27 := by rw [hln]; exact M1
    have MI5 : MIs (S12.learn m b) p w1 := by rw [hln]; exact HM.out.step (hS ▸ hB1)
    have HapS : RowKit.Hid (Ap (S12.learn m b) p S) := by rw [hln]; exact HA1
    have HapR : RowKit.Hid (Ap (S12.learn m b) p (S + 1)) := by rw [hln]; exact HA2
    have HmR : RowKit.Hid (mR = S12.expect (S12.take (S12.learn m b) (2 * (S12.learn m b).part + b))) := Lib.hid HmR0.out.symm
    have R5 := R1
    have hB5 := hB1
    obtain ⟨n, hn⟩ : ∃ n, S12.learn m b = n := ⟨_, rfl⟩
    rw [hn] at M5 MI5 HapS HapR HmR HL
    have en : n = m := by rw [← hn, hln]
    subst en
    unfold MVals at M5
    clear hn hln M1 R1 hB1 HA1 HA2
    have hn0 := Lib.hid h0
    clear h0
    obtain ⟨P, hP⟩ : ∃ P, 2 * n.part + b = P := ⟨_, rfl⟩
    have hL := HL.out
    have hpr : 1 ≤ n.part ∧ n.part ≤ 255 := by rw [hL.part]; exact HWF.out.part
    have hPr : 2 ≤ P ∧ P ≤ 511 := by omega
    have hPf : P ≤ 255 := by have := hL.part; have := HFul.out; omega
    have hPd : decide (255 < P) = false := by simp; omega
    have hmR : mR = S12.expect (S12.take n P) := by rw [HmR.out, hP]
    have ht : S12.take n P = { n with part := P } := by unfold S12.take; rw [if_neg (by omega)]
    rw [ht] at hmR
    obtain ⟨x0, x1, x2, x3, x4, x5, x6, x7, x8⟩ := M5.nine
    have f6 := M5.free 6
    have M6 := M5.set 6 (.int .i64 P)
    have R6 := R5.other S 6 (.int .i64 P) (by omega)
    have hB6 := hB5.setCell (p := ⟨S, 6, none⟩) (Nat.le_refl S) (.int .i64 P)
    have MI6 : MIs { n with part := P } p (w1.setCell ⟨S, 6, none⟩ (.int .i64 P)) := by
      have h := MI5.setO HapS.out 6 (.int .i64 P)
      exact ⟨h.rdh, h.rdb, h.rdc, h.byt, h.cb, h.lh, h.lb, h.lc⟩
    simp only [List.set_cons_zero, List.set_cons_succ] at M6
    obtain ⟨w6, hw6⟩ : ∃ w6, w1.setCell ⟨S, 6, none⟩ (.int .i64 P) = w6 := ⟨_, rfl⟩
    rw [hw6] at M6 R6 hB6 MI6
    obtain ⟨z0, z1, z2, z3, z4, z5, z6, z7, z8⟩ := M6.nine
    have HmR2 := Lib.hid hmR
    clear M5 R5 hB5 MI5 hmR ht
    clear hL HmR
    obtain ⟨x0, x1, x2, x3, x4, x5, x6, x7, x8⟩ := M6.nine
    have f7 := M6.free 7
    have MB := M6.set 7 (.int .i64 2)
    have RB := R6.other S 7 (.int .i64 2) (by omega)
    have hBB := hB6.setCell (p := ⟨S, 7, none⟩) (Nat.le_refl S) (.int .i64 2)
    have IB := MI6.setO HapS.out 7 (.int .i64 2)
    simp only [List.set_cons_zero, List.set_cons_succ] at MB
    obtain ⟨wB, hwB⟩ : ∃ wB, w6.setCell ⟨S, 7, none⟩ (.int .i64 2) = wB := ⟨_, rfl⟩
    rw [hwB] at MB RB hBB IB
    obtain ⟨z0, z1, z2, z3, z4, z5, z6, z7, z8⟩ := MB.nine
    have lS := MB.lt
    have lR := RB.lt
    clear M6 R6 hB6 MI6
    have hln : ¬ 0 < (({ n with part := P } : S12.M)).len := (by simp only; have := hn0.out; omega)
    have eR : mR = { ({ n with part := P } : S12.M) with bit := 2 } := by rw [HmR2.out]; unfold S12.expect; rw [if_neg hln]
    have eln : decide (0 < (({ n with part := P } : S12.M)).len) = false := decide_eq_false hln
    obtain ⟨r0, r1, r2, r3, r4, r5, r6, r7, r8⟩ := RB.nine
    have fr0 := RB.free 0
    have fr1 := RB.free 1
    have fr2 := RB.free 2
    have fr3 := RB.free 3
    have fr4 := RB.free 4
    have fr5 := RB.free 5
    have fr6 := RB.free 6
    have fr7 := RB.free 7
    have fr8 := RB.free 8
    have Hm : RowKit.Hid (MIs { ({ n with part := P } : S12.M) with bit := 2 } p wB) := Lib.hid ⟨IB.rdh, IB.rdb, IB.rdc, IB.byt, IB.cb, IB.lh, IB.lb, IB.lc⟩
    have hBF := Lib.hid (below_put9 hBB (Nat.le_succ S) (.int .i64 (({ n with part := P } : S12.M)).bits) (.int .i64 (({ n with part := P } : S12.M)).least) (.slice (p).ah (({ n with part := P } : S12.M)).heads.length (p).ch) (.slice (p).ab (({ n with part := P } : S12.M)).bytes.length (p).cb) (.int .i64 (({ n with part := P } : S12.M)).at_) (.int .i64 (({ n with part := P } : S12.M)).len) (.int .i64 (({ n with part := P } : S12.M)).part) (.int .i64 2) (.slice (p).ac (({ n with part := P } : S12.M)).ctrs.length (p).cc))
    subst eR
    obtain ⟨y0, y1, y2, y3, y4, y5, y6, y7, y8⟩ := (RB.put9 (.int .i64 (({ n with part := P } : S12.M)).bits) (.int .i64 (({ n with part := P } : S12.M)).least) (.slice (p).ah (({ n with part := P } : S12.M)).heads.length (p).ch) (.slice (p).ab (({ n with part := P } : S12.M)).bytes.length (p).cb) (.int .i64 (({ n with part := P } : S12.M)).at_) (.int .i64 (({ n with part := P } : S12.M)).len) (.int .i64 (({ n with part := P } : S12.M)).part) (.int .i64 2) (.slice (p).ac (({ n with part := P } : S12.M)).ctrs.length (p).cc)).nine
    clear MB RB hBB IB hln
    go_wp2_with (exact bodyPost_ret (v := .tuple #[MV { ({ n with part := P } : S12.M) with bit := 2 } p, .int .i64 0]) (by simp [results, Try.results23, go_sem, MV, MVals, y0, y1, y2, y3, y4, y5, y6, y7, y8]) rfl ⟨p, rfl, Hm.out.put9 HapR.out.1 HapR.out.2.1 HapR.out.2.2 _ _ _ _ _ _ _ _ _, hS ▸ hBF.out⟩)
  · have dl1 : decide (0 < m.len) = true := decide_eq_true (by omega)
    obtain ⟨k, hk⟩ : ∃ k : Nat, min m.len.toNat 15 = k := ⟨_, rfl⟩
    have hkm : min m.len 15 = (k : Int) := by omega
    obtain ⟨cp, hcp⟩ : ∃ cp, m.ctrs.getD k (0, 0) = cp := ⟨_, rfl⟩
    have hk16 : k < m.ctrs.length := by have := H16.out; omega
    have hok : S08.check cp.1 cp.2 255 = 0 := HWF.out.ctr cp (by rw [← hcp, S12.getD_in _ _ hk16]; exact List.getElem_mem hk16)
    have HU := Lib.hid fun r (hr : r = 0 ∨ r = 1) W => rupd12_ok hok hr W
    have hlearn : S12.learn m b = if b = m.bit then { m with ctrs := m.ctrs.set k (S08.step cp.1 cp.2 1, min (cp.2 + 1) 255) } else { m with ctrs := m.ctrs.set k (S08.step cp.1 cp.2 0, min (cp.2 + 1) 255), at_ := 0, len := 0 } := by
      unfold S12.learn
      rw [if_neg (by omega), hk, hcp]
    obtain ⟨p0, p1⟩ := cp
    have Hcp := Lib.hid hcp
    have Hk16 := Lib.hid hk16
    simp only at hlearn HU
    obtain ⟨n1, hn1⟩ : ∃ n1, min (p1 + 1) 255 = n1 := ⟨_, rfl⟩
    rw [hn1] at hlearn HU
    have hk9 : k < 16 := by omega
    clear hn1 hcp hk16 hok hk h1
    by_cases hbit : b = m.bit
    · rw [if_pos hbit] at hlearn
      have eb : (b == m.bit) = true := by simp [hbit]
      have HU1 := Lib.hid fun W => HU.out 1 (.inr rfl) W
      obtain ⟨s1, hs1⟩ : ∃ s1, S08.step p0 p1 1 = s1 := ⟨_, rfl⟩
      rw [hs1] at HU1 hlearn
      have Hlearn := Lib.hid hlearn
      clear HU hs1 hbit hlearn
      have hrdF := Lib.hid (((HM.out.step (hS ▸ hB1)).rdc).step ((Below.refl w1.heap.size w1).alloc (Nat.le_refl _) (Obj.cells #[] 35)))
      have HM1 := Lib.hid M1
      have HR1 := Lib.hid R1
      have HBB := Lib.hid hB1
      have l1 := R1.lt
      have lS1 := M1.lt
      have f8 := M1.free 8
      clear M1 R1 hB1
      go_wp2_with (first
        | (at_builtin
           refine wpList_append_rd _ _ 25 35 2 16 _ w1.heap.size elems_ctrs rfl rfl _ 0 [] rfl (World.ownsRow_made w1 #[] 0 (Nat.le_refl _) (by decide) rfl) p.ac m.ctrs.length p.cc (Cts m.ctrs) rfl (by rw [Cts_length]) hrdF.out (Cts_one _) (by have := H16.out; unfold maxLen; omega) (by have := H16.out; omega) (by simp) ?_
           intro a2 cap2 w2 hown2 hgrow2
           have hb2 : Below w1.heap.size w1 w2 := Below.grown (by go_grown) hgrow2 (by simp) (fun k e => by cases e; exact Nat.le_refl _)
           simp only [Nat.zero_add, List.nil_append] at hown2 ⊢
           obtain ⟨gc, rfl, hgc, hOC⟩ := Own.of_owns hown2 (by have := H16.out; omega) (by decide)
           clear hown2 hgrow2
           have M2 := HM1.out.step hb2
           have R2 := HR1.out.step hb2
           have hB2 := HBB.out.trans (hb2.mono (Nat.le_of_lt HM1.out.lt))
           have dS : ¬ gc = S := by omega
           have dS2 : ¬ S = gc := by omega
           have dR : ¬ S + 1 = gc := by omega
           have v8 := M2.cell 8
           have e8 := M2.free 8
           have M3 := M2.set 8 (.slice (some ⟨gc, 0, none⟩) m.ctrs.length cap2)
           have R3 := R2.other S 8 (.slice (some ⟨gc, 0, none⟩) m.ctrs.length cap2) (by omega)
           have hB3 := hB2.setCell (p := ⟨S, 8, none⟩) (Nat.le_refl S) (.slice (some ⟨gc, 0, none⟩) m.ctrs.length cap2)
           have C3 := hOC.other S 8 (.slice (some ⟨gc, 0, none⟩) m.ctrs.length cap2) dS
           simp only [List.set_cons_zero, List.set_cons_succ] at M3
           obtain ⟨w3, hw3⟩ : ∃ w3, w2.setCell ⟨S, 8, none⟩ (.slice (some ⟨gc, 0, none⟩) m.ctrs.length cap2) = w3 := ⟨_, rfl⟩
           rw [hw3] at M3 R3 hB3 C3
           have hC3 : HasC [(⟨S, 8, none⟩, .slice (some ⟨gc, 0, none⟩) m.ctrs.length cap2), (⟨gc, k * 2, none⟩, .int .i64 p0), (⟨gc, k * 2 + 1, none⟩, .int .i64 p1)] w3 :=
             ⟨M3.cell 8, by rw [C3.cell (by have := Hk16.out; rw [Cts_length]; omega), (Cts_at Hk16.out).1, ← S12.getD_in _ (0, 0) Hk16.out, Hcp.out], by rw [C3.cell (by have := Hk16.out; rw [Cts_length]; omega), (Cts_at Hk16.out).2, ← S12.getD_in _ (0, 0) Hk16.out, Hcp.out], trivial⟩
           clear M2 R2 hB2 hOC))
      clear v8 e8 f8 hw3 x0 x1 x2 x3 x4 x5 x6 x7 x8
      have hkl := Hk16.out
      refine wp_region_useq 14 15 0 [(.p, [true]), (.r, [false, true]), (.p, [false, false, true, true]), (.r, [false, false, false, false, true]), (.p, [false, false, false, false, false, true, true]), (.r, [false, false, false, false, false, false, false, true]), (.p, [false, false, false, false, false, false, false, false, true]), (.e, [false, false, false, false, false, false, false, false, false, true]), (.p, [false, false, false, false, false, false, false, false, false, false, true, true, true, true]), (.l, [false, false, false, false, false, false, false, false, false, false, false, false, false, false, true])] _ _ (HasC [(⟨S, 8, none⟩, .slice (some ⟨gc, 0, none⟩) m.ctrs.length cap2), (⟨gc, k * 2, none⟩, .int .i64 p0), (⟨gc, k * 2 + 1, none⟩, .int .i64 p1)]) (by kernel_rfl) (List.take_append_drop 15 _).symm (by kernel_rfl) (by kernel_rfl) (by kernel_rfl) (by kernel_rfl) (hC3) (fun Y Q4 F4 hY hF => ?_)
      simp only [phasedU, List.flatMap_cons, List.flatMap_nil, List.take_succ_cons, List.take_zero, List.drop_succ_cons, List.drop_zero, sel_true, sel_false, sel_nil, List.map_cons, List.map_nil, List.cons_append, List.nil_append, List.append_nil]
      repeat
        first
          | (apply wpSeqU_pure (by first | rfl | (rw [hY]; rfl))
             · intro w2
               go_simp
               with_reducible rfl
             simp only [Act.put, List.setIfInBounds_toArray, List.set_cons_zero, List.set_cons_succ])
          | (apply wpSeqU_read (by first | rfl | (rw [hY]; rfl))
             · intro w2 hS2
               (try simp only [Keeps, Cells] at hS2)
               (try simp only [HasC, Cells] at hS2)
               go_simp
               with_reducible rfl
             simp only [Act.put, List.setIfInBounds_toArray, List.set_cons_zero, List.set_cons_succ])
      apply wpSeqU_call (by first | rfl | (rw [hY]; rfl))
      · go_simp
        with_reducible exact ⟨rfl, rfl⟩
      refine (HU1.out _).mono ?_
      rintro e w4 ⟨rfl, hb4⟩
      have hE4 := below_trans (below_drew w3.heap.size w3) hb4
      have hC4 := Cells.step hE4 hC3
      refine ⟨_, rfl, hC4, ?_⟩
      simp only [Act.put, List.setIfInBounds_toArray, List.set_cons_zero, List.set_cons_succ]
      repeat
        first
          | (apply wpSeqU_pure (by first | rfl | (rw [hY]; rfl))
             · intro w2
               go_simp
               with_reducible rfl
             simp only [Act.put, List.setIfInBounds_toArray, List.set_cons_zero, List.set_cons_succ])
          | (apply wpSeqU_read (by first | rfl | (rw [hY]; rfl))
             · intro w2 hS2
               (try simp only [Keeps, Cells] at hS2)
               (try simp only [HasC, Cells] at hS2)
               go_simp
               with_reducible rfl
             simp only [Act.put, List.setIfInBounds_toArray, List.set_cons_zero, List.set_cons_succ])
      have M4 := M3.step hE4
      have R4 := R3.step hE4
      have C4 := C3.step hE4
      have hB4 := hB3.trans (hE4.mono (Nat.le_of_lt M3.lt))
      have y5 : w4.cell? ⟨gc, k * 2, none⟩ = some (.int .i64 p0) := hC4.2.1
      have y6 : w4.cell? ⟨gc, k * 2 + 1, none⟩ = some (.int .i64 p1) := hC4.2.2.1
      have g5 := C4.free (k * 2)
      have g6 := C4.free (k * 2 + 1)
      refine wpSeqU_last_store (by first | rfl | (rw [hY]; rfl)) (by go_simp; first | with_reducible exact ⟨rfl, rfl⟩ | with_reducible rfl) ?_
      simp only [Act.put, List.setIfInBounds_toArray, List.set_cons_zero, List.set_cons_succ]
      refine wpSeqU_done (hF.out _ _ (fun K hK => ?_))
      clear hF hY
      have M5 := (M4.other gc (k * 2) (.int .i64 s1) dS2).other gc (k * 2 + 1) (.int .i64 n1) dS2
      have R5 := (R4.other gc (k * 2) (.int .i64 s1) dR).other gc (k * 2 + 1) (.int .i64 n1) dR
      have hB5 := (hB4.setCell (p := ⟨gc, k * 2, none⟩) (show S ≤ gc by omega) (.int .i64 s1)).setCell (p := ⟨gc, k * 2 + 1, none⟩) (show S ≤ gc by omega) (.int .i64 n1)
      have C5 := (C4.set (i := k * 2) (by rw [Cts_length]; omega) (.int .i64 s1)).set (i := k * 2 + 1) (by rw [List.length_set, Cts_length]; omega) (.int .i64 n1)
      rw [← Cts_set] at C5
      go_wp2_with fail
      refine OnlyK.mk (hK.out _ _ ?_)
      clear hK hC3 hC4 y5 y6 g5 g6 M4 R4 C4 hB4 M3 R3 C3 hB3
      obtain ⟨w5, hw5⟩ : ∃ w5, (w4.setCell ⟨gc, k * 2, none⟩ (.int .i64 s1)).setCell ⟨gc, k * 2 + 1, none⟩ (.int .i64 n1) = w5 := ⟨_, rfl⟩
      rw [hw5] at M5 R5 hB5 C5 ⊢
      clear hw5
      have HL0 := HM.out.step (below_of hS hB5)
      have M9 : Blk w5 S (MVals (S12.learn m b) ⟨p.ah, p.ch, p.ab, p.cb, some ⟨gc, 0, none⟩, cap2⟩) 27 := by
        rw [Hlearn.out]; unfold MVals; simp only [List.length_set]; exact M5
      have MI9 : MIs (S12.learn m b) ⟨p.ah, p.ch, p.ab, p.cb, some ⟨gc, 0, none⟩, cap2⟩ w5 := by
        rw [Hlearn.out]; exact ⟨HL0.rdh, HL0.rdb, C5.rd, HL0.byt, HL0.cb, HL0.lh, HL0.lb, by simp only [List.length_set]; exact HL0.lc⟩
      have HapS : RowKit.Hid (Ap (S12.learn m b) ⟨p.ah, p.ch, p.ab, p.cb, some ⟨gc, 0, none⟩, cap2⟩ S) := by
        rw [Hlearn.out]; exact Lib.hid ⟨HA1.out.1, HA1.out.2.1, fun g o e _ => by cases e; omega⟩
      have HapR : RowKit.Hid (Ap (S12.learn m b) ⟨p.ah, p.ch, p.ab, p.cb, some ⟨gc, 0, none⟩, cap2⟩ (S + 1)) := by
        rw [Hlearn.out]; exact Lib.hid ⟨HA2.out.1, HA2.out.2.1, fun g o e _ => by cases e; omega⟩
      have HmR : RowKit.Hid (mR = S12.expect (S12.take (S12.learn m b) (2 * (S12.learn m b).part + b))) := Lib.hid HmR0.out.symm
      obtain ⟨n, hn⟩ : ∃ n, S12.learn m b = n := ⟨_, rfl⟩
      obtain ⟨qn, hqn⟩ : ∃ qn : Pl, (⟨p.ah, p.ch, p.ab, p.cb, some ⟨gc, 0, none⟩, cap2⟩ : Pl) = qn := ⟨_, rfl⟩
      rw [hn] at M9 MI9 HapS HapR HmR HL
      rw [hqn] at M9 MI9 HapS HapR
      have R9 := R5
      have hB9 := hB5
      unfold MVals at M9
      clear HL0 hn hqn Hlearn M5 C5 R5 hB5 HA1 HA2 eb dl1 dS dS2 dR hkl
      obtain ⟨P, hP⟩ : ∃ P, 2 * n.part + b = P := ⟨_, rfl⟩
      have hL := HL.out
      have hpr : 1 ≤ n.part ∧ n.part ≤ 255 := by rw [hL.part]; exact HWF.out.part
      have hPr : 2 ≤ P ∧ P ≤ 511 := by omega
      have hPf : P ≤ 255 := by have := hL.part; have := HFul.out; omega
      have hPd : decide (255 < P) = false := by simp; omega
      have hmR : mR = S12.expect (S12.take n P) := by rw [HmR.out, hP]
      have ht : S12.take n P = { n with part := P } := by unfold S12.take; rw [if_neg (by omega)]
      rw [ht] at hmR
      obtain ⟨x0, x1, x2, x3, x4, x5, x6, x7, x8⟩ := M9.nine
      have f6 := M9.free 6
      have M6 := M9.set 6 (.int .i64 P)
      have R6 := R9.other S 6 (.int .i64 P) (by omega)
      have hB6 := hB9.setCell (p := ⟨S, 6, none⟩) (Nat.le_refl S) (.int .i64 P)
      have MI6 : MIs { n with part := P } qn (w5.setCell ⟨S, 6, none⟩ (.int .i64 P)) := by
        have h := MI9.setO HapS.out 6 (.int .i64 P)
        exact ⟨h.rdh, h.rdb, h.rdc, h.byt, h.cb, h.lh, h.lb, h.lc⟩
      simp only [List.set_cons_zero, List.set_cons_succ] at M6
      obtain ⟨w6, hw6⟩ : ∃ w6, w5.setCell ⟨S, 6, none⟩ (.int .i64 P) = w6 := ⟨_, rfl⟩
      rw [hw6] at M6 R6 hB6 MI6
      obtain ⟨z0, z1, z2, z3, z4, z5, z6, z7, z8⟩ := M6.nine
      have HmR2 := Lib.hid hmR
      clear M9 R9 hB9 MI9 hmR ht
      clear hL HmR
      obtain ⟨x0, x1, x2, x3, x4, x5, x6, x7, x8⟩ := M6.nine
      have f7 := M6.free 7
      have MB := M6.set 7 (.int .i64 2)
      have RB := R6.other S 7 (.int .i64 2) (by omega)
      have hBB := hB6.setCell (p := ⟨S, 7, none⟩) (Nat.le_refl S) (.int .i64 2)
      have IB := MI6.setO HapS.out 7 (.int .i64 2)
      simp only [List.set_cons_zero, List.set_cons_succ] at MB
      obtain ⟨wB, hwB⟩ : ∃ wB, w6.setCell ⟨S, 7, none⟩ (.int .i64 2) = wB := ⟨_, rfl⟩
      rw [hwB] at MB RB hBB IB
      obtain ⟨z0, z1, z2, z3, z4, z5, z6, z7, z8⟩ := MB.nine
      have lS := MB.lt
      have lR := RB.lt
      clear M6 R6 hB6 MI6
      by_cases hln : 0 < (({ n with part := P } : S12.M)).len
      · skip
        have eR : mR = { ({ n with part := P } : S12.M) with bit := S12.expI ((({ n with part := P } : S12.M)).bytes.getD (({ n with part := P } : S12.M)).at_.toNat 0) (({ n with part := P } : S12.M)).part } := by rw [HmR2.out]; unfold S12.expect; rw [if_pos hln]
        have hWR : S12.WF { ({ n with part := P } : S12.M) with bit := S12.expI ((({ n with part := P } : S12.M)).bytes.getD (({ n with part := P } : S12.M)).at_.toNat 0) (({ n with part := P } : S12.M)).part } := by rw [← eR]; exact HWF'.out
        have hma := hWR.Mat (show (({ n with part := P } : S12.M)).len ≠ 0 by omega)
        have hma1 : (({ n with part := P } : S12.M)).len ≤ (({ n with part := P } : S12.M)).at_ ∧ (({ n with part := P } : S12.M)).at_ ≤ ((({ n with part := P } : S12.M)).bytes.length : Int) - 1 := hma.at_
        have hma2 : 1 ≤ (({ n with part := P } : S12.M)).len ∧ (({ n with part := P } : S12.M)).len ≤ 255 := hma.len
        have hpt : 1 ≤ (({ n with part := P } : S12.M)).part ∧ (({ n with part := P } : S12.M)).part ≤ 255 := hWR.part
        obtain ⟨pt, hptn⟩ : ∃ pt : Nat, (({ n with part := P } : S12.M)).part = pt := ⟨(({ n with part := P } : S12.M)).part.toNat, by omega⟩
        obtain ⟨q, hq⟩ : ∃ q : Nat, (({ n with part := P } : S12.M)).at_ = q := ⟨(({ n with part := P } : S12.M)).at_.toNat, by omega⟩
        have hbyT : S12.Byt (({ n with part := P } : S12.M)).bytes := IB.byt
        have hx0 : 0 ≤ (({ n with part := P } : S12.M)).bytes.getD q 0 := hbyT.get q
        have hx1 : ((({ n with part := P } : S12.M)).bytes.getD q 0).toNat < 256 := hbyT.at q
        obtain ⟨xn, hxn⟩ : ∃ xn : Nat, (({ n with part := P } : S12.M)).bytes.getD q 0 = xn := ⟨((({ n with part := P } : S12.M)).bytes.getD q 0).toNat, (Int.toNat_of_nonneg hx0).symm⟩
        have hxn2 : xn < 256 := by rw [hxn] at hx1; omega
        obtain ⟨gB, oB, eB, hcB⟩ := Bts_at IB.rdb (i := q) (show q < (({ n with part := P } : S12.M)).bytes.length by omega)
        have hcB2 := hcB q (show q < (({ n with part := P } : S12.M)).bytes.length by omega)
        (try simp only at eB hcB2)
        rw [show (({ n with part := P } : S12.M)).bytes.getD q 0 = (xn : Int) from hxn] at hcB2
        have hql : q < (({ n with part := P } : S12.M)).bytes.length := by omega
        have hgS : ¬ gB = S := HapS.out.2.1 gB oB eB (fun h => by have h2 : (Bts (({ n with part := P } : S12.M)).bytes).length = 0 := (by rw [h]; rfl); rw [Bts_length] at h2; omega)
        have hgS2 : ¬ S = gB := fun h => hgS h.symm
        have hC21 : HasC [(⟨S, 3, none⟩, .slice (some ⟨gB, oB, none⟩) (({ n with part := P } : S12.M)).bytes.length (qn).cb), (⟨S, 4, none⟩, .int .i64 (q : Int)), (⟨S, 6, none⟩, .int .i64 (pt : Int)), (⟨gB, oB + q, none⟩, .int .u8 (xn : Int))] wB :=
          ⟨by rw [← eB]; exact z3, by rw [← hq]; exact z4, by rw [← hptn]; exact z6, hcB2, trivial⟩
        have HEx := Lib.hid fun W => rexpected12_any xn pt hxn2 (by omega) (by omega) W
        obtain ⟨bv, hbv⟩ : ∃ bv, S12.optN (S12.exp xn (pt : Int)) = bv := ⟨_, rfl⟩
        have hbv2 : S12.expI ((({ n with part := P } : S12.M)).bytes.getD (({ n with part := P } : S12.M)).at_.toNat 0) (({ n with part := P } : S12.M)).part = bv := by rw [S12.expI_eq, hq, Int.toNat_natCast, hxn, Int.toNat_natCast, hptn, hbv]
        rw [hbv] at HEx
        rw [hbv2] at eR
        have HeR := Lib.hid eR
        obtain ⟨isS, hisS⟩ : ∃ isS, (S12.exp xn (pt : Int)).isSome = isS := ⟨_, rfl⟩
        rw [hisS] at HEx
        have eln : decide (0 < (({ n with part := P } : S12.M)).len) = true := decide_eq_true hln
        have Hqq := Lib.hid hq
        have HeB := Lib.hid eB
        clear hma hma1 hma2 hWR hbv hbv2 hxn hcB hcB2 eR hisS hln hpt hx0 hx1 hq hptn eB hbyT
        go_wp2_with fail
        clear x0 x1 x2 x3 x4 x5 x6 x7 x8 f7 eln z0 z1 z2 z3 z4 z5 z6 z7 z8
        refine wp_region_useq 13 14 0 [(.p, [true]), (.r, [false, true]), (.p, [false, false, true]), (.r, [false, false, false, true]), (.p, [false, false, false, false, true]), (.r, [false, false, false, false, false, true]), (.p, [false, false, false, false, false, false, true]), (.r, [false, false, false, false, false, false, false, true]), (.e, [false, false, false, false, false, false, false, false, true]), (.p, [false, false, false, false, false, false, false, false, false, true, true, true, true]), (.l, [false, false, false, false, false, false, false, false, false, false, false, false, false, true])] _ _ (HasC [(⟨S, 3, none⟩, .slice (some ⟨gB, oB, none⟩) (({ n with part := P } : S12.M)).bytes.length (qn).cb), (⟨S, 4, none⟩, .int .i64 (q : Int)), (⟨S, 6, none⟩, .int .i64 (pt : Int)), (⟨gB, oB + q, none⟩, .int .u8 (xn : Int))]) (by kernel_rfl) (List.take_append_drop 14 _).symm (by kernel_rfl) (by kernel_rfl) (by kernel_rfl) (by kernel_rfl) (hC21) (fun Y Q4 F4 hY hF => ?_)
        simp only [phasedU, List.flatMap_cons, List.flatMap_nil, List.take_succ_cons, List.take_zero, List.drop_succ_cons, List.drop_zero, sel_true, sel_false, sel_nil, List.map_cons, List.map_nil, List.cons_append, List.nil_append, List.append_nil]
        repeat
          first
            | (apply wpSeqU_pure (by first | rfl | (rw [hY]; rfl))
               · intro w2
                 go_simp
                 with_reducible rfl
               simp only [Act.put, List.setIfInBounds_toArray, List.set_cons_zero, List.set_cons_succ])
            | (apply wpSeqU_read (by first | rfl | (rw [hY]; rfl))
               · intro w2 hS2
                 (try simp only [Keeps, Cells] at hS2)
                 (try simp only [HasC, Cells] at hS2)
                 go_simp
                 with_reducible rfl
               simp only [Act.put, List.setIfInBounds_toArray, List.set_cons_zero, List.set_cons_succ])
        apply wpSeqU_call (by first | rfl | (rw [hY]; rfl))
        · go_simp
          with_reducible exact ⟨rfl, rfl⟩
        refine (HEx.out _).mono ?_
        rintro e w22 ⟨rfl, hb22⟩
        have hE22 := below_trans (below_drew wB.heap.size wB) hb22
        refine ⟨_, rfl, Cells.step hE22 hC21, ?_⟩
        simp only [Act.put, List.setIfInBounds_toArray, List.set_cons_zero, List.set_cons_succ]
        repeat
          first
            | (apply wpSeqU_pure (by first | rfl | (rw [hY]; rfl))
               · intro w2
                 go_simp
                 with_reducible rfl
               simp only [Act.put, List.setIfInBounds_toArray, List.set_cons_zero, List.set_cons_succ])
            | (apply wpSeqU_read (by first | rfl | (rw [hY]; rfl))
               · intro w2 hS2
                 (try simp only [Keeps, Cells] at hS2)
                 (try simp only [HasC, Cells] at hS2)
                 go_simp
                 with_reducible rfl
               simp only [Act.put, List.setIfInBounds_toArray, List.set_cons_zero, List.set_cons_succ])
        have M22 := MB.step hE22
        have y7 := M22.cell 7
        have f7 := M22.free 7
        refine wpSeqU_last_store (by first | rfl | (rw [hY]; rfl)) (by go_simp; first | with_reducible exact ⟨rfl, rfl⟩ | with_reducible rfl) ?_
        simp only [Act.put, List.setIfInBounds_toArray, List.set_cons_zero, List.set_cons_succ]
        refine wpSeqU_done (hF.out _ _ (fun K hK => ?_))
        clear hF hY
        have R23 := (RB.step hE22).other S 7 (.int .i64 bv) (by omega)
        have M23 := M22.set 7 (.int .i64 bv)
        have hB23 := (hBB.trans (hE22.mono (Nat.le_of_lt lS))).setCell (p := ⟨S, 7, none⟩) (Nat.le_refl S) (.int .i64 bv)
        have I23 := (IB.step hE22).setO HapS.out 7 (.int .i64 bv)
        simp only [List.set_cons_zero, List.set_cons_succ] at M23
        go_wp2_with fail
        refine OnlyK.mk (hK.out _ _ ?_)
        clear hK y7 f7 hC21 M22
        obtain ⟨w23, hw23⟩ : ∃ w23, w22.setCell ⟨S, 7, none⟩ (.int .i64 bv) = w23 := ⟨_, rfl⟩
        rw [hw23] at M23 hB23 R23 I23 ⊢
        clear hw23
        obtain ⟨x0, x1, x2, x3, x4, x5, x6, x7, x8⟩ := M23.nine
        obtain ⟨z0, z1, z2, z3, z4, z5, z6, z7, z8⟩ := R23.nine
        have fr0 := R23.free 0
        have fr1 := R23.free 1
        have fr2 := R23.free 2
        have fr3 := R23.free 3
        have fr4 := R23.free 4
        have fr5 := R23.free 5
        have fr6 := R23.free 6
        have fr7 := R23.free 7
        have fr8 := R23.free 8
        have Hm : RowKit.Hid (MIs { ({ n with part := P } : S12.M) with bit := bv } qn w23) := Lib.hid ⟨I23.rdh, I23.rdb, I23.rdc, I23.byt, I23.cb, I23.lh, I23.lb, I23.lc⟩
        have hBF := Lib.hid (below_put9 hB23 (Nat.le_succ S) (.int .i64 (({ n with part := P } : S12.M)).bits) (.int .i64 (({ n with part := P } : S12.M)).least) (.slice (qn).ah (({ n with part := P } : S12.M)).heads.length (qn).ch) (.slice (qn).ab (({ n with part := P } : S12.M)).bytes.length (qn).cb) (.int .i64 (({ n with part := P } : S12.M)).at_) (.int .i64 (({ n with part := P } : S12.M)).len) (.int .i64 (({ n with part := P } : S12.M)).part) (.int .i64 bv) (.slice (qn).ac (({ n with part := P } : S12.M)).ctrs.length (qn).cc))
        have eR := HeR.out
        subst eR
        obtain ⟨y0, y1, y2, y3, y4, y5, y6, y7, y8⟩ := (R23.put9 (.int .i64 (({ n with part := P } : S12.M)).bits) (.int .i64 (({ n with part := P } : S12.M)).least) (.slice (qn).ah (({ n with part := P } : S12.M)).heads.length (qn).ch) (.slice (qn).ab (({ n with part := P } : S12.M)).bytes.length (qn).cb) (.int .i64 (({ n with part := P } : S12.M)).at_) (.int .i64 (({ n with part := P } : S12.M)).len) (.int .i64 (({ n with part := P } : S12.M)).part) (.int .i64 bv) (.slice (qn).ac (({ n with part := P } : S12.M)).ctrs.length (qn).cc)).nine
        clear M23 R23 hB23 I23
        go_wp2_with (exact bodyPost_ret (v := .tuple #[MV { ({ n with part := P } : S12.M) with bit := bv } qn, .int .i64 0]) (by simp [results, Try.results23, go_sem, MV, MVals, y0, y1, y2, y3, y4, y5, y6, y7, y8]) rfl ⟨qn, rfl, Hm.out.put9 HapR.out.1 HapR.out.2.1 HapR.out.2.2 _ _ _ _ _ _ _ _ _, hS ▸ hBF.out⟩)
      · skip
        have eR : mR = { ({ n with part := P } : S12.M) with bit := 2 } := by rw [HmR2.out]; unfold S12.expect; rw [if_neg hln]
        have eln : decide (0 < (({ n with part := P } : S12.M)).len) = false := decide_eq_false hln
        obtain ⟨r0, r1, r2, r3, r4, r5, r6, r7, r8⟩ := RB.nine
        have fr0 := RB.free 0
        have fr1 := RB.free 1
        have fr2 := RB.free 2
        have fr3 := RB.free 3
        have fr4 := RB.free 4
        have fr5 := RB.free 5
        have fr6 := RB.free 6
        have fr7 := RB.free 7
        have fr8 := RB.free 8
        have Hm : RowKit.Hid (MIs { ({ n with part := P } : S12.M) with bit := 2 } qn wB) := Lib.hid ⟨IB.rdh, IB.rdb, IB.rdc, IB.byt, IB.cb, IB.lh, IB.lb, IB.lc⟩
        have hBF := Lib.hid (below_put9 hBB (Nat.le_succ S) (.int .i64 (({ n with part := P } : S12.M)).bits) (.int .i64 (({ n with part := P } : S12.M)).least) (.slice (qn).ah (({ n with part := P } : S12.M)).heads.length (qn).ch) (.slice (qn).ab (({ n with part := P } : S12.M)).bytes.length (qn).cb) (.int .i64 (({ n with part := P } : S12.M)).at_) (.int .i64 (({ n with part := P } : S12.M)).len) (.int .i64 (({ n with part := P } : S12.M)).part) (.int .i64 2) (.slice (qn).ac (({ n with part := P } : S12.M)).ctrs.length (qn).cc))
        subst eR
        obtain ⟨y0, y1, y2, y3, y4, y5, y6, y7, y8⟩ := (RB.put9 (.int .i64 (({ n with part := P } : S12.M)).bits) (.int .i64 (({ n with part := P } : S12.M)).least) (.slice (qn).ah (({ n with part := P } : S12.M)).heads.length (qn).ch) (.slice (qn).ab (({ n with part := P } : S12.M)).bytes.length (qn).cb) (.int .i64 (({ n with part := P } : S12.M)).at_) (.int .i64 (({ n with part := P } : S12.M)).len) (.int .i64 (({ n with part := P } : S12.M)).part) (.int .i64 2) (.slice (qn).ac (({ n with part := P } : S12.M)).ctrs.length (qn).cc)).nine
        clear MB RB hBB IB hln
        go_wp2_with (exact bodyPost_ret (v := .tuple #[MV { ({ n with part := P } : S12.M) with bit := 2 } qn, .int .i64 0]) (by simp [results, Try.results23, go_sem, MV, MVals, y0, y1, y2, y3, y4, y5, y6, y7, y8]) rfl ⟨qn, rfl, Hm.out.put9 HapR.out.1 HapR.out.2.1 HapR.out.2.2 _ _ _ _ _ _ _ _ _, hS ▸ hBF.out⟩)
    · rw [if_neg hbit] at hlearn
      have eb : (b == m.bit) = false := by simp [hbit]
      have HU1 := Lib.hid fun W => HU.out 0 (.inl rfl) W
      obtain ⟨s1, hs1⟩ : ∃ s1, S08.step p0 p1 0 = s1 := ⟨_, rfl⟩
      rw [hs1] at HU1 hlearn
      have Hlearn := Lib.hid hlearn
      clear HU hs1 hbit hlearn
      have hrdF := Lib.hid (((HM.out.step (hS ▸ hB1)).rdc).step ((Below.refl w1.heap.size w1).alloc (Nat.le_refl _) (Obj.cells #[] 35)))
      have HM1 := Lib.hid M1
      have HR1 := Lib.hid R1
      have HBB := Lib.hid hB1
      have l1 := R1.lt
      have lS1 := M1.lt
      have f8 := M1.free 8
      clear M1 R1 hB1
      go_wp2_with (first
        | (at_builtin
           refine wpList_append_rd _ _ 25 35 2 16 _ w1.heap.size elems_ctrs rfl rfl _ 0 [] rfl (World.ownsRow_made w1 #[] 0 (Nat.le_refl _) (by decide) rfl) p.ac m.ctrs.length p.cc (Cts m.ctrs) rfl (by rw [Cts_length]) hrdF.out (Cts_one _) (by have := H16.out; unfold maxLen; omega) (by have := H16.out; omega) (by simp) ?_
           intro a2 cap2 w2 hown2 hgrow2
           have hb2 : Below w1.heap.size w1 w2 := Below.grown (by go_grown) hgrow2 (by simp) (fun k e => by cases e; exact Nat.le_refl _)
           simp only [Nat.zero_add, List.nil_append] at hown2 ⊢
           obtain ⟨gc, rfl, hgc, hOC⟩ := Own.of_owns hown2 (by have := H16.out; omega) (by decide)
           clear hown2 hgrow2
           have M2 := HM1.out.step hb2
           have R2 := HR1.out.step hb2
           have hB2 := HBB.out.trans (hb2.mono (Nat.le_of_lt HM1.out.lt))
           have dS : ¬ gc = S := by omega
           have dS2 : ¬ S = gc := by omega
           have dR : ¬ S + 1 = gc := by omega
           have v8 := M2.cell 8
           have e8 := M2.free 8
           have M3 := M2.set 8 (.slice (some ⟨gc, 0, none⟩) m.ctrs.length cap2)
           have R3 := R2.other S 8 (.slice (some ⟨gc, 0, none⟩) m.ctrs.length cap2) (by omega)
           have hB3 := hB2.setCell (p := ⟨S, 8, none⟩) (Nat.le_refl S) (.slice (some ⟨gc, 0, none⟩) m.ctrs.length cap2)
           have C3 := hOC.other S 8 (.slice (some ⟨gc, 0, none⟩) m.ctrs.length cap2) dS
           simp only [List.set_cons_zero, List.set_cons_succ] at M3
           obtain ⟨w3, hw3⟩ : ∃ w3, w2.setCell ⟨S, 8, none⟩ (.slice (some ⟨gc, 0, none⟩) m.ctrs.length cap2) = w3 := ⟨_, rfl⟩
           rw [hw3] at M3 R3 hB3 C3
           have hC3 : HasC [(⟨S, 8, none⟩, .slice (some ⟨gc, 0, none⟩) m.ctrs.length cap2), (⟨gc, k * 2, none⟩, .int .i64 p0), (⟨gc, k * 2 + 1, none⟩, .int .i64 p1)] w3 :=
             ⟨M3.cell 8, by rw [C3.cell (by have := Hk16.out; rw [Cts_length]; omega), (Cts_at Hk16.out).1, ← S12.getD_in _ (0, 0) Hk16.out, Hcp.out], by rw [C3.cell (by have := Hk16.out; rw [Cts_length]; omega), (Cts_at Hk16.out).2, ← S12.getD_in _ (0, 0) Hk16.out, Hcp.out], trivial⟩
           clear M2 R2 hB2 hOC))
      clear v8 e8 f8 hw3 x0 x1 x2 x3 x4 x5 x6 x7 x8
      have hkl := Hk16.out
      refine wp_region_useq 14 15 0 [(.p, [true]), (.r, [false, true]), (.p, [false, false, true, true]), (.r, [false, false, false, false, true]), (.p, [false, false, false, false, false, true, true]), (.r, [false, false, false, false, false, false, false, true]), (.p, [false, false, false, false, false, false, false, false, true]), (.e, [false, false, false, false, false, false, false, false, false, true]), (.p, [false, false, false, false, false, false, false, false, false, false, true, true, true, true]), (.l, [false, false, false, false, false, false, false, false, false, false, false, false, false, false, true])] _ _ (HasC [(⟨S, 8, none⟩, .slice (some ⟨gc, 0, none⟩) m.ctrs.length cap2), (⟨gc, k * 2, none⟩, .int .i64 p0), (⟨gc, k * 2 + 1, none⟩, .int .i64 p1)]) (by kernel_rfl) (List.take_append_drop 15 _).symm (by kernel_rfl) (by kernel_rfl) (by kernel_rfl) (by kernel_rfl) (hC3) (fun Y Q4 F4 hY hF => ?_)
      simp only [phasedU, List.flatMap_cons, List.flatMap_nil, List.take_succ_cons, List.take_zero, List.drop_succ_cons, List.drop_zero, sel_true, sel_false, sel_nil, List.map_cons, List.map_nil, List.cons_append, List.nil_append, List.append_nil]
      repeat
        first
          | (apply wpSeqU_pure (by first | rfl | (rw [hY]; rfl))
             · intro w2
               go_simp
               with_reducible rfl
             simp only [Act.put, List.setIfInBounds_toArray, List.set_cons_zero, List.set_cons_succ])
          | (apply wpSeqU_read (by first | rfl | (rw [hY]; rfl))
             · intro w2 hS2
               (try simp only [Keeps, Cells] at hS2)
               (try simp only [HasC, Cells] at hS2)
               go_simp
               with_reducible rfl
             simp only [Act.put, List.setIfInBounds_toArray, List.set_cons_zero, List.set_cons_succ])
      apply wpSeqU_call (by first | rfl | (rw [hY]; rfl))
      · go_simp
        with_reducible exact ⟨rfl, rfl⟩
      refine (HU1.out _).mono ?_
      rintro e w4 ⟨rfl, hb4⟩
      have hE4 := below_trans (below_drew w3.heap.size w3) hb4
      have hC4 := Cells.step hE4 hC3
      refine ⟨_, rfl, hC4, ?_⟩
      simp only [Act.put, List.setIfInBounds_toArray, List.set_cons_zero, List.set_cons_succ]
      repeat
        first
          | (apply wpSeqU_pure (by first | rfl | (rw [hY]; rfl))
             · intro w2
               go_simp
               with_reducible rfl
             simp only [Act.put, List.setIfInBounds_toArray, List.set_cons_zero, List.set_cons_succ])
          | (apply wpSeqU_read (by first | rfl | (rw [hY]; rfl))
             · intro w2 hS2
               (try simp only [Keeps, Cells] at hS2)
               (try simp only [HasC, Cells] at hS2)
               go_simp
               with_reducible rfl
             simp only [Act.put, List.setIfInBounds_toArray, List.set_cons_zero, List.set_cons_succ])
      have M4 := M3.step hE4
      have R4 := R3.step hE4
      have C4 := C3.step hE4
      have hB4 := hB3.trans (hE4.mono (Nat.le_of_lt M3.lt))
      have y5 : w4.cell? ⟨gc, k * 2, none⟩ = some (.int .i64 p0) := hC4.2.1
      have y6 : w4.cell? ⟨gc, k * 2 + 1, none⟩ = some (.int .i64 p1) := hC4.2.2.1
      have g5 := C4.free (k * 2)
      have g6 := C4.free (k * 2 + 1)
      refine wpSeqU_last_store (by first | rfl | (rw [hY]; rfl)) (by go_simp; first | with_reducible exact ⟨rfl, rfl⟩ | with_reducible rfl) ?_
      simp only [Act.put, List.setIfInBounds_toArray, List.set_cons_zero, List.set_cons_succ]
      refine wpSeqU_done (hF.out _ _ (fun K hK => ?_))
      clear hF hY
      have M5 := (M4.other gc (k * 2) (.int .i64 s1) dS2).other gc (k * 2 + 1) (.int .i64 n1) dS2
      have R5 := (R4.other gc (k * 2) (.int .i64 s1) dR).other gc (k * 2 + 1) (.int .i64 n1) dR
      have hB5 := (hB4.setCell (p := ⟨gc, k * 2, none⟩) (show S ≤ gc by omega) (.int .i64 s1)).setCell (p := ⟨gc, k * 2 + 1, none⟩) (show S ≤ gc by omega) (.int .i64 n1)
      have C5 := (C4.set (i := k * 2) (by rw [Cts_length]; omega) (.int .i64 s1)).set (i := k * 2 + 1) (by rw [List.length_set, Cts_length]; omega) (.int .i64 n1)
      rw [← Cts_set] at C5
      go_wp2_with fail
      refine OnlyK.mk (hK.out _ _ ?_)
      clear hK hC3 hC4 y5 y6 g5 g6 M4 R4 C4 hB4 M3 R3 C3 hB3
      obtain ⟨w5, hw5⟩ : ∃ w5, (w4.setCell ⟨gc, k * 2, none⟩ (.int .i64 s1)).setCell ⟨gc, k * 2 + 1, none⟩ (.int .i64 n1) = w5 := ⟨_, rfl⟩
      rw [hw5] at M5 R5 hB5 C5 ⊢
      clear hw5
      obtain ⟨x0, x1, x2, x3, x4, x5, x6, x7, x8⟩ := M5.nine
      have f5 := M5.free 5
      have f4 := (M5.set 5 (.int .i64 0)).free 4
      have u4 := (M5.set 5 (.int .i64 0)).cell 4
      have M7 := (M5.set 5 (.int .i64 0)).set 4 (.int .i64 0)
      have R7 := (R5.other S 5 (.int .i64 0) (by omega)).other S 4 (.int .i64 0) (by omega)
      have hB7 := (hB5.setCell (p := ⟨S, 5, none⟩) (Nat.le_refl S) (.int .i64 0)).setCell (p := ⟨S, 4, none⟩) (Nat.le_refl S) (.int .i64 0)
      have C7 := (C5.other S 5 (.int .i64 0) dS).other S 4 (.int .i64 0) dS
      simp only [List.set_cons_zero, List.set_cons_succ] at M7 u4
      obtain ⟨w7, hw7⟩ : ∃ w7, (w5.setCell ⟨S, 5, none⟩ (.int .i64 0)).setCell ⟨S, 4, none⟩ (.int .i64 0) = w7 := ⟨_, rfl⟩
      rw [hw7] at M7 R7 hB7 C7
      clear M5 R5 hB5 C5
      have HL0 := HM.out.step (below_of hS hB7)
      have M9 : Blk w7 S (MVals (S12.learn m b) ⟨p.ah, p.ch, p.ab, p.cb, some ⟨gc, 0, none⟩, cap2⟩) 27 := by
        rw [Hlearn.out]; unfold MVals; simp only [List.length_set]; exact M7
      have MI9 : MIs (S12.learn m b) ⟨p.ah, p.ch, p.ab, p.cb, some ⟨gc, 0, none⟩, cap2⟩ w7 := by
        rw [Hlearn.out]; exact ⟨HL0.rdh, HL0.rdb, C7.rd, HL0.byt, HL0.cb, HL0.lh, HL0.lb, by simp only [List.length_set]; exact HL0.lc⟩
      have HapS : RowKit.Hid (Ap (S12.learn m b) ⟨p.ah, p.ch, p.ab, p.cb, some ⟨gc, 0, none⟩, cap2⟩ S) := by
        rw [Hlearn.out]; exact Lib.hid ⟨HA1.out.1, HA1.out.2.1, fun g o e _ => by cases e; omega⟩
      have HapR : RowKit.Hid (Ap (S12.learn m b) ⟨p.ah, p.ch, p.ab, p.cb, some ⟨gc, 0, none⟩, cap2⟩ (S + 1)) := by
        rw [Hlearn.out]; exact Lib.hid ⟨HA2.out.1, HA2.out.2.1, fun g o e _ => by cases e; omega⟩
      have HmR : RowKit.Hid (mR = S12.expect (S12.take (S12.learn m b) (2 * (S12.learn m b).part + b))) := Lib.hid HmR0.out.symm
      obtain ⟨n, hn⟩ : ∃ n, S12.learn m b = n := ⟨_, rfl⟩
      obtain ⟨qn, hqn⟩ : ∃ qn : Pl, (⟨p.ah, p.ch, p.ab, p.cb, some ⟨gc, 0, none⟩, cap2⟩ : Pl) = qn := ⟨_, rfl⟩
      rw [hn] at M9 MI9 HapS HapR HmR HL
      rw [hqn] at M9 MI9 HapS HapR
      have R9 := R7
      have hB9 := hB7
      unfold MVals at M9
      clear HL0 hn hqn Hlearn M7 C7 R7 hB7 HA1 HA2 eb dl1 dS dS2 dR hkl
      obtain ⟨P, hP⟩ : ∃ P, 2 * n.part + b = P := ⟨_, rfl⟩
      have hL := HL.out
      have hpr : 1 ≤ n.part ∧ n.part ≤ 255 := by rw [hL.part]; exact HWF.out.part
      have hPr : 2 ≤ P ∧ P ≤ 511 := by omega
      have hPf : P ≤ 255 := by have := hL.part; have := HFul.out; omega
      have hPd : decide (255 < P) = false := by simp; omega
      have hmR : mR = S12.expect (S12.take n P) := by rw [HmR.out, hP]
      have ht : S12.take n P = { n with part := P } := by unfold S12.take; rw [if_neg (by omega)]
      rw [ht] at hmR
      obtain ⟨x0, x1, x2, x3, x4, x5, x6, x7, x8⟩ := M9.nine
      have f6 := M9.free 6
      have M6 := M9.set 6 (.int .i64 P)
      have R6 := R9.other S 6 (.int .i64 P) (by omega)
      have hB6 := hB9.setCell (p := ⟨S, 6, none⟩) (Nat.le_refl S) (.int .i64 P)
      have MI6 : MIs { n with part := P } qn (w7.setCell ⟨S, 6, none⟩ (.int .i64 P)) := by
        have h := MI9.setO HapS.out 6 (.int .i64 P)
        exact ⟨h.rdh, h.rdb, h.rdc, h.byt, h.cb, h.lh, h.lb, h.lc⟩
      simp only [List.set_cons_zero, List.set_cons_succ] at M6
      obtain ⟨w6, hw6⟩ : ∃ w6, w7.setCell ⟨S, 6, none⟩ (.int .i64 P) = w6 := ⟨_, rfl⟩
      rw [hw6] at M6 R6 hB6 MI6
      obtain ⟨z0, z1, z2, z3, z4, z5, z6, z7, z8⟩ := M6.nine
      have HmR2 := Lib.hid hmR
      clear M9 R9 hB9 MI9 hmR ht
      clear hL HmR
      obtain ⟨x0, x1, x2, x3, x4, x5, x6, x7, x8⟩ := M6.nine
      have f7 := M6.free 7
      have MB := M6.set 7 (.int .i64 2)
      have RB := R6.other S 7 (.int .i64 2) (by omega)
      have hBB := hB6.setCell (p := ⟨S, 7, none⟩) (Nat.le_refl S) (.int .i64 2)
      have IB := MI6.setO HapS.out 7 (.int .i64 2)
      simp only [List.set_cons_zero, List.set_cons_succ] at MB
      obtain ⟨wB, hwB⟩ : ∃ wB, w6.setCell ⟨S, 7, none⟩ (.int .i64 2) = wB := ⟨_, rfl⟩
      rw [hwB] at MB RB hBB IB
      obtain ⟨z0, z1, z2, z3, z4, z5, z6, z7, z8⟩ := MB.nine
      have lS := MB.lt
      have lR := RB.lt
      clear M6 R6 hB6 MI6
      by_cases hln : 0 < (({ n with part := P } : S12.M)).len
      · skip
        have eR : mR = { ({ n with part := P } : S12.M) with bit := S12.expI ((({ n with part := P } : S12.M)).bytes.getD (({ n with part := P } : S12.M)).at_.toNat 0) (({ n with part := P } : S12.M)).part } := by rw [HmR2.out]; unfold S12.expect; rw [if_pos hln]
        have hWR : S12.WF { ({ n with part := P } : S12.M) with bit := S12.expI ((({ n with part := P } : S12.M)).bytes.getD (({ n with part := P } : S12.M)).at_.toNat 0) (({ n with part := P } : S12.M)).part } := by rw [← eR]; exact HWF'.out
        have hma := hWR.Mat (show (({ n with part := P } : S12.M)).len ≠ 0 by omega)
        have hma1 : (({ n with part := P } : S12.M)).len ≤ (({ n with part := P } : S12.M)).at_ ∧ (({ n with part := P } : S12.M)).at_ ≤ ((({ n with part := P } : S12.M)).bytes.length : Int) - 1 := hma.at_
        have hma2 : 1 ≤ (({ n with part := P } : S12.M)).len ∧ (({ n with part := P } : S12.M)).len ≤ 255 := hma.len
        have hpt : 1 ≤ (({ n with part := P } : S12.M)).part ∧ (({ n with part := P } : S12.M)).part ≤ 255 := hWR.part
        obtain ⟨pt, hptn⟩ : ∃ pt : Nat, (({ n with part := P } : S12.M)).part = pt := ⟨(({ n with part := P } : S12.M)).part.toNat, by omega⟩
        obtain ⟨q, hq⟩ : ∃ q : Nat, (({ n with part := P } : S12.M)).at_ = q := ⟨(({ n with part := P } : S12.M)).at_.toNat, by omega⟩
        have hbyT : S12.Byt (({ n with part := P } : S12.M)).bytes := IB.byt
        have hx0 : 0 ≤ (({ n with part := P } : S12.M)).bytes.getD q 0 := hbyT.get q
        have hx1 : ((({ n with part := P } : S12.M)).bytes.getD q 0).toNat < 256 := hbyT.at q
        obtain ⟨xn, hxn⟩ : ∃ xn : Nat, (({ n with part := P } : S12.M)).bytes.getD q 0 = xn := ⟨((({ n with part := P } : S12.M)).bytes.getD q 0).toNat, (Int.toNat_of_nonneg hx0).symm⟩
        have hxn2 : xn < 256 := by rw [hxn] at hx1; omega
        obtain ⟨gB, oB, eB, hcB⟩ := Bts_at IB.rdb (i := q) (show q < (({ n with part := P } : S12.M)).bytes.length by omega)
        have hcB2 := hcB q (show q < (({ n with part := P } : S12.M)).bytes.length by omega)
        (try simp only at eB hcB2)
        rw [show (({ n with part := P } : S12.M)).bytes.getD q 0 = (xn : Int) from hxn] at hcB2
        have hql : q < (({ n with part := P } : S12.M)).bytes.length := by omega
        have hgS : ¬ gB = S := HapS.out.2.1 gB oB eB (fun h => by have h2 : (Bts (({ n with part := P } : S12.M)).bytes).length = 0 := (by rw [h]; rfl); rw [Bts_length] at h2; omega)
        have hgS2 : ¬ S = gB := fun h => hgS h.symm
        have hC21 : HasC [(⟨S, 3, none⟩, .slice (some ⟨gB, oB, none⟩) (({ n with part := P } : S12.M)).bytes.length (qn).cb), (⟨S, 4, none⟩, .int .i64 (q : Int)), (⟨S, 6, none⟩, .int .i64 (pt : Int)), (⟨gB, oB + q, none⟩, .int .u8 (xn : Int))] wB :=
          ⟨by rw [← eB]; exact z3, by rw [← hq]; exact z4, by rw [← hptn]; exact z6, hcB2, trivial⟩
        have HEx := Lib.hid fun W => rexpected12_any xn pt hxn2 (by omega) (by omega) W
        obtain ⟨bv, hbv⟩ : ∃ bv, S12.optN (S12.exp xn (pt : Int)) = bv := ⟨_, rfl⟩
        have hbv2 : S12.expI ((({ n with part := P } : S12.M)).bytes.getD (({ n with part := P } : S12.M)).at_.toNat 0) (({ n with part := P } : S12.M)).part = bv := by rw [S12.expI_eq, hq, Int.toNat_natCast, hxn, Int.toNat_natCast, hptn, hbv]
        rw [hbv] at HEx
        rw [hbv2] at eR
        have HeR := Lib.hid eR
        obtain ⟨isS, hisS⟩ : ∃ isS, (S12.exp xn (pt : Int)).isSome = isS := ⟨_, rfl⟩
        rw [hisS] at HEx
        have eln : decide (0 < (({ n with part := P } : S12.M)).len) = true := decide_eq_true hln
        have Hqq := Lib.hid hq
        have HeB := Lib.hid eB
        clear hma hma1 hma2 hWR hbv hbv2 hxn hcB hcB2 eR hisS hln hpt hx0 hx1 hq hptn eB hbyT
        go_wp2_with fail
        clear x0 x1 x2 x3 x4 x5 x6 x7 x8 f7 eln z0 z1 z2 z3 z4 z5 z6 z7 z8
        refine wp_region_useq 13 14 0 [(.p, [true]), (.r, [false, true]), (.p, [false, false, true]), (.r, [false, false, false, true]), (.p, [false, false, false, false, true]), (.r, [false, false, false, false, false, true]), (.p, [false, false, false, false, false, false, true]), (.r, [false, false, false, false, false, false, false, true]), (.e, [false, false, false, false, false, false, false, false, true]), (.p, [false, false, false, false, false, false, false, false, false, true, true, true, true]), (.l, [false, false, false, false, false, false, false, false, false, false, false, false, false, true])] _ _ (HasC [(⟨S, 3, none⟩, .slice (some ⟨gB, oB, none⟩) (({ n with part := P } : S12.M)).bytes.length (qn).cb), (⟨S, 4, none⟩, .int .i64 (q : Int)), (⟨S, 6, none⟩, .int .i64 (pt : Int)), (⟨gB, oB + q, none⟩, .int .u8 (xn : Int))]) (by kernel_rfl) (List.take_append_drop 14 _).symm (by kernel_rfl) (by kernel_rfl) (by kernel_rfl) (by kernel_rfl) (hC21) (fun Y Q4 F4 hY hF => ?_)
        simp only [phasedU, List.flatMap_cons, List.flatMap_nil, List.take_succ_cons, List.take_zero, List.drop_succ_cons, List.drop_zero, sel_true, sel_false, sel_nil, List.map_cons, List.map_nil, List.cons_append, List.nil_append, List.append_nil]
        repeat
          first
            | (apply wpSeqU_pure (by first | rfl | (rw [hY]; rfl))
               · intro w2
                 go_simp
                 with_reducible rfl
               simp only [Act.put, List.setIfInBounds_toArray, List.set_cons_zero, List.set_cons_succ])
            | (apply wpSeqU_read (by first | rfl | (rw [hY]; rfl))
               · intro w2 hS2
                 (try simp only [Keeps, Cells] at hS2)
                 (try simp only [HasC, Cells] at hS2)
                 go_simp
                 with_reducible rfl
               simp only [Act.put, List.setIfInBounds_toArray, List.set_cons_zero, List.set_cons_succ])
        apply wpSeqU_call (by first | rfl | (rw [hY]; rfl))
        · go_simp
          with_reducible exact ⟨rfl, rfl⟩
        refine (HEx.out _).mono ?_
        rintro e w22 ⟨rfl, hb22⟩
        have hE22 := below_trans (below_drew wB.heap.size wB) hb22
        refine ⟨_, rfl, Cells.step hE22 hC21, ?_⟩
        simp only [Act.put, List.setIfInBounds_toArray, List.set_cons_zero, List.set_cons_succ]
        repeat
          first
            | (apply wpSeqU_pure (by first | rfl | (rw [hY]; rfl))
               · intro w2
                 go_simp
                 with_reducible rfl
               simp only [Act.put, List.setIfInBounds_toArray, List.set_cons_zero, List.set_cons_succ])
            | (apply wpSeqU_read (by first | rfl | (rw [hY]; rfl))
               · intro w2 hS2
                 (try simp only [Keeps, Cells] at hS2)
                 (try simp only [HasC, Cells] at hS2)
                 go_simp
                 with_reducible rfl
               simp only [Act.put, List.setIfInBounds_toArray, List.set_cons_zero, List.set_cons_succ])
        have M22 := MB.step hE22
        have y7 := M22.cell 7
        have f7 := M22.free 7
        refine wpSeqU_last_store (by first | rfl | (rw [hY]; rfl)) (by go_simp; first | with_reducible exact ⟨rfl, rfl⟩ | with_reducible rfl) ?_
        simp only [Act.put, List.setIfInBounds_toArray, List.set_cons_zero, List.set_cons_succ]
        refine wpSeqU_done (hF.out _ _ (fun K hK => ?_))
        clear hF hY
        have R23 := (RB.step hE22).other S 7 (.int .i64 bv) (by omega)
        have M23 := M22.set 7 (.int .i64 bv)
        have hB23 := (hBB.trans (hE22.mono (Nat.le_of_lt lS))).setCell (p := ⟨S, 7, none⟩) (Nat.le_refl S) (.int .i64 bv)
        have I23 := (IB.step hE22).setO HapS.out 7 (.int .i64 bv)
        simp only [List.set_cons_zero, List.set_cons_succ] at M23
        go_wp2_with fail
        refine OnlyK.mk (hK.out _ _ ?_)
        clear hK y7 f7 hC21 M22
        obtain ⟨w23, hw23⟩ : ∃ w23, w22.setCell ⟨S, 7, none⟩ (.int .i64 bv) = w23 := ⟨_, rfl⟩
        rw [hw23] at M23 hB23 R23 I23 ⊢
        clear hw23
        obtain ⟨x0, x1, x2, x3, x4, x5, x6, x7, x8⟩ := M23.nine
        obtain ⟨z0, z1, z2, z3, z4, z5, z6, z7, z8⟩ := R23.nine
        have fr0 := R23.free 0
        have fr1 := R23.free 1
        have fr2 := R23.free 2
        have fr3 := R23.free 3
        have fr4 := R23.free 4
        have fr5 := R23.free 5
        have fr6 := R23.free 6
        have fr7 := R23.free 7
        have fr8 := R23.free 8
        have Hm : RowKit.Hid (MIs { ({ n with part := P } : S12.M) with bit := bv } qn w23) := Lib.hid ⟨I23.rdh, I23.rdb, I23.rdc, I23.byt, I23.cb, I23.lh, I23.lb, I23.lc⟩
        have hBF := Lib.hid (below_put9 hB23 (Nat.le_succ S) (.int .i64 (({ n with part := P } : S12.M)).bits) (.int .i64 (({ n with part := P } : S12.M)).least) (.slice (qn).ah (({ n with part := P } : S12.M)).heads.length (qn).ch) (.slice (qn).ab (({ n with part := P } : S12.M)).bytes.length (qn).cb) (.int .i64 (({ n with part := P } : S12.M)).at_) (.int .i64 (({ n with part := P } : S12.M)).len) (.int .i64 (({ n with part := P } : S12.M)).part) (.int .i64 bv) (.slice (qn).ac (({ n with part := P } : S12.M)).ctrs.length (qn).cc))
        have eR := HeR.out
        subst eR
        obtain ⟨y0, y1, y2, y3, y4, y5, y6, y7, y8⟩ := (R23.put9 (.int .i64 (({ n with part := P } : S12.M)).bits) (.int .i64 (({ n with part := P } : S12.M)).least) (.slice (qn).ah (({ n with part := P } : S12.M)).heads.length (qn).ch) (.slice (qn).ab (({ n with part := P } : S12.M)).bytes.length (qn).cb) (.int .i64 (({ n with part := P } : S12.M)).at_) (.int .i64 (({ n with part := P } : S12.M)).len) (.int .i64 (({ n with part := P } : S12.M)).part) (.int .i64 bv) (.slice (qn).ac (({ n with part := P } : S12.M)).ctrs.length (qn).cc)).nine
        clear M23 R23 hB23 I23
        go_wp2_with (exact bodyPost_ret (v := .tuple #[MV { ({ n with part := P } : S12.M) with bit := bv } qn, .int .i64 0]) (by simp [results, Try.results23, go_sem, MV, MVals, y0, y1, y2, y3, y4, y5, y6, y7, y8]) rfl ⟨qn, rfl, Hm.out.put9 HapR.out.1 HapR.out.2.1 HapR.out.2.2 _ _ _ _ _ _ _ _ _, hS ▸ hBF.out⟩)
      · skip
        have eR : mR = { ({ n with part := P } : S12.M) with bit := 2 } := by rw [HmR2.out]; unfold S12.expect; rw [if_neg hln]
        have eln : decide (0 < (({ n with part := P } : S12.M)).len) = false := decide_eq_false hln
        obtain ⟨r0, r1, r2, r3, r4, r5, r6, r7, r8⟩ := RB.nine
        have fr0 := RB.free 0
        have fr1 := RB.free 1
        have fr2 := RB.free 2
        have fr3 := RB.free 3
        have fr4 := RB.free 4
        have fr5 := RB.free 5
        have fr6 := RB.free 6
        have fr7 := RB.free 7
        have fr8 := RB.free 8
        have Hm : RowKit.Hid (MIs { ({ n with part := P } : S12.M) with bit := 2 } qn wB) := Lib.hid ⟨IB.rdh, IB.rdb, IB.rdc, IB.byt, IB.cb, IB.lh, IB.lb, IB.lc⟩
        have hBF := Lib.hid (below_put9 hBB (Nat.le_succ S) (.int .i64 (({ n with part := P } : S12.M)).bits) (.int .i64 (({ n with part := P } : S12.M)).least) (.slice (qn).ah (({ n with part := P } : S12.M)).heads.length (qn).ch) (.slice (qn).ab (({ n with part := P } : S12.M)).bytes.length (qn).cb) (.int .i64 (({ n with part := P } : S12.M)).at_) (.int .i64 (({ n with part := P } : S12.M)).len) (.int .i64 (({ n with part := P } : S12.M)).part) (.int .i64 2) (.slice (qn).ac (({ n with part := P } : S12.M)).ctrs.length (qn).cc))
        subst eR
        obtain ⟨y0, y1, y2, y3, y4, y5, y6, y7, y8⟩ := (RB.put9 (.int .i64 (({ n with part := P } : S12.M)).bits) (.int .i64 (({ n with part := P } : S12.M)).least) (.slice (qn).ah (({ n with part := P } : S12.M)).heads.length (qn).ch) (.slice (qn).ab (({ n with part := P } : S12.M)).bytes.length (qn).cb) (.int .i64 (({ n with part := P } : S12.M)).at_) (.int .i64 (({ n with part := P } : S12.M)).len) (.int .i64 (({ n with part := P } : S12.M)).part) (.int .i64 2) (.slice (qn).ac (({ n with part := P } : S12.M)).ctrs.length (qn).cc)).nine
        clear MB RB hBB IB hln
        go_wp2_with (exact bodyPost_ret (v := .tuple #[MV { ({ n with part := P } : S12.M) with bit := 2 } qn, .int .i64 0]) (by simp [results, Try.results23, go_sem, MV, MVals, y0, y1, y2, y3, y4, y5, y6, y7, y8]) rfl ⟨qn, rfl, Hm.out.put9 HapR.out.1 HapR.out.2.1 HapR.out.2.2 _ _ _ _ _ _ _ _ _, hS ▸ hBF.out⟩)
set_option maxRecDepth 100000 in
set_option maxHeartbeats 4000000 in
theorem rbit12_full1 (m : S12.M) (p : Pl) (b : Int) (w : World) (hM : MIs m p w) (hE : S12.bitE m b = 0) (hfull : 128 ≤ m.part) (hbv : b = 1) :
    Calls Try.prog 23 #[MV m p, .int .i64 b] w fun e w' => ∃ p', e = .returned (.tuple #[MV (S12.bitM m b) p', .int .i64 0]) ∧ MIs (S12.bitM m b) p' w' ∧ Below w.heap.size w w' := by
  have hck : S12.check m = 0 := by
    cases h : decide (S12.check m = 0) with
    | true => exact of_decide_eq_true h
    | false => unfold S12.bitE at hE; rw [if_pos (of_decide_eq_false h)] at hE; exact hE
  have hWF := (S12.check_iff m).1 hck
  have hbb : b = 0 ∨ b = 1 := by omega
  have hroom : ¬ (128 ≤ m.part ∧ 65536 ≤ m.bytes.length) := by
    unfold S12.bitE at hE
    rw [if_neg (by rw [hck]; simp), if_neg (by omega)] at hE
    split at hE
    · cases hE
    · assumption
  have HWF' := Lib.hid (hWF.bitM hM.byt hbb hE)
  have HCk := Lib.hid fun W hW => rcheck12_any m p W hW
  rw [hck] at HCk
  have HL := Lib.hid (hWF.learn b)
  have dc : decide (128 ≤ m.part) = true := by simp; omega
  have dl : ((m.bytes.length : Int) == 65536) = false := by simp; have := hWF.few; omega
  have hlb : m.bytes.length ≤ 65536 := hWF.few
  have hmat : m.len = 0 ∨ (1 ≤ m.len ∧ m.len ≤ 255) := by
    rcases (S12.matched_iff m).1 hWF.mat with ⟨h, _⟩ | h
    · exact .inl h
    · exact .inr h.len
  have H16 := Lib.hid hWF.ctrs
  have HWF := Lib.hid hWF
  have HM := Lib.hid hM
  have HRoom := Lib.hid hroom
  have HFul := Lib.hid hfull
  have HA1 := Lib.hid (hM.ap (Nat.le_refl w.heap.size))
  have HA2 := Lib.hid (hM.ap (Nat.le_succ w.heap.size))
  have hB0 : Below w.heap.size w ((w.alloc (.cells (MVals m p).toArray 27)).alloc (.cells #[.int .i64 0, .int .i64 0, .slice none 0 0, .slice none 0 0, .int .i64 0, .int .i64 0, .int .i64 0, .int .i64 0, .slice none 0 0] 27)) := by go_grown
  have A0 : Blk ((w.alloc (.cells (MVals m p).toArray 27)).alloc (.cells #[.int .i64 0, .int .i64 0, .slice none 0 0, .slice none 0 0, .int .i64 0, .int .i64 0, .int .i64 0, .int .i64 0, .slice none 0 0] 27)) w.heap.size (MVals m p) 27 := (Blk.new w _ _).alloc _
  have R0 : Blk ((w.alloc (.cells (MVals m p).toArray 27)).alloc (.cells #[.int .i64 0, .int .i64 0, .slice none 0 0, .slice none 0 0, .int .i64 0, .int .i64 0, .int .i64 0, .int .i64 0, .slice none 0 0] 27)) (w.heap.size + 1) [.int .i64 0, .int .i64 0, .slice none 0 0, .slice none 0 0, .int .i64 0, .int .i64 0, .int .i64 0, .int .i64 0, .slice none 0 0] 27 := by
    have h := Blk.new (w.alloc (.cells (MVals m p).toArray 27)) [.int .i64 0, .int .i64 0, .slice none 0 0, .slice none 0 0, .int .i64 0, .int .i64 0, .int .i64 0, .int .i64 0, .slice none 0 0] 27
    simpa using h
  clear hE hck hWF hM hroom hfull
  obtain ⟨mR, hmR⟩ : ∃ mR, S12.bitM m b = mR := ⟨_, rfl⟩
  rw [hmR] at HWF' ⊢
  have HmR0 := Lib.hid hmR
  clear hmR
  unfold MV at HCk
  unfold MVals at HCk A0 R0 hB0
  show Calls Try.prog 23 #[.agg #[.int .i64 m.bits, .int .i64 m.least, .slice p.ah m.heads.length p.ch, .slice p.ab m.bytes.length p.cb, .int .i64 m.at_, .int .i64 m.len, .int .i64 m.part, .int .i64 m.bit, .slice p.ac m.ctrs.length p.cc], .int .i64 b] w _
  obtain ⟨S, hS⟩ : ∃ S, w.heap.size = S := ⟨_, rfl⟩
  rw [hS] at A0 R0 hB0 HA1 HA2
  obtain ⟨x0, x1, x2, x3, x4, x5, x6, x7, x8⟩ := A0.nine
  obtain ⟨w0, hw0⟩ : ∃ w0, ((w.alloc (.cells #[.int .i64 m.bits, .int .i64 m.least, .slice p.ah m.heads.length p.ch, .slice p.ab m.bytes.length p.cb, .int .i64 m.at_, .int .i64 m.len, .int .i64 m.part, .int .i64 m.bit, .slice p.ac m.ctrs.length p.cc] 27)).alloc (.cells #[.int .i64 0, .int .i64 0, .slice none 0 0, .slice none 0 0, .int .i64 0, .int .i64 0, .int .i64 0, .int .i64 0, .slice none 0 0] 27)) = w0 := ⟨_, rfl⟩
  rw [hw0] at hB0 A0 R0 x0 x1 x2 x3 x4 x5 x6 x7 x8
  have e0 : (b != 0) = true := by rw [hbv]; rfl
  have e1 : (b != 1) = false := by rw [hbv]; rfl
  clear hbv
  rw [hS]
  go_enter Try.func23, Try.ntmps23
  go_wp2_with fail
  refine (HCk.out _ (HM.out.step (hS ▸ hB0))).mono ?_
  rintro e w1 ⟨rfl, hb1⟩
  have hB1 := hB0.trans (hb1.mono (Nat.le_of_lt A0.lt))
  have M1 := A0.step hb1
  have R1 := R0.step hb1
  clear x0 x1 x2 x3 x4 x5 x6 x7 x8 A0 R0 hw0 hb1 hB0
  obtain ⟨x0, x1, x2, x3, x4, x5, x6, x7, x8⟩ := M1.nine
  rcases hmat with h0 | h1
  · have hln : S12.learn m b = m := by unfold S12.learn; rw [if_pos h0]
    have dl0 : decide (0 < m.len) = false := decide_eq_false (by omega)
    have M5 : Blk w1 S (MVals (S12.learn m b) p) 27 := by rw [hln]; exact M1
    have MI5 : MIs (S12.learn m b) p w1 := by rw [hln]; exact HM.out.step (hS ▸ hB1)
    have HapS : RowKit.Hid (Ap (S12.learn m b) p S) := by rw [hln]; exact HA1
    have HapR : RowKit.Hid (Ap (S12.learn m b) p (S + 1)) := by rw [hln]; exact HA2
    have HmR : RowKit.Hid (mR = S12.expect (S12.take (S12.learn m b) (2 * (S12.learn m b).part + b))) := Lib.hid HmR0.out.symm
    have R5 := R1
    have hB5 := hB1
    obtain ⟨n, hn⟩ : ∃ n, S12.learn m b = n := ⟨_, rfl⟩
    rw [hn] at M5 MI5 HapS HapR HmR HL
    have en : n = m := by rw [← hn, hln]
    subst en
    unfold MVals at M5
    clear hn hln M1 R1 hB1 HA1 HA2
    have hn0 := Lib.hid h0
    clear h0
    obtain ⟨P, hP⟩ : ∃ P, 2 * n.part + b = P := ⟨_, rfl⟩
    have hL := HL.out
    have hpr : 1 ≤ n.part ∧ n.part ≤ 255 := by rw [hL.part]; exact HWF.out.part
    have hPr : 2 ≤ P ∧ P ≤ 511 := by omega
    have hPf : 256 ≤ P := by have := hL.part; have := HFul.out; omega
    have hPd : decide (255 < P) = true := by simp; omega
    have hmR : mR = S12.expect (S12.take n P) := by rw [HmR.out, hP]
    have ht : S12.take n P = S12.search (S12.extend { n with bytes := n.bytes ++ [P - 256], part := 1 }) := by unfold S12.take; rw [if_pos (by omega)]
    rw [ht] at hmR
    obtain ⟨x0, x1, x2, x3, x4, x5, x6, x7, x8⟩ := M5.nine
    have f6 := M5.free 6
    have M6 := M5.set 6 (.int .i64 P)
    have R6 := R5.other S 6 (.int .i64 P) (by omega)
    have hB6 := hB5.setCell (p := ⟨S, 6, none⟩) (Nat.le_refl S) (.int .i64 P)
    have MI6 : MIs { n with part := P } p (w1.setCell ⟨S, 6, none⟩ (.int .i64 P)) := by
      have h := MI5.setO HapS.out 6 (.int .i64 P)
      exact ⟨h.rdh, h.rdb, h.rdc, h.byt, h.cb, h.lh, h.lb, h.lc⟩
    simp only [List.set_cons_zero, List.set_cons_succ] at M6
    obtain ⟨w6, hw6⟩ : ∃ w6, w1.setCell ⟨S, 6, none⟩ (.int .i64 P) = w6 := ⟨_, rfl⟩
    rw [hw6] at M6 R6 hB6 MI6
    obtain ⟨z0, z1, z2, z3, z4, z5, z6, z7, z8⟩ := M6.nine
    clear M5 R5 hB5 MI5 hmR ht
    obtain ⟨yn, hyn⟩ : ∃ yn : Nat, P - 256 = yn := ⟨(P - 256).toNat, by omega⟩
    have hyn2 : yn < 256 := by omega
    have hPy : P = 256 + (yn : Int) := by omega
    have hfull9 := S12.full_ok HWF.out hL HM.out.byt (show 0 ≤ (yn : Int) ∧ (yn : Int) < 256 by omega)
    have HmR2 : RowKit.Hid (mR = S12.expect (S12.search (S12.extend { n with bytes := n.bytes ++ [(yn : Int)], part := 1 }))) := by
      have hmR : mR = S12.expect (S12.take n P) := by rw [HmR.out, hP]
      refine Lib.hid ?_
      rw [hmR]
      unfold S12.take
      rw [if_pos (by omega), hyn]
    have hla : (0 ≤ n.len ∧ n.len ≤ 255) ∧ (0 ≤ n.at_ ∧ n.at_ ≤ 65536) := by
      rcases hL.alt with ⟨a1, a2⟩ | ⟨a1, a2, a3, a4⟩
      · omega
      · have hMt := HWF.out.Mat a1
        have c1 := hMt.len
        have c2 := hMt.at_
        have c3 := HWF.out.few
        omega
    have HC := Lib.hid fun W (hW : MIs { n with part := P } p W) => show Calls Try.prog 51 #[.agg #[.int .i64 n.bits, .int .i64 n.least, .slice (p).ah n.heads.length (p).ch, .slice (p).ab n.bytes.length (p).cb, .int .i64 n.at_, .int .i64 n.len, .int .i64 P, .int .i64 n.bit, .slice (p).ac n.ctrs.length (p).cc]] W _ from rcomplete12_m { n with part := P } p W yn (by simp only; rw [hL.bits]; exact HWF.out.bits) (by simp only; rw [hL.least]; exact HWF.out.least) (by simp only; rw [hL.heads, hL.bits]; exact HWF.out.heads) (by simp only; rw [hL.heads, hL.bytes]; exact HWF.out.head) (by simp only; rw [hL.bytes]; have := HRoom.out; have := HFul.out; have := HWF.out.few; omega) hPy hyn2 hla.1 hla.2 hW
    clear hL hfull9 hla hPy hyn
    go_wp2_with fail
    refine (HC.out _ MI6).mono ?_
    rintro e w8 ⟨q8, rfl, MI8, hn8, hb8⟩
    obtain ⟨t8, ht8⟩ : ∃ t8, S12.search (S12.extend { n with bytes := n.bytes ++ [(yn : Int)], part := 1 }) = t8 := ⟨_, rfl⟩
    have HapS8 := HapS.out.new (m' := t8) (Nat.lt_trans (Nat.lt_succ_self S) R6.lt) hn8 (by rw [← ht8]; exact S12.se_heads _) (by rw [← ht8]; exact S12.se_ctrs _)
    have HapR8 := HapR.out.new (m' := t8) R6.lt hn8 (by rw [← ht8]; exact S12.se_heads _) (by rw [← ht8]; exact S12.se_ctrs _)
    rw [ht8] at HmR2 MI8 ⊢
    have M8 := M6.step hb8
    have R8 := R6.step hb8
    have hB8 := hB6.trans (hb8.mono (Nat.le_of_lt M6.lt))
    clear HC M6 R6 hB6 MI6 HapS HapR hn8 x0 x1 x2 x3 x4 x5 x6 x7 x8 z0 z1 z2 z3 z4 z5 z6 z7 z8 f6 hw6
    have HapS := Lib.hid HapS8
    have HapR := Lib.hid HapR8
    obtain ⟨x0, x1, x2, x3, x4, x5, x6, x7, x8⟩ := M8.nine
    have fq0 := M8.free 0
    have fq1 := M8.free 1
    have fq2 := M8.free 2
    have fq3 := M8.free 3
    have fq4 := M8.free 4
    have fq5 := M8.free 5
    have fq6 := M8.free 6
    have fq7 := M8.free 7
    have fq8 := M8.free 8
    have M9 := M8.put9 (.int .i64 t8.bits) (.int .i64 t8.least) (.slice q8.ah t8.heads.length q8.ch) (.slice q8.ab t8.bytes.length q8.cb) (.int .i64 t8.at_) (.int .i64 t8.len) (.int .i64 t8.part) (.int .i64 t8.bit) (.slice q8.ac t8.ctrs.length q8.cc)
    have R9 := R8.other9 (b := S) (by omega) (.int .i64 t8.bits) (.int .i64 t8.least) (.slice q8.ah t8.heads.length q8.ch) (.slice q8.ab t8.bytes.length q8.cb) (.int .i64 t8.at_) (.int .i64 t8.len) (.int .i64 t8.part) (.int .i64 t8.bit) (.slice q8.ac t8.ctrs.length q8.cc)
    have hB9 := below_put9 hB8 (Nat.le_refl S) (.int .i64 t8.bits) (.int .i64 t8.least) (.slice q8.ah t8.heads.length q8.ch) (.slice q8.ab t8.bytes.length q8.cb) (.int .i64 t8.at_) (.int .i64 t8.len) (.int .i64 t8.part) (.int .i64 t8.bit) (.slice q8.ac t8.ctrs.length q8.cc)
    have MI9 := MI8.put9 HapS.out.1 HapS.out.2.1 HapS.out.2.2 (.int .i64 t8.bits) (.int .i64 t8.least) (.slice q8.ah t8.heads.length q8.ch) (.slice q8.ab t8.bytes.length q8.cb) (.int .i64 t8.at_) (.int .i64 t8.len) (.int .i64 t8.part) (.int .i64 t8.bit) (.slice q8.ac t8.ctrs.length q8.cc)
    obtain ⟨w9, hw9⟩ : ∃ w9, ((((((((((w8.setCell ⟨S, 0, none⟩ (.int .i64 t8.bits)).setCell ⟨S, 1, none⟩ (.int .i64 t8.least)).setCell ⟨S, 2, none⟩ (.slice q8.ah t8.heads.length q8.ch)).setCell ⟨S, 3, none⟩ (.slice q8.ab t8.bytes.length q8.cb)).setCell ⟨S, 4, none⟩ (.int .i64 t8.at_)).setCell ⟨S, 5, none⟩ (.int .i64 t8.len)).setCell ⟨S, 6, none⟩ (.int .i64 t8.part)).setCell ⟨S, 7, none⟩ (.int .i64 t8.bit)).setCell ⟨S, 8, none⟩ (.slice q8.ac t8.ctrs.length q8.cc))) = w9 := ⟨_, rfl⟩
    rw [hw9] at M9 R9 hB9 MI9
    clear M8 R8 hB8 MI8
    unfold MV MVals
    obtain ⟨x0, x1, x2, x3, x4, x5, x6, x7, x8⟩ := M9.nine
    have f7 := M9.free 7
    have MB := M9.set 7 (.int .i64 2)
    have RB := R9.other S 7 (.int .i64 2) (by omega)
    have hBB := hB9.setCell (p := ⟨S, 7, none⟩) (Nat.le_refl S) (.int .i64 2)
    have IB := MI9.setO HapS.out 7 (.int .i64 2)
    simp only [List.set_cons_zero, List.set_cons_succ] at MB
    obtain ⟨wB, hwB⟩ : ∃ wB, w9.setCell ⟨S, 7, none⟩ (.int .i64 2) = wB := ⟨_, rfl⟩
    rw [hwB] at MB RB hBB IB
    obtain ⟨z0, z1, z2, z3, z4, z5, z6, z7, z8⟩ := MB.nine
    have lS := MB.lt
    have lR := RB.lt
    clear M9 R9 hB9 MI9
    by_cases hln : 0 < (t8).len
    · skip
      have eR : mR = { t8 with bit := S12.expI ((t8).bytes.getD (t8).at_.toNat 0) (t8).part } := by rw [HmR2.out]; unfold S12.expect; rw [if_pos hln]
      have hWR : S12.WF { t8 with bit := S12.expI ((t8).bytes.getD (t8).at_.toNat 0) (t8).part } := by rw [← eR]; exact HWF'.out
      have hma := hWR.Mat (show (t8).len ≠ 0 by omega)
      have hma1 : (t8).len ≤ (t8).at_ ∧ (t8).at_ ≤ ((t8).bytes.length : Int) - 1 := hma.at_
      have hma2 : 1 ≤ (t8).len ∧ (t8).len ≤ 255 := hma.len
      have hpt : 1 ≤ (t8).part ∧ (t8).part ≤ 255 := hWR.part
      obtain ⟨pt, hptn⟩ : ∃ pt : Nat, (t8).part = pt := ⟨(t8).part.toNat, by omega⟩
      obtain ⟨q, hq⟩ : ∃ q : Nat, (t8).at_ = q := ⟨(t8).at_.toNat, by omega⟩
      have hbyT : S12.Byt (t8).bytes := IB.byt
      have hx0 : 0 ≤ (t8).bytes.getD q 0 := hbyT.get q
      have hx1 : ((t8).bytes.getD q 0).toNat < 256 := hbyT.at q
      obtain ⟨xn, hxn⟩ : ∃ xn : Nat, (t8).bytes.getD q 0 = xn := ⟨((t8).bytes.getD q 0).toNat, (Int.toNat_of_nonneg hx0).symm⟩
      have hxn2 : xn < 256 := by rw [hxn] at hx1; omega
      obtain ⟨gB, oB, eB, hcB⟩ := Bts_at IB.rdb (i := q) (show q < (t8).bytes.length by omega)
      have hcB2 := hcB q (show q < (t8).bytes.length by omega)
      (try simp only at eB hcB2)
      rw [show (t8).bytes.getD q 0 = (xn : Int) from hxn] at hcB2
      have hql : q < (t8).bytes.length := by omega
      have hgS : ¬ gB = S := HapS.out.2.1 gB oB eB (fun h => by have h2 : (Bts (t8).bytes).length = 0 := (by rw [h]; rfl); rw [Bts_length] at h2; omega)
      have hgS2 : ¬ S = gB := fun h => hgS h.symm
      have hC21 : HasC [(⟨S, 3, none⟩, .slice (some ⟨gB, oB, none⟩) (t8).bytes.length (q8).cb), (⟨S, 4, none⟩, .int .i64 (q : Int)), (⟨S, 6, none⟩, .int .i64 (pt : Int)), (⟨gB, oB + q, none⟩, .int .u8 (xn : Int))] wB :=
        ⟨by rw [← eB]; exact z3, by rw [← hq]; exact z4, by rw [← hptn]; exact z6, hcB2, trivial⟩
      have HEx := Lib.hid fun W => rexpected12_any xn pt hxn2 (by omega) (by omega) W
      obtain ⟨bv, hbv⟩ : ∃ bv, S12.optN (S12.exp xn (pt : Int)) = bv := ⟨_, rfl⟩
      have hbv2 : S12.expI ((t8).bytes.getD (t8).at_.toNat 0) (t8).part = bv := by rw [S12.expI_eq, hq, Int.toNat_natCast, hxn, Int.toNat_natCast, hptn, hbv]
      rw [hbv] at HEx
      rw [hbv2] at eR
      have HeR := Lib.hid eR
      obtain ⟨isS, hisS⟩ : ∃ isS, (S12.exp xn (pt : Int)).isSome = isS := ⟨_, rfl⟩
      rw [hisS] at HEx
      have eln : decide (0 < (t8).len) = true := decide_eq_true hln
      have Hqq := Lib.hid hq
      have HeB := Lib.hid eB
      clear hma hma1 hma2 hWR hbv hbv2 hxn hcB hcB2 eR hisS hln hpt hx0 hx1 hq hptn eB hbyT
      go_wp2_with fail
      clear x0 x1 x2 x3 x4 x5 x6 x7 x8 f7 eln z0 z1 z2 z3 z4 z5 z6 z7 z8
      refine wp_region_useq 13 14 0 [(.p, [true]), (.r, [false, true]), (.p, [false, false, true]), (.r, [false, false, false, true]), (.p, [false, false, false, false, true]), (.r, [false, false, false, false, false, true]), (.p, [false, false, false, false, false, false, true]), (.r, [false, false, false, false, false, false, false, true]), (.e, [false, false, false, false, false, false, false, false, true]), (.p, [false, false, false, false, false, false, false, false, false, true, true, true, true]), (.l, [false, false, false, false, false, false, false, false, false, false, false, false, false, true])] _ _ (HasC [(⟨S, 3, none⟩, .slice (some ⟨gB, oB, none⟩) (t8).bytes.length (q8).cb), (⟨S, 4, none⟩, .int .i64 (q : Int)), (⟨S, 6, none⟩, .int .i64 (pt : Int)), (⟨gB, oB + q, none⟩, .int .u8 (xn : Int))]) (by kernel_rfl) (List.take_append_drop 14 _).symm (by kernel_rfl) (by kernel_rfl) (by kernel_rfl) (by kernel_rfl) (hC21) (fun Y Q4 F4 hY hF => ?_)
      simp only [phasedU, List.flatMap_cons, List.flatMap_nil, List.take_succ_cons, List.take_zero, List.drop_succ_cons, List.drop_zero, sel_true, sel_false, sel_nil, List.map_cons, List.map_nil, List.cons_append, List.nil_append, List.append_nil]
      repeat
        first
          | (apply wpSeqU_pure (by first | rfl | (rw [hY]; rfl))
             · intro w2
               go_simp
               with_reducible rfl
             simp only [Act.put, List.setIfInBounds_toArray, List.set_cons_zero, List.set_cons_succ])
          | (apply wpSeqU_read (by first | rfl | (rw [hY]; rfl))
             · intro w2 hS2
               (try simp only [Keeps, Cells] at hS2)
               (try simp only [HasC, Cells] at hS2)
               go_simp
               with_reducible rfl
             simp only [Act.put, List.setIfInBounds_toArray, List.set_cons_zero, List.set_cons_succ])
      apply wpSeqU_call (by first | rfl | (rw [hY]; rfl))
      · go_simp
        with_reducible exact ⟨rfl, rfl⟩
      refine (HEx.out _).mono ?_
      rintro e w22 ⟨rfl, hb22⟩
      have hE22 := below_trans (below_drew wB.heap.size wB) hb22
      refine ⟨_, rfl, Cells.step hE22 hC21, ?_⟩
      simp only [Act.put, List.setIfInBounds_toArray, List.set_cons_zero, List.set_cons_succ]
      repeat
        first
          | (apply wpSeqU_pure (by first | rfl | (rw [hY]; rfl))
             · intro w2
               go_simp
               with_reducible rfl
             simp only [Act.put, List.setIfInBounds_toArray, List.set_cons_zero, List.set_cons_succ])
          | (apply wpSeqU_read (by first | rfl | (rw [hY]; rfl))
             · intro w2 hS2
               (try simp only [Keeps, Cells] at hS2)
               (try simp only [HasC, Cells] at hS2)
               go_simp
               with_reducible rfl
             simp only [Act.put, List.setIfInBounds_toArray, List.set_cons_zero, List.set_cons_succ])
      have M22 := MB.step hE22
      have y7 := M22.cell 7
      have f7 := M22.free 7
      refine wpSeqU_last_store (by first | rfl | (rw [hY]; rfl)) (by go_simp; first | with_reducible exact ⟨rfl, rfl⟩ | with_reducible rfl) ?_
      simp only [Act.put, List.setIfInBounds_toArray, List.set_cons_zero, List.set_cons_succ]
      refine wpSeqU_done (hF.out _ _ (fun K hK => ?_))
      clear hF hY
      have R23 := (RB.step hE22).other S 7 (.int .i64 bv) (by omega)
      have M23 := M22.set 7 (.int .i64 bv)
      have hB23 := (hBB.trans (hE22.mono (Nat.le_of_lt lS))).setCell (p := ⟨S, 7, none⟩) (Nat.le_refl S) (.int .i64 bv)
      have I23 := (IB.step hE22).setO HapS.out 7 (.int .i64 bv)
      simp only [List.set_cons_zero, List.set_cons_succ] at M23
      go_wp2_with fail
      refine OnlyK.mk (hK.out _ _ ?_)
      clear hK y7 f7 hC21 M22
      obtain ⟨w23, hw23⟩ : ∃ w23, w22.setCell ⟨S, 7, none⟩ (.int .i64 bv) = w23 := ⟨_, rfl⟩
      rw [hw23] at M23 hB23 R23 I23 ⊢
      clear hw23
      obtain ⟨x0, x1, x2, x3, x4, x5, x6, x7, x8⟩ := M23.nine
      obtain ⟨z0, z1, z2, z3, z4, z5, z6, z7, z8⟩ := R23.nine
      have fr0 := R23.free 0
      have fr1 := R23.free 1
      have fr2 := R23.free 2
      have fr3 := R23.free 3
      have fr4 := R23.free 4
      have fr5 := R23.free 5
      have fr6 := R23.free 6
      have fr7 := R23.free 7
      have fr8 := R23.free 8
      have Hm : RowKit.Hid (MIs { t8 with bit := bv } q8 w23) := Lib.hid ⟨I23.rdh, I23.rdb, I23.rdc, I23.byt, I23.cb, I23.lh, I23.lb, I23.lc⟩
      have hBF := Lib.hid (below_put9 hB23 (Nat.le_succ S) (.int .i64 (t8).bits) (.int .i64 (t8).least) (.slice (q8).ah (t8).heads.length (q8).ch) (.slice (q8).ab (t8).bytes.length (q8).cb) (.int .i64 (t8).at_) (.int .i64 (t8).len) (.int .i64 (t8).part) (.int .i64 bv) (.slice (q8).ac (t8).ctrs.length (q8).cc))
      have eR := HeR.out
      subst eR
      obtain ⟨y0, y1, y2, y3, y4, y5, y6, y7, y8⟩ := (R23.put9 (.int .i64 (t8).bits) (.int .i64 (t8).least) (.slice (q8).ah (t8).heads.length (q8).ch) (.slice (q8).ab (t8).bytes.length (q8).cb) (.int .i64 (t8).at_) (.int .i64 (t8).len) (.int .i64 (t8).part) (.int .i64 bv) (.slice (q8).ac (t8).ctrs.length (q8).cc)).nine
      clear M23 R23 hB23 I23
      go_wp2_with (exact bodyPost_ret (v := .tuple #[MV { t8 with bit := bv } q8, .int .i64 0]) (by simp [results, Try.results23, go_sem, MV, MVals, y0, y1, y2, y3, y4, y5, y6, y7, y8]) rfl ⟨q8, rfl, Hm.out.put9 HapR.out.1 HapR.out.2.1 HapR.out.2.2 _ _ _ _ _ _ _ _ _, hS ▸ hBF.out⟩)
    · skip
      have eR : mR = { t8 with bit := 2 } := by rw [HmR2.out]; unfold S12.expect; rw [if_neg hln]
      have eln : decide (0 < (t8).len) = false := decide_eq_false hln
      obtain ⟨r0, r1, r2, r3, r4, r5, r6, r7, r8⟩ := RB.nine
      have fr0 := RB.free 0
      have fr1 := RB.free 1
      have fr2 := RB.free 2
      have fr3 := RB.free 3
      have fr4 := RB.free 4
      have fr5 := RB.free 5
      have fr6 := RB.free 6
      have fr7 := RB.free 7
      have fr8 := RB.free 8
      have Hm : RowKit.Hid (MIs { t8 with bit := 2 } q8 wB) := Lib.hid ⟨IB.rdh, IB.rdb, IB.rdc, IB.byt, IB.cb, IB.lh, IB.lb, IB.lc⟩
      have hBF := Lib.hid (below_put9 hBB (Nat.le_succ S) (.int .i64 (t8).bits) (.int .i64 (t8).least) (.slice (q8).ah (t8).heads.length (q8).ch) (.slice (q8).ab (t8).bytes.length (q8).cb) (.int .i64 (t8).at_) (.int .i64 (t8).len) (.int .i64 (t8).part) (.int .i64 2) (.slice (q8).ac (t8).ctrs.length (q8).cc))
      subst eR
      obtain ⟨y0, y1, y2, y3, y4, y5, y6, y7, y8⟩ := (RB.put9 (.int .i64 (t8).bits) (.int .i64 (t8).least) (.slice (q8).ah (t8).heads.length (q8).ch) (.slice (q8).ab (t8).bytes.length (q8).cb) (.int .i64 (t8).at_) (.int .i64 (t8).len) (.int .i64 (t8).part) (.int .i64 2) (.slice (q8).ac (t8).ctrs.length (q8).cc)).nine
      clear MB RB hBB IB hln
      go_wp2_with (exact bodyPost_ret (v := .tuple #[MV { t8 with bit := 2 } q8, .int .i64 0]) (by simp [results, Try.results23, go_sem, MV, MVals, y0, y1, y2, y3, y4, y5, y6, y7, y8]) rfl ⟨q8, rfl, Hm.out.put9 HapR.out.1 HapR.out.2.1 HapR.out.2.2 _ _ _ _ _ _ _ _ _, hS ▸ hBF.out⟩)
  · have dl1 : decide (0 < m.len) = true := decide_eq_true (by omega)
    obtain ⟨k, hk⟩ : ∃ k : Nat, min m.len.toNat 15 = k := ⟨_, rfl⟩
    have hkm : min m.len 15 = (k : Int) := by omega
    obtain ⟨cp, hcp⟩ : ∃ cp, m.ctrs.getD k (0, 0) = cp := ⟨_, rfl⟩
    have hk16 : k < m.ctrs.length := by have := H16.out; omega
    have hok : S08.check cp.1 cp.2 255 = 0 := HWF.out.ctr cp (by rw [← hcp, S12.getD_in _ _ hk16]; exact List.getElem_mem hk16)
    have HU := Lib.hid fun r (hr : r = 0 ∨ r = 1) W => rupd12_ok hok hr W
    have hlearn : S12.learn m b = if b = m.bit then { m with ctrs := m.ctrs.set k (S08.step cp.1 cp.2 1, min (cp.2 + 1) 255) } else { m with ctrs := m.ctrs.set k (S08.step cp.1 cp.2 0, min (cp.2 + 1) 255), at_ := 0, len := 0 } := by
      unfold S12.learn
      rw [if_neg (by omega), hk, hcp]
    obtain ⟨p0, p1⟩ := cp
    have Hcp := Lib.hid hcp
    have Hk16 := Lib.hid hk16
    simp only at hlearn HU
    obtain ⟨n1, hn1⟩ : ∃ n1, min (p1 + 1) 255 = n1 := ⟨_, rfl⟩
    rw [hn1] at hlearn HU
    have hk9 : k < 16 := by omega
    clear hn1 hcp hk16 hok hk h1
    by_cases hbit : b = m.bit
    · rw [if_pos hbit] at hlearn
      have eb : (b == m.bit) = true := by simp [hbit]
      have HU1 := Lib.hid fun W => HU.out 1 (.inr rfl) W
      obtain ⟨s1, hs1⟩ : ∃ s1, S08.step p0 p1 1 = s1 := ⟨_, rfl⟩
      rw [hs1] at HU1 hlearn
      have Hlearn := Lib.hid hlearn
      clear HU hs1 hbit hlearn
      have hrdF := Lib.hid (((HM.out.step (hS ▸ hB1)).rdc).step ((Below.refl w1.heap.size w1).alloc (Nat.le_refl _) (Obj.cells #[] 35)))
      have HM1 := Lib.hid M1
      have HR1 := Lib.hid R1
      have HBB := Lib.hid hB1
      have l1 := R1.lt
      have lS1 := M1.lt
      have f8 := M1.free 8
      clear M1 R1 hB1
      go_wp2_with (first
        | (at_builtin
           refine wpList_append_rd _ _ 25 35 2 16 _ w1.heap.size elems_ctrs rfl rfl _ 0 [] rfl (World.ownsRow_made w1 #[] 0 (Nat.le_refl _) (by decide) rfl) p.ac m.ctrs.length p.cc (Cts m.ctrs) rfl (by rw [Cts_length]) hrdF.out (Cts_one _) (by have := H16.out; unfold maxLen; omega) (by have := H16.out; omega) (by simp) ?_
           intro a2 cap2 w2 hown2 hgrow2
           have hb2 : Below w1.heap.size w1 w2 := Below.grown (by go_grown) hgrow2 (by simp) (fun k e => by cases e; exact Nat.le_refl _)
           simp only [Nat.zero_add, List.nil_append] at hown2 ⊢
           obtain ⟨gc, rfl, hgc, hOC⟩ := Own.of_owns hown2 (by have := H16.out; omega) (by decide)
           clear hown2 hgrow2
           have M2 := HM1.out.step hb2
           have R2 := HR1.out.step hb2
           have hB2 := HBB.out.trans (hb2.mono (Nat.le_of_lt HM1.out.lt))
           have dS : ¬ gc = S := by omega
           have dS2 : ¬ S = gc := by omega
           have dR : ¬ S + 1 = gc := by omega
           have v8 := M2.cell 8
           have e8 := M2.free 8
           have M3 := M2.set 8 (.slice (some ⟨gc, 0, none⟩) m.ctrs.length cap2)
           have R3 := R2.other S 8 (.slice (some ⟨gc, 0, none⟩) m.ctrs.length cap2) (by omega)
           have hB3 := hB2.setCell (p := ⟨S, 8, none⟩) (Nat.le_refl S) (.slice (some ⟨gc, 0, none⟩) m.ctrs.length cap2)
           have C3 := hOC.other S 8 (.slice (some ⟨gc, 0, none⟩) m.ctrs.length cap2) dS
           simp only [List.set_cons_zero, List.set_cons_succ] at M3
           obtain ⟨w3, hw3⟩ : ∃ w3, w2.setCell ⟨S, 8, none⟩ (.slice (some ⟨gc, 0, none⟩) m.ctrs.length cap2) = w3 := ⟨_, rfl⟩
           rw [hw3] at M3 R3 hB3 C3
           have hC3 : HasC [(⟨S, 8, none⟩, .slice (some ⟨gc, 0, none⟩) m.ctrs.length cap2), (⟨gc, k * 2, none⟩, .int .i64 p0), (⟨gc, k * 2 + 1, none⟩, .int .i64 p1)] w3 :=
             ⟨M3.cell 8, by rw [C3.cell (by have := Hk16.out; rw [Cts_length]; omega), (Cts_at Hk16.out).1, ← S12.getD_in _ (0, 0) Hk16.out, Hcp.out], by rw [C3.cell (by have := Hk16.out; rw [Cts_length]; omega), (Cts_at Hk16.out).2, ← S12.getD_in _ (0, 0) Hk16.out, Hcp.out], trivial⟩
           clear M2 R2 hB2 hOC))
      clear v8 e8 f8 hw3 x0 x1 x2 x3 x4 x5 x6 x7 x8
      have hkl := Hk16.out
      refine wp_region_useq 14 15 0 [(.p, [true]), (.r, [false, true]), (.p, [false, false, true, true]), (.r, [false, false, false, false, true]), (.p, [false, false, false, false, false, true, true]), (.r, [false, false, false, false, false, false, false, true]), (.p, [false, false, false, false, false, false, false, false, true]), (.e, [false, false, false, false, false, false, false, false, false, true]), (.p, [false, false, false, false, false, false, false, false, false, false, true, true, true, true]), (.l, [false, false, false, false, false, false, false, false, false, false, false, false, false, false, true])] _ _ (HasC [(⟨S, 8, none⟩, .slice (some ⟨gc, 0, none⟩) m.ctrs.length cap2), (⟨gc, k * 2, none⟩, .int .i64 p0), (⟨gc, k * 2 + 1, none⟩, .int .i64 p1)]) (by kernel_rfl) (List.take_append_drop 15 _).symm (by kernel_rfl) (by kernel_rfl) (by kernel_rfl) (by kernel_rfl) (hC3) (fun Y Q4 F4 hY hF => ?_)
      simp only [phasedU, List.flatMap_cons, List.flatMap_nil, List.take_succ_cons, List.take_zero, List.drop_succ_cons, List.drop_zero, sel_true, sel_false, sel_nil, List.map_cons, List.map_nil, List.cons_append, List.nil_append, List.append_nil]
      repeat
        first
          | (apply wpSeqU_pure (by first | rfl | (rw [hY]; rfl))
             · intro w2
               go_simp
               with_reducible rfl
             simp only [Act.put, List.setIfInBounds_toArray, List.set_cons_zero, List.set_cons_succ])
          | (apply wpSeqU_read (by first | rfl | (rw [hY]; rfl))
             · intro w2 hS2
               (try simp only [Keeps, Cells] at hS2)
               (try simp only [HasC, Cells] at hS2)
               go_simp
               with_reducible rfl
             simp only [Act.put, List.setIfInBounds_toArray, List.set_cons_zero, List.set_cons_succ])
      apply wpSeqU_call (by first | rfl | (rw [hY]; rfl))
      · go_simp
        with_reducible exact ⟨rfl, rfl⟩
      refine (HU1.out _).mono ?_
      rintro e w4 ⟨rfl, hb4⟩
      have hE4 := below_trans (below_drew w3.heap.size w3) hb4
      have hC4 := Cells.step hE4 hC3
      refine ⟨_, rfl, hC4, ?_⟩
      simp only [Act.put, List.setIfInBounds_toArray, List.set_cons_zero, List.set_cons_succ]
      repeat
        first
          | (apply wpSeqU_pure (by first | rfl | (rw [hY]; rfl))
             · intro w2
               go_simp
               with_reducible rfl
             simp only [Act.put, List.setIfInBounds_toArray, List.set_cons_zero, List.set_cons_succ])
          | (apply wpSeqU_read (by first | rfl | (rw [hY]; rfl))
             · intro w2 hS2
               (try simp only [Keeps, Cells] at hS2)
               (try simp only [HasC, Cells] at hS2)
               go_simp
               with_reducible rfl
             simp only [Act.put, List.setIfInBounds_toArray, List.set_cons_zero, List.set_cons_succ])
      have M4 := M3.step hE4
      have R4 := R3.step hE4
      have C4 := C3.step hE4
      have hB4 := hB3.trans (hE4.mono (Nat.le_of_lt M3.lt))
      have y5 : w4.cell? ⟨gc, k * 2, none⟩ = some (.int .i64 p0) := hC4.2.1
      have y6 : w4.cell? ⟨gc, k * 2 + 1, none⟩ = some (.int .i64 p1) := hC4.2.2.1
      have g5 := C4.free (k * 2)
      have g6 := C4.free (k * 2 + 1)
      refine wpSeqU_last_store (by first | rfl | (rw [hY]; rfl)) (by go_simp; first | with_reducible exact ⟨rfl, rfl⟩ | with_reducible rfl) ?_
      simp only [Act.put, List.setIfInBounds_toArray, List.set_cons_zero, List.set_cons_succ]
      refine wpSeqU_done (hF.out _ _ (fun K hK => ?_))
      clear hF hY
      have M5 := (M4.other gc (k * 2) (.int .i64 s1) dS2).other gc (k * 2 + 1) (.int .i64 n1) dS2
      have R5 := (R4.other gc (k * 2) (.int .i64 s1) dR).other gc (k * 2 + 1) (.int .i64 n1) dR
      have hB5 := (hB4.setCell (p := ⟨gc, k * 2, none⟩) (show S ≤ gc by omega) (.int .i64 s1)).setCell (p := ⟨gc, k * 2 + 1, none⟩) (show S ≤ gc by omega) (.int .i64 n1)
      have C5 := (C4.set (i := k * 2) (by rw [Cts_length]; omega) (.int .i64 s1)).set (i := k * 2 + 1) (by rw [List.length_set, Cts_length]; omega) (.int .i64 n1)
      rw [← Cts_set] at C5
      go_wp2_with fail
      refine OnlyK.mk (hK.out _ _ ?_)
      clear hK hC3 hC4 y5 y6 g5 g6 M4 R4 C4 hB4 M3 R3 C3 hB3
      obtain ⟨w5, hw5⟩ : ∃ w5, (w4.setCell ⟨gc, k * 2, none⟩ (.int .i64 s1)).setCell ⟨gc, k * 2 + 1, none⟩ (.int .i64 n1) = w5 := ⟨_, rfl⟩
      rw [hw5] at M5 R5 hB5 C5 ⊢
      clear hw5
      have HL0 := HM.out.step (below_of hS hB5)
      have M9 : Blk w5 S (MVals (S12.learn m b) ⟨p.ah, p.ch, p.ab, p.cb, some ⟨gc, 0, none⟩, cap2⟩) 27 := by
        rw [Hlearn.out]; unfold MVals; simp only [List.length_set]; exact M5
      have MI9 : MIs (S12.learn m b) ⟨p.ah, p.ch, p.ab, p.cb, some ⟨gc, 0, none⟩, cap2⟩ w5 := by
        rw [Hlearn.out]; exact ⟨HL0.rdh, HL0.rdb, C5.rd, HL0.byt, HL0.cb, HL0.lh, HL0.lb, by simp only [List.length_set]; exact HL0.lc⟩
      have HapS : RowKit.Hid (Ap (S12.learn m b) ⟨p.ah, p.ch, p.ab, p.cb, some ⟨gc, 0, none⟩, cap2⟩ S) := by
        rw [Hlearn.out]; exact Lib.hid ⟨HA1.out.1, HA1.out.2.1, fun g o e _ => by cases e; omega⟩
      have HapR : RowKit.Hid (Ap (S12.learn m b) ⟨p.ah, p.ch, p.ab, p.cb, some ⟨gc, 0, none⟩, cap2⟩ (S + 1)) := by
        rw [Hlearn.out]; exact Lib.hid ⟨HA2.out.1, HA2.out.2.1, fun g o e _ => by cases e; omega⟩
      have HmR : RowKit.Hid (mR = S12.expect (S12.take (S12.learn m b) (2 * (S12.learn m b).part + b))) := Lib.hid HmR0.out.symm
      obtain ⟨n, hn⟩ : ∃ n, S12.learn m b = n := ⟨_, rfl⟩
      obtain ⟨qn, hqn⟩ : ∃ qn : Pl, (⟨p.ah, p.ch, p.ab, p.cb, some ⟨gc, 0, none⟩, cap2⟩ : Pl) = qn := ⟨_, rfl⟩
      rw [hn] at M9 MI9 HapS HapR HmR HL
      rw [hqn] at M9 MI9 HapS HapR
      have R9 := R5
      have hB9 := hB5
      unfold MVals at M9
      clear HL0 hn hqn Hlearn M5 C5 R5 hB5 HA1 HA2 eb dl1 dS dS2 dR hkl
      obtain ⟨P, hP⟩ : ∃ P, 2 * n.part + b = P := ⟨_, rfl⟩
      have hL := HL.out
      have hpr : 1 ≤ n.part ∧ n.part ≤ 255 := by rw [hL.part]; exact HWF.out.part
      have hPr : 2 ≤ P ∧ P ≤ 511 := by omega
      have hPf : 256 ≤ P := by have := hL.part; have := HFul.out; omega
      have hPd : decide (255 < P) = true := by simp; omega
      have hmR : mR = S12.expect (S12.take n P) := by rw [HmR.out, hP]
      have ht : S12.take n P = S12.search (S12.extend { n with bytes := n.bytes ++ [P - 256], part := 1 }) := by unfold S12.take; rw [if_pos (by omega)]
      rw [ht] at hmR
      obtain ⟨x0, x1, x2, x3, x4, x5, x6, x7, x8⟩ := M9.nine
      have f6 := M9.free 6
      have M6 := M9.set 6 (.int .i64 P)
      have R6 := R9.other S 6 (.int .i64 P) (by omega)
      have hB6 := hB9.setCell (p := ⟨S, 6, none⟩) (Nat.le_refl S) (.int .i64 P)
      have MI6 : MIs { n with part := P } qn (w5.setCell ⟨S, 6, none⟩ (.int .i64 P)) := by
        have h := MI9.setO HapS.out 6 (.int .i64 P)
        exact ⟨h.rdh, h.rdb, h.rdc, h.byt, h.cb, h.lh, h.lb, h.lc⟩
      simp only [List.set_cons_zero, List.set_cons_succ] at M6
      obtain ⟨w6, hw6⟩ : ∃ w6, w5.setCell ⟨S, 6, none⟩ (.int .i64 P) = w6 := ⟨_, rfl⟩
      rw [hw6] at M6 R6 hB6 MI6
      obtain ⟨z0, z1, z2, z3, z4, z5, z6, z7, z8⟩ := M6.nine
      clear M9 R9 hB9 MI9 hmR ht
      obtain ⟨yn, hyn⟩ : ∃ yn : Nat, P - 256 = yn := ⟨(P - 256).toNat, by omega⟩
      have hyn2 : yn < 256 := by omega
      have hPy : P = 256 + (yn : Int) := by omega
      have hfull9 := S12.full_ok HWF.out hL HM.out.byt (show 0 ≤ (yn : Int) ∧ (yn : Int) < 256 by omega)
      have HmR2 : RowKit.Hid (mR = S12.expect (S12.search (S12.extend { n with bytes := n.bytes ++ [(yn : Int)], part := 1 }))) := by
        have hmR : mR = S12.expect (S12.take n P) := by rw [HmR.out, hP]
        refine Lib.hid ?_
        rw [hmR]
        unfold S12.take
        rw [if_pos (by omega), hyn]
      have hla : (0 ≤ n.len ∧ n.len ≤ 255) ∧ (0 ≤ n.at_ ∧ n.at_ ≤ 65536) := by
        rcases hL.alt with ⟨a1, a2⟩ | ⟨a1, a2, a3, a4⟩
        · omega
        · have hMt := HWF.out.Mat a1
          have c1 := hMt.len
          have c2 := hMt.at_
          have c3 := HWF.out.few
          omega
      have HC := Lib.hid fun W (hW : MIs { n with part := P } qn W) => show Calls Try.prog 51 #[.agg #[.int .i64 n.bits, .int .i64 n.least, .slice (qn).ah n.heads.length (qn).ch, .slice (qn).ab n.bytes.length (qn).cb, .int .i64 n.at_, .int .i64 n.len, .int .i64 P, .int .i64 n.bit, .slice (qn).ac n.ctrs.length (qn).cc]] W _ from rcomplete12_m { n with part := P } qn W yn (by simp only; rw [hL.bits]; exact HWF.out.bits) (by simp only; rw [hL.least]; exact HWF.out.least) (by simp only; rw [hL.heads, hL.bits]; exact HWF.out.heads) (by simp only; rw [hL.heads, hL.bytes]; exact HWF.out.head) (by simp only; rw [hL.bytes]; have := HRoom.out; have := HFul.out; have := HWF.out.few; omega) hPy hyn2 hla.1 hla.2 hW
      clear hL hfull9 hla hPy hyn
      go_wp2_with fail
      refine (HC.out _ MI6).mono ?_
      rintro e w8 ⟨q8, rfl, MI8, hn8, hb8⟩
      obtain ⟨t8, ht8⟩ : ∃ t8, S12.search (S12.extend { n with bytes := n.bytes ++ [(yn : Int)], part := 1 }) = t8 := ⟨_, rfl⟩
      have HapS8 := HapS.out.new (m' := t8) (Nat.lt_trans (Nat.lt_succ_self S) R6.lt) hn8 (by rw [← ht8]; exact S12.se_heads _) (by rw [← ht8]; exact S12.se_ctrs _)
      have HapR8 := HapR.out.new (m' := t8) R6.lt hn8 (by rw [← ht8]; exact S12.se_heads _) (by rw [← ht8]; exact S12.se_ctrs _)
      rw [ht8] at HmR2 MI8 ⊢
      have M8 := M6.step hb8
      have R8 := R6.step hb8
      have hB8 := hB6.trans (hb8.mono (Nat.le_of_lt M6.lt))
      clear HC M6 R6 hB6 MI6 HapS HapR hn8 x0 x1 x2 x3 x4 x5 x6 x7 x8 z0 z1 z2 z3 z4 z5 z6 z7 z8 f6 hw6
      have HapS := Lib.hid HapS8
      have HapR := Lib.hid HapR8
      obtain ⟨x0, x1, x2, x3, x4, x5, x6, x7, x8⟩ := M8.nine
      have fq0 := M8.free 0
      have fq1 := M8.free 1
      have fq2 := M8.free 2
      have fq3 := M8.free 3
      have fq4 := M8.free 4
      have fq5 := M8.free 5
      have fq6 := M8.free 6
      have fq7 := M8.free 7
      have fq8 := M8.free 8
      have M9 := M8.put9 (.int .i64 t8.bits) (.int .i64 t8.least) (.slice q8.ah t8.heads.length q8.ch) (.slice q8.ab t8.bytes.length q8.cb) (.int .i64 t8.at_) (.int .i64 t8.len) (.int .i64 t8.part) (.int .i64 t8.bit) (.slice q8.ac t8.ctrs.length q8.cc)
      have R9 := R8.other9 (b := S) (by omega) (.int .i64 t8.bits) (.int .i64 t8.least) (.slice q8.ah t8.heads.length q8.ch) (.slice q8.ab t8.bytes.length q8.cb) (.int .i64 t8.at_) (.int .i64 t8.len) (.int .i64 t8.part) (.int .i64 t8.bit) (.slice q8.ac t8.ctrs.length q8.cc)
      have hB9 := below_put9 hB8 (Nat.le_refl S) (.int .i64 t8.bits) (.int .i64 t8.least) (.slice q8.ah t8.heads.length q8.ch) (.slice q8.ab t8.bytes.length q8.cb) (.int .i64 t8.at_) (.int .i64 t8.len) (.int .i64 t8.part) (.int .i64 t8.bit) (.slice q8.ac t8.ctrs.length q8.cc)
      have MI9 := MI8.put9 HapS.out.1 HapS.out.2.1 HapS.out.2.2 (.int .i64 t8.bits) (.int .i64 t8.least) (.slice q8.ah t8.heads.length q8.ch) (.slice q8.ab t8.bytes.length q8.cb) (.int .i64 t8.at_) (.int .i64 t8.len) (.int .i64 t8.part) (.int .i64 t8.bit) (.slice q8.ac t8.ctrs.length q8.cc)
      obtain ⟨w9, hw9⟩ : ∃ w9, ((((((((((w8.setCell ⟨S, 0, none⟩ (.int .i64 t8.bits)).setCell ⟨S, 1, none⟩ (.int .i64 t8.least)).setCell ⟨S, 2, none⟩ (.slice q8.ah t8.heads.length q8.ch)).setCell ⟨S, 3, none⟩ (.slice q8.ab t8.bytes.length q8.cb)).setCell ⟨S, 4, none⟩ (.int .i64 t8.at_)).setCell ⟨S, 5, none⟩ (.int .i64 t8.len)).setCell ⟨S, 6, none⟩ (.int .i64 t8.part)).setCell ⟨S, 7, none⟩ (.int .i64 t8.bit)).setCell ⟨S, 8, none⟩ (.slice q8.ac t8.ctrs.length q8.cc))) = w9 := ⟨_, rfl⟩
      rw [hw9] at M9 R9 hB9 MI9
      clear M8 R8 hB8 MI8
      unfold MV MVals
      obtain ⟨x0, x1, x2, x3, x4, x5, x6, x7, x8⟩ := M9.nine
      have f7 := M9.free 7
      have MB := M9.set 7 (.int .i64 2)
      have RB := R9.other S 7 (.int .i64 2) (by omega)
      have hBB := hB9.setCell (p := ⟨S, 7, none⟩) (Nat.le_refl S) (.int .i64 2)
      have IB := MI9.setO HapS.out 7 (.int .i64 2)
      simp only [List.set_cons_zero, List.set_cons_succ] at MB
      obtain ⟨wB, hwB⟩ : ∃ wB, w9.setCell ⟨S, 7, none⟩ (.int .i64 2) = wB := ⟨_, rfl⟩
      rw [hwB] at MB RB hBB IB
      obtain ⟨z0, z1, z2, z3, z4, z5, z6, z7, z8⟩ := MB.nine
      have lS := MB.lt
      have lR := RB.lt
      clear M9 R9 hB9 MI9
      by_cases hln : 0 < (t8).len
      · skip
        have eR : mR = { t8 with bit := S12.expI ((t8).bytes.getD (t8).at_.toNat 0) (t8).part } := by rw [HmR2.out]; unfold S12.expect; rw [if_pos hln]
        have hWR : S12.WF { t8 with bit := S12.expI ((t8).bytes.getD (t8).at_.toNat 0) (t8).part } := by rw [← eR]; exact HWF'.out
        have hma := hWR.Mat (show (t8).len ≠ 0 by omega)
        have hma1 : (t8).len ≤ (t8).at_ ∧ (t8).at_ ≤ ((t8).bytes.length : Int) - 1 := hma.at_
        have hma2 : 1 ≤ (t8).len ∧ (t8).len ≤ 255 := hma.len
        have hpt : 1 ≤ (t8).part ∧ (t8).part ≤ 255 := hWR.part
        obtain ⟨pt, hptn⟩ : ∃ pt : Nat, (t8).part = pt := ⟨(t8).part.toNat, by omega⟩
        obtain ⟨q, hq⟩ : ∃ q : Nat, (t8).at_ = q := ⟨(t8).at_.toNat, by omega⟩
        have hbyT : S12.Byt (t8).bytes := IB.byt
        have hx0 : 0 ≤ (t8).bytes.getD q 0 := hbyT.get q
        have hx1 : ((t8).bytes.getD q 0).toNat < 256 := hbyT.at q
        obtain ⟨xn, hxn⟩ : ∃ xn : Nat, (t8).bytes.getD q 0 = xn := ⟨((t8).bytes.getD q 0).toNat, (Int.toNat_of_nonneg hx0).symm⟩
        have hxn2 : xn < 256 := by rw [hxn] at hx1; omega
        obtain ⟨gB, oB, eB, hcB⟩ := Bts_at IB.rdb (i := q) (show q < (t8).bytes.length by omega)
        have hcB2 := hcB q (show q < (t8).bytes.length by omega)
        (try simp only at eB hcB2)
        rw [show (t8).bytes.getD q 0 = (xn : Int) from hxn] at hcB2
        have hql : q < (t8).bytes.length := by omega
        have hgS : ¬ gB = S := HapS.out.2.1 gB oB eB (fun h => by have h2 : (Bts (t8).bytes).length = 0 := (by rw [h]; rfl); rw [Bts_length] at h2; omega)
        have hgS2 : ¬ S = gB := fun h => hgS h.symm
        have hC21 : HasC [(⟨S, 3, none⟩, .slice (some ⟨gB, oB, none⟩) (t8).bytes.length (q8).cb), (⟨S, 4, none⟩, .int .i64 (q : Int)), (⟨S, 6, none⟩, .int .i64 (pt : Int)), (⟨gB, oB + q, none⟩, .int .u8 (xn : Int))] wB :=
          ⟨by rw [← eB]; exact z3, by rw [← hq]; exact z4, by rw [← hptn]; exact z6, hcB2, trivial⟩
        have HEx := Lib.hid fun W => rexpected12_any xn pt hxn2 (by omega) (by omega) W
        obtain ⟨bv, hbv⟩ : ∃ bv, S12.optN (S12.exp xn (pt : Int)) = bv := ⟨_, rfl⟩
        have hbv2 : S12.expI ((t8).bytes.getD (t8).at_.toNat 0) (t8).part = bv := by rw [S12.expI_eq, hq, Int.toNat_natCast, hxn, Int.toNat_natCast, hptn, hbv]
        rw [hbv] at HEx
        rw [hbv2] at eR
        have HeR := Lib.hid eR
        obtain ⟨isS, hisS⟩ : ∃ isS, (S12.exp xn (pt : Int)).isSome = isS := ⟨_, rfl⟩
        rw [hisS] at HEx
        have eln : decide (0 < (t8).len) = true := decide_eq_true hln
        have Hqq := Lib.hid hq
        have HeB := Lib.hid eB
        clear hma hma1 hma2 hWR hbv hbv2 hxn hcB hcB2 eR hisS hln hpt hx0 hx1 hq hptn eB hbyT
        go_wp2_with fail
        clear x0 x1 x2 x3 x4 x5 x6 x7 x8 f7 eln z0 z1 z2 z3 z4 z5 z6 z7 z8
        refine wp_region_useq 13 14 0 [(.p, [true]), (.r, [false, true]), (.p, [false, false, true]), (.r, [false, false, false, true]), (.p, [false, false, false, false, true]), (.r, [false, false, false, false, false, true]), (.p, [false, false, false, false, false, false, true]), (.r, [false, false, false, false, false, false, false, true]), (.e, [false, false, false, false, false, false, false, false, true]), (.p, [false, false, false, false, false, false, false, false, false, true, true, true, true]), (.l, [false, false, false, false, false, false, false, false, false, false, false, false, false, true])] _ _ (HasC [(⟨S, 3, none⟩, .slice (some ⟨gB, oB, none⟩) (t8).bytes.length (q8).cb), (⟨S, 4, none⟩, .int .i64 (q : Int)), (⟨S, 6, none⟩, .int .i64 (pt : Int)), (⟨gB, oB + q, none⟩, .int .u8 (xn : Int))]) (by kernel_rfl) (List.take_append_drop 14 _).symm (by kernel_rfl) (by kernel_rfl) (by kernel_rfl) (by kernel_rfl) (hC21) (fun Y Q4 F4 hY hF => ?_)
        simp only [phasedU, List.flatMap_cons, List.flatMap_nil, List.take_succ_cons, List.take_zero, List.drop_succ_cons, List.drop_zero, sel_true, sel_false, sel_nil, List.map_cons, List.map_nil, List.cons_append, List.nil_append, List.append_nil]
        repeat
          first
            | (apply wpSeqU_pure (by first | rfl | (rw [hY]; rfl))
               · intro w2
                 go_simp
                 with_reducible rfl
               simp only [Act.put, List.setIfInBounds_toArray, List.set_cons_zero, List.set_cons_succ])
            | (apply wpSeqU_read (by first | rfl | (rw [hY]; rfl))
               · intro w2 hS2
                 (try simp only [Keeps, Cells] at hS2)
                 (try simp only [HasC, Cells] at hS2)
                 go_simp
                 with_reducible rfl
               simp only [Act.put, List.setIfInBounds_toArray, List.set_cons_zero, List.set_cons_succ])
        apply wpSeqU_call (by first | rfl | (rw [hY]; rfl))
        · go_simp
          with_reducible exact ⟨rfl, rfl⟩
        refine (HEx.out _).mono ?_
        rintro e w22 ⟨rfl, hb22⟩
        have hE22 := below_trans (below_drew wB.heap.size wB) hb22
        refine ⟨_, rfl, Cells.step hE22 hC21, ?_⟩
        simp only [Act.put, List.setIfInBounds_toArray, List.set_cons_zero, List.set_cons_succ]
        repeat
          first
            | (apply wpSeqU_pure (by first | rfl | (rw [hY]; rfl))
               · intro w2
                 go_simp
                 with_reducible rfl
               simp only [Act.put, List.setIfInBounds_toArray, List.set_cons_zero, List.set_cons_succ])
            | (apply wpSeqU_read (by first | rfl | (rw [hY]; rfl))
               · intro w2 hS2
                 (try simp only [Keeps, Cells] at hS2)
                 (try simp only [HasC, Cells] at hS2)
                 go_simp
                 with_reducible rfl
               simp only [Act.put, List.setIfInBounds_toArray, List.set_cons_zero, List.set_cons_succ])
        have M22 := MB.step hE22
        have y7 := M22.cell 7
        have f7 := M22.free 7
        refine wpSeqU_last_store (by first | rfl | (rw [hY]; rfl)) (by go_simp; first | with_reducible exact ⟨rfl, rfl⟩ | with_reducible rfl) ?_
        simp only [Act.put, List.setIfInBounds_toArray, List.set_cons_zero, List.set_cons_succ]
        refine wpSeqU_done (hF.out _ _ (fun K hK => ?_))
        clear hF hY
        have R23 := (RB.step hE22).other S 7 (.int .i64 bv) (by omega)
        have M23 := M22.set 7 (.int .i64 bv)
        have hB23 := (hBB.trans (hE22.mono (Nat.le_of_lt lS))).setCell (p := ⟨S, 7, none⟩) (Nat.le_refl S) (.int .i64 bv)
        have I23 := (IB.step hE22).setO HapS.out 7 (.int .i64 bv)
        simp only [List.set_cons_zero, List.set_cons_succ] at M23
        go_wp2_with fail
        refine OnlyK.mk (hK.out _ _ ?_)
        clear hK y7 f7 hC21 M22
        obtain ⟨w23, hw23⟩ : ∃ w23, w22.setCell ⟨S, 7, none⟩ (.int .i64 bv) = w23 := ⟨_, rfl⟩
        rw [hw23] at M23 hB23 R23 I23 ⊢
        clear hw23
        obtain ⟨x0, x1, x2, x3, x4, x5, x6, x7, x8⟩ := M23.nine
        obtain ⟨z0, z1, z2, z3, z4, z5, z6, z7, z8⟩ := R23.nine
        have fr0 := R23.free 0
        have fr1 := R23.free 1
        have fr2 := R23.free 2
        have fr3 := R23.free 3
        have fr4 := R23.free 4
        have fr5 := R23.free 5
        have fr6 := R23.free 6
        have fr7 := R23.free 7
        have fr8 := R23.free 8
        have Hm : RowKit.Hid (MIs { t8 with bit := bv } q8 w23) := Lib.hid ⟨I23.rdh, I23.rdb, I23.rdc, I23.byt, I23.cb, I23.lh, I23.lb, I23.lc⟩
        have hBF := Lib.hid (below_put9 hB23 (Nat.le_succ S) (.int .i64 (t8).bits) (.int .i64 (t8).least) (.slice (q8).ah (t8).heads.length (q8).ch) (.slice (q8).ab (t8).bytes.length (q8).cb) (.int .i64 (t8).at_) (.int .i64 (t8).len) (.int .i64 (t8).part) (.int .i64 bv) (.slice (q8).ac (t8).ctrs.length (q8).cc))
        have eR := HeR.out
        subst eR
        obtain ⟨y0, y1, y2, y3, y4, y5, y6, y7, y8⟩ := (R23.put9 (.int .i64 (t8).bits) (.int .i64 (t8).least) (.slice (q8).ah (t8).heads.length (q8).ch) (.slice (q8).ab (t8).bytes.length (q8).cb) (.int .i64 (t8).at_) (.int .i64 (t8).len) (.int .i64 (t8).part) (.int .i64 bv) (.slice (q8).ac (t8).ctrs.length (q8).cc)).nine
        clear M23 R23 hB23 I23
        go_wp2_with (exact bodyPost_ret (v := .tuple #[MV { t8 with bit := bv } q8, .int .i64 0]) (by simp [results, Try.results23, go_sem, MV, MVals, y0, y1, y2, y3, y4, y5, y6, y7, y8]) rfl ⟨q8, rfl, Hm.out.put9 HapR.out.1 HapR.out.2.1 HapR.out.2.2 _ _ _ _ _ _ _ _ _, hS ▸ hBF.out⟩)
      · skip
        have eR : mR = { t8 with bit := 2 } := by rw [HmR2.out]; unfold S12.expect; rw [if_neg hln]
        have eln : decide (0 < (t8).len) = false := decide_eq_false hln
        obtain ⟨r0, r1, r2, r3, r4, r5, r6, r7, r8⟩ := RB.nine
        have fr0 := RB.free 0
        have fr1 := RB.free 1
        have fr2 := RB.free 2
        have fr3 := RB.free 3
        have fr4 := RB.free 4
        have fr5 := RB.free 5
        have fr6 := RB.free 6
        have fr7 := RB.free 7
        have fr8 := RB.free 8
        have Hm : RowKit.Hid (MIs { t8 with bit := 2 } q8 wB) := Lib.hid ⟨IB.rdh, IB.rdb, IB.rdc, IB.byt, IB.cb, IB.lh, IB.lb, IB.lc⟩
        have hBF := Lib.hid (below_put9 hBB (Nat.le_succ S) (.int .i64 (t8).bits) (.int .i64 (t8).least) (.slice (q8).ah (t8).heads.length (q8).ch) (.slice (q8).ab (t8).bytes.length (q8).cb) (.int .i64 (t8).at_) (.int .i64 (t8).len) (.int .i64 (t8).part) (.int .i64 2) (.slice (q8).ac (t8).ctrs.length (q8).cc))
        subst eR
        obtain ⟨y0, y1, y2, y3, y4, y5, y6, y7, y8⟩ := (RB.put9 (.int .i64 (t8).bits) (.int .i64 (t8).least) (.slice (q8).ah (t8).heads.length (q8).ch) (.slice (q8).ab (t8).bytes.length (q8).cb) (.int .i64 (t8).at_) (.int .i64 (t8).len) (.int .i64 (t8).part) (.int .i64 2) (.slice (q8).ac (t8).ctrs.length (q8).cc)).nine
        clear MB RB hBB IB hln
        go_wp2_with (exact bodyPost_ret (v := .tuple #[MV { t8 with bit := 2 } q8, .int .i64 0]) (by simp [results, Try.results23, go_sem, MV, MVals, y0, y1, y2, y3, y4, y5, y6, y7, y8]) rfl ⟨q8, rfl, Hm.out.put9 HapR.out.1 HapR.out.2.1 HapR.out.2.2 _ _ _ _ _ _ _ _ _, hS ▸ hBF.out⟩)
    · rw [if_neg hbit] at hlearn
      have eb : (b == m.bit) = false := by simp [hbit]
      have HU1 := Lib.hid fun W => HU.out 0 (.inl rfl) W
      obtain ⟨s1, hs1⟩ : ∃ s1, S08.step p0 p1 0 = s1 := ⟨_, rfl⟩
      rw [hs1] at HU1 hlearn
      have Hlearn := Lib.hid hlearn
      clear HU hs1 hbit hlearn
      have hrdF := Lib.hid (((HM.out.step (hS ▸ hB1)).rdc).step ((Below.refl w1.heap.size w1).alloc (Nat.le_refl _) (Obj.cells #[] 35)))
      have HM1 := Lib.hid M1
      have HR1 := Lib.hid R1
      have HBB := Lib.hid hB1
      have l1 := R1.lt
      have lS1 := M1.lt
      have f8 := M1.free 8
      clear M1 R1 hB1
      go_wp2_with (first
        | (at_builtin
           refine wpList_append_rd _ _ 25 35 2 16 _ w1.heap.size elems_ctrs rfl rfl _ 0 [] rfl (World.ownsRow_made w1 #[] 0 (Nat.le_refl _) (by decide) rfl) p.ac m.ctrs.length p.cc (Cts m.ctrs) rfl (by rw [Cts_length]) hrdF.out (Cts_one _) (by have := H16.out; unfold maxLen; omega) (by have := H16.out; omega) (by simp) ?_
           intro a2 cap2 w2 hown2 hgrow2
           have hb2 : Below w1.heap.size w1 w2 := Below.grown (by go_grown) hgrow2 (by simp) (fun k e => by cases e; exact Nat.le_refl _)
           simp only [Nat.zero_add, List.nil_append] at hown2 ⊢
           obtain ⟨gc, rfl, hgc, hOC⟩ := Own.of_owns hown2 (by have := H16.out; omega) (by decide)
           clear hown2 hgrow2
           have M2 := HM1.out.step hb2
           have R2 := HR1.out.step hb2
           have hB2 := HBB.out.trans (hb2.mono (Nat.le_of_lt HM1.out.lt))
           have dS : ¬ gc = S := by omega
           have dS2 : ¬ S = gc := by omega
           have dR : ¬ S + 1 = gc := by omega
           have v8 := M2.cell 8
           have e8 := M2.free 8
           have M3 := M2.set 8 (.slice (some ⟨gc, 0, none⟩) m.ctrs.length cap2)
           have R3 := R2.other S 8 (.slice (some ⟨gc, 0, none⟩) m.ctrs.length cap2) (by omega)
           have hB3 := hB2.setCell (p := ⟨S, 8, none⟩) (Nat.le_refl S) (.slice (some ⟨gc, 0, none⟩) m.ctrs.length cap2)
           have C3 := hOC.other S 8 (.slice (some ⟨gc, 0, none⟩) m.ctrs.length cap2) dS
           simp only [List.set_cons_zero, List.set_cons_succ] at M3
           obtain ⟨w3, hw3⟩ : ∃ w3, w2.setCell ⟨S, 8, none⟩ (.slice (some ⟨gc, 0, none⟩) m.ctrs.length cap2) = w3 := ⟨_, rfl⟩
           rw [hw3] at M3 R3 hB3 C3
           have hC3 : HasC [(⟨S, 8, none⟩, .slice (some ⟨gc, 0, none⟩) m.ctrs.length cap2), (⟨gc, k * 2, none⟩, .int .i64 p0), (⟨gc, k * 2 + 1, none⟩, .int .i64 p1)] w3 :=
             ⟨M3.cell 8, by rw [C3.cell (by have := Hk16.out; rw [Cts_length]; omega), (Cts_at Hk16.out).1, ← S12.getD_in _ (0, 0) Hk16.out, Hcp.out], by rw [C3.cell (by have := Hk16.out; rw [Cts_length]; omega), (Cts_at Hk16.out).2, ← S12.getD_in _ (0, 0) Hk16.out, Hcp.out], trivial⟩
           clear M2 R2 hB2 hOC))
      clear v8 e8 f8 hw3 x0 x1 x2 x3 x4 x5 x6 x7 x8
      have hkl := Hk16.out
      refine wp_region_useq 14 15 0 [(.p, [true]), (.r, [false, true]), (.p, [false, false, true, true]), (.r, [false, false, false, false, true]), (.p, [false, false, false, false, false, true, true]), (.r, [false, false, false, false, false, false, false, true]), (.p, [false, false, false, false, false, false, false, false, true]), (.e, [false, false, false, false, false, false, false, false, false, true]), (.p, [false, false, false, false, false, false, false, false, false, false, true, true, true, true]), (.l, [false, false, false, false, false, false, false, false, false, false, false, false, false, false, true])] _ _ (HasC [(⟨S, 8, none⟩, .slice (some ⟨gc, 0, none⟩) m.ctrs.length cap2), (⟨gc, k * 2, none⟩, .int .i64 p0), (⟨gc, k * 2 + 1, none⟩, .int .i64 p1)]) (by kernel_rfl) (List.take_append_drop 15 _).symm (by kernel_rfl) (by kernel_rfl) (by kernel_rfl) (by kernel_rfl) (hC3) (fun Y Q4 F4 hY hF => ?_)
      simp only [phasedU, List.flatMap_cons, List.flatMap_nil, List.take_succ_cons, List.take_zero, List.drop_succ_cons, List.drop_zero, sel_true, sel_false, sel_nil, List.map_cons, List.map_nil, List.cons_append, List.nil_append, List.append_nil]
      repeat
        first
          | (apply wpSeqU_pure (by first | rfl | (rw [hY]; rfl))
             · intro w2
               go_simp
               with_reducible rfl
             simp only [Act.put, List.setIfInBounds_toArray, List.set_cons_zero, List.set_cons_succ])
          | (apply wpSeqU_read (by first | rfl | (rw [hY]; rfl))
             · intro w2 hS2
               (try simp only [Keeps, Cells] at hS2)
               (try simp only [HasC, Cells] at hS2)
               go_simp
               with_reducible rfl
             simp only [Act.put, List.setIfInBounds_toArray, List.set_cons_zero, List.set_cons_succ])
      apply wpSeqU_call (by first | rfl | (rw [hY]; rfl))
      · go_simp
        with_reducible exact ⟨rfl, rfl⟩
      refine (HU1.out _).mono ?_
      rintro e w4 ⟨rfl, hb4⟩
      have hE4 := below_trans (below_drew w3.heap.size w3) hb4
      have hC4 := Cells.step hE4 hC3
      refine ⟨_, rfl, hC4, ?_⟩
      simp only [Act.put, List.setIfInBounds_toArray, List.set_cons_zero, List.set_cons_succ]
      repeat
        first
          | (apply wpSeqU_pure (by first | rfl | (rw [hY]; rfl))
             · intro w2
               go_simp
               with_reducible rfl
             simp only [Act.put, List.setIfInBounds_toArray, List.set_cons_zero, List.set_cons_succ])
          | (apply wpSeqU_read (by first | rfl | (rw [hY]; rfl))
             · intro w2 hS2
               (try simp only [Keeps, Cells] at hS2)
               (try simp only [HasC, Cells] at hS2)
               go_simp
               with_reducible rfl
             simp only [Act.put, List.setIfInBounds_toArray, List.set_cons_zero, List.set_cons_succ])
      have M4 := M3.step hE4
      have R4 := R3.step hE4
      have C4 := C3.step hE4
      have hB4 := hB3.trans (hE4.mono (Nat.le_of_lt M3.lt))
      have y5 : w4.cell? ⟨gc, k * 2, none⟩ = some (.int .i64 p0) := hC4.2.1
      have y6 : w4.cell? ⟨gc, k * 2 + 1, none⟩ = some (.int .i64 p1) := hC4.2.2.1
      have g5 := C4.free (k * 2)
      have g6 := C4.free (k * 2 + 1)
      refine wpSeqU_last_store (by first | rfl | (rw [hY]; rfl)) (by go_simp; first | with_reducible exact ⟨rfl, rfl⟩ | with_reducible rfl) ?_
      simp only [Act.put, List.setIfInBounds_toArray, List.set_cons_zero, List.set_cons_succ]
      refine wpSeqU_done (hF.out _ _ (fun K hK => ?_))
      clear hF hY
      have M5 := (M4.other gc (k * 2) (.int .i64 s1) dS2).other gc (k * 2 + 1) (.int .i64 n1) dS2
      have R5 := (R4.other gc (k * 2) (.int .i64 s1) dR).other gc (k * 2 + 1) (.int .i64 n1) dR
      have hB5 := (hB4.setCell (p := ⟨gc, k * 2, none⟩) (show S ≤ gc by omega) (.int .i64 s1)).setCell (p := ⟨gc, k * 2 + 1, none⟩) (show S ≤ gc by omega) (.int .i64 n1)
      have C5 := (C4.set (i := k * 2) (by rw [Cts_length]; omega) (.int .i64 s1)).set (i := k * 2 + 1) (by rw [List.length_set, Cts_length]; omega) (.int .i64 n1)
      rw [← Cts_set] at C5
      go_wp2_with fail
      refine OnlyK.mk (hK.out _ _ ?_)
      clear hK hC3 hC4 y5 y6 g5 g6 M4 R4 C4 hB4 M3 R3 C3 hB3
      obtain ⟨w5, hw5⟩ : ∃ w5, (w4.setCell ⟨gc, k * 2, none⟩ (.int .i64 s1)).setCell ⟨gc, k * 2 + 1, none⟩ (.int .i64 n1) = w5 := ⟨_, rfl⟩
      rw [hw5] at M5 R5 hB5 C5 ⊢
      clear hw5
      obtain ⟨x0, x1, x2, x3, x4, x5, x6, x7, x8⟩ := M5.nine
      have f5 := M5.free 5
      have f4 := (M5.set 5 (.int .i64 0)).free 4
      have u4 := (M5.set 5 (.int .i64 0)).cell 4
      have M7 := (M5.set 5 (.int .i64 0)).set 4 (.int .i64 0)
      have R7 := (R5.other S 5 (.int .i64 0) (by omega)).other S 4 (.int .i64 0) (by omega)
      have hB7 := (hB5.setCell (p := ⟨S, 5, none⟩) (Nat.le_refl S) (.int .i64 0)).setCell (p := ⟨S, 4, none⟩) (Nat.le_refl S) (.int .i64 0)
      have C7 := (C5.other S 5 (.int .i64 0) dS).other S 4 (.int .i64 0) dS
      simp only [List.set_cons_zero, List.set_cons_succ] at M7 u4
      obtain ⟨w7, hw7⟩ : ∃ w7, (w5.setCell ⟨S, 5, none⟩ (.int .i64 0)).setCell ⟨S, 4, none⟩ (.int .i64 0) = w7 := ⟨_, rfl⟩
      rw [hw7] at M7 R7 hB7 C7
      clear M5 R5 hB5 C5
      have HL0 := HM.out.step (below_of hS hB7)
      have M9 : Blk w7 S (MVals (S12.learn m b) ⟨p.ah, p.ch, p.ab, p.cb, some ⟨gc, 0, none⟩, cap2⟩) 27 := by
        rw [Hlearn.out]; unfold MVals; simp only [List.length_set]; exact M7
      have MI9 : MIs (S12.learn m b) ⟨p.ah, p.ch, p.ab, p.cb, some ⟨gc, 0, none⟩, cap2⟩ w7 := by
        rw [Hlearn.out]; exact ⟨HL0.rdh, HL0.rdb, C7.rd, HL0.byt, HL0.cb, HL0.lh, HL0.lb, by simp only [List.length_set]; exact HL0.lc⟩
      have HapS : RowKit.Hid (Ap (S12.learn m b) ⟨p.ah, p.ch, p.ab, p.cb, some ⟨gc, 0, none⟩, cap2⟩ S) := by
        rw [Hlearn.out]; exact Lib.hid ⟨HA1.out.1, HA1.out.2.1, fun g o e _ => by cases e; omega⟩
      have HapR : RowKit.Hid (Ap (S12.learn m b) ⟨p.ah, p.ch, p.ab, p.cb, some ⟨gc, 0, none⟩, cap2⟩ (S + 1)) := by
        rw [Hlearn.out]; exact Lib.hid ⟨HA2.out.1, HA2.out.2.1, fun g o e _ => by cases e; omega⟩
      have HmR : RowKit.Hid (mR = S12.expect (S12.take (S12.learn m b) (2 * (S12.learn m b).part + b))) := Lib.hid HmR0.out.symm
      obtain ⟨n, hn⟩ : ∃ n, S12.learn m b = n := ⟨_, rfl⟩
      obtain ⟨qn, hqn⟩ : ∃ qn : Pl, (⟨p.ah, p.ch, p.ab, p.cb, some ⟨gc, 0, none⟩, cap2⟩ : Pl) = qn := ⟨_, rfl⟩
      rw [hn] at M9 MI9 HapS HapR HmR HL
      rw [hqn] at M9 MI9 HapS HapR
      have R9 := R7
      have hB9 := hB7
      unfold MVals at M9
      clear HL0 hn hqn Hlearn M7 C7 R7 hB7 HA1 HA2 eb dl1 dS dS2 dR hkl
      obtain ⟨P, hP⟩ : ∃ P, 2 * n.part + b = P := ⟨_, rfl⟩
      have hL := HL.out
      have hpr : 1 ≤ n.part ∧ n.part ≤ 255 := by rw [hL.part]; exact HWF.out.part
      have hPr : 2 ≤ P ∧ P ≤ 511 := by omega
      have hPf : 256 ≤ P := by have := hL.part; have := HFul.out; omega
      have hPd : decide (255 < P) = true := by simp; omega
      have hmR : mR = S12.expect (S12.take n P) := by rw [HmR.out, hP]
      have ht : S12.take n P = S12.search (S12.extend { n with bytes := n.bytes ++ [P - 256], part := 1 }) := by unfold S12.take; rw [if_pos (by omega)]
      rw [ht] at hmR
      obtain ⟨x0, x1, x2, x3, x4, x5, x6, x7, x8⟩ := M9.nine
      have f6 := M9.free 6
      have M6 := M9.set 6 (.int .i64 P)
      have R6 := R9.other S 6 (.int .i64 P) (by omega)
      have hB6 := hB9.setCell (p := ⟨S, 6, none⟩) (Nat.le_refl S) (.int .i64 P)
      have MI6 : MIs { n with part := P } qn (w7.setCell ⟨S, 6, none⟩ (.int .i64 P)) := by
        have h := MI9.setO HapS.out 6 (.int .i64 P)
        exact ⟨h.rdh, h.rdb, h.rdc, h.byt, h.cb, h.lh, h.lb, h.lc⟩
      simp only [List.set_cons_zero, List.set_cons_succ] at M6
      obtain ⟨w6, hw6⟩ : ∃ w6, w7.setCell ⟨S, 6, none⟩ (.int .i64 P) = w6 := ⟨_, rfl⟩
      rw [hw6] at M6 R6 hB6 MI6
      obtain ⟨z0, z1, z2, z3, z4, z5, z6, z7, z8⟩ := M6.nine
      clear M9 R9 hB9 MI9 hmR ht
      obtain ⟨yn, hyn⟩ : ∃ yn : Nat, P - 256 = yn := ⟨(P - 256).toNat, by omega⟩
      have hyn2 : yn < 256 := by omega
      have hPy : P = 256 + (yn : Int) := by omega
      have hfull9 := S12.full_ok HWF.out hL HM.out.byt (show 0 ≤ (yn : Int) ∧ (yn : Int) < 256 by omega)
      have HmR2 : RowKit.Hid (mR = S12.expect (S12.search (S12.extend { n with bytes := n.bytes ++ [(yn : Int)], part := 1 }))) := by
        have hmR : mR = S12.expect (S12.take n P) := by rw [HmR.out, hP]
        refine Lib.hid ?_
        rw [hmR]
        unfold S12.take
        rw [if_pos (by omega), hyn]
      have hla : (0 ≤ n.len ∧ n.len ≤ 255) ∧ (0 ≤ n.at_ ∧ n.at_ ≤ 65536) := by
        rcases hL.alt with ⟨a1, a2⟩ | ⟨a1, a2, a3, a4⟩
        · omega
        · have hMt := HWF.out.Mat a1
          have c1 := hMt.len
          have c2 := hMt.at_
          have c3 := HWF.out.few
          omega
      have HC := Lib.hid fun W (hW : MIs { n with part := P } qn W) => show Calls Try.prog 51 #[.agg #[.int .i64 n.bits, .int .i64 n.least, .slice (qn).ah n.heads.length (qn).ch, .slice (qn).ab n.bytes.length (qn).cb, .int .i64 n.at_, .int .i64 n.len, .int .i64 P, .int .i64 n.bit, .slice (qn).ac n.ctrs.length (qn).cc]] W _ from rcomplete12_m { n with part := P } qn W yn (by simp only; rw [hL.bits]; exact HWF.out.bits) (by simp only; rw [hL.least]; exact HWF.out.least) (by simp only; rw [hL.heads, hL.bits]; exact HWF.out.heads) (by simp only; rw [hL.heads, hL.bytes]; exact HWF.out.head) (by simp only; rw [hL.bytes]; have := HRoom.out; have := HFul.out; have := HWF.out.few; omega) hPy hyn2 hla.1 hla.2 hW
      clear hL hfull9 hla hPy hyn
      go_wp2_with fail
      refine (HC.out _ MI6).mono ?_
      rintro e w8 ⟨q8, rfl, MI8, hn8, hb8⟩
      obtain ⟨t8, ht8⟩ : ∃ t8, S12.search (S12.extend { n with bytes := n.bytes ++ [(yn : Int)], part := 1 }) = t8 := ⟨_, rfl⟩
      have HapS8 := HapS.out.new (m' := t8) (Nat.lt_trans (Nat.lt_succ_self S) R6.lt) hn8 (by rw [← ht8]; exact S12.se_heads _) (by rw [← ht8]; exact S12.se_ctrs _)
      have HapR8 := HapR.out.new (m' := t8) R6.lt hn8 (by rw [← ht8]; exact S12.se_heads _) (by rw [← ht8]; exact S12.se_ctrs _)
      rw [ht8] at HmR2 MI8 ⊢
      have M8 := M6.step hb8
      have R8 := R6.step hb8
      have hB8 := hB6.trans (hb8.mono (Nat.le_of_lt M6.lt))
      clear HC M6 R6 hB6 MI6 HapS HapR hn8 x0 x1 x2 x3 x4 x5 x6 x7 x8 z0 z1 z2 z3 z4 z5 z6 z7 z8 f6 hw6
      have HapS := Lib.hid HapS8
      have HapR := Lib.hid HapR8
      obtain ⟨x0, x1, x2, x3, x4, x5, x6, x7, x8⟩ := M8.nine
      have fq0 := M8.free 0
      have fq1 := M8.free 1
      have fq2 := M8.free 2
      have fq3 := M8.free 3
      have fq4 := M8.free 4
      have fq5 := M8.free 5
      have fq6 := M8.free 6
      have fq7 := M8.free 7
      have fq8 := M8.free 8
      have M9 := M8.put9 (.int .i64 t8.bits) (.int .i64 t8.least) (.slice q8.ah t8.heads.length q8.ch) (.slice q8.ab t8.bytes.length q8.cb) (.int .i64 t8.at_) (.int .i64 t8.len) (.int .i64 t8.part) (.int .i64 t8.bit) (.slice q8.ac t8.ctrs.length q8.cc)
      have R9 := R8.other9 (b := S) (by omega) (.int .i64 t8.bits) (.int .i64 t8.least) (.slice q8.ah t8.heads.length q8.ch) (.slice q8.ab t8.bytes.length q8.cb) (.int .i64 t8.at_) (.int .i64 t8.len) (.int .i64 t8.part) (.int .i64 t8.bit) (.slice q8.ac t8.ctrs.length q8.cc)
      have hB9 := below_put9 hB8 (Nat.le_refl S) (.int .i64 t8.bits) (.int .i64 t8.least) (.slice q8.ah t8.heads.length q8.ch) (.slice q8.ab t8.bytes.length q8.cb) (.int .i64 t8.at_) (.int .i64 t8.len) (.int .i64 t8.part) (.int .i64 t8.bit) (.slice q8.ac t8.ctrs.length q8.cc)
      have MI9 := MI8.put9 HapS.out.1 HapS.out.2.1 HapS.out.2.2 (.int .i64 t8.bits) (.int .i64 t8.least) (.slice q8.ah t8.heads.length q8.ch) (.slice q8.ab t8.bytes.length q8.cb) (.int .i64 t8.at_) (.int .i64 t8.len) (.int .i64 t8.part) (.int .i64 t8.bit) (.slice q8.ac t8.ctrs.length q8.cc)
      obtain ⟨w9, hw9⟩ : ∃ w9, ((((((((((w8.setCell ⟨S, 0, none⟩ (.int .i64 t8.bits)).setCell ⟨S, 1, none⟩ (.int .i64 t8.least)).setCell ⟨S, 2, none⟩ (.slice q8.ah t8.heads.length q8.ch)).setCell ⟨S, 3, none⟩ (.slice q8.ab t8.bytes.length q8.cb)).setCell ⟨S, 4, none⟩ (.int .i64 t8.at_)).setCell ⟨S, 5, none⟩ (.int .i64 t8.len)).setCell ⟨S, 6, none⟩ (.int .i64 t8.part)).setCell ⟨S, 7, none⟩ (.int .i64 t8.bit)).setCell ⟨S, 8, none⟩ (.slice q8.ac t8.ctrs.length q8.cc))) = w9 := ⟨_, rfl⟩
      rw [hw9] at M9 R9 hB9 MI9
      clear M8 R8 hB8 MI8
      unfold MV MVals
      obtain ⟨x0, x1, x2, x3, x4, x5, x6, x7, x8⟩ := M9.nine
      have f7 := M9.free 7
      have MB := M9.set 7 (.int .i64 2)
      have RB := R9.other S 7 (.int .i64 2) (by omega)
      have hBB := hB9.setCell (p := ⟨S, 7, none⟩) (Nat.le_refl S) (.int .i64 2)
      have IB := MI9.setO HapS.out 7 (.int .i64 2)
      simp only [List.set_cons_zero, List.set_cons_succ] at MB
      obtain ⟨wB, hwB⟩ : ∃ wB, w9.setCell ⟨S, 7, none⟩ (.int .i64 2) = wB := ⟨_, rfl⟩
      rw [hwB] at MB RB hBB IB
      obtain ⟨z0, z1, z2, z3, z4, z5, z6, z7, z8⟩ := MB.nine
      have lS := MB.lt
      have lR := RB.lt
      clear M9 R9 hB9 MI9
      by_cases hln : 0 < (t8).len
      · skip
        have eR : mR = { t8 with bit := S12.expI ((t8).bytes.getD (t8).at_.toNat 0) (t8).part } := by rw [HmR2.out]; unfold S12.expect; rw [if_pos hln]
        have hWR : S12.WF { t8 with bit := S12.expI ((t8).bytes.getD (t8).at_.toNat 0) (t8).part } := by rw [← eR]; exact HWF'.out
        have hma := hWR.Mat (show (t8).len ≠ 0 by omega)
        have hma1 : (t8).len ≤ (t8).at_ ∧ (t8).at_ ≤ ((t8).bytes.length : Int) - 1 := hma.at_
        have hma2 : 1 ≤ (t8).len ∧ (t8).len ≤ 255 := hma.len
        have hpt : 1 ≤ (t8).part ∧ (t8).part ≤ 255 := hWR.part
        obtain ⟨pt, hptn⟩ : ∃ pt : Nat, (t8).part = pt := ⟨(t8).part.toNat, by omega⟩
        obtain ⟨q, hq⟩ : ∃ q : Nat, (t8).at_ = q := ⟨(t8).at_.toNat, by omega⟩
        have hbyT : S12.Byt (t8).bytes := IB.byt
        have hx0 : 0 ≤ (t8).bytes.getD q 0 := hbyT.get q
        have hx1 : ((t8).bytes.getD q 0).toNat < 256 := hbyT.at q
        obtain ⟨xn, hxn⟩ : ∃ xn : Nat, (t8).bytes.getD q 0 = xn := ⟨((t8).bytes.getD q 0).toNat, (Int.toNat_of_nonneg hx0).symm⟩
        have hxn2 : xn < 256 := by rw [hxn] at hx1; omega
        obtain ⟨gB, oB, eB, hcB⟩ := Bts_at IB.rdb (i := q) (show q < (t8).bytes.length by omega)
        have hcB2 := hcB q (show q < (t8).bytes.length by omega)
        (try simp only at eB hcB2)
        rw [show (t8).bytes.getD q 0 = (xn : Int) from hxn] at hcB2
        have hql : q < (t8).bytes.length := by omega
        have hgS : ¬ gB = S := HapS.out.2.1 gB oB eB (fun h => by have h2 : (Bts (t8).bytes).length = 0 := (by rw [h]; rfl); rw [Bts_length] at h2; omega)
        have hgS2 : ¬ S = gB := fun h => hgS h.symm
        have hC21 : HasC [(⟨S, 3, none⟩, .slice (some ⟨gB, oB, none⟩) (t8).bytes.length (q8).cb), (⟨S, 4, none⟩, .int .i64 (q : Int)), (⟨S, 6, none⟩, .int .i64 (pt : Int)), (⟨gB, oB + q, none⟩, .int .u8 (xn : Int))] wB :=
          ⟨by rw [← eB]; exact z3, by rw [← hq]; exact z4, by rw [← hptn]; exact z6, hcB2, trivial⟩
        have HEx := Lib.hid fun W => rexpected12_any xn pt hxn2 (by omega) (by omega) W
        obtain ⟨bv, hbv⟩ : ∃ bv, S12.optN (S12.exp xn (pt : Int)) = bv := ⟨_, rfl⟩
        have hbv2 : S12.expI ((t8).bytes.getD (t8).at_.toNat 0) (t8).part = bv := by rw [S12.expI_eq, hq, Int.toNat_natCast, hxn, Int.toNat_natCast, hptn, hbv]
        rw [hbv] at HEx
        rw [hbv2] at eR
        have HeR := Lib.hid eR
        obtain ⟨isS, hisS⟩ : ∃ isS, (S12.exp xn (pt : Int)).isSome = isS := ⟨_, rfl⟩
        rw [hisS] at HEx
        have eln : decide (0 < (t8).len) = true := decide_eq_true hln
        have Hqq := Lib.hid hq
        have HeB := Lib.hid eB
        clear hma hma1 hma2 hWR hbv hbv2 hxn hcB hcB2 eR hisS hln hpt hx0 hx1 hq hptn eB hbyT
        go_wp2_with fail
        clear x0 x1 x2 x3 x4 x5 x6 x7 x8 f7 eln z0 z1 z2 z3 z4 z5 z6 z7 z8
        refine wp_region_useq 13 14 0 [(.p, [true]), (.r, [false, true]), (.p, [false, false, true]), (.r, [false, false, false, true]), (.p, [false, false, false, false, true]), (.r, [false, false, false, false, false, true]), (.p, [false, false, false, false, false, false, true]), (.r, [false, false, false, false, false, false, false, true]), (.e, [false, false, false, false, false, false, false, false, true]), (.p, [false, false, false, false, false, false, false, false, false, true, true, true, true]), (.l, [false, false, false, false, false, false, false, false, false, false, false, false, false, true])] _ _ (HasC [(⟨S, 3, none⟩, .slice (some ⟨gB, oB, none⟩) (t8).bytes.length (q8).cb), (⟨S, 4, none⟩, .int .i64 (q : Int)), (⟨S, 6, none⟩, .int .i64 (pt : Int)), (⟨gB, oB + q, none⟩, .int .u8 (xn : Int))]) (by kernel_rfl) (List.take_append_drop 14 _).symm (by kernel_rfl) (by kernel_rfl) (by kernel_rfl) (by kernel_rfl) (hC21) (fun Y Q4 F4 hY hF => ?_)
        simp only [phasedU, List.flatMap_cons, List.flatMap_nil, List.take_succ_cons, List.take_zero, List.drop_succ_cons, List.drop_zero, sel_true, sel_false, sel_nil, List.map_cons, List.map_nil, List.cons_append, List.nil_append, List.append_nil]
        repeat
          first
            | (apply wpSeqU_pure (by first | rfl | (rw [hY]; rfl))
               · intro w2
                 go_simp
                 with_reducible rfl
               simp only [Act.put, List.setIfInBounds_toArray, List.set_cons_zero, List.set_cons_succ])
            | (apply wpSeqU_read (by first | rfl | (rw [hY]; rfl))
               · intro w2 hS2
                 (try simp only [Keeps, Cells] at hS2)
                 (try simp only [HasC, Cells] at hS2)
                 go_simp
                 with_reducible rfl
               simp only [Act.put, List.setIfInBounds_toArray, List.set_cons_zero, List.set_cons_succ])
        apply wpSeqU_call (by first | rfl | (rw [hY]; rfl))
        · go_simp
          with_reducible exact ⟨rfl, rfl⟩
        refine (HEx.out _).mono ?_
        rintro e w22 ⟨rfl, hb22⟩
        have hE22 := below_trans (below_drew wB.heap.size wB) hb22
        refine ⟨_, rfl, Cells.step hE22 hC21, ?_⟩
        simp only [Act.put, List.setIfInBounds_toArray, List.set_cons_zero, List.set_cons_succ]
        repeat
          first
            | (apply wpSeqU_pure (by first | rfl | (rw [hY]; rfl))
               · intro w2
                 go_simp
                 with_reducible rfl
               simp only [Act.put, List.setIfInBounds_toArray, List.set_cons_zero, List.set_cons_succ])
            | (apply wpSeqU_read (by first | rfl | (rw [hY]; rfl))
               · intro w2 hS2
                 (try simp only [Keeps, Cells] at hS2)
                 (try simp only [HasC, Cells] at hS2)
                 go_simp
                 with_reducible rfl
               simp only [Act.put, List.setIfInBounds_toArray, List.set_cons_zero, List.set_cons_succ])
        have M22 := MB.step hE22
        have y7 := M22.cell 7
        have f7 := M22.free 7
        refine wpSeqU_last_store (by first | rfl | (rw [hY]; rfl)) (by go_simp; first | with_reducible exact ⟨rfl, rfl⟩ | with_reducible rfl) ?_
        simp only [Act.put, List.setIfInBounds_toArray, List.set_cons_zero, List.set_cons_succ]
        refine wpSeqU_done (hF.out _ _ (fun K hK => ?_))
        clear hF hY
        have R23 := (RB.step hE22).other S 7 (.int .i64 bv) (by omega)
        have M23 := M22.set 7 (.int .i64 bv)
        have hB23 := (hBB.trans (hE22.mono (Nat.le_of_lt lS))).setCell (p := ⟨S, 7, none⟩) (Nat.le_refl S) (.int .i64 bv)
        have I23 := (IB.step hE22).setO HapS.out 7 (.int .i64 bv)
        simp only [List.set_cons_zero, List.set_cons_succ] at M23
        go_wp2_with fail
        refine OnlyK.mk (hK.out _ _ ?_)
        clear hK y7 f7 hC21 M22
        obtain ⟨w23, hw23⟩ : ∃ w23, w22.setCell ⟨S, 7, none⟩ (.int .i64 bv) = w23 := ⟨_, rfl⟩
        rw [hw23] at M23 hB23 R23 I23 ⊢
        clear hw23
        obtain ⟨x0, x1, x2, x3, x4, x5, x6, x7, x8⟩ := M23.nine
        obtain ⟨z0, z1, z2, z3, z4, z5, z6, z7, z8⟩ := R23.nine
        have fr0 := R23.free 0
        have fr1 := R23.free 1
        have fr2 := R23.free 2
        have fr3 := R23.free 3
        have fr4 := R23.free 4
        have fr5 := R23.free 5
        have fr6 := R23.free 6
        have fr7 := R23.free 7
        have fr8 := R23.free 8
        have Hm : RowKit.Hid (MIs { t8 with bit := bv } q8 w23) := Lib.hid ⟨I23.rdh, I23.rdb, I23.rdc, I23.byt, I23.cb, I23.lh, I23.lb, I23.lc⟩
        have hBF := Lib.hid (below_put9 hB23 (Nat.le_succ S) (.int .i64 (t8).bits) (.int .i64 (t8).least) (.slice (q8).ah (t8).heads.length (q8).ch) (.slice (q8).ab (t8).bytes.length (q8).cb) (.int .i64 (t8).at_) (.int .i64 (t8).len) (.int .i64 (t8).part) (.int .i64 bv) (.slice (q8).ac (t8).ctrs.length (q8).cc))
        have eR := HeR.out
        subst eR
        obtain ⟨y0, y1, y2, y3, y4, y5, y6, y7, y8⟩ := (R23.put9 (.int .i64 (t8).bits) (.int .i64 (t8).least) (.slice (q8).ah (t8).heads.length (q8).ch) (.slice (q8).ab (t8).bytes.length (q8).cb) (.int .i64 (t8).at_) (.int .i64 (t8).len) (.int .i64 (t8).part) (.int .i64 bv) (.slice (q8).ac (t8).ctrs.length (q8).cc)).nine
        clear M23 R23 hB23 I23
        go_wp2_with (exact bodyPost_ret (v := .tuple #[MV { t8 with bit := bv } q8, .int .i64 0]) (by simp [results, Try.results23, go_sem, MV, MVals, y0, y1, y2, y3, y4, y5, y6, y7, y8]) rfl ⟨q8, rfl, Hm.out.put9 HapR.out.1 HapR.out.2.1 HapR.out.2.2 _ _ _ _ _ _ _ _ _, hS ▸ hBF.out⟩)
      · skip
        have eR : mR = { t8 with bit := 2 } := by rw [HmR2.out]; unfold S12.expect; rw [if_neg hln]
        have eln : decide (0 < (t8).len) = false := decide_eq_false hln
        obtain ⟨r0, r1, r2, r3, r4, r5, r6, r7, r8⟩ := RB.nine
        have fr0 := RB.free 0
        have fr1 := RB.free 1
        have fr2 := RB.free 2
        have fr3 := RB.free 3
        have fr4 := RB.free 4
        have fr5 := RB.free 5
        have fr6 := RB.free 6
        have fr7 := RB.free 7
        have fr8 := RB.free 8
        have Hm : RowKit.Hid (MIs { t8 with bit := 2 } q8 wB) := Lib.hid ⟨IB.rdh, IB.rdb, IB.rdc, IB.byt, IB.cb, IB.lh, IB.lb, IB.lc⟩
        have hBF := Lib.hid (below_put9 hBB (Nat.le_succ S) (.int .i64 (t8).bits) (.int .i64 (t8).least) (.slice (q8).ah (t8).heads.length (q8).ch) (.slice (q8).ab (t8).bytes.length (q8).cb) (.int .i64 (t8).at_) (.int .i64 (t8).len) (.int .i64 (t8).part) (.int .i64 2) (.slice (q8).ac (t8).ctrs.length (q8).cc))
        subst eR
        obtain ⟨y0, y1, y2, y3, y4, y5, y6, y7, y8⟩ := (RB.put9 (.int .i64 (t8).bits) (.int .i64 (t8).least) (.slice (q8).ah (t8).heads.length (q8).ch) (.slice (q8).ab (t8).bytes.length (q8).cb) (.int .i64 (t8).at_) (.int .i64 (t8).len) (.int .i64 (t8).part) (.int .i64 2) (.slice (q8).ac (t8).ctrs.length (q8).cc)).nine
        clear MB RB hBB IB hln
        go_wp2_with (exact bodyPost_ret (v := .tuple #[MV { t8 with bit := 2 } q8, .int .i64 0]) (by simp [results, Try.results23, go_sem, MV, MVals, y0, y1, y2, y3, y4, y5, y6, y7, y8]) rfl ⟨q8, rfl, Hm.out.put9 HapR.out.1 HapR.out.2.1 HapR.out.2.2 _ _ _ _ _ _ _ _ _, hS ▸ hBF.out⟩)
set_option maxRecDepth 100000 in
set_option maxHeartbeats 4000000 in
theorem rbit12_part1 (m : S12.M) (p : Pl) (b : Int) (w : World) (hM : MIs m p w) (hE : S12.bitE m b = 0) (hfull : ¬ 128 ≤ m.part) (hbv : b = 1) :
    Calls Try.prog 23 #[MV m p, .int .i64 b] w fun e w' => ∃ p', e = .returned (.tuple #[MV (S12.bitM m b) p', .int .i64 0]) ∧ MIs (S12.bitM m b) p' w' ∧ Below w.heap.size w w' := by
  have hck : S12.check m = 0 := by
    cases h : decide (S12.check m = 0) with
    | true => exact of_decide_eq_true h
    | false => unfold S12.bitE at hE; rw [if_pos (of_decide_eq_false h)] at hE; exact hE
  have hWF := (S12.check_iff m).1 hck
  have hbb : b = 0 ∨ b = 1 := by omega
  have hroom : ¬ (128 ≤ m.part ∧ 65536 ≤ m.bytes.length) := by
    unfold S12.bitE at hE
    rw [if_neg (by rw [hck]; simp), if_neg (by omega)] at hE
    split at hE
    · cases hE
    · assumption
  have HWF' := Lib.hid (hWF.bitM hM.byt hbb hE)
  have HCk := Lib.hid fun W hW => rcheck12_any m p W hW
  rw [hck] at HCk
  have HL := Lib.hid (hWF.learn b)
  have dc : decide (128 ≤ m.part) = false := by simp; omega
  have hlb : m.bytes.length ≤ 65536 := hWF.few
  have hmat : m.len = 0 ∨ (1 ≤ m.len ∧ m.len ≤ 255) := by
    rcases (S12.matched_iff m).1 hWF.mat with ⟨h, _⟩ | h
    · exact .inl h
    · exact .inr h.len
  have H16 := Lib.hid hWF.ctrs
  have HWF := Lib.hid hWF
  have HM := Lib.hid hM
  have HRoom := Lib.hid hroom
  have HFul := Lib.hid hfull
  have HA1 := Lib.hid (hM.ap (Nat.le_refl w.heap.size))
  have HA2 := Lib.hid (hM.ap (Nat.le_succ w.heap.size))
  have hB0 : Below w.heap.size w ((w.alloc (.cells (MVals m p).toArray 27)).alloc (.cells #[.int .i64 0, .int .i64 0, .slice none 0 0, .slice none 0 0, .int .i64 0, .int .i64 0, .int .i64 0, .int .i64 0, .slice none 0 0] 27)) := by go_grown
  have A0 : Blk ((w.alloc (.cells (MVals m p).toArray 27)).alloc (.cells #[.int .i64 0, .int .i64 0, .slice none 0 0, .slice none 0 0, .int .i64 0, .int .i64 0, .int .i64 0, .int .i64 0, .slice none 0 0] 27)) w.heap.size (MVals m p) 27 := (Blk.new w _ _).alloc _
  have R0 : Blk ((w.alloc (.cells (MVals m p).toArray 27)).alloc (.cells #[.int .i64 0, .int .i64 0, .slice none 0 0, .slice none 0 0, .int .i64 0, .int .i64 0, .int .i64 0, .int .i64 0, .slice none 0 0] 27)) (w.heap.size + 1) [.int .i64 0, .int .i64 0, .slice none 0 0, .slice none 0 0, .int .i64 0, .int .i64 0, .int .i64 0, .int .i64 0, .slice none 0 0] 27 := by
    have h := Blk.new (w.alloc (.cells (MVals m p).toArray 27)) [.int .i64 0, .int .i64 0, .slice none 0 0, .slice none 0 0, .int .i64 0, .int .i64 0, .int .i64 0, .int .i64 0, .slice none 0 0] 27
    simpa using h
  clear hE hck hWF hM hroom hfull
  obtain ⟨mR, hmR⟩ : ∃ mR, S12.bitM m b = mR := ⟨_, rfl⟩
  rw [hmR] at HWF' ⊢
  have HmR0 := Lib.hid hmR
  clear hmR
  unfold MV at HCk
  unfold MVals at HCk A0 R0 hB0
  show Calls Try.prog 23 #[.agg #[.int .i64 m.bits, .int .i64 m.least, .slice p.ah m.heads.length p.ch, .slice p.ab m.bytes.length p.cb, .int .i64 m.at_, .int .i64 m.len, .int .i64 m.part, .int .i64 m.bit, .slice p.ac m.ctrs.length p.cc], .int .i64 b] w _
  obtain ⟨S, hS⟩ : ∃ S, w.heap.size = S := ⟨_, rfl⟩
  rw [hS] at A0 R0 hB0 HA1 HA2
  obtain ⟨x0, x1, x2, x3, x4, x5, x6, x7, x8⟩ := A0.nine
  obtain ⟨w0, hw0⟩ : ∃ w0, ((w.alloc (.cells #[.int .i64 m.bits, .int .i64 m.least, .slice p.ah m.heads.length p.ch, .slice p.ab m.bytes.length p.cb, .int .i64 m.at_, .int .i64 m.len, .int .i64 m.part, .int .i64 m.bit, .slice p.ac m.ctrs.length p.cc] 27)).alloc (.cells #[.int .i64 0, .int .i64 0, .slice none 0 0, .slice none 0 0, .int .i64 0, .int .i64 0, .int .i64 0, .int .i64 0, .slice none 0 0] 27)) = w0 := ⟨_, rfl⟩
  rw [hw0] at hB0 A0 R0 x0 x1 x2 x3 x4 x5 x6 x7 x8
  have e0 : (b != 0) = true := by rw [hbv]; rfl
  have e1 : (b != 1) = false := by rw [hbv]; rfl
  clear hbv
  rw [hS]
  go_enter Try.func23, Try.ntmps23
  go_wp2_with fail
  refine (HCk.out _ (HM.out.step (hS ▸ hB0))).mono ?_
  rintro e w1 ⟨rfl, hb1⟩
  have hB1 := hB0.trans (hb1.mono (Nat.le_of_lt A0.lt))
  have M1 := A0.step hb1
  have R1 := R0.step hb1
  clear x0 x1 x2 x3 x4 x5 x6 x7 x8 A0 R0 hw0 hb1 hB0
  obtain ⟨x0, x1, x2, x3, x4, x5, x6, x7, x8⟩ := M1.nine
  rcases hmat with h0 | h1
  · have hln : S12.learn m b = m := by unfold S12.learn; rw [if_pos h0]
    have dl0 : decide (0 < m.len) = false := decide_eq_false (by omega)
    have M5 : Blk w1 S (MVals (S12.learn m b) p) 27 := by rw [hln]; exact M1
    have MI5 : MIs (S12.learn m b) p w1 := by rw [hln]; exact HM.out.step (hS ▸ hB1)
    have HapS : RowKit.Hid (Ap (S12.learn m b) p S) := by rw [hln]; exact HA1
    have HapR : RowKit.Hid (Ap (S12.learn m b) p (S + 1)) := by rw [hln]; exact HA2
    have HmR : RowKit.Hid (mR = S12.expect (S12.take (S12.learn m b) (2 * (S12.learn m b).part + b))) := Lib.hid HmR0.out.symm
    have R5 := R1
    have hB5 := hB1
    obtain ⟨n, hn⟩ : ∃ n, S12.learn m b = n := ⟨_, rfl⟩
    rw [hn] at M5 MI5 HapS HapR HmR HL
    have en : n = m := by rw [← hn, hln]
    subst en
    unfold MVals at M5
    clear hn hln M1 R1 hB1 HA1 HA2
    have hn0 := Lib.hid h0
    clear h0
    obtain ⟨P, hP⟩ : ∃ P, 2 * n.part + b = P := ⟨_, rfl⟩
    have hL := HL.out
    have hpr : 1 ≤ n.part ∧ n.part ≤ 255 := by rw [hL.part]; exact HWF.out.part
    have hPr : 2 ≤ P ∧ P ≤ 511 := by omega
    have hPf : P ≤ 255 := by have := hL.part; have := HFul.out; omega
    have hPd : decide (255 < P) = false := by simp; omega
    have hmR : mR = S12.expect (S12.take n P) := by rw [HmR.out, hP]
    have ht : S12.take n P = { n with part := P } := by unfold S12.take; rw [if_neg (by omega)]
    rw [ht] at hmR
    obtain ⟨x0, x1, x2, x3, x4, x5, x6, x7, x8⟩ := M5.nine
    have f6 := M5.free 6
    have M6 := M5.set 6 (.int .i64 P)
    have R6 := R5.other S 6 (.int .i64 P) (by omega)
    have hB6 := hB5.setCell (p := ⟨S, 6, none⟩) (Nat.le_refl S) (.int .i64 P)
    have MI6 : MIs { n with part := P } p (w1.setCell ⟨S, 6, none⟩ (.int .i64 P)) := by
      have h := MI5.setO HapS.out 6 (.int .i64 P)
      exact ⟨h.rdh, h.rdb, h.rdc, h.byt, h.cb, h.lh, h.lb, h.lc⟩
    simp only [List.set_cons_zero, List.set_cons_succ] at M6
    obtain ⟨w6, hw6⟩ : ∃ w6, w1.setCell ⟨S, 6, none⟩ (.int .i64 P) = w6 := ⟨_, rfl⟩
    rw [hw6] at M6 R6 hB6 MI6
    obtain ⟨z0, z1, z2, z3, z4, z5, z6, z7, z8⟩ := M6.nine
    have HmR2 := Lib.hid hmR
    clear M5 R5 hB5 MI5 hmR ht
    clear hL HmR
    obtain ⟨x0, x1, x2, x3, x4, x5, x6, x7, x8⟩ := M6.nine
    have f7 := M6.free 7
    have MB := M6.set 7 (.int .i64 2)
    have RB := R6.other S 7 (.int .i64 2) (by omega)
    have hBB := hB6.setCell (p := ⟨S, 7, none⟩) (Nat.le_refl S) (.int .i64 2)
    have IB := MI6.setO HapS.out 7 (.int .i64 2)
    simp only [List.set_cons_zero, List.set_cons_succ] at MB
    obtain ⟨wB, hwB⟩ : ∃ wB, w6.setCell ⟨S, 7, none⟩ (.int .i64 2) = wB := ⟨_, rfl⟩
    rw [hwB] at MB RB hBB IB
    obtain ⟨z0, z1, z2, z3, z4, z5, z6, z7, z8⟩ := MB.nine
    have lS := MB.lt
    have lR := RB.lt
    clear M6 R6 hB6 MI6
    have hln : ¬ 0 < (({ n with part := P } : S12.M)).len := (by simp only; have := hn0.out; omega)
    have eR : mR = { ({ n with part := P } : S12.M) with bit := 2 } := by rw [HmR2.out]; unfold S12.expect; rw [if_neg hln]
    have eln : decide (0 < (({ n with part := P } : S12.M)).len) = false := decide_eq_false hln
    obtain ⟨r0, r1, r2, r3, r4, r5, r6, r7, r8⟩ := RB.nine
    have fr0 := RB.free 0
    have fr1 := RB.free 1
    have fr2 := RB.free 2
    have fr3 := RB.free 3
    have fr4 := RB.free 4
    have fr5 := RB.free 5
    have fr6 := RB.free 6
    have fr7 := RB.free 7
    have fr8 := RB.free 8
    have Hm : RowKit.Hid (MIs { ({ n with part := P } : S12.M) with bit := 2 } p wB) := Lib.hid ⟨IB.rdh, IB.rdb, IB.rdc, IB.byt, IB.cb, IB.lh, IB.lb, IB.lc⟩
    have hBF := Lib.hid (below_put9 hBB (Nat.le_succ S) (.int .i64 (({ n with part := P } : S12.M)).bits) (.int .i64 (({ n with part := P } : S12.M)).least) (.slice (p).ah (({ n with part := P } : S12.M)).heads.length (p).ch) (.slice (p).ab (({ n with part := P } : S12.M)).bytes.length (p).cb) (.int .i64 (({ n with part := P } : S12.M)).at_) (.int .i64 (({ n with part := P } : S12.M)).len) (.int .i64 (({ n with part := P } : S12.M)).part) (.int .i64 2) (.slice (p).ac (({ n with part := P } : S12.M)).ctrs.length (p).cc))
    subst eR
    obtain ⟨y0, y1, y2, y3, y4, y5, y6, y7, y8⟩ := (RB.put9 (.int .i64 (({ n with part := P } : S12.M)).bits) (.int .i64 (({ n with part := P } : S12.M)).least) (.slice (p).ah (({ n with part := P } : S12.M)).heads.length (p).ch) (.slice (p).ab (({ n with part := P } : S12.M)).bytes.length (p).cb) (.int .i64 (({ n with part := P } : S12.M)).at_) (.int .i64 (({ n with part := P } : S12.M)).len) (.int .i64 (({ n with part := P } : S12.M)).part) (.int .i64 2) (.slice (p).ac (({ n with part := P } : S12.M)).ctrs.length (p).cc)).nine
    clear MB RB hBB IB hln
    go_wp2_with (exact bodyPost_ret (v := .tuple #[MV { ({ n with part := P } : S12.M) with bit := 2 } p, .int .i64 0]) (by simp [results, Try.results23, go_sem, MV, MVals, y0, y1, y2, y3, y4, y5, y6, y7, y8]) rfl ⟨p, rfl, Hm.out.put9 HapR.out.1 HapR.out.2.1 HapR.out.2.2 _ _ _ _ _ _ _ _ _, hS ▸ hBF.out⟩)
  · have dl1 : decide (0 < m.len) = true := decide_eq_true (by omega)
    obtain ⟨k, hk⟩ : ∃ k : Nat, min m.len.toNat 15 = k := ⟨_, rfl⟩
    have hkm : min m.len 15 = (k : Int) := by omega
    obtain ⟨cp, hcp⟩ : ∃ cp, m.ctrs.getD k (0, 0) = cp := ⟨_, rfl⟩
    have hk16 : k < m.ctrs.length := by have := H16.out; omega
    have hok : S08.check cp.1 cp.2 255 = 0 := HWF.out.ctr cp (by rw [← hcp, S12.getD_in _ _ hk16]; exact List.getElem_mem hk16)
    have HU := Lib.hid fun r (hr : r = 0 ∨ r = 1) W => rupd12_ok hok hr W
    have hlearn : S12.learn m b = if b = m.bit then { m with ctrs := m.ctrs.set k (S08.step cp.1 cp.2 1, min (cp.2 + 1) 255) } else { m with ctrs := m.ctrs.set k (S08.step cp.1 cp.2 0, min (cp.2 + 1) 255), at_ := 0, len := 0 } := by
      unfold S12.learn
      rw [if_neg (by omega), hk, hcp]
    obtain ⟨p0, p1⟩ := cp
    have Hcp := Lib.hid hcp
    have Hk16 := Lib.hid hk16
    simp only at hlearn HU
    obtain ⟨n1, hn1⟩ : ∃ n1, min (p1 + 1) 255 = n1 := ⟨_, rfl⟩
    rw [hn1] at hlearn HU
    have hk9 : k < 16 := by omega
    clear hn1 hcp hk16 hok hk h1
    by_cases hbit : b = m.bit
    · rw [if_pos hbit] at hlearn
      have eb : (b == m.bit) = true := by simp [hbit]
      have HU1 := Lib.hid fun W => HU.out 1 (.inr rfl) W
      obtain ⟨s1, hs1⟩ : ∃ s1, S08.step p0 p1 1 = s1 := ⟨_, rfl⟩
      rw [hs1] at HU1 hlearn
      have Hlearn := Lib.hid hlearn
      clear HU hs1 hbit hlearn
      have hrdF := Lib.hid (((HM.out.step (hS ▸ hB1)).rdc).step ((Below.refl w1.heap.size w1).alloc (Nat.le_refl _) (Obj.cells #[] 35)))
      have HM1 := Lib.hid M1
      have HR1 := Lib.hid R1
      have HBB := Lib.hid hB1
      have l1 := R1.lt
      have lS1 := M1.lt
      have f8 := M1.free 8
      clear M1 R1 hB1
      go_wp2_with (first
        | (at_builtin
           refine wpList_append_rd _ _ 25 35 2 16 _ w1.heap.size elems_ctrs rfl rfl _ 0 [] rfl (World.ownsRow_made w1 #[] 0 (Nat.le_refl _) (by decide) rfl) p.ac m.ctrs.length p.cc (Cts m.ctrs) rfl (by rw [Cts_length]) hrdF.out (Cts_one _) (by have := H16.out; unfold maxLen; omega) (by have := H16.out; omega) (by simp) ?_
           intro a2 cap2 w2 hown2 hgrow2
           have hb2 : Below w1.heap.size w1 w2 := Below.grown (by go_grown) hgrow2 (by simp) (fun k e => by cases e; exact Nat.le_refl _)
           simp only [Nat.zero_add, List.nil_append] at hown2 ⊢
           obtain ⟨gc, rfl, hgc, hOC⟩ := Own.of_owns hown2 (by have := H16.out; omega) (by decide)
           clear hown2 hgrow2
           have M2 := HM1.out.step hb2
           have R2 := HR1.out.step hb2
           have hB2 := HBB.out.trans (hb2.mono (Nat.le_of_lt HM1.out.lt))
           have dS : ¬ gc = S := by omega
           have dS2 : ¬ S = gc := by omega
           have dR : ¬ S + 1 = gc := by omega
           have v8 := M2.cell 8
           have e8 := M2.free 8
           have M3 := M2.set 8 (.slice (some ⟨gc, 0, none⟩) m.ctrs.length cap2)
           have R3 := R2.other S 8 (.slice (some ⟨gc, 0, none⟩) m.ctrs.length cap2) (by omega)
           have hB3 := hB2.setCell (p := ⟨S, 8, none⟩) (Nat.le_refl S) (.slice (some ⟨gc, 0, none⟩) m.ctrs.length cap2)
           have C3 := hOC.other S 8 (.slice (some ⟨gc, 0, none⟩) m.ctrs.length cap2) dS
           simp only [List.set_cons_zero, List.set_cons_succ] at M3
           obtain ⟨w3, hw3⟩ : ∃ w3, w2.setCell ⟨S, 8, none⟩ (.slice (some ⟨gc, 0, none⟩) m.ctrs.length cap2) = w3 := ⟨_, rfl⟩
           rw [hw3] at M3 R3 hB3 C3
           have hC3 : HasC [(⟨S, 8, none⟩, .slice (some ⟨gc, 0, none⟩) m.ctrs.length cap2), (⟨gc, k * 2, none⟩, .int .i64 p0), (⟨gc, k * 2 + 1, none⟩, .int .i64 p1)] w3 :=
             ⟨M3.cell 8, by rw [C3.cell (by have := Hk16.out; rw [Cts_length]; omega), (Cts_at Hk16.out).1, ← S12.getD_in _ (0, 0) Hk16.out, Hcp.out], by rw [C3.cell (by have := Hk16.out; rw [Cts_length]; omega), (Cts_at Hk16.out).2, ← S12.getD_in _ (0, 0) Hk16.out, Hcp.out], trivial⟩
           clear M2 R2 hB2 hOC))
      clear v8 e8 f8 hw3 x0 x1 x2 x3 x4 x5 x6 x7 x8
      have hkl := Hk16.out
      refine wp_region_useq 14 15 0 [(.p, [true]), (.r, [false, true]), (.p, [false, false, true, true]), (.r, [false, false, false, false, true]), (.p, [false, false, false, false, false, true, true]), (.r, [false, false, false, false, false, false, false, true]), (.p, [false, false, false, false, false, false, false, false, true]), (.e, [false, false, false, false, false, false, false, false, false, true]), (.p, [false, false, false, false, false, false, false, false, false, false, true, true, true, true]), (.l, [false, false, false, false, false, false, false, false, false, false, false, false, false, false, true])] _ _ (HasC [(⟨S, 8, none⟩, .slice (some ⟨gc, 0, none⟩) m.ctrs.length cap2), (⟨gc, k * 2, none⟩, .int .i64 p0), (⟨gc, k * 2 + 1, none⟩, .int .i64 p1)]) (by kernel_rfl) (List.take_append_drop 15 _).symm (by kernel_rfl) (by kernel_rfl) (by kernel_rfl) (by kernel_rfl) (hC3) (fun Y Q4 F4 hY hF => ?_)
      simp only [phasedU, List.flatMap_cons, List.flatMap_nil, List.take_succ_cons, List.take_zero, List.drop_succ_cons, List.drop_zero, sel_true, sel_false, sel_nil, List.map_cons, List.map_nil, List.cons_append, List.nil_append, List.append_nil]
      repeat
        first
          | (apply wpSeqU_pure (by first | rfl | (rw [hY]; rfl))
             · intro w2
               go_simp
               with_reducible rfl
             simp only [Act.put, List.setIfInBounds_toArray, List.set_cons_zero, List.set_cons_succ])
          | (apply wpSeqU_read (by first | rfl | (rw [hY]; rfl))
             · intro w2 hS2
               (try simp only [Keeps, Cells] at hS2)
               (try simp only [HasC, Cells] at hS2)
               go_simp
               with_reducible rfl
             simp only [Act.put, List.setIfInBounds_toArray, List.set_cons_zero, List.set_cons_succ])
      apply wpSeqU_call (by first | rfl | (rw [hY]; rfl))
      · go_simp
        with_reducible exact ⟨rfl, rfl⟩
      refine (HU1.out _).mono ?_
      rintro e w4 ⟨rfl, hb4⟩
      have hE4 := below_trans (below_drew w3.heap.size w3) hb4
      have hC4 := Cells.step hE4 hC3
      refine ⟨_, rfl, hC4, ?_⟩
      simp only [Act.put, List.setIfInBounds_toArray, List.set_cons_zero, List.set_cons_succ]
      repeat
        first
          | (apply wpSeqU_pure (by first | rfl | (rw [hY]; rfl))
             · intro w2
               go_simp
               with_reducible rfl
             simp only [Act.put, List.setIfInBounds_toArray, List.set_cons_zero, List.set_cons_succ])
          | (apply wpSeqU_read (by first | rfl | (rw [hY]; rfl))
             · intro w2 hS2
               (try simp only [Keeps, Cells] at hS2)
               (try simp only [HasC, Cells] at hS2)
               go_simp
               with_reducible rfl
             simp only [Act.put, List.setIfInBounds_toArray, List.set_cons_zero, List.set_cons_succ])
      have M4 := M3.step hE4
      have R4 := R3.step hE4
      have C4 := C3.step hE4
      have hB4 := hB3.trans (hE4.mono (Nat.le_of_lt M3.lt))
      have y5 : w4.cell? ⟨gc, k * 2, none⟩ = some (.int .i64 p0) := hC4.2.1
      have y6 : w4.cell? ⟨gc, k * 2 + 1, none⟩ = some (.int .i64 p1) := hC4.2.2.1
      have g5 := C4.free (k * 2)
      have g6 := C4.free (k * 2 + 1)
      refine wpSeqU_last_store (by first | rfl | (rw [hY]; rfl)) (by go_simp; first | with_reducible exact ⟨rfl, rfl⟩ | with_reducible rfl) ?_
      simp only [Act.put, List.setIfInBounds_toArray, List.set_cons_zero, List.set_cons_succ]
      refine wpSeqU_done (hF.out _ _ (fun K hK => ?_))
      clear hF hY
      have M5 := (M4.other gc (k * 2) (.int .i64 s1) dS2).other gc (k * 2 + 1) (.int .i64 n1) dS2
      have R5 := (R4.other gc (k * 2) (.int .i64 s1) dR).other gc (k * 2 + 1) (.int .i64 n1) dR
      have hB5 := (hB4.setCell (p := ⟨gc, k * 2, none⟩) (show S ≤ gc by omega) (.int .i64 s1)).setCell (p := ⟨gc, k * 2 + 1, none⟩) (show S ≤ gc by omega) (.int .i64 n1)
      have C5 := (C4.set (i := k * 2) (by rw [Cts_length]; omega) (.int .i64 s1)).set (i := k * 2 + 1) (by rw [List.length_set, Cts_length]; omega) (.int .i64 n1)
      rw [← Cts_set] at C5
      go_wp2_with fail
      refine OnlyK.mk (hK.out _ _ ?_)
      clear hK hC3 hC4 y5 y6 g5 g6 M4 R4 C4 hB4 M3 R3 C3 hB3
      obtain ⟨w5, hw5⟩ : ∃ w5, (w4.setCell ⟨gc, k * 2, none⟩ (.int .i64 s1)).setCell ⟨gc, k * 2 + 1, none⟩ (.int .i64 n1) = w5 := ⟨_, rfl⟩
      rw [hw5] at M5 R5 hB5 C5 ⊢
      clear hw5
      have HL0 := HM.out.step (below_of hS hB5)
      have M9 : Blk w5 S (MVals (S12.learn m b) ⟨p.ah, p.ch, p.ab, p.cb, some ⟨gc, 0, none⟩, cap2⟩) 27 := by
        rw [Hlearn.out]; unfold MVals; simp only [List.length_set]; exact M5
      have MI9 : MIs (S12.learn m b) ⟨p.ah, p.ch, p.ab, p.cb, some ⟨gc, 0, none⟩, cap2⟩ w5 := by
        rw [Hlearn.out]; exact ⟨HL0.rdh, HL0.rdb, C5.rd, HL0.byt, HL0.cb, HL0.lh, HL0.lb, by simp only [List.length_set]; exact HL0.lc⟩
      have HapS : RowKit.Hid (Ap (S12.learn m b) ⟨p.ah, p.ch, p.ab, p.cb, some ⟨gc, 0, none⟩, cap2⟩ S) := by
        rw [Hlearn.out]; exact Lib.hid ⟨HA1.out.1, HA1.out.2.1, fun g o e _ => by cases e; omega⟩
      have HapR : RowKit.Hid (Ap (S12.learn m b) ⟨p.ah, p.ch, p.ab, p.cb, some ⟨gc, 0, none⟩, cap2⟩ (S + 1)) := by
        rw [Hlearn.out]; exact Lib.hid ⟨HA2.out.1, HA2.out.2.1, fun g o e _ => by cases e; omega⟩
      have HmR : RowKit.Hid (mR = S12.expect (S12.take (S12.learn m b) (2 * (S12.learn m b).part + b))) := Lib.hid HmR0.out.symm
      obtain ⟨n, hn⟩ : ∃ n, S12.learn m b = n := ⟨_, rfl⟩
      obtain ⟨qn, hqn⟩ : ∃ qn : Pl, (⟨p.ah, p.ch, p.ab, p.cb, some ⟨gc, 0, none⟩, cap2⟩ : Pl) = qn := ⟨_, rfl⟩
      rw [hn] at M9 MI9 HapS HapR HmR HL
      rw [hqn] at M9 MI9 HapS HapR
      have R9 := R5
      have hB9 := hB5
      unfold MVals at M9
      clear HL0 hn hqn Hlearn M5 C5 R5 hB5 HA1 HA2 eb dl1 dS dS2 dR hkl
      obtain ⟨P, hP⟩ : ∃ P, 2 * n.part + b = P := ⟨_, rfl⟩
      have hL := HL.out
      have hpr : 1 ≤ n.part ∧ n.part ≤ 255 := by rw [hL.part]; exact HWF.out.part
      have hPr : 2 ≤ P ∧ P ≤ 511 := by omega
      have hPf : P ≤ 255 := by have := hL.part; have := HFul.out; omega
      have hPd : decide (255 < P) = false := by simp; omega
      have hmR : mR = S12.expect (S12.take n P) := by rw [HmR.out, hP]
      have ht : S12.take n P = { n with part := P } := by unfold S12.take; rw [if_neg (by omega)]
      rw [ht] at hmR
      obtain ⟨x0, x1, x2, x3, x4, x5, x6, x7, x8⟩ := M9.nine
      have f6 := M9.free 6
      have M6 := M9.set 6 (.int .i64 P)
      have R6 := R9.other S 6 (.int .i64 P) (by omega)
      have hB6 := hB9.setCell (p := ⟨S, 6, none⟩) (Nat.le_refl S) (.int .i64 P)
      have MI6 : MIs { n with part := P } qn (w5.setCell ⟨S, 6, none⟩ (.int .i64 P)) := by
        have h := MI9.setO HapS.out 6 (.int .i64 P)
        exact ⟨h.rdh, h.rdb, h.rdc, h.byt, h.cb, h.lh, h.lb, h.lc⟩
      simp only [List.set_cons_zero, List.set_cons_succ] at M6
      obtain ⟨w6, hw6⟩ : ∃ w6, w5.setCell ⟨S, 6, none⟩ (.int .i64 P) = w6 := ⟨_, rfl⟩
      rw [hw6] at M6 R6 hB6 MI6
      obtain ⟨z0, z1, z2, z3, z4, z5, z6, z7, z8⟩ := M6.nine
      have HmR2 := Lib.hid hmR
      clear M9 R9 hB9 MI9 hmR ht
      clear hL HmR
      obtain ⟨x0, x1, x2, x3, x4, x5, x6, x7, x8⟩ := M6.nine
      have f7 := M6.free 7
      have MB := M6.set 7 (.int .i64 2)
      have RB := R6.other S 7 (.int .i64 2) (by omega)
      have hBB := hB6.setCell (p := ⟨S, 7, none⟩) (Nat.le_refl S) (.int .i64 2)
      have IB := MI6.setO HapS.out 7 (.int .i64 2)
      simp only [List.set_cons_zero, List.set_cons_succ] at MB
      obtain ⟨wB, hwB⟩ : ∃ wB, w6.setCell ⟨S, 7, none⟩ (.int .i64 2) = wB := ⟨_, rfl⟩
      rw [hwB] at MB RB hBB IB
      obtain ⟨z0, z1, z2, z3, z4, z5, z6, z7, z8⟩ := MB.nine
      have lS := MB.lt
      have lR := RB.lt
      clear M6 R6 hB6 MI6
      by_cases hln : 0 < (({ n with part := P } : S12.M)).len
      · skip
        have eR : mR = { ({ n with part := P } : S12.M) with bit := S12.expI ((({ n with part := P } : S12.M)).bytes.getD (({ n with part := P } : S12.M)).at_.toNat 0) (({ n with part := P } : S12.M)).part } := by rw [HmR2.out]; unfold S12.expect; rw [if_pos hln]
        have hWR : S12.WF { ({ n with part := P } : S12.M) with bit := S12.expI ((({ n with part := P } : S12.M)).bytes.getD (({ n with part := P } : S12.M)).at_.toNat 0) (({ n with part := P } : S12.M)).part } := by rw [← eR]; exact HWF'.out
        have hma := hWR.Mat (show (({ n with part := P } : S12.M)).len ≠ 0 by omega)
        have hma1 : (({ n with part := P } : S12.M)).len ≤ (({ n with part := P } : S12.M)).at_ ∧ (({ n with part := P } : S12.M)).at_ ≤ ((({ n with part := P } : S12.M)).bytes.length : Int) - 1 := hma.at_
        have hma2 : 1 ≤ (({ n with part := P } : S12.M)).len ∧ (({ n with part := P } : S12.M)).len ≤ 255 := hma.len
        have hpt : 1 ≤ (({ n with part := P } : S12.M)).part ∧ (({ n with part := P } : S12.M)).part ≤ 255 := hWR.part
        obtain ⟨pt, hptn⟩ : ∃ pt : Nat, (({ n with part := P } : S12.M)).part = pt := ⟨(({ n with part := P } : S12.M)).part.toNat, by omega⟩
        obtain ⟨q, hq⟩ : ∃ q : Nat, (({ n with part := P } : S12.M)).at_ = q := ⟨(({ n with part := P } : S12.M)).at_.toNat, by omega⟩
        have hbyT : S12.Byt (({ n with part := P } : S12.M)).bytes := IB.byt
        have hx0 : 0 ≤ (({ n with part := P } : S12.M)).bytes.getD q 0 := hbyT.get q
        have hx1 : ((({ n with part := P } : S12.M)).bytes.getD q 0).toNat < 256 := hbyT.at q
        obtain ⟨xn, hxn⟩ : ∃ xn : Nat, (({ n with part := P } : S12.M)).bytes.getD q 0 = xn := ⟨((({ n with part := P } : S12.M)).bytes.getD q 0).toNat, (Int.toNat_of_nonneg hx0).symm⟩
        have hxn2 : xn < 256 := by rw [hxn] at hx1; omega
        obtain ⟨gB, oB, eB, hcB⟩ := Bts_at IB.rdb (i := q) (show q < (({ n with part := P } : S12.M)).bytes.length by omega)
        have hcB2 := hcB q (show q < (({ n with part := P } : S12.M)).bytes.length by omega)
        (try simp only at eB hcB2)
        rw [show (({ n with part := P } : S12.M)).bytes.getD q 0 = (xn : Int) from hxn] at hcB2
        have hql : q < (({ n with part := P } : S12.M)).bytes.length := by omega
        have hgS : ¬ gB = S := HapS.out.2.1 gB oB eB (fun h => by have h2 : (Bts (({ n with part := P } : S12.M)).bytes).length = 0 := (by rw [h]; rfl); rw [Bts_length] at h2; omega)
        have hgS2 : ¬ S = gB := fun h => hgS h.symm
        have hC21 : HasC [(⟨S, 3, none⟩, .slice (some ⟨gB, oB, none⟩) (({ n with part := P } : S12.M)).bytes.length (qn).cb), (⟨S, 4, none⟩, .int .i64 (q : Int)), (⟨S, 6, none⟩, .int .i64 (pt : Int)), (⟨gB, oB + q, none⟩, .int .u8 (xn : Int))] wB :=
          ⟨by rw [← eB]; exact z3, by rw [← hq]; exact z4, by rw [← hptn]; exact z6, hcB2, trivial⟩
        have HEx := Lib.hid fun W => rexpected12_any xn pt hxn2 (by omega) (by omega) W
        obtain ⟨bv, hbv⟩ : ∃ bv, S12.optN (S12.exp xn (pt : Int)) = bv := ⟨_, rfl⟩
        have hbv2 : S12.expI ((({ n with part := P } : S12.M)).bytes.getD (({ n with part := P } : S12.M)).at_.toNat 0) (({ n with part := P } : S12.M)).part = bv := by rw [S12.expI_eq, hq, Int.toNat_natCast, hxn, Int.toNat_natCast, hptn, hbv]
        rw [hbv] at HEx
        rw [hbv2] at eR
        have HeR := Lib.hid eR
        obtain ⟨isS, hisS⟩ : ∃ isS, (S12.exp xn (pt : Int)).isSome = isS := ⟨_, rfl⟩
        rw [hisS] at HEx
        have eln : decide (0 < (({ n with part := P } : S12.M)).len) = true := decide_eq_true hln
        have Hqq := Lib.hid hq
        have HeB := Lib.hid eB
        clear hma hma1 hma2 hWR hbv hbv2 hxn hcB hcB2 eR hisS hln hpt hx0 hx1 hq hptn eB hbyT
        go_wp2_with fail
        clear x0 x1 x2 x3 x4 x5 x6 x7 x8 f7 eln z0 z1 z2 z3 z4 z5 z6 z7 z8
        refine wp_region_useq 13 14 0 [(.p, [true]), (.r, [false, true]), (.p, [false, false, true]), (.r, [false, false, false, true]), (.p, [false, false, false, false, true]), (.r, [false, false, false, false, false, true]), (.p, [false, false, false, false, false, false, true]), (.r, [false, false, false, false, false, false, false, true]), (.e, [false, false, false, false, false, false, false, false, true]), (.p, [false, false, false, false, false, false, false, false, false, true, true, true, true]), (.l, [false, false, false, false, false, false, false, false, false, false, false, false, false, true])] _ _ (HasC [(⟨S, 3, none⟩, .slice (some ⟨gB, oB, none⟩) (({ n with part := P } : S12.M)).bytes.length (qn).cb), (⟨S, 4, none⟩, .int .i64 (q : Int)), (⟨S, 6, none⟩, .int .i64 (pt : Int)), (⟨gB, oB + q, none⟩, .int .u8 (xn : Int))]) (by kernel_rfl) (List.take_append_drop 14 _).symm (by kernel_rfl) (by kernel_rfl) (by kernel_rfl) (by kernel_rfl) (hC21) (fun Y Q4 F4 hY hF => ?_)
        simp only [phasedU, List.flatMap_cons, List.flatMap_nil, List.take_succ_cons, List.take_zero, List.drop_succ_cons, List.drop_zero, sel_true, sel_false, sel_nil, List.map_cons, List.map_nil, List.cons_append, List.nil_append, List.append_nil]
        repeat
          first
            | (apply wpSeqU_pure (by first | rfl | (rw [hY]; rfl))
               · intro w2
                 go_simp
                 with_reducible rfl
               simp only [Act.put, List.setIfInBounds_toArray, List.set_cons_zero, List.set_cons_succ])
            | (apply wpSeqU_read (by first | rfl | (rw [hY]; rfl))
               · intro w2 hS2
                 (try simp only [Keeps, Cells] at hS2)
                 (try simp only [HasC, Cells] at hS2)
                 go_simp
                 with_reducible rfl
               simp only [Act.put, List.setIfInBounds_toArray, List.set_cons_zero, List.set_cons_succ])
        apply wpSeqU_call (by first | rfl | (rw [hY]; rfl))
        · go_simp
          with_reducible exact ⟨rfl, rfl⟩
        refine (HEx.out _).mono ?_
        rintro e w22 ⟨rfl, hb22⟩
        have hE22 := below_trans (below_drew wB.heap.size wB) hb22
        refine ⟨_, rfl, Cells.step hE22 hC21, ?_⟩
        simp only [Act.put, List.setIfInBounds_toArray, List.set_cons_zero, List.set_cons_succ]
        repeat
          first
            | (apply wpSeqU_pure (by first | rfl | (rw [hY]; rfl))
               · intro w2
                 go_simp
                 with_reducible rfl
               simp only [Act.put, List.setIfInBounds_toArray, List.set_cons_zero, List.set_cons_succ])
            | (apply wpSeqU_read (by first | rfl | (rw [hY]; rfl))
               · intro w2 hS2
                 (try simp only [Keeps, Cells] at hS2)
                 (try simp only [HasC, Cells] at hS2)
                 go_simp
                 with_reducible rfl
               simp only [Act.put, List.setIfInBounds_toArray, List.set_cons_zero, List.set_cons_succ])
        have M22 := MB.step hE22
        have y7 := M22.cell 7
        have f7 := M22.free 7
        refine wpSeqU_last_store (by first | rfl | (rw [hY]; rfl)) (by go_simp; first | with_reducible exact ⟨rfl, rfl⟩ | with_reducible rfl) ?_
        simp only [Act.put, List.setIfInBounds_toArray, List.set_cons_zero, List.set_cons_succ]
        refine wpSeqU_done (hF.out _ _ (fun K hK => ?_))
        clear hF hY
        have R23 := (RB.step hE22).other S 7 (.int .i64 bv) (by omega)
        have M23 := M22.set 7 (.int .i64 bv)
        have hB23 := (hBB.trans (hE22.mono (Nat.le_of_lt lS))).setCell (p := ⟨S, 7, none⟩) (Nat.le_refl S) (.int .i64 bv)
        have I23 := (IB.step hE22).setO HapS.out 7 (.int .i64 bv)
        simp only [List.set_cons_zero, List.set_cons_succ] at M23
        go_wp2_with fail
        refine OnlyK.mk (hK.out _ _ ?_)
        clear hK y7 f7 hC21 M22
        obtain ⟨w23, hw23⟩ : ∃ w23, w22.setCell ⟨S, 7, none⟩ (.int .i64 bv) = w23 := ⟨_, rfl⟩
        rw [hw23] at M23 hB23 R23 I23 ⊢
        clear hw23
        obtain ⟨x0, x1, x2, x3, x4, x5, x6, x7, x8⟩ := M23.nine
        obtain ⟨z0, z1, z2, z3, z4, z5, z6, z7, z8⟩ := R23.nine
        have fr0 := R23.free 0
        have fr1 := R23.free 1
        have fr2 := R23.free 2
        have fr3 := R23.free 3
        have fr4 := R23.free 4
        have fr5 := R23.free 5
        have fr6 := R23.free 6
        have fr7 := R23.free 7
        have fr8 := R23.free 8
        have Hm : RowKit.Hid (MIs { ({ n with part := P } : S12.M) with bit := bv } qn w23) := Lib.hid ⟨I23.rdh, I23.rdb, I23.rdc, I23.byt, I23.cb, I23.lh, I23.lb, I23.lc⟩
        have hBF := Lib.hid (below_put9 hB23 (Nat.le_succ S) (.int .i64 (({ n with part := P } : S12.M)).bits) (.int .i64 (({ n with part := P } : S12.M)).least) (.slice (qn).ah (({ n with part := P } : S12.M)).heads.length (qn).ch) (.slice (qn).ab (({ n with part := P } : S12.M)).bytes.length (qn).cb) (.int .i64 (({ n with part := P } : S12.M)).at_) (.int .i64 (({ n with part := P } : S12.M)).len) (.int .i64 (({ n with part := P } : S12.M)).part) (.int .i64 bv) (.slice (qn).ac (({ n with part := P } : S12.M)).ctrs.length (qn).cc))
        have eR := HeR.out
        subst eR
        obtain ⟨y0, y1, y2, y3, y4, y5, y6, y7, y8⟩ := (R23.put9 (.int .i64 (({ n with part := P } : S12.M)).bits) (.int .i64 (({ n with part := P } : S12.M)).least) (.slice (qn).ah (({ n with part := P } : S12.M)).heads.length (qn).ch) (.slice (qn).ab (({ n with part := P } : S12.M)).bytes.length (qn).cb) (.int .i64 (({ n with part := P } : S12.M)).at_) (.int .i64 (({ n with part := P } : S12.M)).len) (.int .i64 (({ n with part := P } : S12.M)).part) (.int .i64 bv) (.slice (qn).ac (({ n with part := P } : S12.M)).ctrs.length (qn).cc)).nine
        clear M23 R23 hB23 I23
        go_wp2_with (exact bodyPost_ret (v := .tuple #[MV { ({ n with part := P } : S12.M) with bit := bv } qn, .int .i64 0]) (by simp [results, Try.results23, go_sem, MV, MVals, y0, y1, y2, y3, y4, y5, y6, y7, y8]) rfl ⟨qn, rfl, Hm.out.put9 HapR.out.1 HapR.out.2.1 HapR.out.2.2 _ _ _ _ _ _ _ _ _, hS ▸ hBF.out⟩)
      · skip
        have eR : mR = { ({ n with part := P } : S12.M) with bit := 2 } := by rw [HmR2.out]; unfold S12.expect; rw [if_neg hln]
        have eln : decide (0 < (({ n with part := P } : S12.M)).len) = false := decide_eq_false hln
        obtain ⟨r0, r1, r2, r3, r4, r5, r6, r7, r8⟩ := RB.nine
        have fr0 := RB.free 0
        have fr1 := RB.free 1
        have fr2 := RB.free 2
        have fr3 := RB.free 3
        have fr4 := RB.free 4
        have fr5 := RB.free 5
        have fr6 := RB.free 6
        have fr7 := RB.free 7
        have fr8 := RB.free 8
        have Hm : RowKit.Hid (MIs { ({ n with part := P } : S12.M) with bit := 2 } qn wB) := Lib.hid ⟨IB.rdh, IB.rdb, IB.rdc, IB.byt, IB.cb, IB.lh, IB.lb, IB.lc⟩
        have hBF := Lib.hid (below_put9 hBB (Nat.le_succ S) (.int .i64 (({ n with part := P } : S12.M)).bits) (.int .i64 (({ n with part := P } : S12.M)).least) (.slice (qn).ah (({ n with part := P } : S12.M)).heads.length (qn).ch) (.slice (qn).ab (({ n with part := P } : S12.M)).bytes.length (qn).cb) (.int .i64 (({ n with part := P } : S12.M)).at_) (.int .i64 (({ n with part := P } : S12.M)).len) (.int .i64 (({ n with part := P } : S12.M)).part) (.int .i64 2) (.slice (qn).ac (({ n with part := P } : S12.M)).ctrs.length (qn).cc))
        subst eR
        obtain ⟨y0, y1, y2, y3, y4, y5, y6, y7, y8⟩ := (RB.put9 (.int .i64 (({ n with part := P } : S12.M)).bits) (.int .i64 (({ n with part := P } : S12.M)).least) (.slice (qn).ah (({ n with part := P } : S12.M)).heads.length (qn).ch) (.slice (qn).ab (({ n with part := P } : S12.M)).bytes.length (qn).cb) (.int .i64 (({ n with part := P } : S12.M)).at_) (.int .i64 (({ n with part := P } : S12.M)).len) (.int .i64 (({ n with part := P } : S12.M)).part) (.int .i64 2) (.slice (qn).ac (({ n with part := P } : S12.M)).ctrs.length (qn).cc)).nine
        clear MB RB hBB IB hln
        go_wp2_with (exact bodyPost_ret (v := .tuple #[MV { ({ n with part := P } : S12.M) with bit := 2 } qn, .int .i64 0]) (by simp [results, Try.results23, go_sem, MV, MVals, y0, y1, y2, y3, y4, y5, y6, y7, y8]) rfl ⟨qn, rfl, Hm.out.put9 HapR.out.1 HapR.out.2.1 HapR.out.2.2 _ _ _ _ _ _ _ _ _, hS ▸ hBF.out⟩)
    · rw [if_neg hbit] at hlearn
      have eb : (b == m.bit) = false := by simp [hbit]
      have HU1 := Lib.hid fun W => HU.out 0 (.inl rfl) W
      obtain ⟨s1, hs1⟩ : ∃ s1, S08.step p0 p1 0 = s1 := ⟨_, rfl⟩
      rw [hs1] at HU1 hlearn
      have Hlearn := Lib.hid hlearn
      clear HU hs1 hbit hlearn
      have hrdF := Lib.hid (((HM.out.step (hS ▸ hB1)).rdc).step ((Below.refl w1.heap.size w1).alloc (Nat.le_refl _) (Obj.cells #[] 35)))
      have HM1 := Lib.hid M1
      have HR1 := Lib.hid R1
      have HBB := Lib.hid hB1
      have l1 := R1.lt
      have lS1 := M1.lt
      have f8 := M1.free 8
      clear M1 R1 hB1
      go_wp2_with (first
        | (at_builtin
           refine wpList_append_rd _ _ 25 35 2 16 _ w1.heap.size elems_ctrs rfl rfl _ 0 [] rfl (World.ownsRow_made w1 #[] 0 (Nat.le_refl _) (by decide) rfl) p.ac m.ctrs.length p.cc (Cts m.ctrs) rfl (by rw [Cts_length]) hrdF.out (Cts_one _) (by have := H16.out; unfold maxLen; omega) (by have := H16.out; omega) (by simp) ?_
           intro a2 cap2 w2 hown2 hgrow2
           have hb2 : Below w1.heap.size w1 w2 := Below.grown (by go_grown) hgrow2 (by simp) (fun k e => by cases e; exact Nat.le_refl _)
           simp only [Nat.zero_add, List.nil_append] at hown2 ⊢
           obtain ⟨gc, rfl, hgc, hOC⟩ := Own.of_owns hown2 (by have := H16.out; omega) (by decide)
           clear hown2 hgrow2
           have M2 := HM1.out.step hb2
           have R2 := HR1.out.step hb2
           have hB2 := HBB.out.trans (hb2.mono (Nat.le_of_lt HM1.out.lt))
           have dS : ¬ gc = S := by omega
           have dS2 : ¬ S = gc := by omega
           have dR : ¬ S + 1 = gc := by omega
           have v8 := M2.cell 8
           have e8 := M2.free 8
           have M3 := M2.set 8 (.slice (some ⟨gc, 0, none⟩) m.ctrs.length cap2)
           have R3 := R2.other S 8 (.slice (some ⟨gc, 0, none⟩) m.ctrs.length cap2) (by omega)
           have hB3 := hB2.setCell (p := ⟨S, 8, none⟩) (Nat.le_refl S) (.slice (some ⟨gc, 0, none⟩) m.ctrs.length cap2)
           have C3 := hOC.other S 8 (.slice (some ⟨gc, 0, none⟩) m.ctrs.length cap2) dS
           simp only [List.set_cons_zero, List.set_cons_succ] at M3
           obtain ⟨w3, hw3⟩ : ∃ w3, w2.setCell ⟨S, 8, none⟩ (.slice (some ⟨gc, 0, none⟩) m.ctrs.length cap2) = w3 := ⟨_, rfl⟩
           rw [hw3] at M3 R3 hB3 C3
           have hC3 : HasC [(⟨S, 8, none⟩, .slice (some ⟨gc, 0, none⟩) m.ctrs.length cap2), (⟨gc, k * 2, none⟩, .int .i64 p0), (⟨gc, k * 2 + 1, none⟩, .int .i64 p1)] w3 :=
             ⟨M3.cell 8, by rw [C3.cell (by have := Hk16.out; rw [Cts_length]; omega), (Cts_at Hk16.out).1, ← S12.getD_in _ (0, 0) Hk16.out, Hcp.out], by rw [C3.cell (by have := Hk16.out; rw [Cts_length]; omega), (Cts_at Hk16.out).2, ← S12.getD_in _ (0, 0) Hk16.out, Hcp.out], trivial⟩
           clear M2 R2 hB2 hOC))
      clear v8 e8 f8 hw3 x0 x1 x2 x3 x4 x5 x6 x7 x8
      have hkl := Hk16.out
      refine wp_region_useq 14 15 0 [(.p, [true]), (.r, [false, true]), (.p, [false, false, true, true]), (.r, [false, false, false, false, true]), (.p, [false, false, false, false, false, true, true]), (.r, [false, false, false, false, false, false, false, true]), (.p, [false, false, false, false, false, false, false, false, true]), (.e, [false, false, false, false, false, false, false, false, false, true]), (.p, [false, false, false, false, false, false, false, false, false, false, true, true, true, true]), (.l, [false, false, false, false, false, false, false, false, false, false, false, false, false, false, true])] _ _ (HasC [(⟨S, 8, none⟩, .slice (some ⟨gc, 0, none⟩) m.ctrs.length cap2), (⟨gc, k * 2, none⟩, .int .i64 p0), (⟨gc, k * 2 + 1, none⟩, .int .i64 p1)]) (by kernel_rfl) (List.take_append_drop 15 _).symm (by kernel_rfl) (by kernel_rfl) (by kernel_rfl) (by kernel_rfl) (hC3) (fun Y Q4 F4 hY hF => ?_)
      simp only [phasedU, List.flatMap_cons, List.flatMap_nil, List.take_succ_cons, List.take_zero, List.drop_succ_cons, List.drop_zero, sel_true, sel_false, sel_nil, List.map_cons, List.map_nil, List.cons_append, List.nil_append, List.append_nil]
      repeat
        first
          | (apply wpSeqU_pure (by first | rfl | (rw [hY]; rfl))
             · intro w2
               go_simp
               with_reducible rfl
             simp only [Act.put, List.setIfInBounds_toArray, List.set_cons_zero, List.set_cons_succ])
          | (apply wpSeqU_read (by first | rfl | (rw [hY]; rfl))
             · intro w2 hS2
               (try simp only [Keeps, Cells] at hS2)
               (try simp only [HasC, Cells] at hS2)
               go_simp
               with_reducible rfl
             simp only [Act.put, List.setIfInBounds_toArray, List.set_cons_zero, List.set_cons_succ])
      apply wpSeqU_call (by first | rfl | (rw [hY]; rfl))
      · go_simp
        with_reducible exact ⟨rfl, rfl⟩
      refine (HU1.out _).mono ?_
      rintro e w4 ⟨rfl, hb4⟩
      have hE4 := below_trans (below_drew w3.heap.size w3) hb4
      have hC4 := Cells.step hE4 hC3
      refine ⟨_, rfl, hC4, ?_⟩
      simp only [Act.put, List.setIfInBounds_toArray, List.set_cons_zero, List.set_cons_succ]
      repeat
        first
          | (apply wpSeqU_pure (by first | rfl | (rw [hY]; rfl))
             · intro w2
               go_simp
               with_reducible rfl
             simp only [Act.put, List.setIfInBounds_toArray, List.set_cons_zero, List.set_cons_succ])
          | (apply wpSeqU_read (by first | rfl | (rw [hY]; rfl))
             · intro w2 hS2
               (try simp only [Keeps, Cells] at hS2)
               (try simp only [HasC, Cells] at hS2)
               go_simp
               with_reducible rfl
             simp only [Act.put, List.setIfInBounds_toArray, List.set_cons_zero, List.set_cons_succ])
      have M4 := M3.step hE4
      have R4 := R3.step hE4
      have C4 := C3.step hE4
      have hB4 := hB3.trans (hE4.mono (Nat.le_of_lt M3.lt))
      have y5 : w4.cell? ⟨gc, k * 2, none⟩ = some (.int .i64 p0) := hC4.2.1
      have y6 : w4.cell? ⟨gc, k * 2 + 1, none⟩ = some (.int .i64 p1) := hC4.2.2.1
      have g5 := C4.free (k * 2)
      have g6 := C4.free (k * 2 + 1)
      refine wpSeqU_last_store (by first | rfl | (rw [hY]; rfl)) (by go_simp; first | with_reducible exact ⟨rfl, rfl⟩ | with_reducible rfl) ?_
      simp only [Act.put, List.setIfInBounds_toArray, List.set_cons_zero, List.set_cons_succ]
      refine wpSeqU_done (hF.out _ _ (fun K hK => ?_))
      clear hF hY
      have M5 := (M4.other gc (k * 2) (.int .i64 s1) dS2).other gc (k * 2 + 1) (.int .i64 n1) dS2
      have R5 := (R4.other gc (k * 2) (.int .i64 s1) dR).other gc (k * 2 + 1) (.int .i64 n1) dR
      have hB5 := (hB4.setCell (p := ⟨gc, k * 2, none⟩) (show S ≤ gc by omega) (.int .i64 s1)).setCell (p := ⟨gc, k * 2 + 1, none⟩) (show S ≤ gc by omega) (.int .i64 n1)
      have C5 := (C4.set (i := k * 2) (by rw [Cts_length]; omega) (.int .i64 s1)).set (i := k * 2 + 1) (by rw [List.length_set, Cts_length]; omega) (.int .i64 n1)
      rw [← Cts_set] at C5
      go_wp2_with fail
      refine OnlyK.mk (hK.out _ _ ?_)
      clear hK hC3 hC4 y5 y6 g5 g6 M4 R4 C4 hB4 M3 R3 C3 hB3
      obtain ⟨w5, hw5⟩ : ∃ w5, (w4.setCell ⟨gc, k * 2, none⟩ (.int .i64 s1)).setCell ⟨gc, k * 2 + 1, none⟩ (.int .i64 n1) = w5 := ⟨_, rfl⟩
      rw [hw5] at M5 R5 hB5 C5 ⊢
      clear hw5
      obtain ⟨x0, x1, x2, x3, x4, x5, x6, x7, x8⟩ := M5.nine
      have f5 := M5.free 5
      have f4 := (M5.set 5 (.int .i64 0)).free 4
      have u4 := (M5.set 5 (.int .i64 0)).cell 4
      have M7 := (M5.set 5 (.int .i64 0)).set 4 (.int .i64 0)
      have R7 := (R5.other S 5 (.int .i64 0) (by omega)).other S 4 (.int .i64 0) (by omega)
      have hB7 := (hB5.setCell (p := ⟨S, 5, none⟩) (Nat.le_refl S) (.int .i64 0)).setCell (p := ⟨S, 4, none⟩) (Nat.le_refl S) (.int .i64 0)
      have C7 := (C5.other S 5 (.int .i64 0) dS).other S 4 (.int .i64 0) dS
      simp only [List.set_cons_zero, List.set_cons_succ] at M7 u4
      obtain ⟨w7, hw7⟩ : ∃ w7, (w5.setCell ⟨S, 5, none⟩ (.int .i64 0)).setCell ⟨S, 4, none⟩ (.int .i64 0) = w7 := ⟨_, rfl⟩
      rw [hw7] at M7 R7 hB7 C7
      clear M5 R5 hB5 C5
      have HL0 := HM.out.step (below_of hS hB7)
      have M9 : Blk w7 S (MVals (S12.learn m b) ⟨p.ah, p.ch, p.ab, p.cb, some ⟨gc, 0, none⟩, cap2⟩) 27 := by
        rw [Hlearn.out]; unfold MVals; simp only [List.length_set]; exact M7
      have MI9 : MIs (S12.learn m b) ⟨p.ah, p.ch, p.ab, p.cb, some ⟨gc, 0, none⟩, cap2⟩ w7 := by
        rw [Hlearn.out]; exact ⟨HL0.rdh, HL0.rdb, C7.rd, HL0.byt, HL0.cb, HL0.lh, HL0.lb, by simp only [List.length_set]; exact HL0.lc⟩
      have HapS : RowKit.Hid (Ap (S12.learn m b) ⟨p.ah, p.ch, p.ab, p.cb, some ⟨gc, 0, none⟩, cap2⟩ S) := by
        rw [Hlearn.out]; exact Lib.hid ⟨HA1.out.1, HA1.out.2.1, fun g o e _ => by cases e; omega⟩
      have HapR : RowKit.Hid (Ap (S12.learn m b) ⟨p.ah, p.ch, p.ab, p.cb, some ⟨gc, 0, none⟩, cap2⟩ (S + 1)) := by
        rw [Hlearn.out]; exact Lib.hid ⟨HA2.out.1, HA2.out.2.1, fun g o e _ => by cases e; omega⟩
      have HmR : RowKit.Hid (mR = S12.expect (S12.take (S12.learn m b) (2 * (S12.learn m b).part + b))) := Lib.hid HmR0.out.symm
      obtain ⟨n, hn⟩ : ∃ n, S12.learn m b = n := ⟨_, rfl⟩
      obtain ⟨qn, hqn⟩ : ∃ qn : Pl, (⟨p.ah, p.ch, p.ab, p.cb, some ⟨gc, 0, none⟩, cap2⟩ : Pl) = qn := ⟨_, rfl⟩
      rw [hn] at M9 MI9 HapS HapR HmR HL
      rw [hqn] at M9 MI9 HapS HapR
      have R9 := R7
      have hB9 := hB7
      unfold MVals at M9
      clear HL0 hn hqn Hlearn M7 C7 R7 hB7 HA1 HA2 eb dl1 dS dS2 dR hkl
      obtain ⟨P, hP⟩ : ∃ P, 2 * n.part + b = P := ⟨_, rfl⟩
      have hL := HL.out
      have hpr : 1 ≤ n.part ∧ n.part ≤ 255 := by rw [hL.part]; exact HWF.out.part
      have hPr : 2 ≤ P ∧ P ≤ 511 := by omega
      have hPf : P ≤ 255 := by have := hL.part; have := HFul.out; omega
      have hPd : decide (255 < P) = false := by simp; omega
      have hmR : mR = S12.expect (S12.take n P) := by rw [HmR.out, hP]
      have ht : S12.take n P = { n with part := P } := by unfold S12.take; rw [if_neg (by omega)]
      rw [ht] at hmR
      obtain ⟨x0, x1, x2, x3, x4, x5, x6, x7, x8⟩ := M9.nine
      have f6 := M9.free 6
      have M6 := M9.set 6 (.int .i64 P)
      have R6 := R9.other S 6 (.int .i64 P) (by omega)
      have hB6 := hB9.setCell (p := ⟨S, 6, none⟩) (Nat.le_refl S) (.int .i64 P)
      have MI6 : MIs { n with part := P } qn (w7.setCell ⟨S, 6, none⟩ (.int .i64 P)) := by
        have h := MI9.setO HapS.out 6 (.int .i64 P)
        exact ⟨h.rdh, h.rdb, h.rdc, h.byt, h.cb, h.lh, h.lb, h.lc⟩
      simp only [List.set_cons_zero, List.set_cons_succ] at M6
      obtain ⟨w6, hw6⟩ : ∃ w6, w7.setCell ⟨S, 6, none⟩ (.int .i64 P) = w6 := ⟨_, rfl⟩
      rw [hw6] at M6 R6 hB6 MI6
      obtain ⟨z0, z1, z2, z3, z4, z5, z6, z7, z8⟩ := M6.nine
      have HmR2 := Lib.hid hmR
      clear M9 R9 hB9 MI9 hmR ht
      clear hL HmR
      obtain ⟨x0, x1, x2, x3, x4, x5, x6, x7, x8⟩ := M6.nine
      have f7 := M6.free 7
      have MB := M6.set 7 (.int .i64 2)
      have RB := R6.other S 7 (.int .i64 2) (by omega)
      have hBB := hB6.setCell (p := ⟨S, 7, none⟩) (Nat.le_refl S) (.int .i64 2)
      have IB := MI6.setO HapS.out 7 (.int .i64 2)
      simp only [List.set_cons_zero, List.set_cons_succ] at MB
      obtain ⟨wB, hwB⟩ : ∃ wB, w6.setCell ⟨S, 7, none⟩ (.int .i64 2) = wB := ⟨_, rfl⟩
      rw [hwB] at MB RB hBB IB
      obtain ⟨z0, z1, z2, z3, z4, z5, z6, z7, z8⟩ := MB.nine
      have lS := MB.lt
      have lR := RB.lt
      clear M6 R6 hB6 MI6
      by_cases hln : 0 < (({ n with part := P } : S12.M)).len
      · skip
        have eR : mR = { ({ n with part := P } : S12.M) with bit := S12.expI ((({ n with part := P } : S12.M)).bytes.getD (({ n with part := P } : S12.M)).at_.toNat 0) (({ n with part := P } : S12.M)).part } := by rw [HmR2.out]; unfold S12.expect; rw [if_pos hln]
        have hWR : S12.WF { ({ n with part := P } : S12.M) with bit := S12.expI ((({ n with part := P } : S12.M)).bytes.getD (({ n with part := P } : S12.M)).at_.toNat 0) (({ n with part := P } : S12.M)).part } := by rw [← eR]; exact HWF'.out
        have hma := hWR.Mat (show (({ n with part := P } : S12.M)).len ≠ 0 by omega)
        have hma1 : (({ n with part := P } : S12.M)).len ≤ (({ n with part := P } : S12.M)).at_ ∧ (({ n with part := P } : S12.M)).at_ ≤ ((({ n with part := P } : S12.M)).bytes.length : Int) - 1 := hma.at_
        have hma2 : 1 ≤ (({ n with part := P } : S12.M)).len ∧ (({ n with part := P } : S12.M)).len ≤ 255 := hma.len
        have hpt : 1 ≤ (({ n with part := P } : S12.M)).part ∧ (({ n with part := P } : S12.M)).part ≤ 255 := hWR.part
        obtain ⟨pt, hptn⟩ : ∃ pt : Nat, (({ n with part := P } : S12.M)).part = pt := ⟨(({ n with part := P } : S12.M)).part.toNat, by omega⟩
        obtain ⟨q, hq⟩ : ∃ q : Nat, (({ n with part := P } : S12.M)).at_ = q := ⟨(({ n with part := P } : S12.M)).at_.toNat, by omega⟩
        have hbyT : S12.Byt (({ n with part := P } : S12.M)).bytes := IB.byt
        have hx0 : 0 ≤ (({ n with part := P } : S12.M)).bytes.getD q 0 := hbyT.get q
        have hx1 : ((({ n with part := P } : S12.M)).bytes.getD q 0).toNat < 256 := hbyT.at q
        obtain ⟨xn, hxn⟩ : ∃ xn : Nat, (({ n with part := P } : S12.M)).bytes.getD q 0 = xn := ⟨((({ n with part := P } : S12.M)).bytes.getD q 0).toNat, (Int.toNat_of_nonneg hx0).symm⟩
        have hxn2 : xn < 256 := by rw [hxn] at hx1; omega
        obtain ⟨gB, oB, eB, hcB⟩ := Bts_at IB.rdb (i := q) (show q < (({ n with part := P } : S12.M)).bytes.length by omega)
        have hcB2 := hcB q (show q < (({ n with part := P } : S12.M)).bytes.length by omega)
        (try simp only at eB hcB2)
        rw [show (({ n with part := P } : S12.M)).bytes.getD q 0 = (xn : Int) from hxn] at hcB2
        have hql : q < (({ n with part := P } : S12.M)).bytes.length := by omega
        have hgS : ¬ gB = S := HapS.out.2.1 gB oB eB (fun h => by have h2 : (Bts (({ n with part := P } : S12.M)).bytes).length = 0 := (by rw [h]; rfl); rw [Bts_length] at h2; omega)
        have hgS2 : ¬ S = gB := fun h => hgS h.symm
        have hC21 : HasC [(⟨S, 3, none⟩, .slice (some ⟨gB, oB, none⟩) (({ n with part := P } : S12.M)).bytes.length (qn).cb), (⟨S, 4, none⟩, .int .i64 (q : Int)), (⟨S, 6, none⟩, .int .i64 (pt : Int)), (⟨gB, oB + q, none⟩, .int .u8 (xn : Int))] wB :=
          ⟨by rw [← eB]; exact z3, by rw [← hq]; exact z4, by rw [← hptn]; exact z6, hcB2, trivial⟩
        have HEx := Lib.hid fun W => rexpected12_any xn pt hxn2 (by omega) (by omega) W
        obtain ⟨bv, hbv⟩ : ∃ bv, S12.optN (S12.exp xn (pt : Int)) = bv := ⟨_, rfl⟩
        have hbv2 : S12.expI ((({ n with part := P } : S12.M)).bytes.getD (({ n with part := P } : S12.M)).at_.toNat 0) (({ n with part := P } : S12.M)).part = bv := by rw [S12.expI_eq, hq, Int.toNat_natCast, hxn, Int.toNat_natCast, hptn, hbv]
        rw [hbv] at HEx
        rw [hbv2] at eR
        have HeR := Lib.hid eR
        obtain ⟨isS, hisS⟩ : ∃ isS, (S12.exp xn (pt : Int)).isSome = isS := ⟨_, rfl⟩
        rw [hisS] at HEx
        have eln : decide (0 < (({ n with part := P } : S12.M)).len) = true := decide_eq_true hln
        have Hqq := Lib.hid hq
        have HeB := Lib.hid eB
        clear hma hma1 hma2 hWR hbv hbv2 hxn hcB hcB2 eR hisS hln hpt hx0 hx1 hq hptn eB hbyT
        go_wp2_with fail
        clear x0 x1 x2 x3 x4 x5 x6 x7 x8 f7 eln z0 z1 z2 z3 z4 z5 z6 z7 z8
        refine wp_region_useq 13 14 0 [(.p, [true]), (.r, [false, true]), (.p, [false, false, true]), (.r, [false, false, false, true]), (.p, [false, false, false, false, true]), (.r, [false, false, false, false, false, true]), (.p, [false, false, false, false, false, false, true]), (.r, [false, false, false, false, false, false, false, true]), (.e, [false, false, false, false, false, false, false, false, true]), (.p, [false, false, false, false, false, false, false, false, false, true, true, true, true]), (.l, [false, false, false, false, false, false, false, false, false, false, false, false, false, true])] _ _ (HasC [(⟨S, 3, none⟩, .slice (some ⟨gB, oB, none⟩) (({ n with part := P } : S12.M)).bytes.length (qn).cb), (⟨S, 4, none⟩, .int .i64 (q : Int)), (⟨S, 6, none⟩, .int .i64 (pt : Int)), (⟨gB, oB + q, none⟩, .int .u8 (xn : Int))]) (by kernel_rfl) (List.take_append_drop 14 _).symm (by kernel_rfl) (by kernel_rfl) (by kernel_rfl) (by kernel_rfl) (hC21) (fun Y Q4 F4 hY hF => ?_)
        simp only [phasedU, List.flatMap_cons, List.flatMap_nil, List.take_succ_cons, List.take_zero, List.drop_succ_cons, List.drop_zero, sel_true, sel_false, sel_nil, List.map_cons, List.map_nil, List.cons_append, List.nil_append, List.append_nil]
        repeat
          first
            | (apply wpSeqU_pure (by first | rfl | (rw [hY]; rfl))
               · intro w2
                 go_simp
                 with_reducible rfl
               simp only [Act.put, List.setIfInBounds_toArray, List.set_cons_zero, List.set_cons_succ])
            | (apply wpSeqU_read (by first | rfl | (rw [hY]; rfl))
               · intro w2 hS2
                 (try simp only [Keeps, Cells] at hS2)
                 (try simp only [HasC, Cells] at hS2)
                 go_simp
                 with_reducible rfl
               simp only [Act.put, List.setIfInBounds_toArray, List.set_cons_zero, List.set_cons_succ])
        apply wpSeqU_call (by first | rfl | (rw [hY]; rfl))
        · go_simp
          with_reducible exact ⟨rfl, rfl⟩
        refine (HEx.out _).mono ?_
        rintro e w22 ⟨rfl, hb22⟩
        have hE22 := below_trans (below_drew wB.heap.size wB) hb22
        refine ⟨_, rfl, Cells.step hE22 hC21, ?_⟩
        simp only [Act.put, List.setIfInBounds_toArray, List.set_cons_zero, List.set_cons_succ]
        repeat
          first
            | (apply wpSeqU_pure (by first | rfl | (rw [hY]; rfl))
               · intro w2
                 go_simp
                 with_reducible rfl
               simp only [Act.put, List.setIfInBounds_toArray, List.set_cons_zero, List.set_cons_succ])
            | (apply wpSeqU_read (by first | rfl | (rw [hY]; rfl))
               · intro w2 hS2
                 (try simp only [Keeps, Cells] at hS2)
                 (try simp only [HasC, Cells] at hS2)
                 go_simp
                 with_reducible rfl
               simp only [Act.put, List.setIfInBounds_toArray, List.set_cons_zero, List.set_cons_succ])
        have M22 := MB.step hE22
        have y7 := M22.cell 7
        have f7 := M22.free 7
        refine wpSeqU_last_store (by first | rfl | (rw [hY]; rfl)) (by go_simp; first | with_reducible exact ⟨rfl, rfl⟩ | with_reducible rfl) ?_
        simp only [Act.put, List.setIfInBounds_toArray, List.set_cons_zero, List.set_cons_succ]
        refine wpSeqU_done (hF.out _ _ (fun K hK => ?_))
        clear hF hY
        have R23 := (RB.step hE22).other S 7 (.int .i64 bv) (by omega)
        have M23 := M22.set 7 (.int .i64 bv)
        have hB23 := (hBB.trans (hE22.mono (Nat.le_of_lt lS))).setCell (p := ⟨S, 7, none⟩) (Nat.le_refl S) (.int .i64 bv)
        have I23 := (IB.step hE22).setO HapS.out 7 (.int .i64 bv)
        simp only [List.set_cons_zero, List.set_cons_succ] at M23
        go_wp2_with fail
        refine OnlyK.mk (hK.out _ _ ?_)
        clear hK y7 f7 hC21 M22
        obtain ⟨w23, hw23⟩ : ∃ w23, w22.setCell ⟨S, 7, none⟩ (.int .i64 bv) = w23 := ⟨_, rfl⟩
        rw [hw23] at M23 hB23 R23 I23 ⊢
        clear hw23
        obtain ⟨x0, x1, x2, x3, x4, x5, x6, x7, x8⟩ := M23.nine
        obtain ⟨z0, z1, z2, z3, z4, z5, z6, z7, z8⟩ := R23.nine
        have fr0 := R23.free 0
        have fr1 := R23.free 1
        have fr2 := R23.free 2
        have fr3 := R23.free 3
        have fr4 := R23.free 4
        have fr5 := R23.free 5
        have fr6 := R23.free 6
        have fr7 := R23.free 7
        have fr8 := R23.free 8
        have Hm : RowKit.Hid (MIs { ({ n with part := P } : S12.M) with bit := bv } qn w23) := Lib.hid ⟨I23.rdh, I23.rdb, I23.rdc, I23.byt, I23.cb, I23.lh, I23.lb, I23.lc⟩
        have hBF := Lib.hid (below_put9 hB23 (Nat.le_succ S) (.int .i64 (({ n with part := P } : S12.M)).bits) (.int .i64 (({ n with part := P } : S12.M)).least) (.slice (qn).ah (({ n with part := P } : S12.M)).heads.length (qn).ch) (.slice (qn).ab (({ n with part := P } : S12.M)).bytes.length (qn).cb) (.int .i64 (({ n with part := P } : S12.M)).at_) (.int .i64 (({ n with part := P } : S12.M)).len) (.int .i64 (({ n with part := P } : S12.M)).part) (.int .i64 bv) (.slice (qn).ac (({ n with part := P } : S12.M)).ctrs.length (qn).cc))
        have eR := HeR.out
        subst eR
        obtain ⟨y0, y1, y2, y3, y4, y5, y6, y7, y8⟩ := (R23.put9 (.int .i64 (({ n with part := P } : S12.M)).bits) (.int .i64 (({ n with part := P } : S12.M)).least) (.slice (qn).ah (({ n with part := P } : S12.M)).heads.length (qn).ch) (.slice (qn).ab (({ n with part := P } : S12.M)).bytes.length (qn).cb) (.int .i64 (({ n with part := P } : S12.M)).at_) (.int .i64 (({ n with part := P } : S12.M)).len) (.int .i64 (({ n with part := P } : S12.M)).part) (.int .i64 bv) (.slice (qn).ac (({ n with part := P } : S12.M)).ctrs.length (qn).cc)).nine
        clear M23 R23 hB23 I23
        go_wp2_with (exact bodyPost_ret (v := .tuple #[MV { ({ n with part := P } : S12.M) with bit := bv } qn, .int .i64 0]) (by simp [results, Try.results23, go_sem, MV, MVals, y0, y1, y2, y3, y4, y5, y6, y7, y8]) rfl ⟨qn, rfl, Hm.out.put9 HapR.out.1 HapR.out.2.1 HapR.out.2.2 _ _ _ _ _ _ _ _ _, hS ▸ hBF.out⟩)
      · skip
        have eR : mR = { ({ n with part := P } : S12.M) with bit := 2 } := by rw [HmR2.out]; unfold S12.expect; rw [if_neg hln]
        have eln : decide (0 < (({ n with part := P } : S12.M)).len) = false := decide_eq_false hln
        obtain ⟨r0, r1, r2, r3, r4, r5, r6, r7, r8⟩ := RB.nine
        have fr0 := RB.free 0
        have fr1 := RB.free 1
        have fr2 := RB.free 2
        have fr3 := RB.free 3
        have fr4 := RB.free 4
        have fr5 := RB.free 5
        have fr6 := RB.free 6
        have fr7 := RB.free 7
        have fr8 := RB.free 8
        have Hm : RowKit.Hid (MIs { ({ n with part := P } : S12.M) with bit := 2 } qn wB) := Lib.hid ⟨IB.rdh, IB.rdb, IB.rdc, IB.byt, IB.cb, IB.lh, IB.lb, IB.lc⟩
        have hBF := Lib.hid (below_put9 hBB (Nat.le_succ S) (.int .i64 (({ n with part := P } : S12.M)).bits) (.int .i64 (({ n with part := P } : S12.M)).least) (.slice (qn).ah (({ n with part := P } : S12.M)).heads.length (qn).ch) (.slice (qn).ab (({ n with part := P } : S12.M)).bytes.length (qn).cb) (.int .i64 (({ n with part := P } : S12.M)).at_) (.int .i64 (({ n with part := P } : S12.M)).len) (.int .i64 (({ n with part := P } : S12.M)).part) (.int .i64 2) (.slice (qn).ac (({ n with part := P } : S12.M)).ctrs.length (qn).cc))
        subst eR
        obtain ⟨y0, y1, y2, y3, y4, y5, y6, y7, y8⟩ := (RB.put9 (.int .i64 (({ n with part := P } : S12.M)).bits) (.int .i64 (({ n with part := P } : S12.M)).least) (.slice (qn).ah (({ n with part := P } : S12.M)).heads.length (qn).ch) (.slice (qn).ab (({ n with part := P } : S12.M)).bytes.length (qn).cb) (.int .i64 (({ n with part := P } : S12.M)).at_) (.int .i64 (({ n with part := P } : S12.M)).len) (.int .i64 (({ n with part := P } : S12.M)).part) (.int .i64 2) (.slice (qn).ac (({ n with part := P } : S12.M)).ctrs.length (qn).cc)).nine
        clear MB RB hBB IB hln
        go_wp2_with (exact bodyPost_ret (v := .tuple #[MV { ({ n with part := P } : S12.M) with bit := 2 } qn, .int .i64 0]) (by simp [results, Try.results23, go_sem, MV, MVals, y0, y1, y2, y3, y4, y5, y6, y7, y8]) rfl ⟨qn, rfl, Hm.out.put9 HapR.out.1 HapR.out.2.1 HapR.out.2.2 _ _ _ _ _ _ _ _ _, hS ▸ hBF.out⟩)

set_option maxRecDepth 100000 in
set_option maxHeartbeats 4000000 in
theorem rbit12_err (m : S12.M) (p : Pl) (b : Int) (w : World) (hM : MIs m p w) (hE : S12.bitE m b ≠ 0) :
    Calls Try.prog 23 #[MV m p, .int .i64 b] w fun e w' => e = .returned (.tuple #[ZV, .int .i64 (S12.bitE m b)]) ∧ Below w.heap.size w w' := by
  have HCk := Lib.hid fun W hW => rcheck12_any m p W hW
  obtain ⟨C, hC⟩ : ∃ C, S12.check m = C := ⟨_, rfl⟩
  have hEE : S12.bitE m b = if C ≠ 0 then C else if ¬ (0 ≤ b ∧ b ≤ 1) then 1 else if 128 ≤ m.part ∧ 65536 ≤ m.bytes.length then 11 else 0 := by unfold S12.bitE; rw [hC]
  rw [hC] at HCk
  have hfew : C = 0 → m.bytes.length ≤ 65536 := fun h => ((S12.check_iff m).1 (hC.trans h)).few
  obtain ⟨E, hEq⟩ : ∃ E, S12.bitE m b = E := ⟨_, rfl⟩
  rw [hEq] at hEE hE ⊢
  have HM := Lib.hid hM
  have hB0 : Below w.heap.size w ((w.alloc (.cells (MVals m p).toArray 27)).alloc (.cells #[.int .i64 0, .int .i64 0, .slice none 0 0, .slice none 0 0, .int .i64 0, .int .i64 0, .int .i64 0, .int .i64 0, .slice none 0 0] 27)) := by go_grown
  have A0 : Blk ((w.alloc (.cells (MVals m p).toArray 27)).alloc (.cells #[.int .i64 0, .int .i64 0, .slice none 0 0, .slice none 0 0, .int .i64 0, .int .i64 0, .int .i64 0, .int .i64 0, .slice none 0 0] 27)) w.heap.size (MVals m p) 27 := (Blk.new w _ _).alloc _
  have R0 : Blk ((w.alloc (.cells (MVals m p).toArray 27)).alloc (.cells #[.int .i64 0, .int .i64 0, .slice none 0 0, .slice none 0 0, .int .i64 0, .int .i64 0, .int .i64 0, .int .i64 0, .slice none 0 0] 27)) (w.heap.size + 1) [.int .i64 0, .int .i64 0, .slice none 0 0, .slice none 0 0, .int .i64 0, .int .i64 0, .int .i64 0, .int .i64 0, .slice none 0 0] 27 := by
    have h := Blk.new (w.alloc (.cells (MVals m p).toArray 27)) [.int .i64 0, .int .i64 0, .slice none 0 0, .slice none 0 0, .int .i64 0, .int .i64 0, .int .i64 0, .int .i64 0, .slice none 0 0] 27
    simpa using h
  clear hM hEq hC
  have hfin : ∀ (X : World), Below w.heap.size w X → Below w.heap.size w _ := fun X h => below_put9 h (Nat.le_succ _) (.int .i64 0) (.int .i64 0) (.slice none 0 0) (.slice none 0 0) (.int .i64 0) (.int .i64 0) (.int .i64 0) (.int .i64 0) (.slice none 0 0)
  have Hfin := Lib.hid hfin
  clear hfin
  unfold MV at HCk
  unfold MVals at HCk A0 R0 hB0
  show Calls Try.prog 23 #[.agg #[.int .i64 m.bits, .int .i64 m.least, .slice p.ah m.heads.length p.ch, .slice p.ab m.bytes.length p.cb, .int .i64 m.at_, .int .i64 m.len, .int .i64 m.part, .int .i64 m.bit, .slice p.ac m.ctrs.length p.cc], .int .i64 b] w _
  go_enter Try.func23, Try.ntmps23
  obtain ⟨x0, x1, x2, x3, x4, x5, x6, x7, x8⟩ := A0.nine
  obtain ⟨w0, hw0⟩ : ∃ w0, ((w.alloc (.cells #[.int .i64 m.bits, .int .i64 m.least, .slice p.ah m.heads.length p.ch, .slice p.ab m.bytes.length p.cb, .int .i64 m.at_, .int .i64 m.len, .int .i64 m.part, .int .i64 m.bit, .slice p.ac m.ctrs.length p.cc] 27)).alloc (.cells #[.int .i64 0, .int .i64 0, .slice none 0 0, .slice none 0 0, .int .i64 0, .int .i64 0, .int .i64 0, .int .i64 0, .slice none 0 0] 27)) = w0 := ⟨_, rfl⟩
  rw [hw0] at hB0 A0 R0 x0 x1 x2 x3 x4 x5 x6 x7 x8
  go_wp2_with fail
  refine (HCk.out _ (HM.out.step hB0)).mono ?_
  rintro e w1 ⟨rfl, hb1⟩
  have hB1 := below_trans hB0 hb1
  have R1 := R0.step hb1
  have A1 := A0.step hb1
  clear x0 x1 x2 x3 x4 x5 x6 x7 x8 A0 R0 hw0
  obtain ⟨z0, z1, z2, z3, z4, z5, z6, z7, z8⟩ := R1.nine
  have f0 := R1.free 0
  have f1 := R1.free 1
  have f2 := R1.free 2
  have f3 := R1.free 3
  have f4 := R1.free 4
  have f5 := R1.free 5
  have f6 := R1.free 6
  have f7 := R1.free 7
  have f8 := R1.free 8
  obtain ⟨y0, y1, y2, y3, y4, y5, y6, y7, y8⟩ := (R1.put9 (.int .i64 0) (.int .i64 0) (.slice none 0 0) (.slice none 0 0) (.int .i64 0) (.int .i64 0) (.int .i64 0) (.int .i64 0) (.slice none 0 0)).nine
  by_cases hC0 : C ≠ 0
  · rw [if_pos hC0] at hEE
    subst hEE
    have eC : (E != 0) = true := by simp [hC0]
    go_wp2_with (exact bodyPost_ret (v := .tuple #[ZV, .int .i64 E]) (by simp [results, Try.results23, go_sem, ZV, y0, y1, y2, y3, y4, y5, y6, y7, y8]) rfl ⟨rfl, Hfin.out _ hB1⟩)
  replace hC0 := Classical.not_not.1 hC0
  subst hC0
  rw [if_neg (by simp)] at hEE
  by_cases hb : ¬ (0 ≤ b ∧ b ≤ 1)
  · rw [if_pos hb] at hEE
    subst hEE
    have e0 : (b != 0) = true := by simp; omega
    have e1 : (b != 1) = true := by simp; omega
    clear hb
    go_wp2_with (exact bodyPost_ret (v := .tuple #[ZV, .int .i64 1]) (by simp [results, Try.results23, go_sem, ZV, y0, y1, y2, y3, y4, y5, y6, y7, y8]) rfl ⟨rfl, Hfin.out _ hB1⟩)
  replace hb := Classical.not_not.1 hb
  rw [if_neg (by omega)] at hEE
  by_cases hf : 128 ≤ m.part ∧ 65536 ≤ m.bytes.length
  · rw [if_pos hf] at hEE
    subst hEE
    have d1 : decide (128 ≤ m.part) = true := decide_eq_true hf.1
    have hbl : m.bytes.length = 65536 := by have := hfew rfl; omega
    have d2 : ((m.bytes.length : Int) == 65536) = true := by rw [hbl]; rfl
    have x3 : w1.cell? ⟨w.heap.size, 3, none⟩ = some (.slice p.ab m.bytes.length p.cb) := A1.cell 3
    have x6 : w1.cell? ⟨w.heap.size, 6, none⟩ = some (.int .i64 m.part) := A1.cell 6
    have hbN : m.bytes.length < 9223372036854775808 := by omega
    clear hf hfew hbl
    have hbb : b = 0 ∨ b = 1 := by omega
    clear hb
    rcases hbb with hb0 | hb0
    · have e0 : (b != 0) = false := by rw [hb0]; rfl
      clear hb0
      go_wp2_with (exact bodyPost_ret (v := .tuple #[ZV, .int .i64 11]) (by simp [results, Try.results23, go_sem, ZV, y0, y1, y2, y3, y4, y5, y6, y7, y8]) rfl ⟨rfl, Hfin.out _ hB1⟩)
    · have e0 : (b != 0) = true := by rw [hb0]; rfl
      have e1 : (b != 1) = false := by rw [hb0]; rfl
      clear hb0
      go_wp2_with (exact bodyPost_ret (v := .tuple #[ZV, .int .i64 11]) (by simp [results, Try.results23, go_sem, ZV, y0, y1, y2, y3, y4, y5, y6, y7, y8]) rfl ⟨rfl, Hfin.out _ hB1⟩)
  · rw [if_neg hf] at hEE
    exact absurd hEE hE

theorem rbit12_any (m : S12.M) (p : Pl) (b : Int) (w : World) (hM : MIs m p w) :
    Calls Try.prog 23 #[MV m p, .int .i64 b] w fun e w' => ∃ p', e = .returned (.tuple #[MV (S12.bitR m b) p', .int .i64 (S12.bitE m b)]) ∧ MIs (S12.bitR m b) p' w' ∧ Below w.heap.size w w' := by
  unfold S12.bitR
  by_cases hE : S12.bitE m b = 0
  · rw [if_pos hE]
    have hbb : b = 0 ∨ b = 1 := by
      have hE' := hE
      unfold S12.bitE at hE'
      split at hE'
      · exact absurd hE' ‹_›
      · split at hE'
        · cases hE'
        · omega
    have key : (128 ≤ m.part ∨ ¬ 128 ≤ m.part) := by omega
    rw [hE]
    rcases hbb with hb | hb <;> rcases key with hf | hf
    · exact rbit12_full0 m p b w hM hE hf hb
    · exact rbit12_part0 m p b w hM hE hf hb
    · exact rbit12_full1 m p b w hM hE hf hb
    · exact rbit12_part1 m p b w hM hE hf hb
  · rw [if_neg hE]
    refine (rbit12_err m p b w hM hE).mono ?_
    rintro e w' ⟨rfl, hb⟩
    exact ⟨_, rfl, MIs.zero _, hb⟩
end Go.Proofs.Ytbfgdaijpcbddaa
