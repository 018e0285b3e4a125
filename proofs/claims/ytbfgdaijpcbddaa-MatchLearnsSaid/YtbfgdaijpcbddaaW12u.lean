/- fed (layer 12): a new model behind some bytes. No condition. -/
import Derived.Test.YtbfgdaijpcbddaaW12t
import Derived.Test.YtbfgdaijpcbddaaSpec12f
set_option linter.unusedSimpArgs false
set_option linter.unusedVariables false
set_option linter.unusedSectionVars false
namespace Go.Proofs.Ytbfgdaijpcbddaa
open Go.RowKit

theorem MIs.put9f {m : S12.M} {p : Pl} {w : World} (h : MIs m p w) {b B : Nat} (hf : Far B p) (hb : b < B) (v0 v1 v2 v3 v4 v5 v6 v7 v8 : Value) :
    MIs m p (((((((((w.setCell ⟨b, 0, none⟩ v0).setCell ⟨b, 1, none⟩ v1).setCell ⟨b, 2, none⟩ v2).setCell ⟨b, 3, none⟩ v3).setCell ⟨b, 4, none⟩ v4).setCell ⟨b, 5, none⟩ v5).setCell ⟨b, 6, none⟩ v6).setCell ⟨b, 7, none⟩ v7).setCell ⟨b, 8, none⟩ v8) :=
  h.put9 (fun g o e _ => by have := hf.1 g o e; omega) (fun g o e _ => by have := hf.2.1 g o e; omega) (fun g o e _ => by have := hf.2.2 g o e; omega) _ _ _ _ _ _ _ _ _
theorem S12.newM_ok {bits least : Int} (h1 : 1 ≤ bits ∧ bits ≤ 16) (h2 : 1 ≤ least ∧ least ≤ 32) : S12.newM bits least = S12.start bits least ∧ S12.newE bits least = 0 := by
  have h : S12.okN bits least = true := by unfold S12.okN; rw [decide_eq_true h1, decide_eq_true h2]; rfl
  unfold S12.newM S12.newE
  rw [h]
  exact ⟨rfl, rfl⟩
theorem S12.bitR_ok {m : S12.M} {b : Int} (h : S12.bitE m b = 0) : S12.bitR m b = S12.bitM m b := by unfold S12.bitR; rw [if_pos h]
/-- Bit at a model and a bit that go. -/
theorem bit12_good {m : S12.M} {p : Pl} {b : Int} {w : World} (hM : MIs m p w) (hw : S12.WF m) (hb : b = 0 ∨ b = 1) (hr : m.bytes.length < 65536) :
    Calls Try.prog 15 #[MV m p, .int .i64 b] w fun e w' => ∃ p', e = .returned (.tuple #[MV (S12.bitM m b) p', .int .i64 0]) ∧ MIs (S12.bitM m b) p' w' ∧ Far w.heap.size p' ∧ Below w.heap.size w w' := by
  have h := bit12_any m p b w hM
  rw [S12.bitR_ok (S12.bitE_ok hw hb hr), S12.bitE_ok hw hb hr] at h
  exact h
theorem S12.fedM_take {m : S12.M} {xs : List Int} {k : Nat} (hk : k < xs.length) : S12.fedM m (xs.take (k + 1)) = S12.byteM (S12.fedM m (xs.take k)) (xs.getD k 0).toNat 8 := by
  rw [List.take_succ_eq_append_getElem hk, S12.fedM_app, S12.getD_in _ _ hk]
  rfl
/-- What holds before a bit of a byte. -/
theorem S12.Mid.wf_ {bits least : Int} {bs : List Int} {x k : Nat} {m : S12.M} (h : S12.Mid bits least bs x k m) : S12.WF m := h.wf

set_option maxRecDepth 100000 in
set_option maxHeartbeats 2000000 in
theorem fed12_any (nb least : Int) (h1 : 1 ≤ nb ∧ nb ≤ 16) (h2 : 1 ≤ least ∧ least ≤ 32) (xs : List Int) (hX : S12.Byt xs) (hl : xs.length ≤ 1000) (a : Option Addr) (cap : Nat) (w : World) (hrd : Rd w a (Bts xs)) :
    Calls Try.prog 27 #[.int .i64 nb, .int .i64 least, .slice a xs.length cap] w fun e w' => ∃ p, e = .returned (.tuple #[MV (S12.fedM (S12.start nb least) xs) p, .bool true]) ∧
      MIs (S12.fedM (S12.start nb least) xs) p w' ∧ Far w.heap.size p ∧ Below w.heap.size w w' := by
  have HN := Lib.hid fun W => new12_any nb least W
  rw [(S12.newM_ok h1 h2).1, (S12.newM_ok h1 h2).2] at HN
  have HFed := Lib.hid fun k (hk : k ≤ xs.length) => S12.fed_ok h1 h2 (xs := xs.take k) (fun z hz => hX z (List.mem_of_mem_take hz)) (by rw [List.length_take]; omega)
  obtain ⟨m0, hm0⟩ : ∃ m0, S12.start nb least = m0 := ⟨_, rfl⟩
  rw [hm0] at HN HFed ⊢
  clear hm0
  have HX := Lib.hid hX
  have Hrd := Lib.hid hrd
  have R0 : Blk (w.alloc (.cells #[.int .i64 0, .int .i64 0, .slice none 0 0, .slice none 0 0, .int .i64 0, .int .i64 0, .int .i64 0, .int .i64 0, .slice none 0 0] 27)) w.heap.size [.int .i64 0, .int .i64 0, .slice none 0 0, .slice none 0 0, .int .i64 0, .int .i64 0, .int .i64 0, .int .i64 0, .slice none 0 0] 27 := Blk.new w _ _
  clear hX hrd
  go_enter Try.func27, Try.ntmps27
  go_wp2_with fail
  refine (HN.out _).mono ?_
  rintro e w1 ⟨p0, rfl, hM1, hF1, hb1⟩
  have hB1 : Below w.heap.size w w1 := below_trans (by go_grown) hb1
  have R1 := R0.step hb1
  have hF1 := hF1.mono (show w.heap.size + 1 ≤ _ by simp)
  clear R0
  unfold MV MVals
  have HM1 := Lib.hid hM1
  clear hM1
  go_wp2_with fail
  obtain ⟨Mb, hMb⟩ : ∃ Mb, w1.heap.size = Mb := ⟨_, rfl⟩
  obtain ⟨w2, hw2⟩ : ∃ w2, w1.alloc (.cells #[.int .i64 m0.bits, .int .i64 m0.least, .slice p0.ah m0.heads.length p0.ch, .slice p0.ab m0.bytes.length p0.cb, .int .i64 m0.at_, .int .i64 m0.len, .int .i64 m0.part, .int .i64 m0.bit, .slice p0.ac m0.ctrs.length p0.cc] 27) = w2 := ⟨_, rfl⟩
  have hb2 : Below w1.heap.size w1 w2 := by rw [← hw2]; exact (Below.refl _ _).alloc (Nat.le_refl _) _
  have M2 : Blk w2 Mb (MVals m0 p0) 27 := by rw [← hw2, ← hMb]; exact Blk.new w1 _ _
  have hB2 := below_trans hB1 hb2
  have R2 := R1.step hb2
  have HM2 := HM1.out.step hb2
  have hwM : w.heap.size < Mb := by rw [← hMb]; exact R1.lt
  rw [hw2, hMb]
  clear hw2 hMb R1 hB1 HM1 hb2
  go_loopw [9, 10] (fun e i wr => ∃ (k : Nat) (p : Pl), k ≤ xs.length ∧ e = .int .i64 0 ∧ i = .int .i64 (k : Int) ∧ Blk wr Mb (MVals (S12.fedM m0 (xs.take k)) p) 27 ∧ MIs (S12.fedM m0 (xs.take k)) p wr ∧ Far (w.heap.size + 1) p ∧ Below w.heap.size w wr ∧
      Blk wr w.heap.size [.int .i64 0, .int .i64 0, .slice none 0 0, .slice none 0 0, .int .i64 0, .int .i64 0, .int .i64 0, .int .i64 0, .slice none 0 0] 27) (fun _ i _ => xs.length - (intOf i).toNat)
  case atStart => exact ⟨0, p0, by omega, rfl, rfl, M2, HM2, hF1, hB2, R2⟩
  case round =>
    obtain ⟨i, p, hi, rfl, rfl, Mi, HMi, hFi, hBi, Ri⟩ := hrel
    clear M2 HM2 hF1 hB2 R2
    by_cases hlt : i < xs.length
    · have hFd := HFed.out i hi
      have HT := Lib.hid (S12.fedM_take (m := m0) hlt)
      obtain ⟨g, o, hga, hcs⟩ := Bts_at (Hrd.out.step hBi) (i := i) hlt
      have hx0 := HX.out.get i
      have hx1 := HX.out.at i
      obtain ⟨x, hx⟩ : ∃ x : Nat, xs.getD i 0 = x := ⟨(xs.getD i 0).toNat, (Int.toNat_of_nonneg hx0).symm⟩
      have hx2 : x < 256 := by rw [hx] at hx1; omega
      have hgw : g < w.heap.size := by
        obtain ⟨g2, o2, e2, hcs2⟩ := Bts_at Hrd.out (i := i) hlt
        rw [hga] at e2; cases e2
        exact block_lt_of_cell (hcs2 i hlt)
      have hxc : w.cell? ⟨g, o + i, none⟩ = some (.int .u8 (x : Int)) := by
        obtain ⟨g2, o2, e2, hcs2⟩ := Bts_at Hrd.out (i := i) hlt
        rw [hga] at e2; cases e2
        rw [hcs2 i hlt, hx]
      rw [hx, Int.toNat_natCast] at HT
      obtain ⟨mi, hmi⟩ : ∃ mi, S12.fedM m0 (xs.take i) = mi := ⟨_, rfl⟩
      rw [hmi] at HT hFd Mi HMi
      have hBy : S12.Byt (xs.take i) := fun z hz => HX.out z (List.mem_of_mem_take hz)
      have hln : (xs.take i).length < 65536 := by rw [List.length_take]; omega
      have HMid := Lib.hid (hFd.mid hx2)
      have HByt := Lib.hid hBy
      have Hln := Lib.hid hln
      subst hga
      clear hx hx0 hx1 hmi hcs hBy hln hFd
      have dlt : decide ((i : Int) < (xs.length : Int)) = true := decide_eq_true (by omega)
      go_wp2_with fail
      go_loopw [9, 11] (fun e kk wr => ∃ (k : Nat) (m : S12.M) (p : Pl), k ≤ 8 ∧ e = .int .i64 0 ∧ kk = .int .i64 ((k : Int) - 1) ∧ Blk wr Mb (MVals m p) 27 ∧ MIs m p wr ∧ Far (w.heap.size + 1) p ∧ Below w.heap.size w wr ∧
        Blk wr w.heap.size [.int .i64 0, .int .i64 0, .slice none 0 0, .slice none 0 0, .int .i64 0, .int .i64 0, .int .i64 0, .int .i64 0, .slice none 0 0] 27 ∧ S12.byteM m x k = S12.byteM mi x 8 ∧ (1 ≤ k → S12.Mid nb least (xs.take i) x k m)) (fun _ kk _ => (intOf kk + 1).toNat)
      case atStart => exact ⟨8, mi, p, by omega, rfl, rfl, Mi, HMi, hFi, hBi, Ri, rfl, fun _ => HMid.out⟩
      case round =>
        obtain ⟨k, m, p, hk, rfl, rfl, Mk, HMk, hFk, hBk, Rk, hby, hmd⟩ := hrel
        clear Mi HMi hFi hBi Ri
        cases k with
        | zero =>
          have hm : m = S12.fedM m0 (xs.take (i + 1)) := by rw [HT.out]; exact hby
          clear hby hmd
          go_wp2_with fail
          go_roundw
          case rel => exact ⟨i + 1, p, by omega, rfl, by go_num, by rw [← hm]; exact Mk, by rw [← hm]; exact HMk, hFk, hBk, Rk⟩
          case measure => simp [intOf]; omega
        | succ k =>
          have hkk : (((k + 1 : Nat) : Int) - 1) = (k : Int) := by omega
          rw [hkk]
          have hd := hmd (by omega)
          obtain ⟨bt, hbt⟩ : ∃ bt : Nat, x / 2 ^ k % 2 = bt := ⟨_, rfl⟩
          have hbt2 : (bt : Int) = 0 ∨ (bt : Int) = 1 := by omega
          have hand : bits .and .i64 ((x : Int) / 2 ^ k) 1 = (bt : Int) := by
            rw [div_cast, bits_and_1 _ (Nat.lt_of_le_of_lt (Nat.div_le_self _ _) (by omega)), hbt]
          have HBt := Lib.hid fun W (h : MIs m p W) => bit12_good (b := (bt : Int)) h hd.wf hbt2 (by rw [hd.bytes]; exact Hln.out)
          have hby2 : S12.byteM (S12.bitM m (bt : Int)) x k = S12.byteM mi x 8 := by rw [← hby, S12.byteM, hbt]
          have hmd2 : 1 ≤ k → S12.Mid nb least (xs.take i) x k (S12.bitM m (bt : Int)) := fun hk1 => by
            obtain ⟨k', rfl⟩ : ∃ k', k = k' + 1 := ⟨k - 1, by omega⟩
            have := hd.within hx2 (by omega) HByt.out Hln.out
            rwa [hbt] at this
          have Hby2 := Lib.hid hby2
          have Hmd2 := Lib.hid hmd2
          obtain ⟨n, hn⟩ : ∃ n, S12.bitM m (bt : Int) = n := ⟨_, rfl⟩
          rw [hn] at HBt Hby2 Hmd2
          clear hby hmd hd hby2 hmd2 hn hkk hbt
          have hC : HasC [(⟨Mb, 0, none⟩, .int .i64 m.bits), (⟨Mb, 1, none⟩, .int .i64 m.least), (⟨Mb, 2, none⟩, .slice p.ah m.heads.length p.ch), (⟨Mb, 3, none⟩, .slice p.ab m.bytes.length p.cb), (⟨Mb, 4, none⟩, .int .i64 m.at_), (⟨Mb, 5, none⟩, .int .i64 m.len), (⟨Mb, 6, none⟩, .int .i64 m.part), (⟨Mb, 7, none⟩, .int .i64 m.bit), (⟨Mb, 8, none⟩, .slice p.ac m.ctrs.length p.cc), (⟨g, o + i, none⟩, .int .u8 (x : Int))] wr := ⟨Mk.cell 0, Mk.cell 1, Mk.cell 2, Mk.cell 3, Mk.cell 4, Mk.cell 5, Mk.cell 6, Mk.cell 7, Mk.cell 8, (hBk.cell (p := ⟨g, o + i, none⟩) hgw).trans hxc, trivial⟩
          unfold MV MVals at HBt
          have hMl := Mk.lt
          go_wp2_with fail
          refine wp_region_useq 13 14 1 [(.r, [true]), (.p, [false, true, true, true]), (.r, [false, false, false, false, true]), (.p, [false, false, false, false, false, true, true, true, true]), (.e, [false, false, false, false, false, false, false, false, false, true]), (.p, [false, false, false, false, false, false, false, false, false, false, true, true, true]), (.l, [false, false, false, false, false, false, false, false, false, false, false, false, false, true])] _ _ (HasC [(⟨Mb, 0, none⟩, .int .i64 m.bits), (⟨Mb, 1, none⟩, .int .i64 m.least), (⟨Mb, 2, none⟩, .slice p.ah m.heads.length p.ch), (⟨Mb, 3, none⟩, .slice p.ab m.bytes.length p.cb), (⟨Mb, 4, none⟩, .int .i64 m.at_), (⟨Mb, 5, none⟩, .int .i64 m.len), (⟨Mb, 6, none⟩, .int .i64 m.part), (⟨Mb, 7, none⟩, .int .i64 m.bit), (⟨Mb, 8, none⟩, .slice p.ac m.ctrs.length p.cc), (⟨g, o + i, none⟩, .int .u8 (x : Int))]) (by kernel_rfl) (List.take_append_drop 14 _).symm (by kernel_rfl) (by kernel_rfl) (by kernel_rfl) (by kernel_rfl) (hC) (fun Y Q4 F4 hY hF => ?_)
          simp only [phasedU, List.flatMap_cons, List.flatMap_nil, List.take_succ_cons, List.take_zero, List.drop_succ_cons, List.drop_zero, sel_true, sel_false, sel_nil, List.map_cons, List.map_nil, List.cons_append, List.nil_append, List.append_nil]
          repeat
            first
              | (apply wpSeqU_pure (by first | rfl | (rw [hY]; rfl))
                 · intro w2
                   go_simp
                   with_reducible rfl
                 simp only [Act.put, List.setIfInBounds_toArray, List.set_cons_zero, List.set_cons_succ])
              | (apply wpSeqU_read (by first | rfl | (rw [hY]; rfl))
                 · intro w2 hS2
                   (try simp only [Keeps, Cells] at hS2)
                   (try simp only [HasC, Cells] at hS2)
                   go_simp
                   with_reducible rfl
                 simp only [Act.put, List.setIfInBounds_toArray, List.set_cons_zero, List.set_cons_succ])
          simp only [wrap_i64_nat (show x < 9223372036854775808 by omega), hand]
          apply wpSeqU_call (by first | rfl | (rw [hY]; rfl))
          · go_simp
            with_reducible exact ⟨rfl, rfl⟩
          refine (HBt.out _ (HMk.step (below_drew _ wr))).mono ?_
          rintro e w3 ⟨p', rfl, hM3, hF3, hb3⟩
          have hE3 := below_trans (below_drew wr.heap.size wr) hb3
          refine ⟨_, rfl, Cells.step hE3 hC, ?_⟩
          simp only [Act.put, List.setIfInBounds_toArray, List.set_cons_zero, List.set_cons_succ]
          have M3 := Mk.step hE3
          unfold MVals at M3
          obtain ⟨x0, x1, x2, x3, x4, x5, x6, x7, x8⟩ := M3.nine
          have f0 := M3.free 0
          have f1 := M3.free 1
          have f2 := M3.free 2
          have f3 := M3.free 3
          have f4 := M3.free 4
          have f5 := M3.free 5
          have f6 := M3.free 6
          have f7 := M3.free 7
          have f8 := M3.free 8
          repeat
            first
              | (apply wpSeqU_pure (by first | rfl | (rw [hY]; rfl))
                 · intro w2
                   go_simp
                   with_reducible rfl
                 simp only [Act.put, List.setIfInBounds_toArray, List.set_cons_zero, List.set_cons_succ])
              | (apply wpSeqU_read (by first | rfl | (rw [hY]; rfl))
                 · intro w2 hS2
                   (try simp only [Keeps, Cells] at hS2)
                   (try simp only [HasC, Cells] at hS2)
                   go_simp
                   with_reducible rfl
                 simp only [Act.put, List.setIfInBounds_toArray, List.set_cons_zero, List.set_cons_succ])
          refine wpSeqU_last_store (by first | rfl | (rw [hY]; rfl)) (by go_simp; first | with_reducible exact ⟨rfl, rfl⟩ | with_reducible rfl) ?_
          simp only [Act.put, List.setIfInBounds_toArray, List.set_cons_zero, List.set_cons_succ]
          refine wpSeqU_done (hF.out _ _ (fun K hK => ?_))
          clear hF hY
          have hBn := below_put9 (hBk.trans (hE3.mono hBk.size)) (Nat.le_of_lt hwM) (.int .i64 n.bits) (.int .i64 n.least) (.slice p'.ah n.heads.length p'.ch) (.slice p'.ab n.bytes.length p'.cb) (.int .i64 n.at_) (.int .i64 n.len) (.int .i64 n.part) (.int .i64 n.bit) (.slice p'.ac n.ctrs.length p'.cc)
          have M4 : Blk _ Mb (MVals n p') 27 := M3.put9 (.int .i64 n.bits) (.int .i64 n.least) (.slice p'.ah n.heads.length p'.ch) (.slice p'.ab n.bytes.length p'.cb) (.int .i64 n.at_) (.int .i64 n.len) (.int .i64 n.part) (.int .i64 n.bit) (.slice p'.ac n.ctrs.length p'.cc)
          have hM4 := hM3.put9f hF3 hMl (.int .i64 n.bits) (.int .i64 n.least) (.slice p'.ah n.heads.length p'.ch) (.slice p'.ab n.bytes.length p'.cb) (.int .i64 n.at_) (.int .i64 n.len) (.int .i64 n.part) (.int .i64 n.bit) (.slice p'.ac n.ctrs.length p'.cc)
          have R4 := ((Rk.step hE3).below (below_put9 (Below.refl Mb w3) (Nat.le_refl _) (.int .i64 n.bits) (.int .i64 n.least) (.slice p'.ah n.heads.length p'.ch) (.slice p'.ab n.bytes.length p'.cb) (.int .i64 n.at_) (.int .i64 n.len) (.int .i64 n.part) (.int .i64 n.bit) (.slice p'.ac n.ctrs.length p'.cc)) hwM)
          have hF4 := hF3.mono (show w.heap.size + 1 ≤ wr.drew.heap.size from Rk.lt)
          go_wp2_with fail
          refine OnlyK.mk (hK.out _ _ ?_)
          clear hK x0 x1 x2 x3 x4 x5 x6 x7 x8 f0 f1 f2 f3 f4 f5 f6 f7 f8 M3 hM3 hC Mk HMk hFk hBk Rk hE3 hb3 hF3
          have Hall := Lib.hid (And.intro M4 (And.intro hM4 (And.intro hF4 (And.intro hBn R4))))
          clear M4 hM4 hF4 hBn R4
          obtain ⟨w4, hw4⟩ : ∃ w4, (((((((((w3.setCell ⟨Mb, 0, none⟩ (.int .i64 n.bits)).setCell ⟨Mb, 1, none⟩ (.int .i64 n.least)).setCell ⟨Mb, 2, none⟩ (.slice p'.ah n.heads.length p'.ch)).setCell ⟨Mb, 3, none⟩ (.slice p'.ab n.bytes.length p'.cb)).setCell ⟨Mb, 4, none⟩ (.int .i64 n.at_)).setCell ⟨Mb, 5, none⟩ (.int .i64 n.len)).setCell ⟨Mb, 6, none⟩ (.int .i64 n.part)).setCell ⟨Mb, 7, none⟩ (.int .i64 n.bit)).setCell ⟨Mb, 8, none⟩ (.slice p'.ac n.ctrs.length p'.cc)) = w4 := ⟨_, rfl⟩
          rw [hw4] at Hall ⊢
          clear hw4
          go_wp2_with fail
          go_roundw
          case rel => exact ⟨k, n, p', by omega, rfl, by go_num, Hall.out.1, Hall.out.2.1, Hall.out.2.2.1, Hall.out.2.2.2.1, Hall.out.2.2.2.2, Hby2.out, Hmd2.out⟩
          case measure => simp [intOf]
    · obtain rfl : i = xs.length := by omega
      have e : xs.take xs.length = xs := List.take_length
      rw [e] at Mi HMi
      obtain ⟨n, hn⟩ : ∃ n, S12.fedM m0 xs = n := ⟨_, rfl⟩
      have HK := Lib.hid (show S12.fedM m0 xs = n from hn)
      rw [hn] at Mi HMi
      clear e
      have HM5 := Lib.hid HMi
      unfold MVals at Mi
      obtain ⟨x0, x1, x2, x3, x4, x5, x6, x7, x8⟩ := Mi.nine
      obtain ⟨z0, z1, z2, z3, z4, z5, z6, z7, z8⟩ := Ri.nine
      have f0 := Ri.free 0
      have f1 := Ri.free 1
      have f2 := Ri.free 2
      have f3 := Ri.free 3
      have f4 := Ri.free 4
      have f5 := Ri.free 5
      have f6 := Ri.free 6
      have f7 := Ri.free 7
      have f8 := Ri.free 8
      obtain ⟨y0, y1, y2, y3, y4, y5, y6, y7, y8⟩ := (Ri.put9 (.int .i64 n.bits) (.int .i64 n.least) (.slice p.ah n.heads.length p.ch) (.slice p.ab n.bytes.length p.cb) (.int .i64 n.at_) (.int .i64 n.len) (.int .i64 n.part) (.int .i64 n.bit) (.slice p.ac n.ctrs.length p.cc)).nine
      have dlt : decide (((xs.length : Nat) : Int) < (xs.length : Int)) = false := by simp
      clear hn
      go_wp2_with (exact bodyPost_ret (v := .tuple #[MV n p, .bool true]) (by simp [results, Try.results27, go_sem, MV, MVals, y0, y1, y2, y3, y4, y5, y6, y7, y8]) rfl ⟨p, by rw [HK.out], by rw [HK.out]; exact HM5.out.put9f hFi (Nat.lt_succ_self _) _ _ _ _ _ _ _ _ _, hFi.mono (Nat.le_succ _), below_put9 hBi (Nat.le_refl _) _ _ _ _ _ _ _ _ _⟩)
end Go.Proofs.Ytbfgdaijpcbddaa
