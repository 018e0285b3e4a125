/- The law MatchRepeats, walked. No condition. -/
import Derived.Test.YtbfgdaijpcbddaaW12v
import Derived.Test.YtbfgdaijpcbddaaSpec12f
set_option linter.unusedSimpArgs false
set_option linter.unusedVariables false
set_option linter.unusedSectionVars false
namespace Go.Proofs.Ytbfgdaijpcbddaa
open Go.RowKit

theorem small12_any (n : Nat) (a : Option Addr) (cap : Nat) (w : World) :
    Calls Try.prog 26 #[.slice a n cap] w fun e w' => e = .returned (.bool (decide (n ≤ 60))) ∧ Below w.heap.size w w' := by
  go_enter Try.func26, Try.ntmps26
  go_wp2
  go_returns
  exact ⟨ret_bool (by first | (simp; done) | (simp; omega)), Below.refl _ _⟩
theorem conv12 (xs : List Int) (a : Option Addr) (cap : Nat) (w : World) (hrd : Rd w a (Bts xs)) : (convert 22 9 (.slice a xs.length cap)).run Try.prog w = .ok (.string (strOfNums xs)) w := by
  by_cases hne : xs = []
  · subst hne
    have he : strOfNums [] = ByteArray.empty := rfl
    cases a with
    | none => rw [he]; exact run_convert_bytes_nil w 22 5 Try.underlying22 Try.underlying5 _ _ 9 Try.underlying9
    | some ad =>
      obtain ⟨b, o, sp⟩ := ad
      have h := run_convert_bytes_string (P := Try.prog) w 22 9 5 (some ⟨b, o, sp⟩) 0 cap Try.underlying22 Try.underlying5 Try.underlying9
      rw [he]
      have hl := run_loadCells_list (P := Try.prog) w ⟨b, o, sp⟩ [] (fun j v hj => by simp at hj)
      simp only [List.length_nil] at hl
      refine h.trans ?_
      simp [Conv.bytesToString, hl]
  · obtain ⟨b, o, rfl, hr⟩ := hrd (fun e => hne (by have := congrArg List.length e; rw [Bts_length] at this; exact List.length_eq_zero_iff.1 (by simpa using this)))
    exact run_convert_bytes_arg w 22 5 Try.underlying22 Try.underlying5 b o xs.length cap xs rfl (fun i hi => hr i _ (by unfold Bts; rw [List.getElem?_map, List.getElem?_eq_getElem hi, S12.getD_in _ _ hi]; rfl)) 9 Try.underlying9
theorem conv12n {xs : List Int} {n : Nat} (hl : xs.length = n) (a : Option Addr) (cap : Nat) (w : World) (hrd : Rd w a (Bts xs)) : (convert 22 9 (.slice a n cap)).run Try.prog w = .ok (.string (strOfNums xs)) w := by
  subst hl; exact conv12 xs a cap w hrd
theorem Bts_drop (l : List Int) (k : Nat) : Bts (l.drop k) = (Bts l).drop k := by unfold Bts; exact List.map_drop
theorem Bts_take (l : List Int) (k : Nat) : Bts (l.take k) = (Bts l).take k := by unfold Bts; exact List.map_take
/-- A window of bytes that can be read. -/
theorem Rd.window {w : World} {g o : Nat} {xs : List Int} (h : Rd w (some ⟨g, o, none⟩) (Bts xs)) (s n : Nat) : Rd w (some ⟨g, o + s, none⟩) (Bts ((xs.drop s).take n)) := fun hne => by
  obtain ⟨g', o', e, hr⟩ := h (fun e => hne (by rw [Bts_take, Bts_drop, e]; simp))
  cases e
  refine ⟨g, o + s, rfl, fun j v hv => ?_⟩
  rw [Nat.add_assoc]
  refine hr (s + j) v ?_
  rw [Bts_take, Bts_drop, List.getElem?_take, List.getElem?_drop] at hv
  split at hv
  · exact hv
  · cases hv

set_option maxRecDepth 100000 in
set_option maxHeartbeats 2000000 in
theorem matchRepeats_any (xs : List Int) (hX : S12.Byt xs) (hl63 : xs.length ≤ 9223372036854775807) (b1 b2 : Nat) (hb1 : b1 < 256) (hb2 : b2 < 256) (a : Option Addr) (cap : Nat) (hcap : xs.length ≤ cap) (w : World) (hrd : Rd w a (Bts xs)) :
    Calls Try.prog 7 #[.slice a xs.length cap, .int .u8 (b1 : Int), .int .u8 (b2 : Int)] w fun e w' => e = .returned (.bool true) ∧ Below w.heap.size w w' := by
  have HA := Lib.hid fun W => awake12_any W
  have HS := Lib.hid fun W => small12_any xs.length a cap W
  by_cases hs : ¬ xs.length ≤ 60
  · rw [decide_eq_false hs] at HS
    clear hs
    go_enter Try.func7, Try.ntmps7
    go_wp2_with fail
    refine (HS.out _).mono ?_
    rintro e w1 ⟨rfl, hb1⟩
    go_wp2_with fail
    refine (HA.out _).mono ?_
    rintro e w2 ⟨rfl, hb2⟩
    have hB2 := below_trans hb1 hb2
    go_wp2_with fail
    go_returns
    exact ⟨rfl, hB2⟩
  replace hs := Classical.not_not.1 hs
  rw [decide_eq_true hs] at HS
  obtain ⟨nb, hnb⟩ : ∃ nb : Nat, 1 + b1 % 8 = nb := ⟨_, rfl⟩
  obtain ⟨n, hn⟩ : ∃ n : Nat, 1 + b2 % 6 = n := ⟨_, rfl⟩
  have enb : (1 : Int) + (b1 : Int) % 8 = (nb : Int) := by omega
  have en : (1 : Int) + (b2 : Int) % 6 = (n : Int) := by omega
  have h1 : 1 ≤ (nb : Int) ∧ (nb : Int) ≤ 16 := by omega
  have h2 : 1 ≤ (n : Int) ∧ (n : Int) ≤ 32 := by omega
  have hF := S12.fed_ok h1 h2 hX (by omega)
  have HFd := Lib.hid fun W (h : Rd W a (Bts xs)) => fed12_any (nb : Int) (n : Int) h1 h2 xs hX (by omega) a cap W h
  obtain ⟨m, hm⟩ : ∃ m, S12.fedM (S12.start (nb : Int) (n : Int)) xs = m := ⟨_, rfl⟩
  rw [hm] at hF HFd
  have HCk := Lib.hid fun p W (h : MIs m p W) => check12_any m p W h
  rw [(S12.check_iff m).2 hF.wf] at HCk
  have HLo := Lib.hid fun W (h : Rd W a (Bts xs)) => longest12_any a cap xs (n : Int) W (by omega) hcap h
  have Hrd := Lib.hid hrd
  have HF := Lib.hid hF
  have Hs := Lib.hid hs
  have Hmb := Lib.hid hF.bytes
  have hs9 : xs.length < 9223372036854775808 := by omega
  clear hm hrd hF hnb hn h1 h2 hs hl63
  unfold MV MVals at HFd HCk
  go_enter Try.func7, Try.ntmps7
  go_wp2_with fail
  refine (HS.out _).mono ?_
  rintro e w1 ⟨rfl, hb1'⟩
  go_wp2_with fail
  refine (HFd.out _ (Hrd.out.step hb1')).mono ?_
  rintro e w2 ⟨p, rfl, hM2, hF2, hb2'⟩
  have hB2 := below_trans hb1' hb2'
  obtain ⟨w3, hw3⟩ : ∃ w3, w2.alloc (.cells #[.int .i64 m.bits, .int .i64 m.least, .slice p.ah m.heads.length p.ch, .slice p.ab m.bytes.length p.cb, .int .i64 m.at_, .int .i64 m.len, .int .i64 m.part, .int .i64 m.bit, .slice p.ac m.ctrs.length p.cc] 27) = w3 := ⟨_, rfl⟩
  have hb3 : Below w2.heap.size w2 w3 := by rw [← hw3]; exact (Below.refl _ _).alloc (Nat.le_refl _) _
  have B3 : Blk w3 w2.heap.size [.int .i64 m.bits, .int .i64 m.least, .slice p.ah m.heads.length p.ch, .slice p.ab m.bytes.length p.cb, .int .i64 m.at_, .int .i64 m.len, .int .i64 m.part, .int .i64 m.bit, .slice p.ac m.ctrs.length p.cc] 27 := by rw [← hw3]; exact Blk.new w2 _ _
  have hB3 := below_trans hB2 hb3
  have HM3 := Lib.hid (hM2.step hb3)
  obtain ⟨x0, x1, x2, x3, x4, x5, x6, x7, x8⟩ := B3.nine
  clear hM2
  go_wp2_with fail
  refine (HCk.out p _ HM3.out).mono ?_
  rintro e w4 ⟨rfl, hb4⟩
  have hB4 := below_trans hB3 hb4
  have B4 := B3.step hb4
  have HM4 := Lib.hid (HM3.out.step hb4)
  clear x0 x1 x2 x3 x4 x5 x6 x7 x8 hw3 HCk HM3
  obtain ⟨x0, x1, x2, x3, x4, x5, x6, x7, x8⟩ := B4.nine
  have hcv1 := conv12n (xs := xs) (n := m.bytes.length) (by rw [Hmb.out]) p.ab p.cb w4 (by have := HM4.out.rdb; rwa [Hmb.out] at this)
  have hcv2 := conv12 xs a cap w4 (Hrd.out.step hB4)
  by_cases h0 : m.len = 0
  · have e0 : (m.len == 0) = true := by simp [h0]
    go_wp2_with fail
    refine (HA.out _).mono ?_
    rintro e w5 ⟨rfl, hb5⟩
    have hB5 := below_trans hB4 hb5
    go_wp2_with fail
    go_returns
    exact ⟨rfl, hB5⟩
  have e0 : (m.len == 0) = false := by simp [h0]
  obtain ⟨l, q, hll, hqq, g1, g2, g3, g4, g5, g6⟩ := HF.out.repeats h0
  have Hll := Lib.hid hll
  rw [hll] at e0 x5
  rw [hqq] at x4
  obtain ⟨g, o, hga, _⟩ := Bts_at (Hrd.out.step hB4) (i := q) g3
  obtain ⟨d, hd⟩ : ∃ d : Nat, q - l = d := ⟨_, rfl⟩
  obtain ⟨d2, hd2⟩ : ∃ d2 : Nat, xs.length - l = d2 := ⟨_, rfl⟩
  rw [hd, hd2] at g4
  have hwin := Hrd.out.step hB4
  rw [hga] at hwin
  have hr1 := hwin.window d l
  have hr2 := hwin.window d2 l
  have ee : (xs.drop d2).take l = xs.drop d2 := List.take_of_length_le (by rw [List.length_drop]; omega)
  rw [g4] at hr1
  rw [ee] at hr2
  obtain ⟨st, hst⟩ : ∃ st, strOfNums (xs.drop d2) = st := ⟨_, rfl⟩
  have hlen2 : (xs.drop d2).length = l := by rw [List.length_drop]; omega
  have hcA : ∀ X, Below w4.heap.size w4 X → (convert 22 9 (.slice (some ⟨g, o + d, none⟩) l (cap - d))).run Try.prog X = .ok (.string st) X := fun X hX => by rw [← hst]; exact conv12n hlen2 _ _ X (hr1.step hX)
  have hcB : ∀ X, Below w4.heap.size w4 X → (convert 22 9 (.slice (some ⟨g, o + d2, none⟩) l (cap - d2))).run Try.prog X = .ok (.string st) X := fun X hX => by rw [← hst]; exact conv12n hlen2 _ _ X (hr2.step hX)
  have hq1 : IntKind.i64.wrap ((q : Int) - (l : Int)) = (d : Int) := by rw [IntWalk.i64_in _ (by omega)]; omega
  have hq2 : IntKind.i64.wrap ((xs.length : Int) - (l : Int)) = (d2 : Int) := by rw [IntWalk.i64_in _ (by omega)]; omega
  have k1 : ¬ cap = d := by omega
  have k2 : ¬ cap = d2 := by omega
  have k3 : q - d = l := by omega
  have k4 : xs.length - d2 = l := by omega
  have k5 : d ≤ q := by omega
  have k6 : d2 ≤ xs.length := by omega
  have k7 : q ≤ cap := by omega
  have e1 : decide ((l : Int) < (n : Int)) = false := decide_eq_false (by omega)
  have e2 : decide ((q : Int) < (l : Int)) = false := decide_eq_false (by omega)
  have e3 : decide ((xs.length : Int) ≤ (q : Int)) = false := decide_eq_false (by omega)
  have e4 : ¬ l < n := by omega
  have e5 : ¬ q < l := by omega
  have e6 : ¬ xs.length ≤ q := by omega
  subst hga
  have HcA := Lib.hid hcA
  have HcB := Lib.hid hcB
  have Hg5 := Lib.hid g5
  clear hr1 hr2 hwin ee hst hlen2 hcA hcB hd hd2 g4 g5 hll hqq h0
  have hS0 : (fun X => Cells X [(⟨w2.heap.size, 4, none⟩, .int .i64 (q : Int)), (⟨w2.heap.size, 5, none⟩, .int .i64 (l : Int))] ∧ (convert 22 9 (.slice (some ⟨g, o + d, none⟩) l (cap - d))).run Try.prog X = .ok (.string st) X ∧
    (convert 22 9 (.slice (some ⟨g, o + d2, none⟩) l (cap - d2))).run Try.prog X = .ok (.string st) X) w4.drew := ⟨⟨x4, x5, trivial⟩, HcA.out _ (below_drew _ _), HcB.out _ (below_drew _ _)⟩
  go_wp2_with fail
  refine wp_region_seq 39 0 [(true, [true, true, true, true, true, true, true, true, true, true, true, true, true, true, true, true, true, true, true, true, true, true, true, true, true, true, true, true, true, true, true, true, true, true, true, true, true, true, true])] _ _ ((fun X => Cells X [(⟨w2.heap.size, 4, none⟩, .int .i64 (q : Int)), (⟨w2.heap.size, 5, none⟩, .int .i64 (l : Int))] ∧ (convert 22 9 (.slice (some ⟨g, o + d, none⟩) l (cap - d))).run Try.prog X = .ok (.string st) X ∧ (convert 22 9 (.slice (some ⟨g, o + d2, none⟩) l (cap - d2))).run Try.prog X = .ok (.string st) X)) (by kernel_rfl) (List.take_append_drop 39 _).symm (by kernel_rfl) (by kernel_rfl) (by kernel_rfl) (by kernel_rfl) (hS0) (fun Y Q4 F4 hY hF => ?_)
  simp only [phased, List.flatMap_cons, List.flatMap_nil, List.take_succ_cons, List.take_zero, List.drop_succ_cons, List.drop_zero, sel_true, sel_false, sel_nil, List.map_cons, List.map_nil, List.cons_append, List.nil_append, List.append_nil]
  repeat
    apply wpSeq_read (by first | rfl | (rw [hY]; rfl))
    · intro w2 hS2
      (try simp only [Keeps, Cells] at hS2)
      (try simp only [HasC, Cells] at hS2)
      go_simp
      with_reducible rfl
    simp only [Act.put, List.setIfInBounds_toArray, List.set_cons_zero, List.set_cons_succ]
  refine wpSeq_done (hF.out _ _ (fun K hK => ?_))
  clear hF hY
  go_wp2_with fail
  refine OnlyK.mk (hK.out _ _ ?_)
  clear hK hS0
  have hd4 := below_drew w4.heap.size w4
  go_wp2_with fail
  refine (HLo.out _ ((Hrd.out.step hB4).step hd4)).mono ?_
  rintro e w5 ⟨rfl, hb5⟩
  have hB5 := below_trans (below_trans hB4 hd4) hb5
  go_wp2_with fail
  refine (HA.out _).mono ?_
  rintro e w6 ⟨rfl, hb6⟩
  have hB6 := below_trans hB5 hb6
  have x5' : w6.cell? ⟨w2.heap.size, 5, none⟩ = some (.int .i64 (l : Int)) := ((B4.step (below_trans hd4 (below_trans hb5 hb6))).cell 5).trans (by rw [Hll.out]; rfl)
  have hg5 := Hg5.out
  go_wp2_with fail
  go_returns
  exact ⟨rfl, hB6⟩
end Go.Proofs.Ytbfgdaijpcbddaa
