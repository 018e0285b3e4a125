/- The law MatchConstant, walked. No condition. -/
import Derived.Test.YtbfgdaijpcbddaaW12w
import Derived.Test.YtbfgdaijpcbddaaSpec12g
import Derived.Test.YtbfgdaijpcbddaaBase13
set_option linter.unusedSimpArgs false
set_option linter.unusedVariables false
set_option linter.unusedSectionVars false
namespace Go.Proofs.Ytbfgdaijpcbddaa
open Go.RowKit

/-- The loop's relation: k bits are still to come. -/
structure ConR (n x0 L Mb : Nat) (w wr : World) (k : Nat) (m : S12.M) (p : Pl) : Prop where
  blk : Blk wr Mb (MVals m p) 27
  mis : MIs m p wr
  bel : Below w.heap.size w wr
  mid : 1 ≤ k → S12.ConMid 5 n x0 L k m
theorem fill_set (x : Int) {i L : Nat} (h : i < L) : (List.replicate i x ++ List.replicate (L - i) 0).set i x = List.replicate (i + 1) x ++ List.replicate (L - (i + 1)) 0 := by
  rw [List.set_append_right _ _ (by simp), List.length_replicate, Nat.sub_self]
  obtain ⟨d, hd⟩ : ∃ d, L - i = d + 1 := ⟨L - i - 1, by omega⟩
  rw [hd, List.replicate_succ, List.set_cons_zero, show L - (i + 1) = d by omega, List.replicate_succ', List.append_assoc]
  rfl
theorem Bts_set (l : List Int) (i : Nat) (x : Int) : Bts (l.set i x) = (Bts l).set i (.int .u8 x) := by unfold Bts; exact List.map_set

set_option maxRecDepth 100000 in
set_option maxHeartbeats 2000000 in
theorem matchConstant_any (x0 b1 b2 : Nat) (hx0 : x0 < 256) (hb1 : b1 < 256) (hb2 : b2 < 256) (w : World) :
    Calls Try.prog 9 #[.int .u8 (x0 : Int), .int .u8 (b1 : Int), .int .u8 (b2 : Int)] w fun e w' => e = .returned (.bool true) ∧ Below w.heap.size w w' := by
  have HA := Lib.hid fun W => awake12_any W
  obtain ⟨n, hn⟩ : ∃ n : Nat, 1 + b2 % 8 = n := ⟨_, rfl⟩
  have en : (1 : Int) + (b2 : Int) % 8 = (n : Int) := by omega
  obtain ⟨L, hL⟩ : ∃ L : Nat, n + 1 + b1 % 40 = L := ⟨_, rfl⟩
  have eL : (n : Int) + 1 + (b1 : Int) % 40 = (L : Int) := by omega
  have h2 : 1 ≤ (n : Int) ∧ (n : Int) ≤ 32 := by omega
  have hn8 : n ≤ 8 := by omega
  have hL2 : n < L ∧ L ≤ 100 := by omega
  have hCon := S12.con_fed (nb := 5) (n := n) hx0 ⟨by omega, by omega⟩ (by omega) (by omega) L (by omega)
  have HFd := Lib.hid fun a cap W (h : Rd W a (Bts (List.replicate L (x0 : Int)))) => fed12_any 5 (n : Int) ⟨by omega, by omega⟩ h2 (List.replicate L (x0 : Int)) (S12.Byt_replicate hx0 L) (by rw [List.length_replicate]; omega) a cap W h
  rw [List.length_replicate] at HFd
  have e5 : S12.start (((5 : Nat) : Int)) (n : Int) = S12.start 5 (n : Int) := rfl
  rw [e5] at hCon
  obtain ⟨m0, hm⟩ : ∃ m, S12.fedM (S12.start 5 (n : Int)) (List.replicate L (x0 : Int)) = m := ⟨_, rfl⟩
  rw [hm] at hCon HFd
  have HC0 := Lib.hid (hCon.mid hx0)
  have HL2 := Lib.hid hL2
  clear hm hn hL hCon e5 h2 hn8
  unfold MV MVals at HFd
  obtain ⟨w2, hw2⟩ : ∃ w2, w.alloc (.cells (List.replicate L (.int .u8 0)).toArray 5) = w2 := ⟨_, rfl⟩
  have hB2 : Below w.heap.size w w2 := by rw [← hw2]; exact (Below.refl _ _).alloc (Nat.le_refl _) _
  have G2 : Blk w2 w.heap.size (Bts (List.replicate 0 (x0 : Int) ++ List.replicate (L - 0) 0)) 5 := by
    rw [← hw2]
    have : Bts (List.replicate 0 (x0 : Int) ++ List.replicate (L - 0) 0) = List.replicate L (.int .u8 0) := by simp [Bts]
    rw [this]; exact Blk.new w _ _
  have hL9 : L < 1000 := by omega
  go_enter Try.func9, Try.ntmps9
  go_wp2_with (at_make; refine wpList_value rfl (op_make1 (.tmp 27) 22 5 1 (.int .u8 0) elems_bytes rfl .i64 L rfl (by omega) (by unfold maxLen; omega)) ?_; rw [hw2]; clear hw2)
  go_loopw [9] (fun i wr => ∃ k : Nat, k ≤ L ∧ i = .int .i64 (k : Int) ∧ Below w.heap.size w wr ∧ Blk wr w.heap.size (Bts (List.replicate k (x0 : Int) ++ List.replicate (L - k) 0)) 5) (fun i _ => L - (intOf i).toNat)
  case atStart => exact ⟨0, by omega, rfl, hB2, G2⟩
  case round =>
    obtain ⟨k, hk, rfl, hB, G⟩ := hrel
    by_cases hlt : k < L
    · have y := G.cell k
      have hy : (Bts (List.replicate k (x0 : Int) ++ List.replicate (L - k) 0))[k]? = some (.int .u8 0) := by
        unfold Bts
        rw [List.getElem?_map, List.getElem?_append_right (by simp), List.length_replicate, Nat.sub_self, List.getElem?_replicate, if_pos (by omega)]; rfl
      rw [hy] at y
      have fy := G.free k
      have G3 := G.set k (.int .u8 (x0 : Int))
      rw [← Bts_set, fill_set _ hlt] at G3
      have HG3 := Lib.hid G3
      have hB3 := hB.setCell (p := ⟨w.heap.size, k, none⟩) (Nat.le_refl _) (.int .u8 (x0 : Int))
      clear hy G3 G2 hB2
      go_wp2_with fail
      go_roundw
      case rel => exact ⟨k + 1, by omega, by go_num, hB3, HG3.out⟩
      case measure => simp [intOf]; omega
    · obtain rfl : k = L := by omega
      have hrd : Rd wr (some ⟨w.heap.size, 0, none⟩) (Bts (List.replicate k (x0 : Int))) := by
        have : List.replicate k (x0 : Int) ++ List.replicate (k - k) 0 = List.replicate k (x0 : Int) := by simp
        rw [this] at G
        exact fun _ => ⟨_, 0, rfl, G.cells⟩
      have Hrd := Lib.hid hrd
      clear G2 hB2 G hrd hlt hk
      go_wp2_with fail
      refine (HFd.out _ _ _ Hrd.out).mono ?_
      rintro e w4 ⟨p, rfl, hM4, hF4, hb4⟩
      have hB4 := below_trans hB hb4
      obtain ⟨Mb, hMb⟩ : ∃ Mb, w4.heap.size = Mb := ⟨_, rfl⟩
      obtain ⟨w5, hw5⟩ : ∃ w5, w4.alloc (.cells #[.int .i64 m0.bits, .int .i64 m0.least, .slice p.ah m0.heads.length p.ch, .slice p.ab m0.bytes.length p.cb, .int .i64 m0.at_, .int .i64 m0.len, .int .i64 m0.part, .int .i64 m0.bit, .slice p.ac m0.ctrs.length p.cc] 27) = w5 := ⟨_, rfl⟩
      have hb5 : Below w4.heap.size w4 w5 := by rw [← hw5]; exact (Below.refl _ _).alloc (Nat.le_refl _) _
      have B5 : Blk w5 Mb (MVals m0 p) 27 := by rw [← hw5, ← hMb]; exact Blk.new w4 _ _
      have hB5 := below_trans hB4 hb5
      have hwM : w.heap.size ≤ Mb := by rw [← hMb]; exact hB4.size
      have hR0 : ConR n x0 k Mb w w5 8 m0 p := ⟨B5, hM4.step hb5, hB5, fun _ => HC0.out⟩
      clear hM4 B5
      go_wp2_with fail
      clear hw5 hMb
      go_loopw [11, 12] (fun ok kk wr => ∃ (q : Nat) (m : S12.M) (p : Pl), q ≤ 8 ∧ ok = .bool true ∧ kk = .int .i64 ((q : Int) - 1) ∧ ConR n x0 k Mb w wr q m p) (fun _ kk _ => (intOf kk + 1).toNat)
      case atStart => exact ⟨8, m0, p, by omega, rfl, rfl, hR0⟩
      case round =>
        obtain ⟨q, m, p', hq, rfl, rfl, R⟩ := hrel
        clear hR0
        cases q with
        | zero =>
          have hB0 := R.bel
          clear R
          go_wp2_with fail
          refine (HA.out _).mono ?_
          rintro e w6 ⟨rfl, hb6⟩
          have hB6 := below_trans hB0 hb6
          go_wp2_with fail
          go_returns
          exact ⟨rfl, hB6⟩
        | succ q =>
          have hkk : (((q + 1 : Nat) : Int) - 1) = (q : Int) := by omega
          rw [hkk]
          have hmid := R.mid (by omega)
          obtain ⟨q1, q2, q3, q4⟩ := hmid.pred hx0 (by omega) (HL2.out.1)
          obtain ⟨bt, hbt⟩ : ∃ bt : Nat, x0 / 2 ^ q % 2 = bt := ⟨_, rfl⟩
          have hbt2 : bt = 0 ∨ bt = 1 := by omega
          have hln2 : m.bytes.length < 65536 := by rw [hmid.mid.bytes, List.length_replicate]; omega
          have HBt := Lib.hid fun W (h : MIs m p' W) => bit12_good (b := (bt : Int)) h hmid.mid.wf (by omega) hln2
          have HPr := Lib.hid fun W (h : MIs m p' W) => predict12_any m p' W h
          rw [q1] at HPr
          have hnx : 1 ≤ q → S12.ConMid 5 n x0 k q (S12.bitM m (bt : Int)) := fun h1 => by
            obtain ⟨j, rfl⟩ : ∃ j, q = j + 1 := ⟨q - 1, by omega⟩
            have := hmid.within hx0 (by omega) (by omega)
            rw [← hbt]; exact this
          have hand : bits .and .i64 ((x0 : Int) / 2 ^ q) 1 = (bt : Int) := by rw [div_cast, bits_and_1 _ (Nat.lt_of_le_of_lt (Nat.div_le_self _ _) (by omega)), hbt]
          rw [hbt] at q2 q3 q4
          obtain ⟨x, hx⟩ : ∃ x, S12.bitM m (bt : Int) = x := ⟨_, rfl⟩
          rw [hx] at HBt hnx
          obtain ⟨P, hP⟩ : ∃ P, S12.predP m = P := ⟨_, rfl⟩
          rw [hP] at HPr q3 q4
          have Bk := R.blk
          have HMk := Lib.hid R.mis
          have hBk := R.bel
          have Hnx := Lib.hid hnx
          clear hmid hnx hP hx hkk R hbt
          unfold MV MVals at HBt HPr
          have Bk0 := Bk
          unfold MVals at Bk
          rw [q2] at HBt HPr Bk
          clear q2
          by_cases hv0 : bt = 0
          · subst hv0
            have dP := decide_eq_false (show ¬ 2048 < P by have := q4 rfl; omega)
            clear q3 q4 hbt2
            simp only [show ((0 : Nat) : Int) = (0 : Int) from rfl] at hand HBt HPr Bk
            obtain ⟨x0_, x1, x2, x3, x4, x5, x6, x7, x8⟩ := Bk.nine
            go_wp2_with fail
            refine (HPr.out wr HMk.out).mono ?_
            rintro e w6 ⟨rfl, hb6⟩
            clear x0_ x1 x2 x3 x4 x5 x6 x7 x8
            obtain ⟨x0_, x1, x2, x3, x4, x5, x6, x7, x8⟩ := (Bk.step hb6).nine
            go_wp2_with fail
            refine (HBt.out w6 (HMk.out.step hb6)).mono ?_
            rintro e w7 ⟨px, rfl, hMx, hFx, hb7⟩
            have hE7 := below_trans hb6 hb7
            obtain ⟨Xb, hXb⟩ : ∃ Xb, w7.heap.size = Xb := ⟨_, rfl⟩
            obtain ⟨w8, hw8⟩ : ∃ w8, w7.alloc (.cells #[.int .i64 x.bits, .int .i64 x.least, .slice px.ah x.heads.length px.ch, .slice px.ab x.bytes.length px.cb, .int .i64 x.at_, .int .i64 x.len, .int .i64 x.part, .int .i64 x.bit, .slice px.ac x.ctrs.length px.cc] 27) = w8 := ⟨_, rfl⟩
            have hE8' : Below w7.heap.size w7 w8 := by rw [← hw8]; exact (Below.refl _ _).alloc (Nat.le_refl _) _
            have X8 : Blk w8 Xb [.int .i64 x.bits, .int .i64 x.least, .slice px.ah x.heads.length px.ch, .slice px.ab x.bytes.length px.cb, .int .i64 x.at_, .int .i64 x.len, .int .i64 x.part, .int .i64 x.bit, .slice px.ac x.ctrs.length px.cc] 27 := by rw [← hw8, ← hXb]; exact Blk.new w7 _ _
            have hE8 := below_trans hE7 hE8'
            have hB8 := below_trans hBk hE8
            have B8 := Bk.step hE8
            have HMx := Lib.hid (hMx.step hE8')
            have hlM : Mb < w6.heap.size := (Bk.step hb6).lt
            have hXM : ¬ Xb = Mb := by have := hb7.size; omega
            have hMX : ¬ Mb = Xb := fun e => hXM e.symm
            clear x0_ x1 x2 x3 x4 x5 x6 x7 x8 hMx
            have HR8 := Lib.hid (show ConR n x0 k Mb w _ q x px from ⟨B8.put9 (.int .i64 x.bits) (.int .i64 x.least) (.slice px.ah x.heads.length px.ch) (.slice px.ab x.bytes.length px.cb) (.int .i64 x.at_) (.int .i64 x.len) (.int .i64 x.part) (.int .i64 x.bit) (.slice px.ac x.ctrs.length px.cc), HMx.out.put9f hFx hlM (.int .i64 x.bits) (.int .i64 x.least) (.slice px.ah x.heads.length px.ch) (.slice px.ab x.bytes.length px.cb) (.int .i64 x.at_) (.int .i64 x.len) (.int .i64 x.part) (.int .i64 x.bit) (.slice px.ac x.ctrs.length px.cc), below_put9 hB8 hwM (.int .i64 x.bits) (.int .i64 x.least) (.slice px.ah x.heads.length px.ch) (.slice px.ab x.bytes.length px.cb) (.int .i64 x.at_) (.int .i64 x.len) (.int .i64 x.part) (.int .i64 x.bit) (.slice px.ac x.ctrs.length px.cc), Hnx.out⟩)
            obtain ⟨x0_, x1, x2, x3, x4, x5, x6, x7, x8⟩ := X8.nine
            obtain ⟨z0, z1, z2, z3, z4, z5, z6, z7, z8⟩ := B8.nine
            have f0 := B8.free 0
            have f1 := B8.free 1
            have f2 := B8.free 2
            have f3 := B8.free 3
            have f4 := B8.free 4
            have f5 := B8.free 5
            have f6 := B8.free 6
            have f7 := B8.free 7
            have f8 := B8.free 8
            go_wp2_with fail
            go_roundw
            case rel => exact ⟨q, x, px, by omega, rfl, by go_num, HR8.out⟩
            case measure => simp [intOf]
          by_cases hv1 : bt = 1
          · subst hv1
            have dP := decide_eq_false (show ¬ P < 2048 by have := q3 rfl; omega)
            clear q3 q4 hbt2
            simp only [show ((1 : Nat) : Int) = (1 : Int) from rfl] at hand HBt HPr Bk
            obtain ⟨x0_, x1, x2, x3, x4, x5, x6, x7, x8⟩ := Bk.nine
            go_wp2_with fail
            refine (HPr.out wr HMk.out).mono ?_
            rintro e w6 ⟨rfl, hb6⟩
            clear x0_ x1 x2 x3 x4 x5 x6 x7 x8
            obtain ⟨x0_, x1, x2, x3, x4, x5, x6, x7, x8⟩ := (Bk.step hb6).nine
            go_wp2_with fail
            refine (HBt.out w6 (HMk.out.step hb6)).mono ?_
            rintro e w7 ⟨px, rfl, hMx, hFx, hb7⟩
            have hE7 := below_trans hb6 hb7
            obtain ⟨Xb, hXb⟩ : ∃ Xb, w7.heap.size = Xb := ⟨_, rfl⟩
            obtain ⟨w8, hw8⟩ : ∃ w8, w7.alloc (.cells #[.int .i64 x.bits, .int .i64 x.least, .slice px.ah x.heads.length px.ch, .slice px.ab x.bytes.length px.cb, .int .i64 x.at_, .int .i64 x.len, .int .i64 x.part, .int .i64 x.bit, .slice px.ac x.ctrs.length px.cc] 27) = w8 := ⟨_, rfl⟩
            have hE8' : Below w7.heap.size w7 w8 := by rw [← hw8]; exact (Below.refl _ _).alloc (Nat.le_refl _) _
            have X8 : Blk w8 Xb [.int .i64 x.bits, .int .i64 x.least, .slice px.ah x.heads.length px.ch, .slice px.ab x.bytes.length px.cb, .int .i64 x.at_, .int .i64 x.len, .int .i64 x.part, .int .i64 x.bit, .slice px.ac x.ctrs.length px.cc] 27 := by rw [← hw8, ← hXb]; exact Blk.new w7 _ _
            have hE8 := below_trans hE7 hE8'
            have hB8 := below_trans hBk hE8
            have B8 := Bk.step hE8
            have HMx := Lib.hid (hMx.step hE8')
            have hlM : Mb < w6.heap.size := (Bk.step hb6).lt
            have hXM : ¬ Xb = Mb := by have := hb7.size; omega
            have hMX : ¬ Mb = Xb := fun e => hXM e.symm
            clear x0_ x1 x2 x3 x4 x5 x6 x7 x8 hMx
            have HR8 := Lib.hid (show ConR n x0 k Mb w _ q x px from ⟨B8.put9 (.int .i64 x.bits) (.int .i64 x.least) (.slice px.ah x.heads.length px.ch) (.slice px.ab x.bytes.length px.cb) (.int .i64 x.at_) (.int .i64 x.len) (.int .i64 x.part) (.int .i64 x.bit) (.slice px.ac x.ctrs.length px.cc), HMx.out.put9f hFx hlM (.int .i64 x.bits) (.int .i64 x.least) (.slice px.ah x.heads.length px.ch) (.slice px.ab x.bytes.length px.cb) (.int .i64 x.at_) (.int .i64 x.len) (.int .i64 x.part) (.int .i64 x.bit) (.slice px.ac x.ctrs.length px.cc), below_put9 hB8 hwM (.int .i64 x.bits) (.int .i64 x.least) (.slice px.ah x.heads.length px.ch) (.slice px.ab x.bytes.length px.cb) (.int .i64 x.at_) (.int .i64 x.len) (.int .i64 x.part) (.int .i64 x.bit) (.slice px.ac x.ctrs.length px.cc), Hnx.out⟩)
            obtain ⟨x0_, x1, x2, x3, x4, x5, x6, x7, x8⟩ := X8.nine
            obtain ⟨z0, z1, z2, z3, z4, z5, z6, z7, z8⟩ := B8.nine
            have f0 := B8.free 0
            have f1 := B8.free 1
            have f2 := B8.free 2
            have f3 := B8.free 3
            have f4 := B8.free 4
            have f5 := B8.free 5
            have f6 := B8.free 6
            have f7 := B8.free 7
            have f8 := B8.free 8
            go_wp2_with fail
            go_roundw
            case rel => exact ⟨q, x, px, by omega, rfl, by go_num, HR8.out⟩
            case measure => simp [intOf]
          omega
end Go.Proofs.Ytbfgdaijpcbddaa
