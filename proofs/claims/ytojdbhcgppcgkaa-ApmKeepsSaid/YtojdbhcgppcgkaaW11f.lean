/- What Update (layer 11) returns. No condition. -/
import Derived.Test.YtojdbhcgppcgkaaW11e
set_option linter.unusedSimpArgs false
set_option linter.unusedVariables false
set_option linter.unusedSectionVars false
namespace Go.Proofs.Ytojdbhcgppcgkaa
open Go.RowKit

/-- The error of Update, and the map. -/
def S11.updE (xs : List Int) (c p bit rate : Int) : Int := if S11.usable xs c p ≠ 0 then S11.usable xs c p else if bit ≠ 0 ∧ bit ≠ 1 then 1 else if rate < 1 ∨ 255 < rate then 2 else 0
def S11.updL (xs : List Int) (c p bit rate : Int) : List Int := if S11.updE xs c p bit rate = 0 then S11.update xs c.toNat p bit rate else []

/-- A map as a value. -/
def MapIs (L : List Int) (V : Value) (w' : World) : Prop := ∃ a cap, V = .agg #[.slice a L.length cap] ∧ L.length ≤ cap ∧ cap ≤ 9223372036854775807 ∧ Rd w' a (Ints L)
theorem MapIs.nil (w : World) : MapIs [] (.agg #[.slice none 0 0]) w := ⟨none, 0, rfl, by simp, by omega, Rd.nil _ _⟩
theorem MapIs.step {L : List Int} {V : Value} {w w' : World} (h : MapIs L V w) (hb : Below w.heap.size w w') : MapIs L V w' := by
  obtain ⟨a, cap, e, h1, h2, h3⟩ := h
  exact ⟨a, cap, e, h1, h2, h3.step hb⟩

theorem S11.update_length (xs : List Int) (c : Nat) (p bit rate : Int) : (S11.update xs c p bit rate).length = xs.length := by simp [S11.update]
theorem Ints_set (xs : List Int) (i : Nat) (v : Int) : Ints (xs.set i v) = (Ints xs).set i (.int .i64 v) := by simp [Ints, List.map_set]
theorem Ints_get {xs : List Int} {i : Nat} (h : i < xs.length) : (Ints xs)[i]? = some (.int .i64 (xs.getD i 0)) := by
  simp [Ints, List.getD_eq_getElem?_getD, List.getElem?_eq_getElem h]

theorem grown_below {w w' : World} {b B : Nat} (hg : w.grownBy w' (some b)) (hB : B ≤ b) (hs : B ≤ w.heap.size) : Below B w w' := Below.grown ((Below.refl B w)) hg hs (fun j e => by cases e; exact hB)

set_option maxHeartbeats 2000000 in
theorem update11_ok (xs : List Int) (g o cap c : Nat) (p bit rate : Int) (w : World) (hlen : xs.length ≤ cap) (hcap : cap ≤ 9223372036854775807) (hrd : Rd w (some ⟨g, o, none⟩) (Ints xs))
    (hu : S11.usable xs c p = 0) (hbit : bit = 0 ∨ bit = 1) (hr : 1 ≤ rate) (hr' : rate ≤ 255) :
    Calls Try.prog 19 #[.agg #[.slice (some ⟨g, o, none⟩) xs.length cap], .int .i64 c, .int .i64 p, .int .i64 bit, .int .i64 rate] w fun e w' =>
      ∃ V, e = .returned (.tuple #[V, .int .i64 0]) ∧ MapIs (S11.update xs c p bit rate) V w' ∧ Below w.heap.size w w' := by
  have HU := Lib.hid fun W (hb : Below w.heap.size w W) => usable11_any xs (some ⟨g, o, none⟩) cap c p W (by omega) (hrd.step hb)
  obtain ⟨k1, k2, k3, k4, k5⟩ := S11.usable_zero hu
  obtain ⟨q1, q2, q3, q4⟩ := S11.check_zero k1
  rw [hu] at HU
  have hc33 : 33 * (c + 1) ≤ xs.length := by omega
  have hat := S11.at_le p
  have hfr := S11.from_bounds p
  have b1 := S11.getD_bounds q4 (i := 33 * c + S11.at p) (by omega)
  have b2 := S11.getD_bounds q4 (i := 33 * c + S11.at p + 1) (by omega)
  have HCl := Lib.hid fun W (hb : Below w.heap.size w W) => clone11_any xs g o cap W (by omega) q3 (hrd.step hb)
  have HPl := Lib.hid fun W => placed11_any p W
  have hx1 := Ints_get (xs := xs) (i := 33 * c + S11.at p) (by omega)
  have hx2 := Ints_get (xs := xs) (i := 33 * c + S11.at p + 1) (by omega)
  have Hupd := Lib.hid (show S11.update xs c p bit rate = (xs.set (33 * c + S11.at p) (S11.learn (xs.getD (33 * c + S11.at p) 0) bit rate (192 - S11.from p))).set (33 * c + S11.at p + 1) (S11.learn (xs.getD (33 * c + S11.at p + 1) 0) bit rate (S11.from p)) from rfl)
  have Hx1 := Lib.hid hx1
  have Hx2 := Lib.hid hx2
  have hbn : 0 ≤ bit ∧ bit ≤ 1 := by omega
  have hb0 : bit = 0 ∧ ((bit : Int) != 0) = false ∨ bit = 1 ∧ ((bit : Int) != 0) = true ∧ ((bit : Int) != 1) = false := by
    rcases hbit with rfl | rfl
    · left; exact ⟨rfl, rfl⟩
    · right; exact ⟨rfl, rfl, rfl⟩
  have Hbit := Lib.hid hbit
  have hrn1 : ¬ rate < 1 := by omega
  have hrn2 : ¬ 255 < rate := by omega
  have HLn := Lib.hid fun (k : Nat) (u share : Int) (G O : Nat) (W : World) (g1 : k ≤ 32) (g2 : 0 ≤ u) (g3 : u ≤ 65535) (g4 : 0 ≤ share) (g5 : share ≤ 192) => learn11_any k u bit rate share G O W g1 g2 g3 Hbit.out (by omega) hr' g4 g5
  clear hrd hu k1 q1 q4 hx1 hx2 hbit
  have Hlen := Lib.hid (Ints_length xs)
  generalize xs.getD (33 * c + S11.at p) 0 = u at *
  generalize xs.getD (33 * c + S11.at p + 1) 0 = v at *
  generalize S11.at p = at' at *
  generalize S11.from p = f at *
  obtain ⟨Lu, hLu⟩ : ∃ L, S11.learn u bit rate (192 - f) = L := ⟨_, rfl⟩
  obtain ⟨Lv, hLv⟩ : ∃ L, S11.learn v bit rate f = L := ⟨_, rfl⟩
  rw [hLu, hLv] at Hupd
  have HLu := Lib.hid hLu
  have HLv := Lib.hid hLv
  clear hLu hLv
  obtain ⟨n, hn⟩ : ∃ n, n = xs.length := ⟨_, rfl⟩
  rw [← hn] at hlen HU hc33 q2 q3 HCl k3 ⊢
  have Hn := Lib.hid hn
  clear hn
  clear hbn
  rcases hb0 with ⟨rfl, hbt⟩ | ⟨rfl, hbt, hbt'⟩
  all_goals
    go_enter Try.func19, Try.ntmps19
    go_wp2_with fail
    refine (HU.out _ (by go_grown)).mono ?_
    rintro e w1 ⟨rfl, hb1⟩
    have hB1 : Below w.heap.size w w1 := below_trans (by go_grown) hb1
    have z1 : w.heap.size ≤ w1.heap.size := hB1.size
    have hs1 : w.heap.size + 1 < w1.heap.size := by have := hb1.size; simp at this; omega
    have k1 : w1.cell? ⟨w.heap.size, 0, none⟩ = some (.slice (some ⟨g, o, none⟩) n cap) := (hb1.cell (by simp <;> omega)).trans (by go_simp)
    have hres1 := Lib.hid (show Blk w1 (w.heap.size + 1) [.slice none 0 0] 24 from by
      have h0 := (Blk.new (w.alloc (Obj.cells #[.slice (some ⟨g, o, none⟩) n cap] 24)) [.slice none 0 0] 24).step hb1
      simpa using h0)
    go_wp2_with fail
    refine (HCl.out _ hB1).mono ?_
    rintro e w2 ⟨V, rfl, G, cap2, rfl, hc1, hc2, hown2, hb2⟩
    rw [← Hn.out] at hc1 hown2 ⊢
    have hB2 : Below w.heap.size w w2 := below_trans hB1 hb2
    have z2 : w1.heap.size ≤ w2.heap.size := hb2.size
    have hGlt := hown2.lt G rfl
    have hres2 := Lib.hid (hres1.out.step hb2)
    have Hown2 := Lib.hid hown2
    clear hown2 hb2 k1
    have HRw := Lib.hid fun W => rows11_any n cap2 c G 0 W hc33 hc1 hc2
    simp only [Nat.zero_add] at HRw
    go_wp2_with fail
    refine (HRw.out _).mono ?_
    rintro e w3 ⟨rfl, hb3⟩
    have hB3 : Below w.heap.size w w3 := below_trans (by go_grown) hb3
    have z3 : w2.heap.size < w3.heap.size := by have := hb3.size; simp at this; omega
    have hout3 := Lib.hid ((Blk.new w2 [.slice (some ⟨G, 0, none⟩) n cap2] 24).step hb3)
    have hres3 := Lib.hid ((hres2.out.alloc (Obj.cells #[.slice (some ⟨G, 0, none⟩) n cap2] 24)).step hb3)
    have Hown3 := Lib.hid (ownS (Hown2.out.alloc (Obj.cells #[.slice (some ⟨G, 0, none⟩) n cap2] 24)) hb3)
    go_wp2_with fail
    refine (HPl.out _).mono ?_
    rintro e w4 ⟨rfl, hb4⟩
    have hB4 : Below w.heap.size w w4 := below_trans hB3 hb4
    have z4 : w3.heap.size ≤ w4.heap.size := hb4.size
    have hout4 := Lib.hid (hout3.out.step hb4)
    have hres4 := Lib.hid (hres3.out.step hb4)
    have Hown4 := Lib.hid (ownS Hown3.out hb4)
    have c4 := Lib.hid (Hown4.out.cellAt (33 * c + at') (by omega))
    have c5 := Lib.hid (Hown4.out.cellAt (33 * c + at' + 1) (by omega))
    have hst1 := Lib.hid fun (W : World) (hb : Below w4.heap.size w4 W) => (show W.cell? ⟨G, 33 * c + at', none⟩ = some (.int .i64 u) from (hb.cell (p := ⟨G, 33 * c + at', none⟩) (Hown4.out.lt G rfl).2).trans (c4.out.trans Hx1.out))
    have hst2 := Lib.hid fun (W : World) (hb : Below w4.heap.size w4 W) => (show W.frozen? ⟨G, 33 * c + at', none⟩ = false from (hb.frozen (p := ⟨G, 33 * c + at', none⟩) (Hown4.out.lt G rfl).2).trans (Hown4.out.frozenAt _))
    go_wp2_with fail
    refine (HLn.out at' u (192 - f) G (33 * c) _ (by omega) b1.1 b1.2 (by omega) (by omega) (hst1.out _ (by go_grown)) (hst2.out _ (by go_grown))).mono ?_
    rintro e wx ⟨rfl, w5, hb5, hwx⟩
    rw [HLu.out] at hwx
    have z5 : w4.heap.size < w5.heap.size := by have := hb5.size; simp at this; omega
    have hne1 : ¬ w4.heap.size = G := by omega
    have hne2 : ¬ w2.heap.size = G := by omega
    have hne3 : ¬ w.heap.size + 1 = G := by omega
    have hpl5 := ((Blk.new w4 [.int .i64 at', .int .i64 f] 68).step hb5).other G (33 * c + at') (.int .i64 Lu) hne1
    have hout5 := ((hout4.out.alloc (Obj.cells #[.int .i64 at', .int .i64 f] 68)).step hb5).other G (33 * c + at') (.int .i64 Lu) hne2
    have hres5 := ((hres4.out.alloc (Obj.cells #[.int .i64 at', .int .i64 f] 68)).step hb5).other G (33 * c + at') (.int .i64 Lu) hne3
    have hown5 := ((ownS (Hown4.out.alloc (Obj.cells #[.int .i64 at', .int .i64 f] 68)) hb5).stored (33 * c + at') (.int .i64 Lu)).1
    have hB5 : Below w.heap.size w wx := by rw [hwx]; exact (below_trans (by go_grown) hb5).setCell (show w.heap.size ≤ G by omega) _
    rw [← hwx] at hpl5 hout5 hres5 hown5
    have z6 : w5.heap.size = wx.heap.size := by rw [hwx]; simp
    clear hwx hb5
    have p0 := hpl5.cell 0
    have p1 := hpl5.cell 1
    simp only [List.getElem?_cons_zero, List.getElem?_cons_succ] at p0 p1
    have Hout5 := Lib.hid hout5
    have Hres5 := Lib.hid hres5
    have Hown5 := Lib.hid hown5
    have c6 : wx.cell? ⟨G, 33 * c + (at' + 1), none⟩ = some (.int .i64 v) := by
      have h1 := Hown5.out.cellAt (33 * c + (at' + 1)) (by omega)
      rw [h1, List.getElem?_set_ne (by omega)]
      exact Hx2.out
    have f6 : wx.frozen? ⟨G, 33 * c + (at' + 1), none⟩ = false := Hown5.out.frozenAt _
    clear hpl5 hout5 hres5 hown5 hst1 hst2
    have HL2 := Lib.hid (HLn.out (at' + 1) v f G (33 * c) wx (by omega) b2.1 b2.2 hfr.1 (by omega) c6 f6)
    clear c6 f6
    go_wp2_with fail
    refine HL2.out.mono ?_
    rintro e wy ⟨rfl, w7, hb7, hwy⟩
    rw [HLv.out] at hwy
    have z7 : wx.heap.size ≤ w7.heap.size := hb7.size
    have hout7 := (Hout5.out.step hb7).other G (33 * c + (at' + 1)) (.int .i64 Lv) hne2
    have hres7 := (Hres5.out.step hb7).other G (33 * c + (at' + 1)) (.int .i64 Lv) hne3
    have hown7 := ((ownS Hown5.out hb7).stored (33 * c + (at' + 1)) (.int .i64 Lv)).1
    have hB7 : Below w.heap.size w wy := by rw [hwy]; exact (below_trans hB5 hb7).setCell (show w.heap.size ≤ G by omega) _
    rw [← hwy] at hout7 hres7 hown7
    clear hwy hb7 Hout5 Hres5 Hown5
    have q0 := hout7.cell 0
    have r0 := hres7.cell 0
    have r1 := hres7.free 0
    have r2 := (hres7.set 0 (.slice (some ⟨G, 0, none⟩) n cap2)).cell 0
    have l7 := hres7.lt
    simp only [List.set_cons_zero, List.getElem?_cons_zero] at q0 r0 r2
    rw [← Ints_set, ← Ints_set] at hown7
    have hne4 : ¬ G = w.heap.size + 1 := by omega
    have hfin := hown7.kept (grown_setCell wy (w.heap.size + 1) 0 (.slice (some ⟨G, 0, none⟩) n cap2)) (.inr (by simp [Value.ownBlock]; exact hne4))
    have Hfin := Lib.hid hfin
    clear hfin hown7 hout7 hres7
    go_wp2
    refine bodyPost_ret (v := .tuple #[.agg #[.slice (some ⟨G, 0, none⟩) n cap2], .int .i64 0]) (by simp [results, Try.results19, go_sem, r2]) rfl ⟨_, rfl, ?_, ?_⟩
    · rw [Hupd.out]
      have hl : ((xs.set (33 * c + at') Lu).set (33 * c + at' + 1) Lv).length = n := by rw [List.length_set, List.length_set, Hn.out]
      refine ⟨some ⟨G, 0, none⟩, cap2, by rw [hl], by rw [hl]; exact hc1, hc2, ?_⟩
      exact Rd.of_owns Hfin.out
    · exact hB7.setCell (by simp) _

set_option maxHeartbeats 1000000 in
theorem update11_err (xs : List Int) (a : Option Addr) (cap : Nat) (c p bit rate : Int) (w : World) (hlen : xs.length ≤ cap) (hcap : cap ≤ 9223372036854775807) (hrd : Rd w a (Ints xs)) (he : S11.updE xs c p bit rate ≠ 0) :
    Calls Try.prog 19 #[.agg #[.slice a xs.length cap], .int .i64 c, .int .i64 p, .int .i64 bit, .int .i64 rate] w fun e w' =>
      ∃ V, e = .returned (.tuple #[V, .int .i64 (S11.updE xs c p bit rate)]) ∧ MapIs [] V w' ∧ Below w.heap.size w w' := by
  have HU := Lib.hid fun W (hb : Below w.heap.size w W) => usable11_any xs a cap c p W (by omega) (hrd.step hb)
  have hways : (S11.usable xs c p ≠ 0 ∧ S11.updE xs c p bit rate = S11.usable xs c p) ∨ (S11.usable xs c p = 0 ∧ bit ≠ 0 ∧ bit ≠ 1 ∧ S11.updE xs c p bit rate = 1) ∨ (S11.usable xs c p = 0 ∧ bit = 0 ∧ (rate < 1 ∨ (¬ rate < 1 ∧ 255 < rate)) ∧ S11.updE xs c p bit rate = 2) ∨ (S11.usable xs c p = 0 ∧ bit = 1 ∧ (rate < 1 ∨ (¬ rate < 1 ∧ 255 < rate)) ∧ S11.updE xs c p bit rate = 2) := by
    unfold S11.updE at he ⊢
    by_cases hu : S11.usable xs c p = 0
    · rw [if_neg (by simpa using hu)] at he ⊢
      right
      by_cases hb : bit ≠ 0 ∧ bit ≠ 1
      · rw [if_pos hb]; left; exact ⟨hu, hb.1, hb.2, rfl⟩
      · rw [if_neg hb] at he ⊢
        right
        by_cases hr : rate < 1 ∨ 255 < rate
        · rw [if_pos hr]
          rcases (show bit = 0 ∨ bit = 1 by omega) with h | h
          · left; exact ⟨hu, h, by omega, rfl⟩
          · right; exact ⟨hu, h, by omega, rfl⟩
        · rw [if_neg hr] at he; exact absurd rfl he
    · rw [if_pos hu]; left; exact ⟨hu, rfl⟩
  clear hrd he
  generalize S11.updE xs c p bit rate = E at *
  generalize S11.usable xs c p = y at *
  generalize xs.length = n at *
  rcases hways with ⟨hy, rfl⟩ | ⟨rfl, hb1, hb2, rfl⟩ | ⟨rfl, rfl, hr | ⟨hr, hr'⟩, rfl⟩ | ⟨rfl, rfl, hr | ⟨hr, hr'⟩, rfl⟩
  · have hy2 : ((E : Int) != 0) = true := by simpa using hy
    clear hy
    go_enter Try.func19, Try.ntmps19
    go_wp2_with fail
    refine (HU.out _ (by go_grown)).mono ?_
    rintro e w1 ⟨rfl, hb1⟩
    have hB1 : Below w.heap.size w w1 := below_trans (by go_grown) hb1
    have z1 : w.heap.size ≤ w1.heap.size := hB1.size
    have hres : Blk w1 (w.heap.size + 1) [.slice none 0 0] 24 := by
      have h0 := (Blk.new (w.alloc (Obj.cells #[.slice a n cap] 24)) [.slice none 0 0] 24).step hb1
      simpa using h0
    have hs1 : w.heap.size + 1 < w1.heap.size := by have := hb1.size; simp at this; omega
    have r0 := hres.cell 0
    have r1 := hres.free 0
    have r2 := (hres.set 0 (.slice none 0 0)).cell 0
    simp only [List.set_cons_zero, List.getElem?_cons_zero] at r0 r2
    clear hres
    go_wp2
    refine bodyPost_ret (v := .tuple #[.agg #[.slice none 0 0], .int .i64 E]) (by simp [results, Try.results19, go_sem, r2]) rfl ⟨_, rfl, MapIs.nil _, ?_⟩
    exact hB1.setCell (by simp) _
  · have hq1 : ((bit : Int) != 0) = true := by simpa using hb1
    have hq2 : ((bit : Int) != 1) = true := by simpa using hb2
    clear hb1 hb2
    go_enter Try.func19, Try.ntmps19
    go_wp2_with fail
    refine (HU.out _ (by go_grown)).mono ?_
    rintro e w1 ⟨rfl, hb1⟩
    have hB1 : Below w.heap.size w w1 := below_trans (by go_grown) hb1
    have z1 : w.heap.size ≤ w1.heap.size := hB1.size
    have hres : Blk w1 (w.heap.size + 1) [.slice none 0 0] 24 := by
      have h0 := (Blk.new (w.alloc (Obj.cells #[.slice a n cap] 24)) [.slice none 0 0] 24).step hb1
      simpa using h0
    have hs1 : w.heap.size + 1 < w1.heap.size := by have := hb1.size; simp at this; omega
    have r0 := hres.cell 0
    have r1 := hres.free 0
    have r2 := (hres.set 0 (.slice none 0 0)).cell 0
    simp only [List.set_cons_zero, List.getElem?_cons_zero] at r0 r2
    clear hres
    go_wp2
    refine bodyPost_ret (v := .tuple #[.agg #[.slice none 0 0], .int .i64 1]) (by simp [results, Try.results19, go_sem, r2]) rfl ⟨_, rfl, MapIs.nil _, ?_⟩
    exact hB1.setCell (by simp) _
  · go_enter Try.func19, Try.ntmps19
    go_wp2_with fail
    refine (HU.out _ (by go_grown)).mono ?_
    rintro e w1 ⟨rfl, hb1⟩
    have hB1 : Below w.heap.size w w1 := below_trans (by go_grown) hb1
    have z1 : w.heap.size ≤ w1.heap.size := hB1.size
    have hres : Blk w1 (w.heap.size + 1) [.slice none 0 0] 24 := by
      have h0 := (Blk.new (w.alloc (Obj.cells #[.slice a n cap] 24)) [.slice none 0 0] 24).step hb1
      simpa using h0
    have hs1 : w.heap.size + 1 < w1.heap.size := by have := hb1.size; simp at this; omega
    have r0 := hres.cell 0
    have r1 := hres.free 0
    have r2 := (hres.set 0 (.slice none 0 0)).cell 0
    simp only [List.set_cons_zero, List.getElem?_cons_zero] at r0 r2
    clear hres
    go_wp2
    refine bodyPost_ret (v := .tuple #[.agg #[.slice none 0 0], .int .i64 2]) (by simp [results, Try.results19, go_sem, r2]) rfl ⟨_, rfl, MapIs.nil _, ?_⟩
    exact hB1.setCell (by simp) _
  · go_enter Try.func19, Try.ntmps19
    go_wp2_with fail
    refine (HU.out _ (by go_grown)).mono ?_
    rintro e w1 ⟨rfl, hb1⟩
    have hB1 : Below w.heap.size w w1 := below_trans (by go_grown) hb1
    have z1 : w.heap.size ≤ w1.heap.size := hB1.size
    have hres : Blk w1 (w.heap.size + 1) [.slice none 0 0] 24 := by
      have h0 := (Blk.new (w.alloc (Obj.cells #[.slice a n cap] 24)) [.slice none 0 0] 24).step hb1
      simpa using h0
    have hs1 : w.heap.size + 1 < w1.heap.size := by have := hb1.size; simp at this; omega
    have r0 := hres.cell 0
    have r1 := hres.free 0
    have r2 := (hres.set 0 (.slice none 0 0)).cell 0
    simp only [List.set_cons_zero, List.getElem?_cons_zero] at r0 r2
    clear hres
    go_wp2
    refine bodyPost_ret (v := .tuple #[.agg #[.slice none 0 0], .int .i64 2]) (by simp [results, Try.results19, go_sem, r2]) rfl ⟨_, rfl, MapIs.nil _, ?_⟩
    exact hB1.setCell (by simp) _
  · go_enter Try.func19, Try.ntmps19
    go_wp2_with fail
    refine (HU.out _ (by go_grown)).mono ?_
    rintro e w1 ⟨rfl, hb1⟩
    have hB1 : Below w.heap.size w w1 := below_trans (by go_grown) hb1
    have z1 : w.heap.size ≤ w1.heap.size := hB1.size
    have hres : Blk w1 (w.heap.size + 1) [.slice none 0 0] 24 := by
      have h0 := (Blk.new (w.alloc (Obj.cells #[.slice a n cap] 24)) [.slice none 0 0] 24).step hb1
      simpa using h0
    have hs1 : w.heap.size + 1 < w1.heap.size := by have := hb1.size; simp at this; omega
    have r0 := hres.cell 0
    have r1 := hres.free 0
    have r2 := (hres.set 0 (.slice none 0 0)).cell 0
    simp only [List.set_cons_zero, List.getElem?_cons_zero] at r0 r2
    clear hres
    go_wp2
    refine bodyPost_ret (v := .tuple #[.agg #[.slice none 0 0], .int .i64 2]) (by simp [results, Try.results19, go_sem, r2]) rfl ⟨_, rfl, MapIs.nil _, ?_⟩
    exact hB1.setCell (by simp) _
  · go_enter Try.func19, Try.ntmps19
    go_wp2_with fail
    refine (HU.out _ (by go_grown)).mono ?_
    rintro e w1 ⟨rfl, hb1⟩
    have hB1 : Below w.heap.size w w1 := below_trans (by go_grown) hb1
    have z1 : w.heap.size ≤ w1.heap.size := hB1.size
    have hres : Blk w1 (w.heap.size + 1) [.slice none 0 0] 24 := by
      have h0 := (Blk.new (w.alloc (Obj.cells #[.slice a n cap] 24)) [.slice none 0 0] 24).step hb1
      simpa using h0
    have hs1 : w.heap.size + 1 < w1.heap.size := by have := hb1.size; simp at this; omega
    have r0 := hres.cell 0
    have r1 := hres.free 0
    have r2 := (hres.set 0 (.slice none 0 0)).cell 0
    simp only [List.set_cons_zero, List.getElem?_cons_zero] at r0 r2
    clear hres
    go_wp2
    refine bodyPost_ret (v := .tuple #[.agg #[.slice none 0 0], .int .i64 2]) (by simp [results, Try.results19, go_sem, r2]) rfl ⟨_, rfl, MapIs.nil _, ?_⟩
    exact hB1.setCell (by simp) _
end Go.Proofs.Ytojdbhcgppcgkaa
