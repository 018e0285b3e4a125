/- What the reference's Update (layer 11) returns. No condition. -/
import Derived.Test.YtojdbhcgppcgkaaW11f
set_option linter.unusedSimpArgs false
set_option linter.unusedVariables false
set_option linter.unusedSectionVars false
namespace Go.Proofs.Ytojdbhcgppcgkaa
open Go.RowKit

set_option maxHeartbeats 2000000 in
theorem refUpdate11_ok (xs : List Int) (g o cap c : Nat) (p bit rate : Int) (w : World) (hlen : xs.length ≤ cap) (hcap : cap ≤ 9223372036854775807) (hrd : Rd w (some ⟨g, o, none⟩) (Ints xs))
    (hu : S11.usable xs c p = 0) (hbit : bit = 0 ∨ bit = 1) (hr : 1 ≤ rate) (hr' : rate ≤ 255) :
    Calls Try.prog 20 #[.agg #[.slice (some ⟨g, o, none⟩) xs.length cap], .int .i64 c, .int .i64 p, .int .i64 bit, .int .i64 rate] w fun e w' =>
      ∃ V, e = .returned (.tuple #[V, .int .i64 0]) ∧ MapIs (S11.update xs c p bit rate) V w' ∧ Below w.heap.size w w' := by
  have HU := Lib.hid fun W (hb : Below w.heap.size w W) => refRow11_any xs (some ⟨g, o, none⟩) cap c p W (by omega) (hrd.step hb)
  obtain ⟨k1, k2, k3, k4, k5⟩ := S11.usable_zero hu
  obtain ⟨q1, q2, q3, q4⟩ := S11.check_zero k1
  rw [hu] at HU
  have hc33 : 33 * (c + 1) ≤ xs.length := by omega
  have hat := S11.at_le p
  have hfr := S11.from_bounds p
  have b1 := S11.getD_bounds q4 (i := 33 * c + S11.at p) (by omega)
  have b2 := S11.getD_bounds q4 (i := 33 * c + S11.at p + 1) (by omega)
  have HCl := Lib.hid fun W (hb : Below w.heap.size w W) => copy11_any xs g o cap W (by omega) q3 (hrd.step hb)
  have HSt := Lib.hid fun W => refStretch06_any p W
  have hsx := S11.x_bounds p
  have hai := S11.at_int p
  have hfi : (S06.stretch p + 3072) % 192 = S11.from p := rfl
  have hx1 := Ints_get (xs := xs) (i := 33 * c + S11.at p) (by omega)
  have hx2 := Ints_get (xs := xs) (i := 33 * c + S11.at p + 1) (by omega)
  have Hupd := Lib.hid (show S11.update xs c p bit rate = (xs.set (33 * c + S11.at p) (S11.learn (xs.getD (33 * c + S11.at p) 0) bit rate (192 - S11.from p))).set (33 * c + S11.at p + 1) (S11.learn (xs.getD (33 * c + S11.at p + 1) 0) bit rate (S11.from p)) from rfl)
  have Hx1 := Lib.hid hx1
  have Hx2 := Lib.hid hx2
  have hbn : 0 ≤ bit ∧ bit ≤ 1 := by omega
  have hb0 : bit = 0 ∧ ((bit : Int) != 0) = false ∨ bit = 1 ∧ ((bit : Int) != 0) = true ∧ ((bit : Int) != 1) = false := by
    rcases hbit with rfl | rfl
    · left; exact ⟨rfl, rfl⟩
    · right; exact ⟨rfl, rfl, rfl⟩
  have Hbit := Lib.hid hbit
  have hrn1 : ¬ rate < 1 := by omega
  have hrn2 : ¬ 255 < rate := by omega
  have hlu := S11.learn_facts b1.1 b1.2 hbit (show 0 ≤ rate by omega) hr' (show 0 ≤ 192 - S11.from p by omega) (by omega)
  have hlv := S11.learn_facts b2.1 b2.2 hbit (show 0 ≤ rate by omega) hr' hfr.1 (by omega)
  clear hrd hu k1 q1 q4 hx1 hx2 hbit
  have Hlen := Lib.hid (Ints_length xs)
  generalize xs.getD (33 * c + S11.at p) 0 = u at *
  generalize xs.getD (33 * c + S11.at p + 1) 0 = v at *
  generalize S06.stretch p = st at *
  generalize S11.at p = at' at *
  generalize S11.from p = f at *
  obtain ⟨Lu, hLu⟩ : ∃ L, S11.learn u bit rate (192 - f) = L := ⟨_, rfl⟩
  obtain ⟨Lv, hLv⟩ : ∃ L, S11.learn v bit rate f = L := ⟨_, rfl⟩
  rw [hLu, hLv] at Hupd
  have HLu := Lib.hid hLu
  have HLv := Lib.hid hLv
  clear hLu hLv
  obtain ⟨n, hn⟩ : ∃ n, n = xs.length := ⟨_, rfl⟩
  rw [← hn] at hlen HU hc33 q2 q3 HCl k3 ⊢
  have Hn := Lib.hid hn
  clear hn
  clear hbn
  obtain ⟨fu1, fu2, fu3, fu4, fu5, fu6⟩ := hlu
  obtain ⟨fv1, fv2, fv3, fv4, fv5, fv6⟩ := hlv
  rw [HLu.out] at fu5 fu6
  rw [HLv.out] at fv5 fv6
  have i1 : (33 * (c : Int) + (at' : Int)).toNat = 33 * c + at' := by omega
  have i2 : (33 * (c : Int) + (at' : Int) + 1).toNat = 33 * c + at' + 1 := by omega
  have i3 : (0 : Int) ≤ 33 * (c : Int) + (at' : Int) := by omega
  have i4 : (0 : Int) ≤ 33 * (c : Int) + (at' : Int) + 1 := by omega
  have i5 : 33 * (c : Int) + (at' : Int) < n := by omega
  have i6 : 33 * (c : Int) + (at' : Int) + 1 < n := by omega
  have i7 : 33 * c + at' < n := by omega
  have i8 : 33 * c + at' + 1 < n := by omega
  obtain ⟨Bt, hBt⟩ : ∃ Bt, Bt = 65535 * bit := ⟨_, rfl⟩
  rw [← hBt] at fu1 fu2 fu3 fu4 fv1 fv2 fv3 fv4
  have hBt0 : 0 ≤ Bt ∧ Bt ≤ 65535 := by omega
  have v0 : IntKind.i64.wrap (192 - f) = 192 - f := IntWalk.i64_in _ (by omega)
  have v1 : IntKind.i64.wrap (Bt - u) = Bt - u := IntWalk.i64_in _ (by omega)
  have v2 : IntKind.i64.wrap ((Bt - u) * rate) = (Bt - u) * rate := IntWalk.i64_in _ (by omega)
  have v3 : IntKind.i64.wrap ((Bt - u) * rate * (192 - f)) = (Bt - u) * rate * (192 - f) := IntWalk.i64_in _ (by omega)
  obtain ⟨qu, hqu⟩ : ∃ q, ((Bt - u) * rate * (192 - f)).tdiv 49152 = q := ⟨_, rfl⟩
  have hLu2 : u + qu = Lu := by rw [← HLu.out, ← hqu, hBt]; rfl
  have v4 : IntKind.i64.wrap (((Bt - u) * rate * (192 - f)).tdiv 49152) = qu := by rw [hqu]; exact IntWalk.i64_in _ (by omega)
  have v5 : IntKind.i64.wrap (u + qu) = Lu := by rw [hLu2]; exact IntWalk.i64_in _ (by omega)
  have x1 : IntKind.i64.wrap (Bt - v) = Bt - v := IntWalk.i64_in _ (by omega)
  have x2 : IntKind.i64.wrap ((Bt - v) * rate) = (Bt - v) * rate := IntWalk.i64_in _ (by omega)
  have x3 : IntKind.i64.wrap ((Bt - v) * rate * f) = (Bt - v) * rate * f := IntWalk.i64_in _ (by omega)
  obtain ⟨qv, hqv⟩ : ∃ q, ((Bt - v) * rate * f).tdiv 49152 = q := ⟨_, rfl⟩
  have hLv2 : v + qv = Lv := by rw [← HLv.out, ← hqv, hBt]; rfl
  have x4 : IntKind.i64.wrap (((Bt - v) * rate * f).tdiv 49152) = qv := by rw [hqv]; exact IntWalk.i64_in _ (by omega)
  have x5 : IntKind.i64.wrap (v + qv) = Lv := by rw [hLv2]; exact IntWalk.i64_in _ (by omega)
  have x6 : IntKind.i64.wrap (33 * (c : Int) + (at' : Int) + 1) = 33 * (c : Int) + (at' : Int) + 1 := IntWalk.i64_in _ (by omega)
  have HV := Lib.hid (And.intro v0 (And.intro v1 (And.intro v2 (And.intro v3 (And.intro v4 v5)))))
  have HX := Lib.hid (And.intro x1 (And.intro x2 (And.intro x3 (And.intro x4 (And.intro x5 x6)))))
  have Hi := Lib.hid (And.intro i1 i2)
  clear v0 v1 v2 v3 v4 v5 x1 x2 x3 x4 x5 x6 hqu hqv hLu2 hLv2 fu1 fu2 fu3 fu4 fv1 fv2 fv3 fv4 hBt0 i1 i2
  have HBt := Lib.hid hBt
  clear hBt
  rcases hb0 with ⟨rfl, hbt⟩ | ⟨rfl, hbt, hbt'⟩
  all_goals
    go_enter Try.func20, Try.ntmps20
    go_wp2_with fail
    refine (HU.out _ (by go_grown)).mono ?_
    rintro e w1 ⟨rfl, hb1⟩
    have hB1 : Below w.heap.size w w1 := below_trans (by go_grown) hb1
    have z1 : w.heap.size ≤ w1.heap.size := hB1.size
    have hs1 : w.heap.size + 1 < w1.heap.size := by have := hb1.size; simp at this; omega
    have k1 : w1.cell? ⟨w.heap.size, 0, none⟩ = some (.slice (some ⟨g, o, none⟩) n cap) := (hb1.cell (by simp <;> omega)).trans (by go_simp)
    have hres1 := Lib.hid (show Blk w1 (w.heap.size + 1) [.slice none 0 0] 24 from by
      have h0 := (Blk.new (w.alloc (Obj.cells #[.slice (some ⟨g, o, none⟩) n cap] 24)) [.slice none 0 0] 24).step hb1
      simpa using h0)
    go_wp2_with fail
    refine (HSt.out _).mono ?_
    rintro e w2 ⟨rfl, hb2⟩
    have hB2 : Below w.heap.size w w2 := below_trans (by go_grown) hb2
    have z2 : w.heap.size ≤ w2.heap.size := hB2.size
    have k2 : w2.cell? ⟨w.heap.size, 0, none⟩ = some (.slice (some ⟨g, o, none⟩) n cap) := (hb2.cell (by simp <;> omega)).trans (by go_simp)
    have z12 : w1.heap.size ≤ w2.heap.size := hb2.size
    have hres2 := Lib.hid (hres1.out.step hb2)
    go_wp2_with fail
    refine (HCl.out _ hB2).mono ?_
    rintro e w3 ⟨V, rfl, G, cap2, rfl, hc1, hc2, hown3, hb3⟩
    rw [← Hn.out] at hc1 hown3 ⊢
    have hB3 : Below w.heap.size w w3 := below_trans hB2 hb3
    have z3 : w2.heap.size ≤ w3.heap.size := hb3.size
    have hGlt := hown3.lt G rfl
    have hres3 := Lib.hid (hres2.out.step hb3)
    have Hown3 := Lib.hid hown3
    clear hown3 hb3
    have c4 : w3.cell? ⟨G, 33 * c + at', none⟩ = some (.int .i64 u) := (Hown3.out.cellAt (33 * c + at') (by omega)).trans Hx1.out
    have f4 : w3.frozen? ⟨G, 33 * c + at', none⟩ = false := Hown3.out.frozenAt _
    have hGne : ¬ w3.heap.size = G := by omega
    go_wp2
    obtain ⟨v0, v1, v2, v3, v4, v5⟩ := HV.out
    obtain ⟨i1, i2⟩ := Hi.out
    first | have e0 : IntKind.i64.wrap 0 = Bt := by rw [HBt.out]; rfl | have e0 : IntKind.i64.wrap 65535 = Bt := by rw [HBt.out]; rfl
    refine wp_region_steady 23 2 _ _ (Keeps (w3.alloc (Obj.cells #[.slice (some ⟨G, 0, none⟩) n cap2] 24)) [(⟨w3.heap.size, 0, none⟩, .slice (some ⟨G, 0, none⟩) n cap2), (⟨G, 33 * c + at', none⟩, .int .i64 u)]) (by kernel_rfl) (List.take_append_drop 23 _).symm rfl rfl (by kernel_rfl) (Keeps.start (by simp only [Cells]; refine ⟨?_, ?_, trivial⟩ <;> go_simp)) (fun Y F hY hF => ?_)
    simp only [List.take_succ_cons, List.take_zero, List.drop_succ_cons, List.drop_zero]
    repeat
      apply wpSteady_value (by first | rfl | (rw [hY]; rfl))
      · intro w2 ⟨hB2, hk2⟩
        simp only [Cells] at hk2
        go_simp
        with_reducible rfl
      simp only [Act.put, List.setIfInBounds_toArray, List.set_cons_zero, List.set_cons_succ]
    refine hF.out _ (fun K w5 hK hS5 => ?_)
    have hb5 := hS5.1
    clear hF hY hS5 v0 v1 v2 v3 v4 v5 e0 c4 f4
    have z5 : w3.heap.size < w5.heap.size := by have := hb5.size; simp at this; omega
    have hne1 : ¬ w3.heap.size = G := by omega
    have hne3 : ¬ w.heap.size + 1 = G := by omega
    have hn5 := ownS (Hown3.out.alloc (Obj.cells #[.slice (some ⟨G, 0, none⟩) n cap2] 24)) hb5
    have f5 : w5.frozen? ⟨G, 33 * c + at', none⟩ = false := hn5.frozenAt _
    have c5 : w5.cell? ⟨G, 33 * c + at', none⟩ = some (.int .i64 u) := (hn5.cellAt (33 * c + at') (by omega)).trans Hx1.out
    have hout6 := ((Blk.new w3 [.slice (some ⟨G, 0, none⟩) n cap2] 24).step hb5).other G (33 * c + at') (.int .i64 Lu) hne1
    have hres6 := ((hres3.out.alloc (Obj.cells #[.slice (some ⟨G, 0, none⟩) n cap2] 24)).step hb5).other G (33 * c + at') (.int .i64 Lu) hne3
    have hown6 := (hn5.stored (33 * c + at') (.int .i64 Lu)).1
    have hB6 : Below w.heap.size w (w5.setCell ⟨G, 33 * c + at', none⟩ (.int .i64 Lu)) := (below_trans (by go_grown) hb5).setCell (show w.heap.size ≤ G by omega) _
    have Hout6 := Lib.hid hout6
    have Hres6 := Lib.hid hres6
    have Hown6 := Lib.hid hown6
    have HB6 := Lib.hid hB6
    clear hout6 hres6 hown6 hn5 hb5 hB6
    go_wp2_with fail
    refine OnlyK.mk (hK.out _ _ ?_)
    obtain ⟨w6, hw6⟩ : ∃ w6, w6 = w5.setCell ⟨G, 33 * c + at', none⟩ (.int .i64 Lu) := ⟨_, rfl⟩
    rw [← hw6] at Hout6 Hres6 Hown6 HB6 ⊢
    have z6 : w6.heap.size = w5.heap.size := by rw [hw6]; simp
    clear hw6 c5 f5 hK
    have p0 := Hout6.out.cell 0
    simp only [List.getElem?_cons_zero] at p0
    have c6 : w6.cell? ⟨G, 33 * c + at' + 1, none⟩ = some (.int .i64 v) := by
      have h1 := Hown6.out.cellAt (33 * c + at' + 1) (by omega)
      rw [h1, List.getElem?_set_ne (by omega)]
      exact Hx2.out
    have hB6 := HB6.out
    go_wp2
    obtain ⟨x1, x2, x3, x4, x5, x6⟩ := HX.out
    first | have e0 : IntKind.i64.wrap 0 = Bt := by rw [HBt.out]; rfl | have e0 : IntKind.i64.wrap 65535 = Bt := by rw [HBt.out]; rfl
    refine wp_region_steady 25 2 _ _ (Keeps w6 [(⟨w3.heap.size, 0, none⟩, .slice (some ⟨G, 0, none⟩) n cap2), (⟨G, 33 * c + at' + 1, none⟩, .int .i64 v)]) (by kernel_rfl) (List.take_append_drop 25 _).symm rfl rfl (by kernel_rfl) (Keeps.start (by simp only [Cells]; refine ⟨?_, ?_, trivial⟩ <;> go_simp)) (fun Y F hY hF => ?_)
    simp only [List.take_succ_cons, List.take_zero, List.drop_succ_cons, List.drop_zero]
    repeat
      apply wpSteady_value (by first | rfl | (rw [hY]; rfl))
      · intro w2 ⟨hB2, hk2⟩
        simp only [Cells] at hk2
        go_simp
        with_reducible rfl
      simp only [Act.put, List.setIfInBounds_toArray, List.set_cons_zero, List.set_cons_succ]
    refine hF.out _ (fun K w7 hK hS7 => ?_)
    have hb7 := hS7.1
    clear hF hY hS7 x1 x2 x3 x4 x5 x6 e0 c6 p0
    have z7 : w6.heap.size ≤ w7.heap.size := hb7.size
    have hn7 := ownS Hown6.out hb7
    have f7 : w7.frozen? ⟨G, 33 * c + at' + 1, none⟩ = false := hn7.frozenAt _
    have c7 : w7.cell? ⟨G, 33 * c + at' + 1, none⟩ = some (.int .i64 v) := by
      have h1 := hn7.cellAt (33 * c + at' + 1) (by omega)
      rw [h1, List.getElem?_set_ne (by omega)]
      exact Hx2.out
    have hout8 := (Hout6.out.step hb7).other G (33 * c + at' + 1) (.int .i64 Lv) hne1
    have hres8 := (Hres6.out.step hb7).other G (33 * c + at' + 1) (.int .i64 Lv) hne3
    have hown8 := (hn7.stored (33 * c + at' + 1) (.int .i64 Lv)).1
    have hB8 : Below w.heap.size w (w7.setCell ⟨G, 33 * c + at' + 1, none⟩ (.int .i64 Lv)) := (below_trans hB6 hb7).setCell (show w.heap.size ≤ G by omega) _
    have Hout8 := Lib.hid hout8
    have Hres8 := Lib.hid hres8
    have Hown8 := Lib.hid hown8
    have HB8 := Lib.hid hB8
    clear hout8 hres8 hown8 hn7 hb7 hB8
    go_wp2_with fail
    refine OnlyK.mk (hK.out _ _ ?_)
    obtain ⟨w8, hw8⟩ : ∃ w8, w8 = w7.setCell ⟨G, 33 * c + at' + 1, none⟩ (.int .i64 Lv) := ⟨_, rfl⟩
    rw [← hw8] at Hout8 Hres8 Hown8 HB8 ⊢
    have z8 : w8.heap.size = w7.heap.size := by rw [hw8]; simp
    clear hw8 c7 f7 hK
    have q0 := Hout8.out.cell 0
    have r0 := Hres8.out.cell 0
    have r1 := Hres8.out.free 0
    have r2 := (Hres8.out.set 0 (.slice (some ⟨G, 0, none⟩) n cap2)).cell 0
    simp only [List.set_cons_zero, List.getElem?_cons_zero] at q0 r0 r2
    have hown8 := Hown8.out
    rw [← Ints_set, ← Ints_set] at hown8
    have hne4 : ¬ G = w.heap.size + 1 := by omega
    have Hfin := Lib.hid (hown8.kept (grown_setCell w8 (w.heap.size + 1) 0 (.slice (some ⟨G, 0, none⟩) n cap2)) (.inr (by simp [Value.ownBlock]; exact hne4)))
    have hB8 := HB8.out
    clear hown8
    go_wp2
    refine bodyPost_ret (v := .tuple #[.agg #[.slice (some ⟨G, 0, none⟩) n cap2], .int .i64 0]) (by simp [results, Try.results20, go_sem, r2]) rfl ⟨_, rfl, ?_, ?_⟩
    · rw [Hupd.out]
      have hl : ((xs.set (33 * c + at') Lu).set (33 * c + at' + 1) Lv).length = n := by rw [List.length_set, List.length_set, Hn.out]
      refine ⟨some ⟨G, 0, none⟩, cap2, by rw [hl], by rw [hl]; exact hc1, hc2, ?_⟩
      exact Rd.of_owns Hfin.out
    · exact hB8.setCell (by simp) _

set_option maxHeartbeats 1000000 in
theorem refUpdate11_err (xs : List Int) (a : Option Addr) (cap : Nat) (c p bit rate : Int) (w : World) (hlen : xs.length ≤ cap) (hcap : cap ≤ 9223372036854775807) (hrd : Rd w a (Ints xs)) (he : S11.updE xs c p bit rate ≠ 0) :
    Calls Try.prog 20 #[.agg #[.slice a xs.length cap], .int .i64 c, .int .i64 p, .int .i64 bit, .int .i64 rate] w fun e w' =>
      ∃ V, e = .returned (.tuple #[V, .int .i64 (S11.updE xs c p bit rate)]) ∧ MapIs [] V w' ∧ Below w.heap.size w w' := by
  have HU := Lib.hid fun W (hb : Below w.heap.size w W) => refRow11_any xs a cap c p W (by omega) (hrd.step hb)
  have hways : (S11.usable xs c p ≠ 0 ∧ S11.updE xs c p bit rate = S11.usable xs c p) ∨ (S11.usable xs c p = 0 ∧ bit ≠ 0 ∧ bit ≠ 1 ∧ S11.updE xs c p bit rate = 1) ∨ (S11.usable xs c p = 0 ∧ bit = 0 ∧ (rate < 1 ∨ (¬ rate < 1 ∧ 255 < rate)) ∧ S11.updE xs c p bit rate = 2) ∨ (S11.usable xs c p = 0 ∧ bit = 1 ∧ (rate < 1 ∨ (¬ rate < 1 ∧ 255 < rate)) ∧ S11.updE xs c p bit rate = 2) := by
    unfold S11.updE at he ⊢
    by_cases hu : S11.usable xs c p = 0
    · rw [if_neg (by simpa using hu)] at he ⊢
      right
      by_cases hb : bit ≠ 0 ∧ bit ≠ 1
      · rw [if_pos hb]; left; exact ⟨hu, hb.1, hb.2, rfl⟩
      · rw [if_neg hb] at he ⊢
        right
        by_cases hr : rate < 1 ∨ 255 < rate
        · rw [if_pos hr]
          rcases (show bit = 0 ∨ bit = 1 by omega) with h | h
          · left; exact ⟨hu, h, by omega, rfl⟩
          · right; exact ⟨hu, h, by omega, rfl⟩
        · rw [if_neg hr] at he; exact absurd rfl he
    · rw [if_pos hu]; left; exact ⟨hu, rfl⟩
  clear hrd he
  generalize S11.updE xs c p bit rate = E at *
  generalize S11.usable xs c p = y at *
  generalize xs.length = n at *
  rcases hways with ⟨hy, rfl⟩ | ⟨rfl, hb1, hb2, rfl⟩ | ⟨rfl, rfl, hr | ⟨hr, hr'⟩, rfl⟩ | ⟨rfl, rfl, hr | ⟨hr, hr'⟩, rfl⟩
  · have hy2 : ((E : Int) != 0) = true := by simpa using hy
    clear hy
    go_enter Try.func20, Try.ntmps20
    go_wp2_with fail
    refine (HU.out _ (by go_grown)).mono ?_
    rintro e w1 ⟨rfl, hb1⟩
    have hB1 : Below w.heap.size w w1 := below_trans (by go_grown) hb1
    have z1 : w.heap.size ≤ w1.heap.size := hB1.size
    have hres : Blk w1 (w.heap.size + 1) [.slice none 0 0] 24 := by
      have h0 := (Blk.new (w.alloc (Obj.cells #[.slice a n cap] 24)) [.slice none 0 0] 24).step hb1
      simpa using h0
    have hs1 : w.heap.size + 1 < w1.heap.size := by have := hb1.size; simp at this; omega
    have r0 := hres.cell 0
    have r1 := hres.free 0
    have r2 := (hres.set 0 (.slice none 0 0)).cell 0
    simp only [List.set_cons_zero, List.getElem?_cons_zero] at r0 r2
    clear hres
    go_wp2
    refine bodyPost_ret (v := .tuple #[.agg #[.slice none 0 0], .int .i64 E]) (by simp [results, Try.results20, go_sem, r2]) rfl ⟨_, rfl, MapIs.nil _, ?_⟩
    exact hB1.setCell (by simp) _
  · have hq1 : ((bit : Int) != 0) = true := by simpa using hb1
    have hq2 : ((bit : Int) != 1) = true := by simpa using hb2
    clear hb1 hb2
    go_enter Try.func20, Try.ntmps20
    go_wp2_with fail
    refine (HU.out _ (by go_grown)).mono ?_
    rintro e w1 ⟨rfl, hb1⟩
    have hB1 : Below w.heap.size w w1 := below_trans (by go_grown) hb1
    have z1 : w.heap.size ≤ w1.heap.size := hB1.size
    have hres : Blk w1 (w.heap.size + 1) [.slice none 0 0] 24 := by
      have h0 := (Blk.new (w.alloc (Obj.cells #[.slice a n cap] 24)) [.slice none 0 0] 24).step hb1
      simpa using h0
    have hs1 : w.heap.size + 1 < w1.heap.size := by have := hb1.size; simp at this; omega
    have r0 := hres.cell 0
    have r1 := hres.free 0
    have r2 := (hres.set 0 (.slice none 0 0)).cell 0
    simp only [List.set_cons_zero, List.getElem?_cons_zero] at r0 r2
    clear hres
    go_wp2
    refine bodyPost_ret (v := .tuple #[.agg #[.slice none 0 0], .int .i64 1]) (by simp [results, Try.results20, go_sem, r2]) rfl ⟨_, rfl, MapIs.nil _, ?_⟩
    exact hB1.setCell (by simp) _
  · go_enter Try.func20, Try.ntmps20
    go_wp2_with fail
    refine (HU.out _ (by go_grown)).mono ?_
    rintro e w1 ⟨rfl, hb1⟩
    have hB1 : Below w.heap.size w w1 := below_trans (by go_grown) hb1
    have z1 : w.heap.size ≤ w1.heap.size := hB1.size
    have hres : Blk w1 (w.heap.size + 1) [.slice none 0 0] 24 := by
      have h0 := (Blk.new (w.alloc (Obj.cells #[.slice a n cap] 24)) [.slice none 0 0] 24).step hb1
      simpa using h0
    have hs1 : w.heap.size + 1 < w1.heap.size := by have := hb1.size; simp at this; omega
    have r0 := hres.cell 0
    have r1 := hres.free 0
    have r2 := (hres.set 0 (.slice none 0 0)).cell 0
    simp only [List.set_cons_zero, List.getElem?_cons_zero] at r0 r2
    clear hres
    go_wp2
    refine bodyPost_ret (v := .tuple #[.agg #[.slice none 0 0], .int .i64 2]) (by simp [results, Try.results20, go_sem, r2]) rfl ⟨_, rfl, MapIs.nil _, ?_⟩
    exact hB1.setCell (by simp) _
  · go_enter Try.func20, Try.ntmps20
    go_wp2_with fail
    refine (HU.out _ (by go_grown)).mono ?_
    rintro e w1 ⟨rfl, hb1⟩
    have hB1 : Below w.heap.size w w1 := below_trans (by go_grown) hb1
    have z1 : w.heap.size ≤ w1.heap.size := hB1.size
    have hres : Blk w1 (w.heap.size + 1) [.slice none 0 0] 24 := by
      have h0 := (Blk.new (w.alloc (Obj.cells #[.slice a n cap] 24)) [.slice none 0 0] 24).step hb1
      simpa using h0
    have hs1 : w.heap.size + 1 < w1.heap.size := by have := hb1.size; simp at this; omega
    have r0 := hres.cell 0
    have r1 := hres.free 0
    have r2 := (hres.set 0 (.slice none 0 0)).cell 0
    simp only [List.set_cons_zero, List.getElem?_cons_zero] at r0 r2
    clear hres
    go_wp2
    refine bodyPost_ret (v := .tuple #[.agg #[.slice none 0 0], .int .i64 2]) (by simp [results, Try.results20, go_sem, r2]) rfl ⟨_, rfl, MapIs.nil _, ?_⟩
    exact hB1.setCell (by simp) _
  · go_enter Try.func20, Try.ntmps20
    go_wp2_with fail
    refine (HU.out _ (by go_grown)).mono ?_
    rintro e w1 ⟨rfl, hb1⟩
    have hB1 : Below w.heap.size w w1 := below_trans (by go_grown) hb1
    have z1 : w.heap.size ≤ w1.heap.size := hB1.size
    have hres : Blk w1 (w.heap.size + 1) [.slice none 0 0] 24 := by
      have h0 := (Blk.new (w.alloc (Obj.cells #[.slice a n cap] 24)) [.slice none 0 0] 24).step hb1
      simpa using h0
    have hs1 : w.heap.size + 1 < w1.heap.size := by have := hb1.size; simp at this; omega
    have r0 := hres.cell 0
    have r1 := hres.free 0
    have r2 := (hres.set 0 (.slice none 0 0)).cell 0
    simp only [List.set_cons_zero, List.getElem?_cons_zero] at r0 r2
    clear hres
    go_wp2
    refine bodyPost_ret (v := .tuple #[.agg #[.slice none 0 0], .int .i64 2]) (by simp [results, Try.results20, go_sem, r2]) rfl ⟨_, rfl, MapIs.nil _, ?_⟩
    exact hB1.setCell (by simp) _
  · go_enter Try.func20, Try.ntmps20
    go_wp2_with fail
    refine (HU.out _ (by go_grown)).mono ?_
    rintro e w1 ⟨rfl, hb1⟩
    have hB1 : Below w.heap.size w w1 := below_trans (by go_grown) hb1
    have z1 : w.heap.size ≤ w1.heap.size := hB1.size
    have hres : Blk w1 (w.heap.size + 1) [.slice none 0 0] 24 := by
      have h0 := (Blk.new (w.alloc (Obj.cells #[.slice a n cap] 24)) [.slice none 0 0] 24).step hb1
      simpa using h0
    have hs1 : w.heap.size + 1 < w1.heap.size := by have := hb1.size; simp at this; omega
    have r0 := hres.cell 0
    have r1 := hres.free 0
    have r2 := (hres.set 0 (.slice none 0 0)).cell 0
    simp only [List.set_cons_zero, List.getElem?_cons_zero] at r0 r2
    clear hres
    go_wp2
    refine bodyPost_ret (v := .tuple #[.agg #[.slice none 0 0], .int .i64 2]) (by simp [results, Try.results20, go_sem, r2]) rfl ⟨_, rfl, MapIs.nil _, ?_⟩
    exact hB1.setCell (by simp) _
end Go.Proofs.Ytojdbhcgppcgkaa
