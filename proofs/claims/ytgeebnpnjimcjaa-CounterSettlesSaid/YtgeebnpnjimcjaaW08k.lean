/- The law CounterSettles at every input. No condition. -/
import Derived.Test.YtgeebnpnjimcjaaW08i
import Derived.Test.YtgeebnpnjimcjaaBase4
import Derived.Test.YtgeebnpnjimcjaaSpec08b
set_option linter.unusedSimpArgs false
set_option linter.unusedVariables false
set_option linter.unusedSectionVars false
namespace Go.Proofs.Ytgeebnpnjimcjaa
open Go.RowKit

/-- 400 zeros bring P down to limit + 1. -/
theorem S08.settle_down {L : Nat} (h1 : 1 ≤ L) (h2 : L ≤ 20) (c : Int × Int) (hc : 0 ≤ c.1 ∧ c.1 ≤ 65535 ∧ 0 ≤ c.2 ∧ c.2 ≤ L) : ((List.replicate 400 false).foldl (S08.next L) c).1 ≤ L + 1 := by
  have key : ∀ (k : Nat) (p n : Nat), n ≤ L → ((List.replicate k false).foldl (S08.next L) ((p : Int), (n : Int))).1 ≤ S08.slow L k p := by
    intro k
    induction k with
    | zero => intro p n _; exact Int.le_refl _
    | succ k ih =>
      intro p n hn
      have hd := S08.down_slow (L := L) (p := p) (n := n) hn
      have e1 : S08.next L ((p : Int), (n : Int)) false = (((p - 2 * p / (2 * n + 3) : Nat) : Int), ((min (n + 1) L : Nat) : Int)) := by
        refine Prod.ext ?_ ?_
        · exact hd.1
        · simp only [S08.next]; omega
      rw [List.replicate_succ, List.foldl_cons, e1]
      refine Int.le_trans (ih _ _ (by omega)) ?_
      exact Int.ofNat_le.2 (S08.slow_mono L k hd.2)
  obtain ⟨p, n⟩ := c
  obtain ⟨hp, hp', hn, hn'⟩ := hc
  simp only at hp hp' hn hn'
  obtain ⟨p, rfl⟩ := Int.eq_ofNat_of_zero_le hp
  obtain ⟨n, rfl⟩ := Int.eq_ofNat_of_zero_le hn
  refine Int.le_trans (key 400 p n (by omega)) ?_
  have h3 := S08.slow_mono L 400 (p := p) (q := 65535) (by omega)
  have h4 := S08.slow_all L (by omega)
  omega
theorem S08.run_append (p limit : Int) (xs ys : List Bool) : S08.run p limit (xs ++ ys) = ys.foldl (S08.next limit) (S08.run p limit xs) := by simp [S08.run]
theorem S08.run_zeros {p : Int} {L : Nat} (hp : 0 ≤ p) (hp' : p ≤ 65535) (h1 : 1 ≤ L) (h2 : L ≤ 20) (bs : List Bool) : (S08.run p L (bs ++ List.replicate 400 false)).1 ≤ L + 1 := by
  rw [S08.run_append]
  exact S08.settle_down h1 h2 _ (S08.run_ok hp hp' (by omega) bs)
theorem S08.run_ones {p : Int} {L : Nat} (hp : 0 ≤ p) (hp' : p ≤ 65535) (h1 : 1 ≤ L) (h2 : L ≤ 20) (bs : List Bool) : 65534 - (L : Int) ≤ (S08.run p L (bs ++ List.replicate 400 true)).1 := by
  have hm := S08.run_mirror p L (bs ++ List.replicate 400 true)
  have hz := S08.run_zeros (p := 65535 - p) (by omega) (by omega) h1 h2 (bs.map (!·))
  have e : (bs ++ List.replicate 400 true).map (!·) = bs.map (!·) ++ List.replicate 400 false := by rw [List.map_append, List.map_replicate]; rfl
  rw [e] at hm
  rw [hm] at hz
  omega

/-- Some bits, and k of one value behind them. -/
def tailed (bs : List Bool) (k : Nat) (b : Bool) : List Bool := bs ++ List.replicate k b
theorem tailed_length (bs : List Bool) (k : Nat) (b : Bool) : (tailed bs k b).length = bs.length + k := by simp [tailed]
theorem tailed_snoc (bs : List Bool) (k : Nat) (b : Bool) : Bools (tailed bs k b) ++ [.bool b] = Bools (tailed bs (k + 1) b) := by
  simp [tailed, Bools, List.replicate_succ', List.append_assoc]

/-- Two slices of the call's own that lie in different blocks. -/
def Apart (v v' : Value) : Prop := ∀ k, v.ownBlock = some k → v'.ownBlock ≠ some k
theorem Apart.symm {v v' : Value} (h : Apart v v') : Apart v' v := fun k e e' => h k e' e
theorem Apart.kept {v v' : Value} (h : Apart v v') : v.ownBlock = none ∨ v.ownBlock ≠ v'.ownBlock := by
  cases e : v.ownBlock with
  | none => exact .inl rfl
  | some k => exact .inr (fun e' => h k e e'.symm)
/-- Behind an append to v (whose result is u), v' lies apart from it: v' was there before. -/
theorem Apart.after {v v' u : Value} {w W : World} {base : Nat} {e : TypeId} {size n : Nat} {xs : List Value} (h : Apart v v') (ho : w.ownsRow base e size v' n xs) (hs : w.heap.size ≤ W.heap.size)
    (hat : u.ownBlock = v.ownBlock ∨ u.ownBlock = some W.heap.size) : Apart u v' := fun k hk hk' => by
  rcases hat with h1 | h1
  · exact h k (h1 ▸ hk) hk'
  · rw [h1] at hk
    cases hk
    have := (ho.lt _ hk').2
    omega

set_option maxHeartbeats 1000000 in
theorem counterSettles_any (p l : Int) (a : Option Addr) (bs : List Bool) (cap : Nat) (w : World) (hp : 0 ≤ p) (hp' : p ≤ 65535) (hl : 0 ≤ l) (hl' : l ≤ 255) (hlen : bs.length ≤ 9223372036854775807)
    (hrd : Rd w a (Bools bs)) :
    Calls Try.prog 8 #[.int .u16 p, .slice a bs.length cap, .int .u8 l] w fun e w' => e = .returned (.bool true) ∧ Below w.heap.size w w' := by
  by_cases hlong : 100 < bs.length
  · have hl3 : (100 : Int) < (bs.length : Int) := by omega
    go_enter Try.func8, Try.ntmps8
    go_wp2_with fail
    refine (awake08_any _).mono ?_
    rintro e w1 ⟨rfl, hb1⟩
    have hB1 : Below w.heap.size w w1 := below_trans (by go_grown) hb1
    have z1 : w.heap.size ≤ w1.heap.size := hB1.size
    go_wp2
    go_returns
    exact ⟨rfl, hB1⟩
  · have hl3 : ¬ (100 : Int) < (bs.length : Int) := by omega
    have hcells : ∀ u ∈ Bools bs, u.oneCell' = true := by intro u hu; simp only [Bools, List.mem_map] at hu; obtain ⟨x, _, rfl⟩ := hu; rfl
    have hrd' := Lib.hid (hrd.step ((Below.refl w.heap.size w).alloc (Nat.le_refl _) (Obj.cells #[] 4)))
    go_enter Try.func8, Try.ntmps8
    go_wp2_with first | (at_builtin; refine wpList_append_at_rd (.tmp 23) (.tmp 24) 37 4 1 1 _ w.heap.size elems_bools rfl rfl (.slice (some ⟨w.heap.size, 0, none⟩) 0 0) 0 [] rfl (World.ownsRow_made w #[] 0 (Nat.le_refl _) (by decide) rfl) a bs.length cap (Bools bs) rfl (by simp [Bools]) hrd'.out hcells (by unfold maxLen; omega) (by omega) (by simp) ?_; intro a2 cap2 w2 hown2 hgrow2 hat2; have hB2 : Below w.heap.size w w2 := Below.grown (by go_grown) hgrow2 (by simp) (fun k e => by cases e; exact Nat.le_refl _); have z2 : w.heap.size ≤ w2.heap.size := hB2.size; have hrd2 := Lib.hid ((hrd.step hB2).step ((Below.refl w2.heap.size w2).alloc (Nat.le_refl _) (Obj.cells #[] 4))); simp only [Nat.zero_add, List.nil_append] at hown2; have Hown2 := Lib.hid hown2; clear hown2 hgrow2 hat2) | (at_builtin; refine wpList_append_at_rd (.tmp 26) (.tmp 27) 37 4 1 1 _ w.heap.size elems_bools rfl rfl (.slice (some ⟨w2.heap.size, 0, none⟩) 0 0) 0 [] rfl (World.ownsRow_made w2 #[] 0 z2 (by decide) rfl) a bs.length cap (Bools bs) rfl (by simp [Bools]) hrd2.out hcells (by unfold maxLen; omega) (by omega) (by simp; omega) ?_; intro a3 cap3 w3 hown3 hgrow3 hat3)
    simp only [Nat.zero_add, List.nil_append] at hown3 hat3
    have hB3 : Below w.heap.size w w3 := Below.grown (by go_grown) hgrow3 (by simp; omega) (fun k e => by cases e; exact z2)
    have hap0 : Apart (.slice (some ⟨w2.heap.size, 0, none⟩) 0 0) (.slice a2 bs.length cap2) := fun k hk hk' => by
      cases hk
      have h5 : w2.heap.size < w2.heap.size := (Hown2.out.lt _ hk').2
      omega
    have hown23 := (Hown2.out.alloc (Obj.cells #[] 4)).kept hgrow3 hap0.symm.kept
    have hap : Apart (.slice a3 bs.length cap3) (.slice a2 bs.length cap2) := Apart.after (W := w2.alloc (Obj.cells #[] 4)) hap0 Hown2.out (by simp) hat3
    have Hown3 := Lib.hid hown3
    have Hown23 := Lib.hid hown23
    clear hown3 hown23 hap0 hgrow3 hat3
    have z3 : w.heap.size ≤ w3.heap.size := hB3.size
    go_loopw [8, 9, 10] (fun v8 v9 i wr => ∃ (k : Nat) (a8 : Option Addr) (c8 : Nat) (a9 : Option Addr) (c9 : Nat), k ≤ 400 ∧ i = .int .i64 k ∧ v8 = .slice a8 (bs.length + k) c8 ∧ v9 = .slice a9 (bs.length + k) c9 ∧
        wr.ownsRow w.heap.size 4 1 (.slice a8 (bs.length + k) c8) (bs.length + k) (Bools (tailed bs k true)) ∧ wr.ownsRow w.heap.size 4 1 (.slice a9 (bs.length + k) c9) (bs.length + k) (Bools (tailed bs k false)) ∧
        Apart (.slice a9 (bs.length + k) c9) (.slice a8 (bs.length + k) c8) ∧ Below w.heap.size w wr)
      (fun _ _ i _ => 400 - (intOf i).toNat)
    case atStart => exact ⟨0, a2, cap2, a3, cap3, by omega, rfl, rfl, rfl, by simpa [tailed] using Hown23.out, by simpa [tailed] using Hown3.out, hap, hB3⟩
    case round =>
      obtain ⟨k, a8, c8, a9, c9, hk, rfl, rfl, rfl, hown8, hown9, hap', hB⟩ := hrel
      have zr : w.heap.size ≤ wr.heap.size := hB.size
      have Hap := Lib.hid hap'
      have Hown8 := Lib.hid hown8
      have Hown9 := Lib.hid hown9
      clear hap' hown8 hown9 hap
      by_cases hlt : k < 400
      · have hl4 : (k : Int) < 400 := by omega
        go_wp2_with first | (at_builtin; refine wpList_append_at_rd (.tmp 33) (.tmp 34) 37 4 1 1 _ w.heap.size elems_bools rfl rfl (.slice a8 (bs.length + k) c8) (bs.length + k) (Bools (tailed bs k true)) rfl (Hown8.out.alloc _) (some ⟨wr.heap.size, 0, none⟩) 1 1 [.bool true] rfl rfl (Rd.new wr [.bool true] 4) (by simp [Value.oneCell']) (by unfold maxLen; omega) (by omega) (by simp; omega) ?_; intro a8' c8' w4 hown4 hgrow4 hat4; have hB4 : Below w.heap.size w w4 := Below.grown (by go_grown) hgrow4 (by simp; omega) (fun k e => (Hown8.out.lt k e).1); have z4 : w.heap.size ≤ w4.heap.size := hB4.size; rw [tailed_snoc] at hown4; have Hown4 := Lib.hid hown4; have Hown94 := Lib.hid ((Hown9.out.alloc (Obj.cells #[.bool true] 4)).kept hgrow4 Hap.out.kept); have Hap4 := Lib.hid (Apart.after (W := wr.alloc (Obj.cells #[.bool true] 4)) Hap.out.symm Hown9.out (by simp) hat4); clear hown4 hgrow4 hat4) | (at_builtin; refine wpList_append_at_rd (.tmp 36) (.tmp 37) 37 4 1 1 _ w.heap.size elems_bools rfl rfl (.slice a9 (bs.length + k) c9) (bs.length + k) (Bools (tailed bs k false)) rfl (Hown94.out.alloc _) (some ⟨w4.heap.size, 0, none⟩) 1 1 [.bool false] rfl rfl (Rd.new w4 [.bool false] 4) (by simp [Value.oneCell']) (by unfold maxLen; omega) (by omega) (by simp; omega) ?_; intro a9' c9' w5 hown5 hgrow5 hat5; have hB5 : Below w.heap.size w w5 := Below.grown (by go_grown) hgrow5 (by simp; omega) (fun k e => (Hown94.out.lt k e).1); rw [tailed_snoc] at hown5; have Hown5 := Lib.hid hown5; have Hown85 := Lib.hid ((Hown4.out.alloc (Obj.cells #[.bool false] 4)).kept hgrow5 Hap4.out.kept); have Hap5 := Lib.hid (Apart.after (W := w4.alloc (Obj.cells #[.bool false] 4)) Hap4.out.symm Hown4.out (by simp) hat5); clear hown5 hgrow5 hat5)
        go_roundw
        case rel => exact ⟨k + 1, a8', c8', a9', c9', by omega, by go_num, by rw [Nat.add_assoc], by rw [Nat.add_assoc], by rw [← Nat.add_assoc]; exact Hown85.out, by rw [← Nat.add_assoc]; exact Hown5.out, by rw [← Nat.add_assoc]; exact Hap5.out, hB5⟩
        case measure => simp [intOf]; omega
      · obtain rfl : k = 400 := by omega
        have hrd8 : Rd wr a8 (Bools (tailed bs 400 true)) := Rd.of_owns Hown8.out
        have hrd9 : Rd wr a9 (Bools (tailed bs 400 false)) := Rd.of_owns Hown9.out
        obtain ⟨L, hL⟩ : ∃ L : Nat, (L : Int) = 1 + l % 20 := ⟨(1 + l % 20).toNat, by omega⟩
        have hL1 : 1 ≤ L := by omega
        have hL2 : L ≤ 20 := by omega
        have hones := S08.run_ones hp hp' hL1 hL2 bs
        have hzeros := S08.run_zeros hp hp' hL1 hL2 bs
        rw [hL] at hones hzeros
        have hok9 := S08.run_ok (limit := 1 + l % 20) hp hp' (by omega) (tailed bs 400 false)
        have hl8 : (tailed bs 400 true).length = bs.length + 400 := tailed_length _ _ _
        have hl9 : (tailed bs 400 false).length = bs.length + 400 := tailed_length _ _ _
        have hA8 := after08_any p (1 + l % 20) a8 (tailed bs 400 true) c8 wr hp hp' (by omega) (by omega) (by omega) hrd8
        rw [hl8] at hA8
        have HA8 := Lib.hid hA8
        have hA9 : ∀ w3, Below wr.heap.size wr w3 → ∀ o, Calls Try.prog 19 #[.int .u16 p, .slice a9 (bs.length + 400) c9, .int .i64 (1 + l % 20)] (w3.alloc o) fun e w' => e = .returned (.tuple #[.agg #[.int .i64 (S08.run p (1 + l % 20) (tailed bs 400 false)).1, .int .i64 (S08.run p (1 + l % 20) (tailed bs 400 false)).2], .bool true]) ∧ Below (w3.alloc o).heap.size (w3.alloc o) w' :=
          fun w3 hb o => by
            have := after08_any p (1 + l % 20) a9 (tailed bs 400 false) c9 (w3.alloc o) hp hp' (by omega) (by omega) (by omega) ((hrd9.step hb).step ((Below.refl w3.heap.size w3).alloc (Nat.le_refl _) o))
            rwa [hl9] at this
        have HA9 := Lib.hid hA9
        have hpp := S08.predict_pos hok9.1 hok9.2.1 hok9.2.2.1
        clear hA8 hA9 hrd8 hrd9 hl8 hl9 hL hL1 hL2
        simp only [tailed] at *
        generalize hx : (S08.run p (1 + l % 20) (bs ++ List.replicate 400 true)).1 = P at *
        generalize hx' : (S08.run p (1 + l % 20) (bs ++ List.replicate 400 true)).2 = N at *
        generalize hy : (S08.run p (1 + l % 20) (bs ++ List.replicate 400 false)).1 = P2 at *
        generalize hy' : (S08.run p (1 + l % 20) (bs ++ List.replicate 400 false)).2 = N2 at *
        clear hx hx' hy hy'
        go_wp2_with fail
        refine HA8.out.mono ?_
        rintro e w4 ⟨rfl, hb4⟩
        have hB4 : Below w.heap.size w w4 := below_trans hB hb4
        have z4 : w.heap.size ≤ w4.heap.size := hB4.size
        go_wp2_with fail
        refine (HA9.out _ hb4 _).mono ?_
        rintro e w5 ⟨rfl, hb5⟩
        have hB5 : Below w.heap.size w w5 := below_trans (by go_grown) hb5
        have z5 : w.heap.size ≤ w5.heap.size := hB5.size
        have s45 : w4.heap.size < w5.heap.size := by have := hb5.size; simp at this; omega
        have k1 : w5.cell? ⟨w4.heap.size, 0, none⟩ = some (.int .i64 P) := (hb5.cell (by simp <;> omega)).trans (by go_simp)
        have k2 : w5.cell? ⟨w4.heap.size, 1, none⟩ = some (.int .i64 N) := (hb5.cell (by simp <;> omega)).trans (by go_simp)
        go_wp2_with fail
        refine (awake08_any _).mono ?_
        rintro e w6 ⟨rfl, hb6⟩
        have hB6 : Below w.heap.size w w6 := below_trans (by go_grown) hb6
        have z6 : w.heap.size ≤ w6.heap.size := hB6.size
        have k3 : w6.cell? ⟨w4.heap.size, 0, none⟩ = some (.int .i64 P) := (hb6.cell (by simp <;> omega)).trans (by go_simp)
        have k4 : w6.cell? ⟨w4.heap.size, 1, none⟩ = some (.int .i64 N) := (hb6.cell (by simp <;> omega)).trans (by go_simp)
        have k5 : w6.cell? ⟨w5.heap.size, 0, none⟩ = some (.int .i64 P2) := (hb6.cell (by simp <;> omega)).trans (by go_simp)
        have k6 : w6.cell? ⟨w5.heap.size, 1, none⟩ = some (.int .i64 N2) := (hb6.cell (by simp <;> omega)).trans (by go_simp)
        have hge : decide (65534 - (1 + l % 20) ≤ P) = true := by simp; omega
        have hle : decide (P2 ≤ 1 + l % 20 + 1) = true := by simp; omega
        go_wp2_with fail
        refine (predict08_any _ _ _).mono ?_
        rintro e w7 ⟨rfl, hb7⟩
        have hB7 : Below w.heap.size w w7 := below_trans (by go_grown) hb7
        go_wp2
        go_returns
        exact ⟨rfl, hB7⟩

end Go.Proofs.Ytgeebnpnjimcjaa
