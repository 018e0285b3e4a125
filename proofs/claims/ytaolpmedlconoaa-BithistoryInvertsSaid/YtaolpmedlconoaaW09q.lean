/- What states (layer 9) makes: the map of all states. No condition. -/
import Derived.Test.YtaolpmedlconoaaW09l
import Derived.Maps.OwnSet
import Derived.DeepKeys4
set_option linter.unusedSimpArgs false
set_option linter.unusedVariables false
set_option linter.unusedSectionVars false
namespace Go.Proofs.Ytaolpmedlconoaa
open Go.RowKit Go.Maps

theorem lawLaid9 : laidOutB Try.prog = true := by kernel_rfl
theorem rowHist : (49 : TypeId) < Try.prog.types.size := of_decide_eq_true (by kernel_rfl)
theorem wideHist : (match Try.prog.underlying 49 with | some (.array _ _) | some (.struct _) => true | _ => false) = true := by rw [Try.underlying49]
theorem lawHist : Keyed Try.prog 49 := Keyed.of_law (deep_law_laid lawLaid9 (m := 3) (by omega) rowHist (by kernel_rfl) wideHist)
theorem cellsHist : Try.prog.cellsOf 49 = 3 := by kernel_rfl
theorem cellsInt9 : Try.prog.cellsOf 3 = 1 := by kernel_rfl
theorem zeroInt9 (w : World) : (zeroValue 3).run Try.prog w = .ok (.int .i64 0) w := by kernel_rfl

def S09.kl (z o l : Int) : Lit := .string (keyBytes [.int .i64 z, .int .i64 o, .int .i64 l])
theorem keyHist {z o l : Int} (hz : (Lit.int .i64 z).wf = true) (ho : (Lit.int .i64 o).wf = true) (hl : (Lit.int .i64 l).wf = true) : keyOf Try.prog 49 (.agg #[.int .i64 z, .int .i64 o, .int .i64 l]) = some (S09.kl z o l) := by
  obtain ⟨m, hm⟩ : ∃ m, Try.prog.types.size = m + 1 := ⟨_, (by kernel_rfl : Try.prog.types.size = 74 + 1)⟩
  have h1 : Try.prog.keyType 49 = true := by kernel_rfl
  have h2 : (Value.agg #[.int .i64 z, .int .i64 o, .int .i64 l]).formed Try.prog 49 = true := by simp [Value.formed, Try.underlying49, cellsHist]
  unfold keyOf
  rw [Try.underlying49]
  simp only [h1, h2, Bool.and_self, if_true, hm]
  simp [Program.keyLits, Try.underlying49, Try.underlying3, cellsHist, cellsInt9, hz, ho, hl, Value.cells, S09.kl]

theorem enterStates (args : Array Value) (w : World) : (callFunc 37 args).run Try.prog w = .ok (.enter 37 args) w := by kernel_rfl

theorem S09.wf_small {n : Int} (h0 : -1000 ≤ n) (h1 : n ≤ 1000) : (Lit.int .i64 n).wf = true := WalkArith.wf_i64 (by omega)

/-! The map, as a datum. -/
abbrev S09.Dat := DataW Unit
def S09.key (s : Nat) : Lit := S09.kl (S09.hz s) (S09.ho s) (S09.hl s)
def S09.D : Nat → S09.Dat
  | 0 => .map []
  | k + 1 => (S09.D k).put (S09.key k) (.lit (.int .i64 k))
theorem S09.D_map : ∀ k, IsMap (S09.D k)
  | 0 => isMap_empty
  | k + 1 => (S09.D_map k).put _ _
theorem S09.kl_key (z o l : Int) : WideAt.IsKeyLit (S09.kl z o l) := trivial
theorem S09.kl_inj {z o l z' o' l' : Int} (hz : (Lit.int .i64 z).wf = true) (ho : (Lit.int .i64 o).wf = true) (hl : (Lit.int .i64 l).wf = true) (hz' : (Lit.int .i64 z').wf = true) (ho' : (Lit.int .i64 o').wf = true) (hl' : (Lit.int .i64 l').wf = true)
    (e : S09.kl z o l = S09.kl z' o' l') : z = z' ∧ o = o' ∧ l = l' := by
  have h1 := keyHist hz ho hl
  have h2 := keyHist hz' ho' hl'
  rw [e] at h1
  have := lawHist.inj h1 h2
  simp at this
  exact this
theorem S09.key_key (s : Nat) : WideAt.IsKeyLit (S09.key s) := trivial
theorem S09.has_D (q : Lit) : ∀ n, has (S09.D n) q = true ↔ ∃ s, s < n ∧ S09.key s = q
  | 0 => by
    constructor
    · intro h; cases h
    · rintro ⟨s, h, _⟩; omega
  | n + 1 => by
    rw [show S09.D (n + 1) = (S09.D n).put (S09.key n) (.lit (.int .i64 n)) from rfl]
    by_cases e : q = S09.key n
    · subst e
      rw [has_put_same (S09.D_map n) (S09.key_key n)]
      exact ⟨fun _ => ⟨n, by omega, rfl⟩, fun _ => rfl⟩
    · rw [has_put_other e, S09.has_D q n]
      constructor
      · rintro ⟨s, h, hq⟩; exact ⟨s, by omega, hq⟩
      · rintro ⟨s, h, hq⟩
        refine ⟨s, ?_, hq⟩
        have : s ≠ n := fun hs => e (by rw [← hq, hs])
        omega
theorem S09.key_inj {s s' : Nat} (h : s < 215) (h' : s' < 215) (e : S09.key s = S09.key s') : s = s' := by
  have b := S09.h_bounds s
  have b' := S09.h_bounds s'
  obtain ⟨e1, e2, e3⟩ := S09.kl_inj (S09.wf_small (by omega) (by omega)) (S09.wf_small (by omega) (by omega)) (S09.wf_small (by omega) (by omega)) (S09.wf_small (by omega) (by omega)) (S09.wf_small (by omega) (by omega)) (S09.wf_small (by omega) (by omega)) e
  have p := S09.allStates_spec S09.state_place h
  have p' := S09.allStates_spec S09.state_place h'
  simp only [Bool.and_eq_true, decide_eq_true_eq] at p p'
  have f : S09.found s = true := decide_eq_true (by omega)
  have f' : S09.found s' = true := decide_eq_true (by omega)
  simp only [S09.hz, S09.ho, S09.hl, f, f', if_true, Int.toNat_natCast] at e1 e2 e3
  rw [← p.2, ← p'.2]
  have q2 : (S09.place s).2.1 = (S09.place s').2.1 := by omega
  have q3 : (S09.place s).2.2 = (S09.place s').2.2 := by omega
  have q1 : (S09.place s).1 = (S09.place s').1 := by omega
  rw [q1, q2, q3]
theorem S09.at_D (s : Nat) (z : S09.Dat) : ∀ n, s < n → n ≤ 215 → (S09.D n).atKey (S09.key s) z = .lit (.int .i64 s)
  | 0, h, _ => by omega
  | n + 1, h, hn => by
    rw [show S09.D (n + 1) = (S09.D n).put (S09.key n) (.lit (.int .i64 n)) from rfl]
    by_cases e : s = n
    · subst e; exact atKey_put_same (S09.D_map s) (S09.key_key s) _ _
    · rw [atKey_put_other (fun h' => e (S09.key_inj (by omega) (by omega) h'))]
      exact S09.at_D s z n (by omega) (by omega)
/-- What the whole map holds. -/
theorem S09.D_all {z o l : Int} (hz : (Lit.int .i64 z).wf = true) (ho : (Lit.int .i64 o).wf = true) (hl : (Lit.int .i64 l).wf = true) :
    has (S09.D 215) (S09.kl z o l) = S09.is z o l ∧ (S09.is z o l = true → (S09.D 215).atKey (S09.kl z o l) (.lit (.int .i64 0)) = .lit (.int .i64 (S09.idx z o l))) := by
  cases hi : S09.is z o l with
  | true =>
    obtain ⟨t', o', l', k1, k2, k3, rfl, rfl, rfl, k4, k5⟩ := S09.is_place hi
    have hc := S09.cnt_lt k1 k2 k3 k4
    obtain ⟨e1, e2, e3⟩ := S09.at_cnt k1 k2 k3 k4
    have hk : S09.key (S09.cnt t' o' l') = S09.kl ((t' : Int) - o') o' l' := by unfold S09.key; rw [e1, e2, e3]
    refine ⟨(S09.has_D _ 215).2 ⟨_, hc, hk⟩, fun _ => ?_⟩
    rw [← hk, S09.at_D _ _ 215 hc (Nat.le_refl _), k5]
  | false =>
    refine ⟨?_, fun h => by cases h⟩
    cases hh : has (S09.D 215) (S09.kl z o l) with
    | false => rfl
    | true =>
      obtain ⟨s, hs, e⟩ := (S09.has_D _ 215).1 hh
      have b := S09.h_bounds s
      obtain ⟨rfl, rfl, rfl⟩ := S09.kl_inj (S09.wf_small (by omega) (by omega)) (S09.wf_small (by omega) (by omega)) (S09.wf_small (by omega) (by omega)) hz ho hl e
      have p := S09.allStates_spec S09.state_place hs
      simp only [Bool.and_eq_true, decide_eq_true_eq] at p
      have f : S09.found s = true := decide_eq_true (by omega)
      have h1 := p.1.2
      unfold S09.ok at h1
      simp only [S09.hz, S09.ho, S09.hl, f, if_true, Int.toNat_natCast] at hi
      rw [h1] at hi
      cases hi

/-! The walk. -/
set_option maxHeartbeats 400000 in
theorem statesVisit09 (k bm B B0 : Nat) (z o l : Int) (w : World) (hm : Blk w bm [.map (some B)] 57) (hown : w.ownsMap Try.prog 49 (plainElem Try.prog 3) B k (S09.D k)) (hk : k ≤ 300)
    (hkey : S09.key k = S09.kl z o l) (b1 : -1000 ≤ z ∧ z ≤ 1000) (b2 : -1000 ≤ o ∧ o ≤ 1000) (b3 : -1000 ≤ l ∧ l ≤ 1000) (h1 : B0 ≤ B) (h3 : B0 ≤ w.heap.size) (hne : ¬ bm = B) :
    Calls Try.prog 37 #[.int .i64 k, S09.hist z o l, .pointer (some ⟨bm, 0, none⟩)] w fun e w' =>
      e = .returned (.bool true) ∧ Blk w' bm [.map (some B)] 57 ∧ w'.ownsMap Try.prog 49 (plainElem Try.prog 3) B (k + 1) (S09.D (k + 1)) ∧ Below B0 w w' := by
  have c1 := hm.cell 0
  have l1 := hm.lt
  simp only [List.getElem?_cons_zero] at c1
  have Hm := Lib.hid hm
  have Hown := Lib.hid hown
  have hkk := keyHist (S09.wf_small b1.1 b1.2) (S09.wf_small b2.1 b2.2) (S09.wf_small b3.1 b3.2)
  have Hkk := Lib.hid hkk
  have Hkey := Lib.hid hkey
  clear hm hown hkk hkey
  go_enter Try.func37, Try.ntmps37
  go_wp2_with (at_mapUpdate; refine wpList_mapUpdate_own _ rfl _ _ _ 57 rfl 49 3 lawHist Try.underlying57 _ B k _ rfl (Hown.out.alloc _) (by unfold maxLen; omega) _ _ _ rfl rfl Hkk.out _ [] (plainElem_int Try.underlying3 (WalkArith.wf_i64 (by omega))) ?_; intro w1 hown1 hgrow1)
  go_returns
  refine ⟨rfl, ?_, ?_, ?_⟩
  · have h5 := Hm.out.alloc (Obj.cells #[.int .i64 z, .int .i64 o, .int .i64 l] 49)
    unfold Blk at h5 ⊢
    rw [hgrow1.block bm (by simp; omega) (fun e => hne (by cases e; rfl))]
    exact h5
  · rw [show S09.D (k + 1) = (S09.D k).put (S09.key k) (.lit (.int .i64 k)) from rfl, Hkey.out]
    exact hown1
  · exact Below.grown ((Below.refl _ _).alloc h3 _) hgrow1 (by simp; omega) (fun j e => by cases e; exact h1)

def StatesInv (W : World) (B0 B bm : Nat) (k : Nat) (w : World) : Prop :=
  k ≤ 300 ∧ Blk w bm [.map (some B)] 57 ∧ w.ownsMap Try.prog 49 (plainElem Try.prog 3) B k (S09.D k) ∧ Below B0 W w

theorem statesVisits09 (W : World) (B0 B bm : Nat) (h1 : B0 ≤ B) (h3 : B0 ≤ W.heap.size) (hne : ¬ bm = B) :
    S09.Visits 37 #[.pointer (some ⟨bm, 0, none⟩)] (StatesInv W B0 B bm) (fun _ _ _ => true) := by
  intro t o l w ht ho hl hok ⟨hk, hm, hown, hB⟩
  have hc := S09.cnt_lt ht ho hl hok
  obtain ⟨e1, e2, e3⟩ := S09.at_cnt ht ho hl hok
  have hkey : S09.key (S09.cnt t o l) = S09.kl ((t : Int) - o) o l := by unfold S09.key; rw [e1, e2, e3]
  refine (statesVisit09 (S09.cnt t o l) bm B B0 ((t : Int) - o) o l w hm hown hk hkey (by omega) (by omega) (by omega) h1 (Nat.le_trans h3 hB.size) hne).mono ?_
  rintro e w' ⟨rfl, hm', hown', hB'⟩
  exact ⟨rfl, by omega, hm', hown', hB.trans hB'⟩

theorem ownsMap_step {w w' : World} {k : TypeId} {R : Value → Option (S09.Dat × List MemPlace)} {b n : Nat} {D : S09.Dat} (h : w.ownsMap Try.prog k R b n D) (hb : Below w.heap.size w w') : w'.ownsMap Try.prog k R b n D := by
  obtain ⟨es, clock, hh, r⟩ := h
  exact ⟨es, clock, (hb.block b (Array.getElem?_eq_some_iff.1 hh).1).trans hh, r⟩

set_option maxHeartbeats 400000 in
theorem states09_any (w : World) :
    Calls Try.prog 32 #[] w fun e w' => ∃ B, e = .returned (.map (some B)) ∧ w'.ownsMap Try.prog 49 (plainElem Try.prog 3) B 215 (S09.D 215) ∧ Below w.heap.size w w' := by
  have hmm := @run_makeMap Try.prog
  obtain ⟨W, hW⟩ : ∃ W, W = (w.alloc (.map #[] 0)).alloc (Obj.cells #[.map (some w.heap.size)] 57) := ⟨_, rfl⟩
  have hBW : Below w.heap.size w W := by rw [hW]; exact ((Below.refl _ _).alloc (Nat.le_refl _) _).alloc (by simp) _
  have hinv : StatesInv W w.heap.size w.heap.size (w.heap.size + 1) 0 W := by
    rw [hW]
    refine ⟨by omega, ?_, (World.ownsMap_made _ _ _ _).alloc _, Below.refl _ _⟩
    have := Blk.new (w.alloc (.map #[] 0)) [.map (some w.heap.size)] 57
    simpa using this
  have hcall := each09_any 37 enterStates _ _ _ ?hst (statesVisits09 W w.heap.size w.heap.size (w.heap.size + 1) (Nat.le_refl _) hBW.size (by omega)) _ hinv
  case hst =>
    rintro k w1 w2 ⟨g0, g1, g2, g3⟩ hb
    exact ⟨g0, g1.step hb, ownsMap_step g2 hb, g3.trans (hb.mono (Nat.le_trans hBW.size g3.size))⟩
  have Hcall := Lib.hid hcall
  rw [hW] at Hcall
  have HBW := Lib.hid hBW
  have HW := Lib.hid hW
  clear hcall hinv hBW hW
  go_enter Try.func32, Try.ntmps32
  go_wp2_with fail
  refine Hcall.out.mono ?_
  rintro e w1 ⟨rfl, hvis⟩
  have hend : StatesInv ((w.alloc (.map #[] 0)).alloc (Obj.cells #[.map (some w.heap.size)] 57)) w.heap.size w.heap.size (w.heap.size + 1) 215 w1 := by
    rcases hvis with h | ⟨_, _, _, _, _, _, _, h, _⟩
    · exact h
    · cases h
  obtain ⟨_, hm, hown, hB⟩ := hend
  have c1 := hm.cell 0
  simp only [List.getElem?_cons_zero] at c1
  have hBw : Below w.heap.size w w1 := (HW.out ▸ HBW.out : Below w.heap.size w _).trans hB
  have Hown := Lib.hid hown
  clear hvis hm hown hB
  go_wp2
  go_returns
  exact ⟨_, rfl, Hown.out, hBw⟩
end Go.Proofs.Ytaolpmedlconoaa
