/- What Count and rank (layer 9) return. No condition. -/
import Derived.Test.YtgbjckjfjoiilaaW09e
set_option linter.unusedSimpArgs false
set_option linter.unusedVariables false
set_option linter.unusedSectionVars false
namespace Go.Proofs.Ytgbjckjfjoiilaa
open Go.RowKit

/-! Count. -/
theorem countVisit09 (n z o l : Int) (c : Nat) (bc B : Nat) (w : World) (hc : Blk w bc [.int .i64 c] 3) (h1 : B ≤ bc) (h3 : B ≤ w.heap.size) (hlt : c ≤ 1000) :
    Calls Try.prog 61 #[.int .i64 n, S09.hist z o l, .pointer (some ⟨bc, 0, none⟩)] w fun e w' =>
      e = .returned (.bool true) ∧ Blk w' bc [.int .i64 (c + 1 : Nat)] 3 ∧ Below B w w' := by
  have c1 := hc.cell 0
  have f1 := hc.free 0
  have l1 := hc.lt
  simp only [List.getElem?_cons_zero] at c1
  have Hc := Lib.hid hc
  clear hc
  go_enter Try.func61, Try.ntmps61
  go_wp2
  go_returns
  exact ⟨rfl, ((Hc.out.set 0 _).alloc _), ((Below.refl _ _).setCell h1 _).alloc (by simp; omega) _⟩

def CountInv (W : World) (B bc : Nat) (k : Nat) (w : World) : Prop := k ≤ 500 ∧ Blk w bc [.int .i64 k] 3 ∧ Below B W w

theorem countVisits09 (W : World) (B bc : Nat) (h1 : B ≤ bc) (h3 : B ≤ W.heap.size) :
    S09.Visits 61 #[.pointer (some ⟨bc, 0, none⟩)] (CountInv W B bc) (fun _ _ _ => true) := by
  intro t o l w ht ho hl hok ⟨hk, hc, hB⟩
  have := S09.cnt_lt ht ho hl hok
  refine (countVisit09 (S09.cnt t o l) ((t : Int) - o) o l (S09.cnt t o l) bc B w hc h1 (Nat.le_trans h3 hB.size) (by omega)).mono ?_
  rintro e w' ⟨rfl, hc', hB'⟩
  exact ⟨rfl, by omega, hc', hB.trans hB'⟩

set_option maxHeartbeats 400000 in
theorem count09_any (w : World) :
    Calls Try.prog 31 #[] w fun e w' => e = .returned (.int .i64 215) ∧ Below w.heap.size w w' := by
  have hinv : CountInv (w.alloc (Obj.cells #[.int .i64 0] 3)) w.heap.size w.heap.size 0 (w.alloc (Obj.cells #[.int .i64 0] 3)) :=
    ⟨by omega, Blk.new w [.int .i64 0] _, Below.refl _ _⟩
  have hcall := each09_any 61 enterCount _ _ _ ?hst (countVisits09 _ w.heap.size w.heap.size (Nat.le_refl _) (by simp)) _ hinv
  case hst =>
    rintro k w1 w2 ⟨g0, g1, g2⟩ hb
    exact ⟨g0, g1.step hb, g2.trans (hb.mono (Nat.le_trans (by simp) g2.size))⟩
  have Hcall := Lib.hid hcall
  clear hcall hinv
  go_enter Try.func31, Try.ntmps31
  go_wp2_with fail
  refine Hcall.out.mono ?_
  rintro e w1 ⟨rfl, hvis⟩
  have hend : CountInv (w.alloc (Obj.cells #[.int .i64 0] 3)) w.heap.size w.heap.size 215 w1 := by
    rcases hvis with h | ⟨_, _, _, _, _, _, _, h, _⟩
    · exact h
    · cases h
  have c1 := hend.2.1.cell 0
  simp only [List.getElem?_cons_zero] at c1
  have hBw : Below w.heap.size w w1 := (by go_grown : Below w.heap.size w _).trans hend.2.2
  clear hvis hend
  go_wp2
  go_returns
  exact ⟨rfl, hBw⟩

/-! rank. -/
theorem S09.is_place {z o l : Int} (h : S09.is z o l = true) : ∃ t' o' l' : Nat, t' ≤ 30 ∧ o' ≤ t' ∧ l' < 2 ∧ z = (t' : Int) - o' ∧ o = o' ∧ l = l' ∧ S09.ok t' o' l' = true ∧ S09.idx z o l = S09.cnt t' o' l' := by
  have h0 := h
  have hi : S09.idx z o l = S09.cnt (z + o).toNat o.toNat l.toNat := by simp [S09.idx, h]
  simp only [S09.is, Bool.and_eq_true] at h
  obtain ⟨hr, hl⟩ := h
  have hr' := of_decide_eq_true hr
  have hsum : z + o ≤ 30 := by
    have h5 := hr'.2.2.1
    have h6 := hr'.2.2.2
    unfold S09.bound at h6
    (repeat' split at h6) <;> omega
  have hl2 : l = 0 ∨ l = 1 := by
    split at hl
    · simp at hl; omega
    · simp at hl; omega
  obtain ⟨h1, h2, h3, h4⟩ := S09.rallowed_bounds hr
  refine ⟨(z + o).toNat, o.toNat, l.toNat, by omega, by omega, by omega, by omega, by omega, by omega, ?_, hi⟩
  unfold S09.ok
  rw [show (((z + o).toNat : Nat) : Int) - o.toNat = z by omega, show ((o.toNat : Nat) : Int) = o by omega, show ((l.toNat : Nat) : Int) = l by omega]
  exact h0
theorem S09.place_inj {t o l t' o' l' : Nat} (ht : t ≤ 30) (ho : o ≤ t) (hl : l < 2) (h : S09.ok t o l = true) (ht' : t' ≤ 30) (ho' : o' ≤ t') (hl' : l' < 2) (h' : S09.ok t' o' l' = true)
    (e : S09.cnt t o l = S09.cnt t' o' l') : t = t' ∧ o = o' ∧ l = l' := by
  have h1 := (S09.at_place ht ho hl h).2
  have h2 := (S09.at_place ht' ho' hl' h').2
  rw [e, h2] at h1
  cases h1
  exact ⟨rfl, rfl, rfl⟩
theorem S09.cL_mono (t o b : Nat) : ∀ l, b ≤ S09.cL t o b l
  | 0 => Nat.le_refl _
  | l + 1 => by have := S09.cL_mono t o b l; simp only [S09.cL]; omega
theorem S09.cL_two (t o b l : Nat) (hl : l < 2) : S09.cL t o b l ≤ S09.cL t o b 2 := by
  rcases (show l = 0 ∨ l = 1 by omega) with rfl | rfl
  · simp only [S09.cL]; omega
  · simp only [S09.cL]; omega
theorem S09.cO_mono (t b : Nat) : ∀ {o o' : Nat}, o ≤ o' → S09.cO t b o ≤ S09.cO t b o' := by
  intro o o' h
  induction o' with
  | zero => obtain rfl : o = 0 := by omega
            exact Nat.le_refl _
  | succ o' ih =>
    by_cases h2 : o = o' + 1
    · subst h2; exact Nat.le_refl _
    · have := ih (by omega)
      have := S09.cL_mono t o' (S09.cO t b o') 2
      simp only [S09.cO]; omega
theorem S09.cT_mono : ∀ {t t' : Nat}, t ≤ t' → S09.cT t ≤ S09.cT t' := by
  intro t t' h
  induction t' with
  | zero => obtain rfl : t = 0 := by omega
            exact Nat.le_refl _
  | succ t' ih =>
    by_cases h2 : t = t' + 1
    · subst h2; exact Nat.le_refl _
    · have := ih (by omega)
      have h3 := S09.cO_mono t' (S09.cT t') (Nat.zero_le (t' + 1))
      have h4 : S09.cO t' (S09.cT t') 0 = S09.cT t' := rfl
      have h5 : S09.cT (t' + 1) = S09.cO t' (S09.cT t') (t' + 1) := rfl
      omega
theorem S09.cnt_total {t o l t' o' l' : Nat} (hlt : t < t') (ho : o ≤ t) (hl : l < 2) : S09.cnt t o l ≤ S09.cnt t' o' l' := by
  have h1 : S09.cnt t o l ≤ S09.cO t (S09.cT t) (o + 1) := S09.cL_two _ _ _ _ hl
  have h2 := S09.cO_mono t (S09.cT t) (show o + 1 ≤ t + 1 by omega)
  have h3 : S09.cT (t + 1) = S09.cO t (S09.cT t) (t + 1) := rfl
  have h4 := S09.cT_mono (show t + 1 ≤ t' by omega)
  have h5 := S09.cO_mono t' (S09.cT t') (Nat.zero_le o')
  have h6 : S09.cO t' (S09.cT t') 0 = S09.cT t' := rfl
  have h7 : S09.cO t' (S09.cT t') o' ≤ S09.cnt t' o' l' := S09.cL_mono _ _ _ _
  omega

set_option maxHeartbeats 400000 in
theorem rankHit09 (n z o l s0 : Int) (f : Bool) (bw bs bf B : Nat) (w : World) (hw : Blk w bw (HistC z o l) 109) (hs : Blk w bs [.int .i64 s0] 3) (hf : Blk w bf [.bool f] 4)
    (h1 : B ≤ bs) (h2 : B ≤ bf) (h3 : B ≤ w.heap.size) (d1 : ¬ bw = bs) (d2 : ¬ bw = bf) (d3 : ¬ bs = bf) :
    Calls Try.prog 78 #[.int .i64 n, S09.hist z o l, .pointer (some ⟨bw, 0, none⟩), .pointer (some ⟨bs, 0, none⟩), .pointer (some ⟨bf, 0, none⟩)] w fun e w' =>
      e = .returned (.bool false) ∧ Blk w' bw (HistC z o l) 109 ∧ Blk w' bs [.int .i64 n] 3 ∧ Blk w' bf [.bool true] 4 ∧ Below B w w' := by
  have c1 := hs.cell 0
  have c2 := hw.cell 0
  have c3 := hw.cell 1
  have c4 := hw.cell 2
  have c5 := hf.cell 0
  have f1 := hs.free 0
  have f5 := hf.free 0
  have l1 := hs.lt
  have l2 := hw.lt
  have l3 := hf.lt
  simp only [HistC, List.getElem?_cons_zero, List.getElem?_cons_succ] at c1 c2 c3 c4 c5
  have Hs := Lib.hid hs
  have Hw := Lib.hid hw
  have Hf := Lib.hid hf
  clear hs hw hf
  go_enter Try.func78, Try.ntmps78
  go_wp2
  go_returns
  exact ⟨rfl, ((Hw.out.other bs 0 _ d1).other bf 0 _ d2).alloc _, ((Hs.out.set 0 _).other bf 0 _ d3).alloc _, ((Hf.out.other bs 0 _ (Ne.symm d3)).set 0 _).alloc _, (((Below.refl _ _).setCell h1 _).setCell h2 _).alloc (by simp; omega) _⟩

set_option maxHeartbeats 400000 in
theorem rankMiss09 (n z o l wz wo wl s0 : Int) (f : Bool) (bw bs bf B : Nat) (w : World) (hw : Blk w bw (HistC wz wo wl) 109) (hs : Blk w bs [.int .i64 s0] 3) (hf : Blk w bf [.bool f] 4)
    (h3 : B ≤ w.heap.size) (hne : ¬ (z = wz ∧ o = wo ∧ l = wl)) (g1 : 0 ≤ z) (g2 : z ≤ 100) (g3 : 0 ≤ o) (g4 : o ≤ 100) (g5 : 0 ≤ wz) (g6 : wz ≤ 100) (g7 : 0 ≤ wo) (g8 : wo ≤ 100) :
    Calls Try.prog 78 #[.int .i64 n, S09.hist z o l, .pointer (some ⟨bw, 0, none⟩), .pointer (some ⟨bs, 0, none⟩), .pointer (some ⟨bf, 0, none⟩)] w fun e w' =>
      e = .returned (.bool (!f && decide (z + o ≤ wz + wo))) ∧ Blk w' bw (HistC wz wo wl) 109 ∧ Blk w' bs [.int .i64 s0] 3 ∧ Blk w' bf [.bool f] 4 ∧ Below B w w' := by
  have c1 := hs.cell 0
  have c2 := hw.cell 0
  have c3 := hw.cell 1
  have c4 := hw.cell 2
  have c5 := hf.cell 0
  have l1 := hs.lt
  have l2 := hw.lt
  have l3 := hf.lt
  simp only [HistC, List.getElem?_cons_zero, List.getElem?_cons_succ] at c1 c2 c3 c4 c5
  have Hs := Lib.hid hs
  have Hw := Lib.hid hw
  have Hf := Lib.hid hf
  clear hs hw hf
  cases f with
  | true =>
    go_enter Try.func78, Try.ntmps78
    go_wp2
    all_goals (go_returns; exact ⟨ret_bool (by first | rfl | (simp; done) | (simp; omega)), Hw.out.alloc _, Hs.out.alloc _, Hf.out.alloc _, (Below.refl _ _).alloc h3 _⟩)
  | false =>
    go_enter Try.func78, Try.ntmps78
    go_wp2
    all_goals (go_returns; exact ⟨ret_bool (by first | rfl | (simp; done) | (simp; omega)), Hw.out.alloc _, Hs.out.alloc _, Hf.out.alloc _, (Below.refl _ _).alloc h3 _⟩)

/-- What rank has when the states before k are visited. -/
def RankInv (W : World) (B : Nat) (z o l : Int) (bw bs bf : Nat) (k : Nat) (w : World) : Prop :=
  Blk w bw (HistC z o l) 109 ∧ Blk w bs [.int .i64 (if S09.is z o l = true ∧ S09.idx z o l < k then S09.idx z o l else 0)] 3 ∧ Blk w bf [.bool (decide (S09.is z o l = true ∧ S09.idx z o l < k))] 4 ∧ Below B W w

theorem rankVisits09 (W : World) (B : Nat) (z o l : Int) (bw bs bf : Nat) (h1 : B ≤ bs) (h2 : B ≤ bf) (h3 : B ≤ W.heap.size) (d1 : ¬ bw = bs) (d2 : ¬ bw = bf) (d3 : ¬ bs = bf) (g5 : 0 ≤ z) (g6 : z ≤ 100) (g7 : 0 ≤ o) (g8 : o ≤ 100) :
    S09.Visits 78 #[.pointer (some ⟨bw, 0, none⟩), .pointer (some ⟨bs, 0, none⟩), .pointer (some ⟨bf, 0, none⟩)] (RankInv W B z o l bw bs bf)
      (fun t o' l' => !decide (S09.is z o l = true ∧ S09.idx z o l < (S09.cnt t o' l' + 1 : Nat)) && decide ((t : Int) ≤ z + o)) := by
  intro t o' l' w ht ho hl hok ⟨hw, hs, hf, hB⟩
  have hBw : B ≤ w.heap.size := Nat.le_trans h3 hB.size
  by_cases he : (t : Int) - o' = z ∧ (o' : Int) = o ∧ (l' : Int) = l
  · obtain ⟨rfl, rfl, rfl⟩ := he
    have his : S09.is ((t : Int) - o') o' l' = true := hok
    have hidx : S09.idx ((t : Int) - o') o' l' = S09.cnt t o' l' := by
      simp only [S09.idx, his, if_true]
      rw [show ((t : Int) - o' + o').toNat = t by omega]
      simp
    refine (rankHit09 (S09.cnt t o' l') ((t : Int) - o') o' l' _ _ bw bs bf B w hw hs hf h1 h2 hBw d1 d2 d3).mono ?_
    rintro e w' ⟨rfl, hw', hs', hf', hB'⟩
    have hp : S09.is ((t : Int) - o') o' l' = true ∧ S09.idx ((t : Int) - o') o' l' < ((S09.cnt t o' l' + 1 : Nat) : Int) := ⟨his, by rw [hidx]; omega⟩
    refine ⟨by simp only [decide_eq_true hp]; rfl, hw', ?_, ?_, hB.trans hB'⟩
    · rw [if_pos hp, hidx]; exact hs'
    · rw [decide_eq_true hp]; exact hf'
  · have hiff : (S09.is z o l = true ∧ S09.idx z o l < ((S09.cnt t o' l' + 1 : Nat) : Int)) ↔ (S09.is z o l = true ∧ S09.idx z o l < ((S09.cnt t o' l' : Nat) : Int)) := by
      constructor
      · rintro ⟨hi, hlt⟩
        refine ⟨hi, ?_⟩
        obtain ⟨t2, o2, l2, k1, k2, k3, rfl, rfl, rfl, k4, k5⟩ := S09.is_place hi
        rw [k5] at hlt ⊢
        have hne : S09.cnt t2 o2 l2 ≠ S09.cnt t o' l' := fun e => by
          obtain ⟨rfl, rfl, rfl⟩ := S09.place_inj k1 k2 k3 k4 ht ho hl hok e
          exact he ⟨rfl, rfl, rfl⟩
        omega
      · rintro ⟨hi, hlt⟩
        exact ⟨hi, by omega⟩
    have hd : decide (S09.is z o l = true ∧ S09.idx z o l < ((S09.cnt t o' l' + 1 : Nat) : Int)) = decide (S09.is z o l = true ∧ S09.idx z o l < ((S09.cnt t o' l' : Nat) : Int)) := by rw [decide_eq_decide]; exact hiff
    refine (rankMiss09 (S09.cnt t o' l') ((t : Int) - o') o' l' z o l _ _ bw bs bf B w hw hs hf hBw he (by omega) (by omega) (by omega) (by omega) g5 g6 g7 g8).mono ?_
    rintro e w' ⟨rfl, hw', hs', hf', hB'⟩
    refine ⟨?_, hw', ?_, ?_, hB.trans hB'⟩
    · simp only [hd]
      rw [show (t : Int) - o' + o' = t by omega]
    · by_cases hc : S09.is z o l = true ∧ S09.idx z o l < ((S09.cnt t o' l' : Nat) : Int)
      · rw [if_pos (hiff.2 hc)]; rw [if_pos hc] at hs'; exact hs'
      · rw [if_neg (fun h => hc (hiff.1 h))]; rw [if_neg hc] at hs'; exact hs'
    · rw [hd]; exact hf'

theorem rankEnd09 {W w' : World} {B : Nat} {z o l : Int} {bw bs bf : Nat}
    (h : S09.Visited (RankInv W B z o l bw bs bf) (fun t o' l' => !decide (S09.is z o l = true ∧ S09.idx z o l < (S09.cnt t o' l' + 1 : Nat)) && decide ((t : Int) ≤ z + o)) w') :
    Blk w' bs [.int .i64 (S09.idx z o l)] 3 ∧ Blk w' bf [.bool (S09.is z o l)] 4 ∧ Below B W w' := by
  obtain ⟨k, hk, hw, hs, hf, hB⟩ : ∃ k : Nat, (S09.is z o l = true → S09.idx z o l < (k : Int)) ∧ RankInv W B z o l bw bs bf k w' := by
    rcases h with h | ⟨t, o', l', ht, ho, hl, hok, hgo, h⟩
    · refine ⟨215, fun hi => ?_, h⟩
      obtain ⟨t2, o2, l2, k1, k2, k3, rfl, rfl, rfl, k4, k5⟩ := S09.is_place hi
      have := S09.cnt_lt k1 k2 k3 k4
      omega
    · refine ⟨_, fun hi => ?_, h⟩
      by_cases hlt : S09.idx z o l < ((S09.cnt t o' l' + 1 : Nat) : Int)
      · exact hlt
      · have hdf : decide (S09.is z o l = true ∧ S09.idx z o l < ((S09.cnt t o' l' + 1 : Nat) : Int)) = false := decide_eq_false (fun h => hlt h.2)
        simp only [hdf, Bool.not_false, Bool.true_and] at hgo
        have hgo := of_decide_eq_false hgo
        obtain ⟨t2, o2, l2, k1, k2, k3, rfl, rfl, rfl, k4, k5⟩ := S09.is_place hi
        have := S09.cnt_total (t := t2) (o := o2) (l := l2) (t' := t) (o' := o') (l' := l') (by omega) k2 k3
        omega
  refine ⟨?_, ?_, hB⟩
  · cases hi : S09.is z o l with
    | true => rw [if_pos ⟨hi, hk hi⟩] at hs; exact hs
    | false =>
      rw [if_neg (by simp [hi])] at hs
      simp only [S09.idx, hi]
      exact hs
  · cases hi : S09.is z o l with
    | true => rw [decide_eq_true ⟨hi, hk hi⟩] at hf; exact hf
    | false => rw [decide_eq_false (by simp [hi])] at hf; exact hf

set_option maxHeartbeats 400000 in
theorem rank09_any (z o l : Int) (w : World) (g5 : 0 ≤ z) (g6 : z ≤ 100) (g7 : 0 ≤ o) (g8 : o ≤ 100) :
    Calls Try.prog 68 #[S09.hist z o l] w fun e w' => e = .returned (.tuple #[.int .i64 (S09.idx z o l), .bool (S09.is z o l)]) ∧ Below w.heap.size w w' := by
  obtain ⟨W, hW⟩ : ∃ W, W = (((w.alloc (Obj.cells #[.int .i64 z, .int .i64 o, .int .i64 l] 109)).alloc (Obj.cells #[.int .i64 0] 3)).alloc (Obj.cells #[.bool false] 4)) := ⟨_, rfl⟩
  have hWs : W.heap.size = w.heap.size + 3 := by rw [hW]; simp
  have hBW : Below w.heap.size w W := by rw [hW]; go_grown
  have hinv : RankInv W (w.heap.size + 1) z o l w.heap.size (w.heap.size + 1) (w.heap.size + 1 + 1) 0 W := by
    rw [hW]
    refine ⟨((Blk.new w (HistC z o l) _).alloc _).alloc _, ?_, ?_, Below.refl _ _⟩
    · have : ¬ (S09.is z o l = true ∧ S09.idx z o l < ((0 : Nat) : Int)) := by
        rintro ⟨hi, hlt⟩
        obtain ⟨t2, o2, l2, k1, k2, k3, rfl, rfl, rfl, k4, k5⟩ := S09.is_place hi
        omega
      rw [if_neg this]
      have := (Blk.new (w.alloc (Obj.cells #[.int .i64 z, .int .i64 o, .int .i64 l] 109)) [.int .i64 0] 3).alloc (Obj.cells #[.bool false] 4)
      simpa using this
    · have : ¬ (S09.is z o l = true ∧ S09.idx z o l < ((0 : Nat) : Int)) := by
        rintro ⟨hi, hlt⟩
        obtain ⟨t2, o2, l2, k1, k2, k3, rfl, rfl, rfl, k4, k5⟩ := S09.is_place hi
        omega
      rw [decide_eq_false this]
      have := Blk.new ((w.alloc (Obj.cells #[.int .i64 z, .int .i64 o, .int .i64 l] 109)).alloc (Obj.cells #[.int .i64 0] 3)) [.bool false] 4
      simpa using this
  have hcall := each09_any 78 enterRank _ _ _ ?hst (rankVisits09 W (w.heap.size + 1) z o l w.heap.size (w.heap.size + 1) (w.heap.size + 1 + 1) (Nat.le_refl _) (by omega) (by omega) (by omega) (by omega) (by omega) g5 g6 g7 g8) _ hinv
  case hst =>
    rintro k w1 w2 ⟨g1, g2, g3, g4⟩ hb
    exact ⟨g1.step hb, g2.step hb, g3.step hb, g4.trans (hb.mono (Nat.le_trans (by omega) g4.size))⟩
  have Hcall := Lib.hid hcall
  rw [hW] at Hcall
  clear hcall hinv
  have HWs := Lib.hid hWs
  have HBW := Lib.hid hBW
  have HW := Lib.hid hW
  clear hWs hBW hW
  go_enter Try.func68, Try.ntmps68
  go_wp2_with fail
  refine Hcall.out.mono ?_
  rintro e w1 ⟨rfl, hvis⟩
  obtain ⟨hbs, hbf, hB⟩ := rankEnd09 hvis
  rw [← HW.out] at hB
  have c1 := hbs.cell 0
  have c2 := hbf.cell 0
  simp only [List.getElem?_cons_zero] at c1 c2
  have hBw : Below w.heap.size w w1 := HBW.out.trans (hB.mono (by omega))
  clear hvis hB hbs hbf
  go_wp2
  go_region
  all_goals go_wp2
  all_goals go_returns
  all_goals exact ⟨rfl, hBw.drew⟩
end Go.Proofs.Ytgbjckjfjoiilaa
