/- What look, rank and Count (layer 9) return. No condition. -/
import Derived.Test.YtgbjckjfjoiilaaW09d
import Derived.Test.YtgbjckjfjoiilaaBase2
set_option linter.unusedSimpArgs false
set_option linter.unusedVariables false
set_option linter.unusedSectionVars false
namespace Go.Proofs.Ytgbjckjfjoiilaa
open Go.RowKit

theorem enterLook (args : Array Value) (w : World) : (callFunc 75 args).run Try.prog w = .ok (.enter 75 args) w := by kernel_rfl
theorem enterRank (args : Array Value) (w : World) : (callFunc 78 args).run Try.prog w = .ok (.enter 78 args) w := by kernel_rfl
theorem enterCount (args : Array Value) (w : World) : (callFunc 61 args).run Try.prog w = .ok (.enter 61 args) w := by kernel_rfl

def HistC (z o l : Int) : List Value := [.int .i64 z, .int .i64 o, .int .i64 l]

/-- The visit of look, at the state asked for. -/
theorem lookHit09 (s z o l z0 o0 l0 : Int) (f : Bool) (bs bo bf B : Nat) (w : World) (hs : Blk w bs [.int .i64 s] 3) (ho : Blk w bo (HistC z0 o0 l0) 109) (hf : Blk w bf [.bool f] 4)
    (h1 : B ≤ bo) (h2 : B ≤ bf) (h3 : B ≤ w.heap.size) (d1 : ¬ bs = bo) (d2 : ¬ bs = bf) (d3 : ¬ bo = bf) :
    Calls Try.prog 75 #[.int .i64 s, S09.hist z o l, .pointer (some ⟨bs, 0, none⟩), .pointer (some ⟨bo, 0, none⟩), .pointer (some ⟨bf, 0, none⟩)] w fun e w' =>
      e = .returned (.bool false) ∧ Blk w' bs [.int .i64 s] 3 ∧ Blk w' bo (HistC z o l) 109 ∧ Blk w' bf [.bool true] 4 ∧ Below B w w' := by
  have c1 := hs.cell 0
  have c2 := ho.cell 0
  have c3 := ho.cell 1
  have c4 := ho.cell 2
  have c5 := hf.cell 0
  have f2 := ho.free 0
  have f3 := ho.free 1
  have f4 := ho.free 2
  have f5 := hf.free 0
  have l1 := hs.lt
  have l2 := ho.lt
  have l3 := hf.lt
  simp only [HistC, List.getElem?_cons_zero, List.getElem?_cons_succ] at c1 c2 c3 c4 c5
  have Hs := Lib.hid hs
  have Ho := Lib.hid ho
  have Hf := Lib.hid hf
  clear hs ho hf
  go_enter Try.func75, Try.ntmps75
  go_wp2
  go_returns
  exact ⟨rfl, ((((Hs.out.other bo 0 _ d1).other bo 1 _ d1).other bo 2 _ d1).other bf 0 _ d2).alloc _, ((((Ho.out.set 0 _).set 1 _).set 2 _).other bf 0 _ d3).alloc _, ((((Hf.out.other bo 0 _ (Ne.symm d3)).other bo 1 _ (Ne.symm d3)).other bo 2 _ (Ne.symm d3)).set 0 _).alloc _,
    ((((((Below.refl _ _).setCell h1 _).setCell h1 _).setCell h1 _).setCell h2 _)).alloc (by simp; omega) _⟩

/-- The visit of look, at another state. -/
theorem lookMiss09 (n s z o l z0 o0 l0 : Int) (f : Bool) (bs bo bf B : Nat) (w : World) (hs : Blk w bs [.int .i64 s] 3) (ho : Blk w bo (HistC z0 o0 l0) 109) (hf : Blk w bf [.bool f] 4)
    (h1 : B ≤ bo) (h2 : B ≤ bf) (h3 : B ≤ w.heap.size) (d1 : ¬ bs = bo) (d2 : ¬ bs = bf) (d3 : ¬ bo = bf) (hne : ((n : Int) == s) = false) :
    Calls Try.prog 75 #[.int .i64 n, S09.hist z o l, .pointer (some ⟨bs, 0, none⟩), .pointer (some ⟨bo, 0, none⟩), .pointer (some ⟨bf, 0, none⟩)] w fun e w' =>
      e = .returned (.bool !f) ∧ Blk w' bs [.int .i64 s] 3 ∧ Blk w' bo (HistC z0 o0 l0) 109 ∧ Blk w' bf [.bool f] 4 ∧ Below B w w' := by
  have c1 := hs.cell 0
  have c2 := ho.cell 0
  have c3 := ho.cell 1
  have c4 := ho.cell 2
  have c5 := hf.cell 0
  have f2 := ho.free 0
  have f3 := ho.free 1
  have f4 := ho.free 2
  have f5 := hf.free 0
  have l1 := hs.lt
  have l2 := ho.lt
  have l3 := hf.lt
  simp only [HistC, List.getElem?_cons_zero, List.getElem?_cons_succ] at c1 c2 c3 c4 c5
  have Hs := Lib.hid hs
  have Ho := Lib.hid ho
  have Hf := Lib.hid hf
  clear hs ho hf
  go_enter Try.func75, Try.ntmps75
  go_wp2
  go_returns
  exact ⟨rfl, Hs.out.alloc _, Ho.out.alloc _, Hf.out.alloc _, (Below.refl _ _).alloc h3 _⟩

theorem S09.found_iff {s : Int} : S09.found s = decide (0 ≤ s ∧ s < 215) := rfl
/-- What look has when the states before k are visited. -/
def LookInv (W : World) (B : Nat) (s : Int) (bs bo bf : Nat) (k : Nat) (w : World) : Prop :=
  Blk w bs [.int .i64 s] 3 ∧ Blk w bo (if 0 ≤ s ∧ s < k then HistC (S09.hz s) (S09.ho s) (S09.hl s) else HistC 0 0 0) 109 ∧ Blk w bf [.bool (decide (0 ≤ s ∧ s < k))] 4 ∧ Below B W w

theorem S09.at_cnt {t o l : Nat} (ht : t ≤ 30) (ho : o ≤ t) (hl : l < 2) (h : S09.ok t o l = true) :
    S09.hz (S09.cnt t o l) = (t : Int) - o ∧ S09.ho (S09.cnt t o l) = o ∧ S09.hl (S09.cnt t o l) = l := by
  obtain ⟨h1, h2⟩ := S09.at_place ht ho hl h
  have hf : S09.found (S09.cnt t o l) = true := decide_eq_true (by omega)
  simp [S09.hz, S09.ho, S09.hl, hf, h2]

theorem lookVisits09 (W : World) (B : Nat) (s : Int) (bs bo bf : Nat) (h1 : B ≤ bo) (h2 : B ≤ bf) (h3 : B ≤ W.heap.size) (d1 : ¬ bs = bo) (d2 : ¬ bs = bf) (d3 : ¬ bo = bf) :
    S09.Visits 75 #[.pointer (some ⟨bs, 0, none⟩), .pointer (some ⟨bo, 0, none⟩), .pointer (some ⟨bf, 0, none⟩)] (LookInv W B s bs bo bf) (fun t o l => !decide (0 ≤ s ∧ s < (S09.cnt t o l + 1 : Nat))) := by
  intro t o l w ht ho hl hok ⟨hs, hbo, hbf, hB⟩
  obtain ⟨e1, e2, e3⟩ := S09.at_cnt ht ho hl hok
  have hBw : B ≤ w.heap.size := Nat.le_trans h3 hB.size
  by_cases hne : (S09.cnt t o l : Int) = s
  · subst hne
    rw [if_neg (by omega)] at hbo
    refine (lookHit09 (S09.cnt t o l) ((t : Int) - o) o l _ _ _ _ bs bo bf B w hs hbo hbf h1 h2 hBw d1 d2 d3).mono ?_
    rintro e w' ⟨rfl, hs', hbo', hbf', hB'⟩
    refine ⟨by simp; omega, hs', ?_, ?_, hB.trans hB'⟩
    · rw [if_pos (by omega), e1, e2, e3]; exact hbo'
    · rw [decide_eq_true (by omega)]; exact hbf'
  · have hb : (((S09.cnt t o l : Nat) : Int) == s) = false := by simpa using hne
    have hd : decide (0 ≤ s ∧ s < ((S09.cnt t o l + 1 : Nat) : Int)) = decide (0 ≤ s ∧ s < ((S09.cnt t o l : Nat) : Int)) := by
      rw [decide_eq_decide]; omega
    have hi : (if 0 ≤ s ∧ s < ((S09.cnt t o l + 1 : Nat) : Int) then HistC (S09.hz s) (S09.ho s) (S09.hl s) else HistC 0 0 0) = (if 0 ≤ s ∧ s < ((S09.cnt t o l : Nat) : Int) then HistC (S09.hz s) (S09.ho s) (S09.hl s) else HistC 0 0 0) := by
      by_cases hc : 0 ≤ s ∧ s < ((S09.cnt t o l : Nat) : Int)
      · rw [if_pos hc, if_pos (by omega)]
      · rw [if_neg hc, if_neg (by omega)]
    obtain ⟨z0, o0, l0, hLC⟩ : ∃ z0 o0 l0, (if 0 ≤ s ∧ s < ((S09.cnt t o l : Nat) : Int) then HistC (S09.hz s) (S09.ho s) (S09.hl s) else HistC 0 0 0) = HistC z0 o0 l0 := by
      split
      · exact ⟨_, _, _, rfl⟩
      · exact ⟨_, _, _, rfl⟩
    rw [hLC] at hbo hi
    refine (lookMiss09 (S09.cnt t o l) s ((t : Int) - o) o l z0 o0 l0 _ bs bo bf B w hs hbo hbf h1 h2 hBw d1 d2 d3 hb).mono ?_
    rintro e w' ⟨rfl, hs', hbo', hbf', hB'⟩
    refine ⟨?_, hs', ?_, ?_, hB.trans hB'⟩
    · simp only [hd]
    · rw [hi]; exact hbo'
    · rw [hd]; exact hbf'

/-- Behind the visits. -/
theorem lookEnd09 {W w' : World} {B : Nat} {s : Int} {bs bo bf : Nat} (h : S09.Visited (LookInv W B s bs bo bf) (fun t o l => !decide (0 ≤ s ∧ s < (S09.cnt t o l + 1 : Nat))) w') :
    Blk w' bo (HistC (S09.hz s) (S09.ho s) (S09.hl s)) 109 ∧ Blk w' bf [.bool (S09.found s)] 4 ∧ Below B W w' := by
  rcases h with ⟨_, hbo, hbf, hB⟩ | ⟨t, o, l, ht, ho, hl, hok, hgo, _, hbo, hbf, hB⟩
  · refine ⟨?_, hbf, hB⟩
    split at hbo
    · exact hbo
    · rename_i hn
      have hf : S09.found s = false := decide_eq_false (by simpa using hn)
      simp only [S09.hz, S09.ho, S09.hl, hf]
      exact hbo
  · have hc := S09.cnt_lt ht ho hl hok
    simp at hgo
    have hgo' : 0 ≤ s ∧ s < ((S09.cnt t o l + 1 : Nat) : Int) := by omega
    rw [if_pos hgo'] at hbo
    rw [decide_eq_true hgo'] at hbf
    have hf : S09.found s = true := decide_eq_true (by omega)
    rw [hf]
    exact ⟨hbo, hbf, hB⟩

set_option maxHeartbeats 400000 in
theorem look09_any (s : Int) (w : World) :
    Calls Try.prog 62 #[.int .i64 s] w fun e w' => e = .returned (.tuple #[S09.hist (S09.hz s) (S09.ho s) (S09.hl s), .bool (S09.found s)]) ∧ Below w.heap.size w w' := by
  have hinv : LookInv ((((w.alloc (Obj.cells #[.int .i64 s] 3)).alloc (Obj.cells #[.int .i64 0, .int .i64 0, .int .i64 0] 109)).alloc (Obj.cells #[.int .i64 0, .int .i64 0, .int .i64 0] 109)).alloc (Obj.cells #[.bool false] 4))
      (w.heap.size + 1 + 1) s w.heap.size (w.heap.size + 1 + 1) (w.heap.size + 1 + 1 + 1) 0 ((((w.alloc (Obj.cells #[.int .i64 s] 3)).alloc (Obj.cells #[.int .i64 0, .int .i64 0, .int .i64 0] 109)).alloc (Obj.cells #[.int .i64 0, .int .i64 0, .int .i64 0] 109)).alloc (Obj.cells #[.bool false] 4)) := by
    refine ⟨(((Blk.new w [.int .i64 s] _).alloc _).alloc _).alloc _, ?_, ?_, Below.refl _ _⟩
    · rw [if_neg (by omega)]
      have := (Blk.new ((w.alloc (Obj.cells #[.int .i64 s] 3)).alloc (Obj.cells #[.int .i64 0, .int .i64 0, .int .i64 0] 109)) (HistC 0 0 0) 109).alloc (Obj.cells #[.bool false] 4)
      simpa [HistC] using this
    · have := Blk.new (((w.alloc (Obj.cells #[.int .i64 s] 3)).alloc (Obj.cells #[.int .i64 0, .int .i64 0, .int .i64 0] 109)).alloc (Obj.cells #[.int .i64 0, .int .i64 0, .int .i64 0] 109)) [.bool false] 4
      rw [decide_eq_false (by omega)]
      simpa using this
  have hcall := each09_any 75 enterLook _ _ _ ?hst (lookVisits09 _ (w.heap.size + 1 + 1) s w.heap.size (w.heap.size + 1 + 1) (w.heap.size + 1 + 1 + 1) (Nat.le_refl _) (by omega) (by simp) (by omega) (by omega) (by omega)) _ hinv
  case hst =>
    rintro k w1 w2 ⟨g1, g2, g3, g4⟩ hb
    exact ⟨g1.step hb, g2.step hb, g3.step hb, g4.trans (hb.mono (Nat.le_trans (by simp) g4.size))⟩
  have Hcall := Lib.hid hcall
  clear hcall hinv
  go_enter Try.func62, Try.ntmps62
  go_wp2_with fail
  refine Hcall.out.mono ?_
  rintro e w1 ⟨rfl, hvis⟩
  obtain ⟨hbo, hbf, hB⟩ := lookEnd09 hvis
  have hz1 : w.heap.size + 4 ≤ w1.heap.size := by have := hB.size; simp at this; omega
  have hres : Blk w1 (w.heap.size + 1) (HistC 0 0 0) 109 := by
    have h0 := ((Blk.new (w.alloc (Obj.cells #[.int .i64 s] 3)) (HistC 0 0 0) 109).alloc (Obj.cells #[.int .i64 0, .int .i64 0, .int .i64 0] 109)).alloc (Obj.cells #[.bool false] 4)
    have := h0.below hB (by simp)
    simpa using this
  have c1 := hbo.cell 0
  have c2 := hbo.cell 1
  have c3 := hbo.cell 2
  have c4 := hbf.cell 0
  have c5 := hres.cell 0
  have c6 := hres.cell 1
  have c7 := hres.cell 2
  have f5 := hres.free 0
  have f6 := hres.free 1
  have f7 := hres.free 2
  simp only [HistC, List.getElem?_cons_zero, List.getElem?_cons_succ] at c1 c2 c3 c4 c5 c6 c7
  have hBw : Below w.heap.size w w1 := (by go_grown : Below w.heap.size w _).trans (hB.mono (by omega))
  clear hbo hbf hvis hB
  have Hres := Lib.hid hres
  clear hres
  go_wp2
  go_region
  go_wp2
  have g0 : (w1.setCell ⟨w.heap.size + 1, 0, none⟩ (.int .i64 (S09.hz s))).cell? ⟨w.heap.size + 1, 0, none⟩ = some (.int .i64 (S09.hz s)) := (Hres.out.set 0 _).cell 0
  have g1 : ((w1.setCell ⟨w.heap.size + 1, 0, none⟩ (.int .i64 (S09.hz s))).setCell ⟨w.heap.size + 1, 1, none⟩ (.int .i64 (S09.ho s))).cell? ⟨w.heap.size + 1, 1, none⟩ = some (.int .i64 (S09.ho s)) := ((Hres.out.set 0 _).set 1 _).cell 1
  have g2 : (((w1.setCell ⟨w.heap.size + 1, 0, none⟩ (.int .i64 (S09.hz s))).setCell ⟨w.heap.size + 1, 1, none⟩ (.int .i64 (S09.ho s))).setCell ⟨w.heap.size + 1, 2, none⟩ (.int .i64 (S09.hl s))).cell? ⟨w.heap.size + 1, 2, none⟩ = some (.int .i64 (S09.hl s)) := (((Hres.out.set 0 _).set 1 _).set 2 _).cell 2
  refine bodyPost_ret (v := .tuple #[S09.hist (S09.hz s) (S09.ho s) (S09.hl s), .bool (S09.found s)]) (by simp [results, Try.results62, go_sem, g0, g1, g2]) rfl ⟨rfl, ?_⟩
  exact ((((hBw.setCell (by simp) _).setCell (by simp) _).setCell (by simp) _)).drew
end Go.Proofs.Ytgbjckjfjoiilaa
