/- The sorting of the places by what is compared (layer 32). No condition. -/
import Derived.Test.YtalidjgniebohaaW17b
import Derived.Test.YtalidjgniebohaaShelf
set_option linter.unusedSimpArgs false
set_option linter.unusedVariables false
set_option linter.unusedSectionVars false
namespace Go.Proofs.Ytalidjgniebohaa
open Go.RowKit Go.Shelf
open Go.Sort (grow grow_empty grow_grow alloc_eq_grow size_grow heap_grow_old putRow mapBlock putCells onCells SWO PermIn SortedIn Holds)

def Nats (pl : List Nat) : List Value := pl.map fun (p : Nat) => Value.int .i64 (p : Int)
theorem Nats_length (pl : List Nat) : (Nats pl).length = pl.length := by simp [Nats]
theorem Nats_at {pl : List Nat} {i : Nat} (hi : i < pl.length) : (Nats pl)[i]? = some (.int .i64 ((pl.getD i 0 : Nat) : Int)) := by
  unfold Nats
  rw [List.getElem?_map, List.getElem?_eq_getElem hi, List.getD_eq_getElem?_getD, List.getElem?_eq_getElem hi]; rfl

section
variable {α : Type} [Inhabited α] {enc : α → Value}
theorem sw_blk {w : World} {b P m : Nat} {cs : List Value} {t : TypeId} (d : Array α) (os : Array Obj) (h : Blk w b cs t) (hne : b ≠ P) : Blk (sortWorld enc w P 0 m d os) b cs t := by
  have hl := h.lt
  unfold Blk at *
  unfold sortWorld
  rw [heap_grow_old _ _ (by simpa [putRow, mapBlock] using hl)]
  simp only [putRow, mapBlock, Go.Sort.heap_ahead, Array.getElem?_modify, if_neg (Ne.symm hne)]
  exact h
theorem sw_put {w : World} {P m : Nat} {cs : List Value} {t : TypeId} (d : Array α) (os : Array Obj) (h : Blk w P cs t) (hl : cs.length = d.size) : Blk (sortWorld enc w P 0 m d os) P (d.toList.map enc) t := by
  have hl' := h.lt
  unfold Blk at *
  unfold sortWorld
  rw [heap_grow_old _ _ (by simpa [putRow, mapBlock] using hl')]
  simp only [putRow, mapBlock, Go.Sort.heap_ahead, Array.getElem?_modify, if_true, h, Option.map_some, onCells]
  congr 2
  apply Array.ext_getElem?
  intro k
  simp only [putCells, Array.getElem?_mapIdx, List.getElem?_toArray, List.getElem?_map, Array.getElem?_toList]
  by_cases hk : k < d.size
  · rw [List.getElem?_eq_getElem (by omega), Option.map_some, if_pos ⟨Nat.zero_le _, by omega⟩, Array.getElem?_eq_getElem hk, Option.map_some, Nat.sub_zero, getElem!_pos d k hk]
  · rw [List.getElem?_eq_none (by omega), Array.getElem?_eq_none (by omega)]; rfl
theorem sw_below {w : World} {P m B : Nat} (d : Array α) (os : Array Obj) (hP : B ≤ P) (hB : B ≤ w.heap.size) : Below B w (sortWorld enc w P 0 m d os) := by
  refine ⟨rfl, rfl, rfl, ?_, fun k hk => ?_⟩
  · unfold sortWorld
    rw [size_grow]
    simp [putRow, mapBlock]
  · unfold sortWorld
    rw [heap_grow_old _ _ (by simp [putRow, mapBlock]; omega)]
    simp only [putRow, mapBlock, Go.Sort.heap_ahead, Array.getElem?_modify]
    rw [if_neg (by omega)]
end

theorem swo17 {b : List Int} {l : Nat} {r : Nat → Int} (h : S17.Rk b l r) : SWO (ltOf fun (x y : Fin (b.length + 1)) => S17.cf b.length l r x.1 y.1) := by
  have hl : ∀ x y : Fin (b.length + 1), ltOf (fun (x y : Fin (b.length + 1)) => S17.cf b.length l r x.1 y.1) x y = S17.lt (S17.key b (2 * l) x.1) (S17.key b (2 * l) y.1) := fun x y => by
    unfold ltOf
    have := S17.cf_lt h (x := x.1) (y := y.1) (by omega) (by omega)
    rw [Bool.eq_iff_iff, decide_eq_true_eq]
    exact this
  refine ⟨fun x => ?_, fun x y z h1 h2 => ?_, fun x y z h1 h2 => ?_⟩
  · rw [hl, S17.irrefl]
  · rw [hl] at *; exact S17.trans _ _ _ h1 h2
  · rw [hl] at *
    rcases S17.tri (S17.key b (2 * l) x.1) (S17.key b (2 * l) y.1) with k | k | k
    · rw [h1] at k; cases k
    · rw [k]; exact h2
    · rcases S17.tri (S17.key b (2 * l) y.1) (S17.key b (2 * l) z.1) with j | j | j
      · rw [h2] at j; cases j
      · rw [← j]; exact h1
      · exact S17.asymm (S17.trans _ _ _ j k)

set_option maxHeartbeats 400000 in
theorem sort17_call (b : List Int) (hn : b.length ≤ 150) (l : Nat) (hl : l ≤ 1000) (rl : List Int) (hrl : rl.length = b.length + 1) (hr : S17.Rk b l fun i => rl.getD i 0) (pl : List Nat) (hp : S17.Perm b.length pl) (P Bl Bn Br Bf R cap : Nat) (W : World)
    (hP : Blk W P (Nats pl) 3) (hBl : Blk W Bl [.int .i64 (l : Int)] 3) (hBn : Blk W Bn [.int .i64 (b.length : Int)] 3) (hBr : Blk W Br [.slice (some ⟨R, 0, none⟩) (b.length + 1) cap] 23) (hR : Blk W R (rl.map (Value.int .i64)) 3)
    (hBf : Blk W Bf [.func (.func 8) #[] #[.pointer (some ⟨Bl, 0, none⟩), .pointer (some ⟨Bn, 0, none⟩), .pointer (some ⟨Br, 0, none⟩)]] 32)
    (n1 : Bl ≠ P) (n2 : Bn ≠ P) (n3 : Br ≠ P) (n4 : R ≠ P) (n5 : Bf ≠ P) :
    Calls Try.prog 12 #[.slice (some ⟨P, 0, none⟩) (b.length + 1) (b.length + 1), .func (.func 9) #[] #[.pointer (some ⟨Br, 0, none⟩), .pointer (some ⟨Bf, 0, none⟩)]] W fun e w' => e = .returned (.tuple #[]) ∧
      ∃ pl', S17.Perm b.length pl' ∧ (∀ i j, i < j → j ≤ b.length → ¬ S17.cf b.length l (fun i => rl.getD i 0) (pl'.getD j 0) (pl'.getD i 0) < 0) ∧ Blk w' P (Nats pl') 3 ∧ (∀ c cs t, c ≠ P → Blk W c cs t → Blk w' c cs t) ∧
        (∀ B, B ≤ P → B ≤ W.heap.size → Below B W w') := by
  have hpl := hp.len
  obtain ⟨d, hd⟩ : ∃ d : Array (Fin (b.length + 1)), d = (pl.map fun p => (⟨min p b.length, by omega⟩ : Fin (b.length + 1))).toArray := ⟨_, rfl⟩
  have hds : d.size = b.length + 1 := by rw [hd]; simp [hpl]
  have hdv : d.toList.map Fin.val = pl := by
    rw [hd]
    simp only [List.map_map]
    conv => rhs; rw [← List.map_id pl]
    refine List.map_congr_left fun p hpm => ?_
    have := (List.Perm.mem_iff hp).1 hpm
    rw [List.mem_range] at this
    simp only [Function.comp, id]; omega
  have hencv : ∀ d : Array (Fin (b.length + 1)), d.toList.map (fun i => Value.int .i64 ((i.1 : Nat) : Int)) = Nats (d.toList.map Fin.val) := fun d => by
    unfold Nats
    rw [List.map_map]
    rfl
  have hH : Holds (fun i : Fin (b.length + 1) => Value.int .i64 ((i.1 : Nat) : Int)) W P 0 d := fun j hj => by
    have hjp : j < pl.length := by omega
    refine ⟨?_, hP.free _⟩
    rw [Nat.zero_add, hP.cell, ← hdv, ← hencv, List.getElem?_map, Array.getElem?_toList, Array.getElem?_eq_getElem hj, Option.map_some, getElem!_pos d j hj]
  have hcmp : CmpLays1 Try.prog 9 #[.pointer (some ⟨Br, 0, none⟩), .pointer (some ⟨Bf, 0, none⟩)] (fun i : Fin (b.length + 1) => Value.int .i64 ((i.1 : Nat) : Int)) (fun x y => S17.cf b.length l (fun i => rl.getD i 0) x.1 y.1) P 0 d.size W := by
    intro m os dk hdk x y
    have q1 := sw_blk (enc := fun i : Fin (b.length + 1) => Value.int .i64 ((i.1 : Nat) : Int)) (m := m) dk os hBl n1
    have q2 := sw_blk (enc := fun i : Fin (b.length + 1) => Value.int .i64 ((i.1 : Nat) : Int)) (m := m) dk os hBn n2
    have q3 := sw_blk (enc := fun i : Fin (b.length + 1) => Value.int .i64 ((i.1 : Nat) : Int)) (m := m) dk os hBr n3
    have q4 := sw_blk (enc := fun i : Fin (b.length + 1) => Value.int .i64 ((i.1 : Nat) : Int)) (m := m) dk os hR n4
    have q5 := sw_blk (enc := fun i : Fin (b.length + 1) => Value.int .i64 ((i.1 : Nat) : Int)) (m := m) dk os hBf n5
    exact cmp17_any b.length l (fun i => rl.getD i 0) hn hl x.1 y.1 (by omega) (by omega) Bl Bn Br Bf R cap _ (q1.cell 0) (q2.cell 0) (q3.cell 0)
      (fun i hi => by
        rw [q4.cell, List.getElem?_map, List.getElem?_eq_getElem (by omega), Option.map_some, List.getD_eq_getElem?_getD, List.getElem?_eq_getElem (by omega)]; rfl)
      (q5.cell 0)
  have hcon := Try.slices_SortFunc (fun i : Fin (b.length + 1) => Value.int .i64 ((i.1 : Nat) : Int)) (fun _ => rfl) (fun x y => S17.cf b.length l (fun i => rl.getD i 0) x.1 y.1) (swo17 hr) 9 #[.pointer (some ⟨Br, 0, none⟩), .pointer (some ⟨Bf, 0, none⟩)]
    P 0 (b.length + 1) d W (enters_of Try.func9 (by kernel_rfl) rfl) hcmp hH hP.lt (by omega)
  rw [hds] at hcon
  refine hcon.mono ?_
  rintro e w' ⟨he, d', n', os, hperm, hsort, hw⟩
  have hds' : d'.size = b.length + 1 := by have := hperm.1; omega
  have hpp : d'.toList.Perm d.toList := by
    have := hperm.2.2
    have ex : ∀ (q : Array (Fin (b.length + 1))) (m : Nat), q.size = m → q.extract 0 m = q := fun q m h => by subst h; exact Array.extract_size
    rwa [ex d' _ hds', ex d _ hds] at this
  refine ⟨he, d'.toList.map Fin.val, ?_, fun i j hi hj hlt => ?_, ?_, ?_, ?_⟩
  · have := hpp.map Fin.val
    rw [hdv] at this
    exact this.trans hp
  · have h1 := hsort i j (Nat.zero_le _) hi (by omega)
    have e : ∀ k, k ≤ b.length → (d'.toList.map Fin.val).getD k 0 = (d'[k]!).1 := fun k hk => by
      rw [List.getD_eq_getElem?_getD, List.getElem?_map, Array.getElem?_toList, Array.getElem?_eq_getElem (by omega), getElem!_pos d' k (by omega)]; rfl
    rw [e i (by omega), e j hj] at hlt
    simp only [ltOf, decide_eq_false_iff_not] at h1
    exact h1 hlt
  · rw [hw, ← hencv]
    exact sw_put d' os hP (by rw [Nats_length]; omega)
  · intro c cs t hc hb
    rw [hw]; exact sw_blk d' os hb hc
  · intro B h1 h2
    rw [hw]; exact sw_below d' os h1 h2
end Go.Proofs.Ytalidjgniebohaa
