/- What Sort (layer 32) returns. No condition. -/
import Derived.Test.YtalidjgniebohaaW17c
import Derived.Test.YtalidjgniebohaaRep
import Derived.Test.YtalidjgniebohaaBase13
set_option linter.unusedSimpArgs false
set_option linter.unusedVariables false
set_option linter.unusedSectionVars false
namespace Go.Proofs.Ytalidjgniebohaa
open Go.RowKit Go.Shelf

theorem store_func17 (P : Program) (a : Addr) (m : Mode) (fn : Fn) (x y : Array Value) (w : World) : (store a (.func fn x y) m).run P w = stored P w a (.func fn x y) m := run_store P w a _ m rfl
attribute [local go_sem] store_func17

def Bts (l : List Int) : List Value := l.map fun x => .int .u8 x
theorem Bts_length (l : List Int) : (Bts l).length = l.length := by simp [Bts]
theorem Bts_at {w : World} {a : Option Addr} {l : List Int} (h : Rd w a (Bts l)) {i : Nat} (hi : i < l.length) : ∃ b o, a = some ⟨b, o, none⟩ ∧ w.cell? ⟨b, o + i, none⟩ = some (.int .u8 (l.getD i 0)) := by
  obtain ⟨b, o, rfl, hcs⟩ := h.at (i := i) (by rw [Bts_length]; exact hi)
  refine ⟨b, o, rfl, ?_⟩
  rw [hcs i (by rw [Bts_length]; exact hi), List.getD_eq_getElem?_getD, List.getElem?_eq_getElem hi]
  simp [Bts]
theorem Ints_at {w : World} {B : Nat} {l : List Int} (h : Blk w B (Ints l) 3) {i : Nat} (hi : i < l.length) : w.cell? ⟨B, i, none⟩ = some (.int .i64 (l.getD i 0)) := by
  rw [h.cell, List.getD_eq_getElem?_getD, List.getElem?_eq_getElem hi]
  simp [Ints, hi]
theorem Ints_set (l : List Int) (i : Nat) (x : Int) : Ints (l.set i x) = (Ints l).set i (.int .i64 x) := by simp [Ints, List.map_set]
theorem getD_set_same {l : List Int} {i : Nat} (hi : i < l.length) (x : Int) : (l.set i x).getD i 0 = x := by
  rw [List.getD_eq_getElem?_getD, List.getElem?_set_self hi]; rfl
theorem getD_set_other {l : List Int} {i j : Nat} (hne : i ≠ j) (x : Int) : (l.set i x).getD j 0 = l.getD j 0 := by
  rw [List.getD_eq_getElem?_getD, List.getElem?_set_ne hne, ← List.getD_eq_getElem?_getD]
theorem Nats_of {l : List Int} {n : Nat} (hl : l.length = n) (h : ∀ i, i < n → l.getD i 0 = (i : Int)) : Ints l = Nats (List.range n) := by
  unfold Ints Nats
  apply List.ext_getElem?
  intro i
  by_cases hi : i < n
  · have := h i hi
    rw [List.getD_eq_getElem?_getD, List.getElem?_eq_getElem (by omega)] at this
    rw [List.getElem?_map, List.getElem?_map, List.getElem?_eq_getElem (by omega), List.getElem?_range hi]
    simpa using this
  · rw [List.getElem?_eq_none (by simp; omega), List.getElem?_eq_none (by simp; omega)]

theorem mk17 (n : Nat) (hn : n ≤ 200) (w : World) : (Instr.makeSlice 23 (.int .i64 ((n : Int) + 1)) (.int .i64 ((n : Int) + 1))).run Try.prog w = .ok (.slice (some ⟨w.heap.size, 0, none⟩) (n + 1) (n + 1)) (w.alloc (.cells (List.replicate (n + 1) (.int .i64 0)).toArray 3)) := by
  have h := op_make1 (P := Try.prog) (w := w) (o := { dst := some 0, op := Op.makeSlice 23 (.const (.int .i64 ((n : Int) + 1))) (.const (.int .i64 ((n : Int) + 1))), type := 23, pos := "", after := #[], guard := none }) (a := { tmps := #[], defers := [] }) (.const (.int .i64 ((n : Int) + 1))) 23 3 8 (.int .i64 0) elems_ints rfl .i64 (n + 1) rfl (by omega) (by unfold maxLen; omega)
  simp only [execOp, Act.eval, Sem.run_bind] at h
  generalize (Instr.makeSlice 23 (.int .i64 ((n : Int) + 1)) (.int .i64 ((n : Int) + 1))).run Try.prog w = X at h ⊢
  cases X with
  | ok v w' => simpa [Result.andThen] using h
  | _ => simp [Result.andThen] at h

/-- Four blocks behind one another. -/
theorem four {w : World} (o0 o1 o2 o3 : Obj) : let W := ((((w.alloc o0).alloc o1).alloc o2).alloc o3).drew
    W.heap[w.heap.size]? = some o0 ∧ W.heap[w.heap.size + 1]? = some o1 ∧ W.heap[w.heap.size + 1 + 1]? = some o2 ∧ W.heap[w.heap.size + 1 + 1 + 1]? = some o3 ∧ Below w.heap.size w W := by
  have e : ∀ (w : World) (o : Obj) (k : Nat), k < w.heap.size → (w.alloc o).heap[k]? = w.heap[k]? := fun w o k hk => Below.heap_alloc w o k hk
  have h3 := heap_alloc_new ((((w.alloc o0).alloc o1).alloc o2)) o3
  have h2 := heap_alloc_new (((w.alloc o0).alloc o1)) o2
  have h1 := heap_alloc_new (w.alloc o0) o1
  have h0 := heap_alloc_new w o0
  simp only [World.size_alloc] at h1 h2 h3
  refine ⟨?_, ?_, ?_, ?_, ?_⟩
  · exact (e _ _ _ (by simp only [World.size_alloc]; omega)).trans ((e _ _ _ (by simp only [World.size_alloc]; omega)).trans ((e _ _ _ (by simp only [World.size_alloc]; omega)).trans h0))
  · exact (e _ _ _ (by simp only [World.size_alloc]; omega)).trans ((e _ _ _ (by simp only [World.size_alloc]; omega)).trans h1)
  · exact (e _ _ _ (by simp only [World.size_alloc]; omega)).trans h2
  · exact h3
  · exact (((((Below.refl _ _).alloc (Nat.le_refl _) _).alloc (by simp) _).alloc (by simp; omega) _).alloc (by simp; omega) _).drew

/-- What is known before the places are laid out. -/
def Beg17 (n : Nat) (w : World) (P R Br : Nat) (W : World) : Prop := Below w.heap.size w W ∧ Blk W w.heap.size [.int .i64 (n : Int)] 3 ∧ Blk W P (Ints (List.replicate (n + 1) 0)) 3 ∧ Blk W R (Ints (List.replicate (n + 1) 0)) 3 ∧
  Blk W Br [.slice (some ⟨R, 0, none⟩) (n + 1) (n + 1)] 23 ∧ w.heap.size < P ∧ w.heap.size < R ∧ w.heap.size < Br ∧ P ≠ R ∧ P ≠ Br ∧ R ≠ Br
theorem zeros17 (n : Nat) : (Ints (List.replicate (n + 1) 0)).toArray = Array.replicate (n + 1) (Value.int .i64 0) := by
  unfold Ints
  rw [List.map_replicate, List.toArray_replicate]

/-- How many of the neighbours before differ. -/
def S17.D (n l : Nat) (r : Nat → Int) (pl : List Nat) : Nat → Int
  | 0 => 0
  | i + 1 => S17.D n l r pl i + if S17.cf n l r (pl.getD i 0) (pl.getD (i + 1) 0) = 0 then 0 else 1
theorem S17.D_in (n l : Nat) (r : Nat → Int) (pl : List Nat) : ∀ i, 0 ≤ S17.D n l r pl i ∧ S17.D n l r pl i ≤ i
  | 0 => ⟨Int.le_refl _, Int.le_refl _⟩
  | i + 1 => by
    have h := S17.D_in n l r pl i
    unfold S17.D
    split <;> omega

theorem S17.round' {b : List Int} {n l : Nat} (hn : b.length = n) {r nx : Nat → Int} {pl : List Nat} (hr : S17.Rk b l r) (hp : S17.Perm n pl)
    (hs : ∀ i j, i < j → j ≤ n → ¬ S17.cf n l r (pl.getD j 0) (pl.getD i 0) < 0) (hnx : ∀ i, i ≤ n → nx (pl.getD i 0) = S17.D n l r pl i) :
    S17.Rk b (2 * l) nx ∧ (S17.D n l r pl n = n → S17.Sorted b pl) ∧ (S17.D n l r pl n ≠ n → 2 * l ≤ n) := by
  subst hn
  have h := S17.round (D := S17.D b.length l r pl) hr hp hs rfl (fun i _ => rfl) hnx
  exact ⟨h.1, fun e => S17.sorted hp (h.2.1 e), h.2.2⟩
theorem sort17_call' (b : List Int) (n : Nat) (hnb : b.length = n) (hn : n ≤ 150) (l : Nat) (hl : l ≤ 1000) (rl : List Int) (hrl : rl.length = n + 1) (hr : S17.Rk b l fun i => rl.getD i 0) (pl : List Nat) (hp : S17.Perm n pl) (P Bl Bn Br Bf R cap : Nat) (W : World)
    (hP : Blk W P (Nats pl) 3) (hBl : Blk W Bl [.int .i64 (l : Int)] 3) (hBn : Blk W Bn [.int .i64 (n : Int)] 3) (hBr : Blk W Br [.slice (some ⟨R, 0, none⟩) (n + 1) cap] 23) (hR : Blk W R (Ints rl) 3)
    (hBf : Blk W Bf [.func (.func 8) #[] #[.pointer (some ⟨Bl, 0, none⟩), .pointer (some ⟨Bn, 0, none⟩), .pointer (some ⟨Br, 0, none⟩)]] 32)
    (n1 : Bl ≠ P) (n2 : Bn ≠ P) (n3 : Br ≠ P) (n4 : R ≠ P) (n5 : Bf ≠ P) :
    Calls Try.prog 12 #[.slice (some ⟨P, 0, none⟩) (n + 1) (n + 1), .func (.func 9) #[] #[.pointer (some ⟨Br, 0, none⟩), .pointer (some ⟨Bf, 0, none⟩)]] W fun e w' => e = .returned (.tuple #[]) ∧
      ∃ pl', S17.Perm n pl' ∧ (∀ i j, i < j → j ≤ n → ¬ S17.cf n l (fun i => rl.getD i 0) (pl'.getD j 0) (pl'.getD i 0) < 0) ∧ Blk w' P (Nats pl') 3 ∧ (∀ c cs t, c ≠ P → Blk W c cs t → Blk w' c cs t) ∧
        (∀ B, B ≤ P → B ≤ W.heap.size → Below B W w') := by
  subst hnb
  exact sort17_call b hn l hl rl hrl hr pl hp P Bl Bn Br Bf R cap W hP hBl hBn hBr hR hBf n1 n2 n3 n4 n5
theorem Nats_cell {w : World} {B n : Nat} {pl : List Nat} (h : Blk w B (Nats pl) 3) (hp : S17.Perm n pl) {i : Nat} (hi : i ≤ n) : w.cell? ⟨B, i, none⟩ = some (.int .i64 ((pl.getD i 0 : Nat) : Int)) := by
  rw [h.cell]; exact Nats_at (by have := hp.len; omega)

/-- The number that a pointer's cell holds. -/
def numAt (v : Value) (w : World) : Nat := match v with
  | .pointer (some p) => match w.cell? p with
    | some x => (intOf x).toNat
    | none => 0
  | _ => 0

set_option maxRecDepth 100000 in
set_option maxHeartbeats 4000000 in
theorem sort17_any (b : List Int) (hn : b.length ≤ 150) (hb : ∀ x ∈ b, 0 ≤ x ∧ x < 256) (a : Option Addr) (cap : Nat) (w : World) (hrd : Rd w a (Bts b)) :
    Calls Try.prog 4 #[.slice a b.length cap] w fun e w' => ∃ P pl, e = .returned (.tuple #[.slice (some ⟨P, 0, none⟩) (b.length + 1) (b.length + 1), .int .i64 0]) ∧ w.heap.size ≤ P ∧ Blk w' P (Nats pl) 3 ∧ S17.Sorted b pl ∧ Below w.heap.size w w' := by
  obtain ⟨n, hnb⟩ : ∃ n, b.length = n := ⟨_, rfl⟩
  have hn' : n ≤ 150 := by omega
  have HRD := Lib.hid fun (W : World) (hW : Below w.heap.size w W) (i : Nat) (hi : i < n) => Bts_at (hrd.step hW) (i := i) (by omega)
  have HBy := Lib.hid fun (i : Nat) (hi : i < n) => (show 0 ≤ b.getD i 0 ∧ b.getD i 0 < 256 by
    rw [List.getD_eq_getElem?_getD, List.getElem?_eq_getElem (by omega)]; exact hb _ (List.getElem_mem (by omega)))
  rw [hnb]
  have Hnb := Lib.hid hnb
  have Hb := Lib.hid hb
  clear hnb hn hb hrd
  have hw1 : IntKind.i64.wrap ((n : Int) + 1) = (n : Int) + 1 := IntWalk.i64_in _ (by omega)
  have hmk := mk17 n (by omega)
  go_enter Try.func4, Try.ntmps4
  go_wp2_with fail
  refine Code.wp_mono (Q := fun e A W => e = .normal ∧ ∃ P R Br, A = { tmps := #[Value.slice a n cap, undef, Value.slice none 0 0, Value.int IntKind.i64 0, Value.pointer (some ⟨w.heap.size, 0, none⟩), Value.slice (some ⟨P, 0, none⟩) (n + 1) (n + 1), Value.pointer (some ⟨Br, 0, none⟩), undef, undef, undef, undef, undef, undef, Value.slice a n cap, Value.int IntKind.i64 (n : Int), Value.bool (decide ((65536 : Int) < (n : Int))), Value.slice a n cap, Value.int IntKind.i64 (n : Int), Value.int IntKind.i64 (n : Int), Value.int IntKind.i64 ((n : Int) + 1), Value.slice (some ⟨P, 0, none⟩) (n + 1) (n + 1), Value.int IntKind.i64 (n : Int), Value.int IntKind.i64 ((n : Int) + 1), Value.slice (some ⟨R, 0, none⟩) (n + 1) (n + 1), undef, undef, undef, undef, undef, undef, undef, undef, undef, undef, undef, undef, undef, undef, undef, undef, undef, undef, undef, undef, undef, undef, undef, undef, undef, undef, undef, undef, undef, undef, undef, undef, undef, undef, undef, undef, undef, undef, undef, undef, undef, undef, undef, undef, undef, undef, undef, undef, undef, undef, undef, undef, undef, undef, undef, undef, undef, undef, undef, undef, undef, undef, undef, undef, undef, undef, undef, undef, undef, undef, undef, undef, undef, undef, undef, undef, undef, undef, undef, undef, undef, undef, undef, undef], defers := [] } ∧ Beg17 n w P R Br W) ?rest ?region
  case region =>
    go_region
    all_goals
      obtain ⟨h0, h1, h2, h3, h4⟩ := four (w := w) _ _ _ _
      refine ⟨rfl, _, _, _, rfl, ⟨h4, h0, ?_, ?_, ?_, ?_⟩⟩
      · unfold Blk; rw [zeros17]; first | exact h1 | exact h2 | exact h3
      · unfold Blk; rw [zeros17]; first | exact h1 | exact h2 | exact h3
      · first | exact h1 | exact h2 | exact h3
      · omega
  rintro e A W ⟨rfl, P, R, Br, rfl, hB, b0, bP, bR, bB, d1, d2, d3, d4, d5, d6⟩
  have h5 := b0.lt
  have h6 := bP.lt
  have h7 := bR.lt
  have h8 := bB.lt
  go_wp2_with fail
  go_loopw [26] (fun v wr => ∃ (k : Nat) (xs ys : List Int), k ≤ n + 1 ∧ v = .int .i64 (k : Int) ∧ Hid (xs.length = n + 1) ∧ Hid (ys.length = n + 1) ∧ Hid (∀ i, i < k → xs.getD i 0 = (i : Int)) ∧ Hid (∀ i, i < k → i < n → ys.getD i 0 = b.getD i 0 + 1) ∧ Hid (ys.getD n 0 = 0) ∧
    Blk wr P (Ints xs) 3 ∧ Blk wr R (Ints ys) 3 ∧ Blk wr w.heap.size [.int .i64 (n : Int)] 3 ∧ Blk wr Br [.slice (some ⟨R, 0, none⟩) (n + 1) (n + 1)] 23 ∧ Below w.heap.size w wr) (fun v _ => n + 1 - (intOf v).toNat)
  case atStart =>
    refine ⟨0, List.replicate (n + 1) 0, List.replicate (n + 1) 0, by omega, rfl, Lib.hid (by simp), Lib.hid (by simp), Lib.hid (fun i hi => by omega), Lib.hid (fun i hi => by omega), Lib.hid ?_, bP, bR, b0, bB, hB⟩
    simp [List.getD_eq_getElem?_getD]
  case round =>
    clear hB b0 bP bR bB
    obtain ⟨k, xs, ys, hk, rfl, hxl, hyl, hx, hy, hy0, bP, bR, b0, bB, hB⟩ := hrel
    have hz := hB.size
    by_cases hlt : k < n + 1
    · have hkz : (k : Int) < (n : Int) + 1 := by omega
      have hkz' : (k : Int) < ((n + 1 : Nat) : Int) := by omega
      have cP := Ints_at bP (i := k) (by have := hxl.out; omega)
      have fP := bP.free k
      have c0 := (b0.other P k (.int .i64 (k : Int)) (by omega)).cell 0
      simp only [List.getElem?_cons_zero] at c0
      by_cases hkn : k < n
      · have hkn' : (k : Int) < (n : Int) := by omega
        obtain ⟨x, hxv⟩ : ∃ x, b.getD k 0 = x := ⟨_, rfl⟩
        have hxr := HBy.out k hkn
        have hgP := (bP.set k (.int .i64 (k : Int)))
        rw [← Ints_set] at hgP
        have hgR := bR.other P k (.int .i64 (k : Int)) (Ne.symm d4)
        have hg0 := b0.other P k (.int .i64 (k : Int)) (by omega)
        have hgB := bB.other P k (.int .i64 (k : Int)) (Ne.symm d5)
        have hBW : Below w.heap.size w (wr.setCell ⟨P, k, none⟩ (.int .i64 (k : Int))) := hB.setCell (p := ⟨P, k, none⟩) (by simp; omega) _
        obtain ⟨ab, ao, hab, hcb⟩ := HRD.out _ hBW k hkn
        rw [hxv] at hcb hxr
        subst hab
        have hwx : IntKind.i64.wrap x = x := IntWalk.i64_in _ (by omega)
        have hwx1 : IntKind.i64.wrap (x + 1) = x + 1 := IntWalk.i64_in _ (by omega)
        go_wp2_with fail
        obtain ⟨W1, hW1⟩ : ∃ W1, wr.setCell ⟨P, k, none⟩ (.int .i64 (k : Int)) = W1 := ⟨_, rfl⟩
        rw [hW1] at hgP hgR hg0 hgB hBW hcb c0 ⊢
        clear hW1
        have hCS : Cells W1 [(⟨Br, 0, none⟩, .slice (some ⟨R, 0, none⟩) (n + 1) (n + 1)), (⟨ab, ao + k, none⟩, .int .u8 x)] := ⟨hgB.cell 0, hcb, trivial⟩
        refine wp_region_seq 8 2 [(true, [true, true, true, true, true, true, true, true])] _ _ (Keeps W1 [(⟨Br, 0, none⟩, .slice (some ⟨R, 0, none⟩) (n + 1) (n + 1)), (⟨ab, ao + k, none⟩, .int .u8 x)]) (by kernel_rfl) (List.take_append_drop 8 _).symm (by kernel_rfl) (by kernel_rfl) (by kernel_rfl) (by kernel_rfl) (Keeps.start hCS) (fun Y Q4 F4 hY hF => ?_)
        simp only [phased, List.flatMap_cons, List.flatMap_nil, List.take_succ_cons, List.take_zero, List.drop_succ_cons, List.drop_zero, sel_true, sel_false, sel_nil, List.map_cons, List.map_nil, List.cons_append, List.nil_append, List.append_nil]
        repeat
          apply wpSeq_read (by first | rfl | (rw [hY]; rfl))
          · intro w2 hS2
            (try simp only [Keeps, Cells] at hS2)
            (try simp only [HasC, Cells] at hS2)
            go_simp
            with_reducible rfl
          simp only [Act.put, List.setIfInBounds_toArray, List.set_cons_zero, List.set_cons_succ]
        refine wpSeq_done (hF.out _ _ (fun K hK => ?_))
        clear hF hY
        have cR := (Ints_at hgR (i := k) (by have := hyl.out; omega))
        have fR := hgR.free k
        have cR' : W1.drew.cell? ⟨R, k, none⟩ = some (.int .i64 (ys.getD k 0)) := cR
        have fR' : W1.drew.frozen? ⟨R, k, none⟩ = false := fR
        go_wp2_with fail
        refine OnlyK.mk (hK.out _ _ ?_)
        clear hK
        have hqR := hgR.set k (.int .i64 (x + 1))
        rw [← Ints_set] at hqR
        have hqP := hgP.other R k (.int .i64 (x + 1)) d4
        have hq0 := hg0.other R k (.int .i64 (x + 1)) (by omega)
        have hqB := hgB.other R k (.int .i64 (x + 1)) (Ne.symm d6)
        have hBQ : Below w.heap.size w (W1.setCell ⟨R, k, none⟩ (.int .i64 (x + 1))).drew := (hBW.setCell (p := ⟨R, k, none⟩) (by simp; omega) _).drew
        go_wp2
        go_roundw
        case rel =>
          refine ⟨k + 1, xs.set k (k : Int), ys.set k (x + 1), by omega, by simp, Lib.hid (by rw [List.length_set]; exact hxl.out), Lib.hid (by rw [List.length_set]; exact hyl.out), Lib.hid (fun i hi => ?_), Lib.hid (fun i hi hi2 => ?_), Lib.hid ?_, hqP, hqR, hq0, hqB, hBQ⟩
          · by_cases e : k = i
            · subst e; exact getD_set_same (by have := hxl.out; omega) _
            · rw [getD_set_other e]; exact hx.out i (by omega)
          · by_cases e : k = i
            · subst e; rw [getD_set_same (by have := hyl.out; omega), hxv]
            · rw [getD_set_other e]; exact hy.out i (by omega) hi2
          · rw [getD_set_other (by omega)]; exact hy0.out
        case measure => simp [intOf]; omega
      · have hkn' : ¬ (k : Int) < (n : Int) := by omega
        have hgP := (bP.set k (.int .i64 (k : Int)))
        rw [← Ints_set] at hgP
        have hgR := bR.other P k (.int .i64 (k : Int)) (Ne.symm d4)
        have hg0 := b0.other P k (.int .i64 (k : Int)) (by omega)
        have hgB := bB.other P k (.int .i64 (k : Int)) (Ne.symm d5)
        have hBW : Below w.heap.size w (wr.setCell ⟨P, k, none⟩ (.int .i64 (k : Int))) := hB.setCell (p := ⟨P, k, none⟩) (by simp; omega) _
        go_wp2_with fail
        go_roundw
        case rel =>
          refine ⟨k + 1, xs.set k (k : Int), ys, by omega, by simp, Lib.hid (by rw [List.length_set]; exact hxl.out), hyl, Lib.hid (fun i hi => ?_), Lib.hid (fun i hi hi2 => hy.out i (by omega) hi2), hy0, hgP, hgR, hg0, hgB, hBW⟩
          · by_cases e : k = i
            · subst e; exact getD_set_same (by have := hxl.out; omega) _
            · rw [getD_set_other e]; exact hx.out i (by omega)
        case measure => simp [intOf]; omega
    · obtain rfl : k = n + 1 := by omega
      have bPl : Blk wr P (Nats (List.range (n + 1))) 3 := by rw [← Nats_of hxl.out hx.out]; exact bP
      have hRk : Hid (S17.Rk b 1 fun i => ys.getD i 0) := Lib.hid (S17.start (fun x hx => (Hb.out x hx).1) (fun p hp => hy.out p (by have := Hnb.out; omega) (by have := Hnb.out; omega)) (by rw [Hnb.out]; exact hy0.out))
      clear hx hy hy0 hxl bP
      go_wp2_with fail
      go_loopw [8] (fun v W => ∃ (l Bl R : Nat) (pl : List Nat) (rl : List Int), v = .pointer (some ⟨Bl, 0, none⟩) ∧ 1 ≤ l ∧ l ≤ 150 ∧ Hid (S17.Perm n pl) ∧ Hid (rl.length = n + 1) ∧ Hid (S17.Rk b l fun i => rl.getD i 0) ∧
        Blk W P (Nats pl) 3 ∧ Blk W R (Ints rl) 3 ∧ Blk W w.heap.size [.int .i64 (n : Int)] 3 ∧ Blk W Br [.slice (some ⟨R, 0, none⟩) (n + 1) (n + 1)] 23 ∧ Blk W Bl [.int .i64 (l : Int)] 3 ∧ Below w.heap.size w W ∧
        w.heap.size < R ∧ w.heap.size < Bl ∧ R ≠ P ∧ R ≠ Br ∧ Bl ≠ P ∧ Bl ≠ Br ∧ Bl ≠ R) (fun v W => 400 - numAt v W)
      case atStart =>
        exact ⟨1, wr.heap.size, R, _, ys, rfl, by omega, by omega, Lib.hid (List.Perm.refl _), hyl, hRk, bPl.alloc _, bR.alloc _, b0.alloc _, bB.alloc _, Blk.new wr [.int .i64 1] 3, hB.alloc hz _, d2, by have := b0.lt; omega, Ne.symm d4, d6, by have := bPl.lt; omega, by have := bB.lt; omega, by have := bR.lt; omega⟩
      case round =>
        clear bPl bR b0 bB hB hyl hRk ys d2 d4 d6 hz
        obtain ⟨l, Bl, RR, pl, rl, rfl, hl1, hl2, hpl, hrl, hRk, bP, bR, b0, bB, bL, hB, e1, e2, e3, e4, e5, e6, e7⟩ := hrel
        have hz := hB.size
        have lP := bP.lt
        have lR := bR.lt
        have lB := bB.lt
        have lL := bL.lt
        have hnum : numAt (.pointer (some ⟨Bl, 0, none⟩)) wr = l := by unfold numAt; simp only [bL.cell 0]; rfl
        have hc := sort17_call' b n Hnb.out hn' l (by omega) rl hrl.out hRk.out pl hpl.out P Bl w.heap.size Br wr.heap.size RR (n + 1) (wr.alloc (.cells #[.func (.func 8) #[] #[.pointer (some ⟨Bl, 0, none⟩), .pointer (some ⟨w.heap.size, 0, none⟩), .pointer (some ⟨Br, 0, none⟩)]] 32))
          (bP.alloc _) (bL.alloc _) (b0.alloc _) (bB.alloc _) (bR.alloc _) (Blk.new wr [_] 32) (by omega) (by omega) (by omega) (by omega) (by omega)
        have HC := Lib.hid hc
        clear hc
        go_wp2_with fail
        refine HC.out.mono ?_
        rintro e w2 ⟨rfl, pl2, hp2, hs2, q1, q2, q3⟩
        have g0 := q2 _ _ _ (by omega) (b0.alloc _)
        have gB := q2 _ _ _ (by omega) (bB.alloc _)
        have gL := q2 _ _ _ (by omega) (bL.alloc _)
        have gR := q2 _ _ _ (by omega) (bR.alloc _)
        have gF := q2 _ _ _ (by omega) (Blk.new wr [.func (.func 8) #[] #[.pointer (some ⟨Bl, 0, none⟩), .pointer (some ⟨w.heap.size, 0, none⟩), .pointer (some ⟨Br, 0, none⟩)]] 32)
        have hB2 : Below w.heap.size w w2 := (hB.alloc hz _).trans (q3 _ (by omega) (by simp; omega))
        have hS2 := Lib.hid hs2
        have hP2 := Lib.hid hp2
        clear q2 q3 hs2 hp2 HC
        have c0 := g0.cell 0
        have l2 := gF.lt
        have hz2 := hB2.size
        have l3 := q1.lt
        have l4 := gR.lt
        have l5 := gB.lt
        have l6 := gL.lt
        simp only [List.getElem?_cons_zero] at c0
        go_wp2_with fail
        obtain ⟨NX, hNX⟩ : ∃ NX, w2.heap.size = NX := ⟨_, rfl⟩
        have gN : Blk (w2.alloc (Obj.cells (Array.replicate (n + 1) (Value.int .i64 0)) 3)) NX (Ints (List.replicate (n + 1) 0)) 3 := by
          rw [← zeros17, ← hNX]; exact Blk.new w2 _ _
        rw [hNX] at l2 l3 l4 l5 l6 hz2 ⊢
        have gP := q1
        obtain ⟨W3, hW3⟩ : ∃ W3, w2.alloc (Obj.cells (Array.replicate (n + 1) (Value.int .i64 0)) 3) = W3 := ⟨_, rfl⟩
        have k0 : Blk W3 w.heap.size [.int .i64 (n : Int)] 3 := by rw [← hW3]; exact g0.alloc _
        have kB : Blk W3 Br [.slice (some ⟨RR, 0, none⟩) (n + 1) (n + 1)] 23 := by rw [← hW3]; exact gB.alloc _
        have kL : Blk W3 Bl [.int .i64 (l : Int)] 3 := by rw [← hW3]; exact gL.alloc _
        have kR : Blk W3 RR (Ints rl) 3 := by rw [← hW3]; exact gR.alloc _
        have kF : Blk W3 wr.heap.size [.func (.func 8) #[] #[.pointer (some ⟨Bl, 0, none⟩), .pointer (some ⟨w.heap.size, 0, none⟩), .pointer (some ⟨Br, 0, none⟩)]] 32 := by rw [← hW3]; exact gF.alloc _
        have kP : Blk W3 P (Nats pl2) 3 := by rw [← hW3]; exact gP.alloc _
        have kW : Below w.heap.size w W3 := by rw [← hW3]; exact hB2.alloc (by omega) _
        rw [hW3] at gN ⊢
        clear hW3 hNX g0 gB gL gR gF gP hB2 c0 q1 bP bR b0 bB bL hB
        obtain ⟨BF, hBF⟩ : ∃ BF, wr.heap.size = BF := ⟨_, rfl⟩
        rw [hBF] at kF l2 hz lP lR lB lL ⊢
        clear hBF
        have hDD := fun i => S17.D_in n l (fun i => rl.getD i 0) pl2 i
        have HDD := Lib.hid hDD
        clear hDD
        go_loopw [12] (fun v W => ∃ (k : Nat) (nl : List Int), 1 ≤ k ∧ k ≤ n + 1 ∧ v = .int .i64 (k : Int) ∧ Hid (nl.length = n + 1) ∧ Hid (∀ i, i < k → nl.getD (pl2.getD i 0) 0 = S17.D n l (fun i => rl.getD i 0) pl2 i) ∧
          Blk W NX (Ints nl) 3 ∧ Blk W w.heap.size [.int .i64 (n : Int)] 3 ∧ Blk W Br [.slice (some ⟨RR, 0, none⟩) (n + 1) (n + 1)] 23 ∧ Blk W Bl [.int .i64 (l : Int)] 3 ∧ Blk W RR (Ints rl) 3 ∧
          Blk W BF [.func (.func 8) #[] #[.pointer (some ⟨Bl, 0, none⟩), .pointer (some ⟨w.heap.size, 0, none⟩), .pointer (some ⟨Br, 0, none⟩)]] 32 ∧ Blk W P (Nats pl2) 3 ∧ Below w.heap.size w W) (fun v _ => n + 1 - (intOf v).toNat)
        case atStart =>
          refine ⟨1, List.replicate (n + 1) 0, by omega, by omega, rfl, Lib.hid (by simp), Lib.hid (fun i hi => ?_), gN, k0, kB, kL, kR, kF, kP, kW⟩
          obtain rfl : i = 0 := by omega
          rw [List.getD_eq_getElem?_getD, List.getElem?_replicate]
          unfold S17.D
          split <;> rfl
        case round =>
          clear gN k0 kB kL kR kF kP kW
          obtain ⟨k, nl, hk1, hk2, rfl, hnl, hnx, gN, k0, kB, kL, kR, kF, kP, kW⟩ := hrel
          have c0 := k0.cell 0
          simp only [List.getElem?_cons_zero] at c0
          by_cases hkn : k ≤ n
          · obtain ⟨j, hj⟩ : ∃ j, k = j + 1 := ⟨k - 1, by omega⟩
            have hkz : (k : Int) ≤ (n : Int) := by omega
            have hwj : IntKind.i64.wrap ((k : Int) - 1) = (j : Int) := by rw [IntWalk.i64_in _ (by omega)]; omega
            have cP := Nats_cell kP hP2.out (i := j) (by omega)
            have cQ := Nats_cell kP hP2.out (i := k) (by omega)
            have hpj := hP2.out.le (i := j) (by omega)
            have hqj := hP2.out.le (i := k) (by omega)
            have hne : pl2.getD j 0 ≠ pl2.getD k 0 := fun e => by have := hP2.out.inj (by omega) (by omega) e; omega
            have hold := Ints_at gN (i := pl2.getD j 0) (by have := hnl.out; omega)
            rw [hnx.out j (by omega)] at hold
            have hold2 := Ints_at gN (i := pl2.getD k 0) (by have := hnl.out; omega)
            have hDj := HDD.out j
            have hcf := cmp17_any n l (fun i => rl.getD i 0) hn' (by omega) (pl2.getD j 0) (pl2.getD k 0) hpj hqj Bl w.heap.size Br BF RR (n + 1)
            have HCF := Lib.hid hcf
            clear hcf
            have hDs : S17.D n l (fun i => rl.getD i 0) pl2 k = S17.D n l (fun i => rl.getD i 0) pl2 j + if S17.cf n l (fun i => rl.getD i 0) (pl2.getD j 0) (pl2.getD k 0) = 0 then 0 else 1 := by rw [hj]; rfl
            have Hinj := Lib.hid fun (i : Nat) (hi : i ≤ n) (e : pl2.getD k 0 = pl2.getD i 0) => hP2.out.inj (i := k) (j := i) (by omega) hi e
            have hjn : j + 1 ≤ n := by omega
            have hjk : j < k := by omega
            have Hj := Lib.hid hj
            clear hj
            obtain ⟨p, hpv⟩ : ∃ p, pl2.getD j 0 = p := ⟨_, rfl⟩
            obtain ⟨q, hqv⟩ : ∃ q, pl2.getD k 0 = q := ⟨_, rfl⟩
            obtain ⟨dj, hdj⟩ : ∃ d, S17.D n l (fun i => rl.getD i 0) pl2 j = d := ⟨_, rfl⟩
            obtain ⟨z, hzv⟩ : ∃ z, S17.cf n l (fun i => rl.getD i 0) p q = z := ⟨_, rfl⟩
            rw [hpv, hqv] at HCF hDs
            rw [hzv] at HCF hDs
            rw [hdj] at hold hDj hDs
            rw [hpv] at cP hpj hold hne
            rw [hqv] at cQ hqj hold2 hne Hinj
            clear hzv hdj
            have Hpv := Lib.hid hpv
            have Hqv := Lib.hid hqv
            clear hpv hqv
            have hpz : (p : Int) < (n : Int) + 1 := by omega
            have hqz : (q : Int) < (n : Int) + 1 := by omega
            have hjz : (j : Int) < (n : Int) + 1 := by omega
            have hkz2 : (k : Int) < (n : Int) + 1 := by omega
            have HDs := Lib.hid hDs
            clear hDs
            have hwd : IntKind.i64.wrap (dj + 1) = dj + 1 := IntWalk.i64_in _ (by omega)
            go_wp2_with fail
            have hCS : Cells wr [(⟨P, j, none⟩, .int .i64 (p : Int)), (⟨P, k, none⟩, .int .i64 (q : Int)), (⟨NX, p, none⟩, .int .i64 dj)] := ⟨cP, cQ, hold, trivial⟩
            refine wp_region_seq 13 2 [(true, [true, true, true, true, true, true, true, true, true, true, true, true, true])] _ _ (Keeps wr [(⟨P, j, none⟩, .int .i64 (p : Int)), (⟨P, k, none⟩, .int .i64 (q : Int)), (⟨NX, p, none⟩, .int .i64 dj)]) (by kernel_rfl) (List.take_append_drop 13 _).symm (by kernel_rfl) (by kernel_rfl) (by kernel_rfl) (by kernel_rfl) (Keeps.start hCS) (fun Y Q4 F4 hY hF => ?_)
            simp only [phased, List.flatMap_cons, List.flatMap_nil, List.take_succ_cons, List.take_zero, List.drop_succ_cons, List.drop_zero, sel_true, sel_false, sel_nil, List.map_cons, List.map_nil, List.cons_append, List.nil_append, List.append_nil]
            repeat
              apply wpSeq_read (by first | rfl | (rw [hY]; rfl))
              · intro w2 hS2
                (try simp only [Keeps, Cells] at hS2)
                (try simp only [HasC, Cells] at hS2)
                go_simp
                with_reducible rfl
              simp only [Act.put, List.setIfInBounds_toArray, List.set_cons_zero, List.set_cons_succ]
            refine wpSeq_done (hF.out _ _ (fun K hK => ?_))
            clear hF hY
            have o1 : wr.drew.cell? ⟨NX, q, none⟩ = some (.int .i64 (nl.getD q 0)) := hold2
            have o2 : wr.drew.frozen? ⟨NX, q, none⟩ = false := gN.free q
            go_wp2_with fail
            refine OnlyK.mk (hK.out _ _ ?_)
            clear hK
            obtain ⟨W4, hW4⟩ : ∃ W4, (wr.setCell ⟨NX, q, none⟩ (.int .i64 dj)).drew = W4 := ⟨_, rfl⟩
            have sN : Blk W4 NX (Ints (nl.set q dj)) 3 := by rw [← hW4, Ints_set]; exact gN.set q (.int .i64 dj)
            have s0 : Blk W4 w.heap.size [.int .i64 (n : Int)] 3 := by rw [← hW4]; exact k0.other NX q (.int .i64 dj) (by omega)
            have sB : Blk W4 Br [.slice (some ⟨RR, 0, none⟩) (n + 1) (n + 1)] 23 := by rw [← hW4]; exact kB.other NX q (.int .i64 dj) (by omega)
            have sL : Blk W4 Bl [.int .i64 (l : Int)] 3 := by rw [← hW4]; exact kL.other NX q (.int .i64 dj) (by omega)
            have sR : Blk W4 RR (Ints rl) 3 := by rw [← hW4]; exact kR.other NX q (.int .i64 dj) (by omega)
            have sF : Blk W4 BF [.func (.func 8) #[] #[.pointer (some ⟨Bl, 0, none⟩), .pointer (some ⟨w.heap.size, 0, none⟩), .pointer (some ⟨Br, 0, none⟩)]] 32 := by rw [← hW4]; exact kF.other NX q (.int .i64 dj) (by omega)
            have sP : Blk W4 P (Nats pl2) 3 := by rw [← hW4]; exact kP.other NX q (.int .i64 dj) (by omega)
            have sW : Below w.heap.size w W4 := by rw [← hW4]; exact (kW.setCell (p := ⟨NX, q, none⟩) (by simp; omega) _).drew
            rw [hW4]
            clear hW4 gN k0 kB kL kR kF kP kW cP cQ hold hold2 c0 o1 o2 hCS
            have cP : W4.cell? ⟨P, j, none⟩ = some (.int .i64 (p : Int)) := by rw [← Hpv.out]; exact Nats_cell sP hP2.out (i := j) (by omega)
            have cQ : W4.cell? ⟨P, k, none⟩ = some (.int .i64 (q : Int)) := by rw [← Hqv.out]; exact Nats_cell sP hP2.out (i := k) (by omega)
            have HCG := Lib.hid fun (V : World) (hV : Below W4.heap.size W4 V) => HCF.out V ((sL.step hV).cell 0) ((s0.step hV).cell 0) ((sB.step hV).cell 0) (fun i hi => Ints_at (sR.step hV) (i := i) (by have := hrl.out; omega)) ((sF.step hV).cell 0)
            clear HCF
            have hlen2 : Hid ((nl.set q dj).length = n + 1) := Lib.hid (by rw [List.length_set]; exact hnl.out)
            have hset : Hid ((nl.set q dj).getD q 0 = dj) := Lib.hid (getD_set_same (by have := hnl.out; omega) _)
            have hsetO : Hid (∀ i, i < k → (nl.set q dj).getD (pl2.getD i 0) 0 = S17.D n l (fun i => rl.getD i 0) pl2 i) := Lib.hid fun i hi => by
              rw [getD_set_other (fun e => by have := Hinj.out i (by omega) e; omega)]
              exact hnx.out i hi
            clear hnl hnx
            generalize nl.set q dj = nl2 at *
            have hCS : Cells W4 [(⟨P, j, none⟩, .int .i64 (p : Int)), (⟨P, k, none⟩, .int .i64 (q : Int))] := ⟨cP, cQ, trivial⟩
            by_cases hz0 : z = 0
            · have hzb : (z != 0) = false := by simp [hz0]
              have HDk : Hid (S17.D n l (fun i => rl.getD i 0) pl2 k = dj) := Lib.hid (by rw [HDs.out, if_pos hz0]; simp)
              clear HDs hz0
              go_wp2_with fail
              refine wp_region_seq 12 0 [(true, [true, true, true, true, true, true, true, true, true, true]), (false, [false, false, false, false, false, false, false, false, false, false, true]), (true, [false, false, false, false, false, false, false, false, false, false, false, true])] _ _ (Keeps W4 [(⟨P, j, none⟩, .int .i64 (p : Int)), (⟨P, k, none⟩, .int .i64 (q : Int))]) (by kernel_rfl) (List.take_append_drop 12 _).symm (by kernel_rfl) (by kernel_rfl) (by kernel_rfl) (by kernel_rfl) (Keeps.start hCS) (fun Y Q4 F4 hY hF => ?_)
              simp only [phased, List.flatMap_cons, List.flatMap_nil, List.take_succ_cons, List.take_zero, List.drop_succ_cons, List.drop_zero, sel_true, sel_false, sel_nil, List.map_cons, List.map_nil, List.cons_append, List.nil_append, List.append_nil]
              repeat
                apply wpSeq_read (by first | rfl | (rw [hY]; rfl))
                · intro w2 hS2
                  (try simp only [Keeps, Cells] at hS2)
                  (try simp only [HasC, Cells] at hS2)
                  go_simp
                  with_reducible rfl
                simp only [Act.put, List.setIfInBounds_toArray, List.set_cons_zero, List.set_cons_succ]
              apply wpSeq_call (by first | rfl | (rw [hY]; rfl))
              · go_simp
                with_reducible exact ⟨rfl, rfl⟩
              refine (HCG.out _ (Keeps.start hCS).1).mono ?_
              rintro e w5 ⟨rfl, hg5⟩
              have hk5 := (Keeps.start hCS).step hg5.below
              refine ⟨_, rfl, hk5, ?_⟩
              simp only [Act.put, List.setIfInBounds_toArray, List.set_cons_zero, List.set_cons_succ]
              repeat
                apply wpSeq_read (by first | rfl | (rw [hY]; rfl))
                · intro w2 hS2
                  (try simp only [Keeps, Cells] at hS2)
                  (try simp only [HasC, Cells] at hS2)
                  go_simp
                  with_reducible rfl
                simp only [Act.put, List.setIfInBounds_toArray, List.set_cons_zero, List.set_cons_succ]
              refine wpSeq_done (hF.out _ _ (fun K hK => ?_))
              clear hF hY
              refine OnlyK.mk (hK.out _ _ ?_)
              clear hK
              have h5 := hk5.1
              clear hk5 hg5
              have tN := sN.step h5
              have t0 := s0.step h5
              have tB := sB.step h5
              have tL := sL.step h5
              have tR := sR.step h5
              have tF := sF.step h5
              have tP := sP.step h5
              have tW := below_trans sW h5
              go_wp2
              go_roundw
              case rel =>
                refine ⟨k + 1, nl2, by omega, by omega, by simp, hlen2, Lib.hid (fun i hi => ?_), tN, t0, tB, tL, tR, tF, tP, tW⟩
                by_cases e : i = k
                · rw [e, Hqv.out, hset.out, HDk.out]
                · exact hsetO.out i (by omega)
              case measure => simp [intOf]; omega
            · have hzb : (z != 0) = true := by simp [hz0]
              have HDk : Hid (S17.D n l (fun i => rl.getD i 0) pl2 k = dj + 1) := Lib.hid (by rw [HDs.out, if_neg hz0])
              clear HDs hz0
              go_wp2_with fail
              refine wp_region_seq 12 0 [(true, [true, true, true, true, true, true, true, true, true, true]), (false, [false, false, false, false, false, false, false, false, false, false, true]), (true, [false, false, false, false, false, false, false, false, false, false, false, true])] _ _ (Keeps W4 [(⟨P, j, none⟩, .int .i64 (p : Int)), (⟨P, k, none⟩, .int .i64 (q : Int))]) (by kernel_rfl) (List.take_append_drop 12 _).symm (by kernel_rfl) (by kernel_rfl) (by kernel_rfl) (by kernel_rfl) (Keeps.start hCS) (fun Y Q4 F4 hY hF => ?_)
              simp only [phased, List.flatMap_cons, List.flatMap_nil, List.take_succ_cons, List.take_zero, List.drop_succ_cons, List.drop_zero, sel_true, sel_false, sel_nil, List.map_cons, List.map_nil, List.cons_append, List.nil_append, List.append_nil]
              repeat
                apply wpSeq_read (by first | rfl | (rw [hY]; rfl))
                · intro w2 hS2
                  (try simp only [Keeps, Cells] at hS2)
                  (try simp only [HasC, Cells] at hS2)
                  go_simp
                  with_reducible rfl
                simp only [Act.put, List.setIfInBounds_toArray, List.set_cons_zero, List.set_cons_succ]
              apply wpSeq_call (by first | rfl | (rw [hY]; rfl))
              · go_simp
                with_reducible exact ⟨rfl, rfl⟩
              refine (HCG.out _ (Keeps.start hCS).1).mono ?_
              rintro e w5 ⟨rfl, hg5⟩
              have hk5 := (Keeps.start hCS).step hg5.below
              refine ⟨_, rfl, hk5, ?_⟩
              simp only [Act.put, List.setIfInBounds_toArray, List.set_cons_zero, List.set_cons_succ]
              repeat
                apply wpSeq_read (by first | rfl | (rw [hY]; rfl))
                · intro w2 hS2
                  (try simp only [Keeps, Cells] at hS2)
                  (try simp only [HasC, Cells] at hS2)
                  go_simp
                  with_reducible rfl
                simp only [Act.put, List.setIfInBounds_toArray, List.set_cons_zero, List.set_cons_succ]
              refine wpSeq_done (hF.out _ _ (fun K hK => ?_))
              clear hF hY
              refine OnlyK.mk (hK.out _ _ ?_)
              clear hK
              have h5 := hk5.1
              have cQ5 := hk5.2.2.1
              clear hk5 hg5
              have tN := sN.step h5
              have t0 := s0.step h5
              have tB := sB.step h5
              have tL := sL.step h5
              have tR := sR.step h5
              have tF := sF.step h5
              have tP := sP.step h5
              have tW := below_trans sW h5
              have c5 := Ints_at tN (i := q) (by have := hlen2.out; omega)
              rw [hset.out] at c5
              have f5 := tN.free q
              go_wp2
              have vN := tN.set q (.int .i64 (dj + 1))
              rw [← Ints_set] at vN
              have v0 := t0.other NX q (.int .i64 (dj + 1)) (by omega)
              have vB := tB.other NX q (.int .i64 (dj + 1)) (by omega)
              have vL := tL.other NX q (.int .i64 (dj + 1)) (by omega)
              have vR := tR.other NX q (.int .i64 (dj + 1)) (by omega)
              have vF := tF.other NX q (.int .i64 (dj + 1)) (by omega)
              have vP := tP.other NX q (.int .i64 (dj + 1)) (by omega)
              have vW : Below w.heap.size w (w5.setCell ⟨NX, q, none⟩ (.int .i64 (dj + 1))) := tW.setCell (p := ⟨NX, q, none⟩) (by simp; omega) _
              go_roundw
              case rel =>
                refine ⟨k + 1, nl2.set q (dj + 1), by omega, by omega, by simp, Lib.hid (by rw [List.length_set]; exact hlen2.out), Lib.hid (fun i hi => ?_), vN, v0, vB, vL, vR, vF, vP, vW⟩
                by_cases e : i = k
                · rw [e, Hqv.out, getD_set_same (by have := hlen2.out; omega), HDk.out]
                · rw [getD_set_other (fun e' => by have := Hinj.out i (by omega) e'; omega)]
                  exact hsetO.out i (by omega)
              case measure => simp [intOf]; omega
          · obtain rfl : k = n + 1 := by omega
            have hkn2 : ¬ ((n + 1 : Nat) : Int) ≤ (n : Int) := by omega
            have fB := kB.free 0
            have cB := kB.cell 0
            simp only [List.getElem?_cons_zero] at cB
            go_wp2_with fail
            obtain ⟨W5, hW5⟩ : ∃ W5, wr.setCell ⟨Br, 0, none⟩ (.slice (some ⟨NX, 0, none⟩) (n + 1) (n + 1)) = W5 := ⟨_, rfl⟩
            have vB : Blk W5 Br [.slice (some ⟨NX, 0, none⟩) (n + 1) (n + 1)] 23 := by rw [← hW5]; exact kB.set 0 _
            have v0 : Blk W5 w.heap.size [.int .i64 (n : Int)] 3 := by rw [← hW5]; exact k0.other Br 0 _ (by omega)
            have vL : Blk W5 Bl [.int .i64 (l : Int)] 3 := by rw [← hW5]; exact kL.other Br 0 _ (by omega)
            have vN : Blk W5 NX (Ints nl) 3 := by rw [← hW5]; exact gN.other Br 0 _ (by omega)
            have vP : Blk W5 P (Nats pl2) 3 := by rw [← hW5]; exact kP.other Br 0 _ (by omega)
            have vW : Below w.heap.size w W5 := by rw [← hW5]; exact kW.setCell (p := ⟨Br, 0, none⟩) (by simp; omega) _
            rw [hW5]
            clear hW5
            have hqn := hP2.out.le (i := n) (by omega)
            have c1 := Nats_cell vP hP2.out (i := n) (by omega)
            have c2 := Ints_at vN (i := pl2.getD n 0) (by have := hnl.out; omega)
            rw [hnx.out n (by omega)] at c2
            have hDn := HDD.out n
            have HRnd := Lib.hid (S17.round' (nx := fun i => nl.getD i 0) Hnb.out hRk.out hP2.out (fun i j hi hj hlt => by have := hS2.out i j hi hj; omega) (fun i hi => hnx.out i (by omega)))
            obtain ⟨q, hqv⟩ : ∃ q, pl2.getD n 0 = q := ⟨_, rfl⟩
            obtain ⟨dn, hdn⟩ : ∃ d, S17.D n l (fun i => rl.getD i 0) pl2 n = d := ⟨_, rfl⟩
            rw [hqv] at c1 c2 hqn
            rw [hdn] at c2 hDn HRnd
            clear hqv hdn hnx kB k0 kL gN kP kW kR kF c0 cB fB
            have hqz : (q : Int) < (n : Int) + 1 := by omega
            have hnz : (n : Int) < (n : Int) + 1 := by omega
            have hCS : Cells W5 [(⟨Br, 0, none⟩, .slice (some ⟨NX, 0, none⟩) (n + 1) (n + 1)), (⟨P, n, none⟩, .int .i64 (q : Int)), (⟨w.heap.size, 0, none⟩, .int .i64 (n : Int)), (⟨NX, q, none⟩, .int .i64 dn)] := ⟨vB.cell 0, c1, v0.cell 0, c2, trivial⟩
            have dP : Blk W5.drew P (Nats pl2) 3 := vP
            have dW := vW.drew
            by_cases hdn : dn = n
            · have hdb : (dn == (n : Int)) = true := by simp [hdn]
              have hSo := Lib.hid (HRnd.out.2.1 hdn)
              clear HRnd hdn
              refine wp_region_seq 9 0 [(true, [true, true, true, true, true, true, true, true, true])] _ _ (Keeps W5 [(⟨Br, 0, none⟩, .slice (some ⟨NX, 0, none⟩) (n + 1) (n + 1)), (⟨P, n, none⟩, .int .i64 (q : Int)), (⟨w.heap.size, 0, none⟩, .int .i64 (n : Int)), (⟨NX, q, none⟩, .int .i64 dn)]) (by kernel_rfl) (List.take_append_drop 9 _).symm (by kernel_rfl) (by kernel_rfl) (by kernel_rfl) (by kernel_rfl) (Keeps.start hCS) (fun Y Q4 F4 hY hF => ?_)
              simp only [phased, List.flatMap_cons, List.flatMap_nil, List.take_succ_cons, List.take_zero, List.drop_succ_cons, List.drop_zero, sel_true, sel_false, sel_nil, List.map_cons, List.map_nil, List.cons_append, List.nil_append, List.append_nil]
              repeat
                apply wpSeq_read (by first | rfl | (rw [hY]; rfl))
                · intro w2 hS2
                  (try simp only [Keeps, Cells] at hS2)
                  (try simp only [HasC, Cells] at hS2)
                  go_simp
                  with_reducible rfl
                simp only [Act.put, List.setIfInBounds_toArray, List.set_cons_zero, List.set_cons_succ]
              refine wpSeq_done (hF.out _ _ (fun K hK => ?_))
              clear hF hY
              refine OnlyK.mk (hK.out _ _ ?_)
              clear hK
              go_wp2
              go_returns
              exact ⟨P, pl2, rfl, by omega, dP, hSo.out, dW⟩
            · have hdb : (dn == (n : Int)) = false := by simp [hdn]
              have hl3 := HRnd.out.2.2 hdn
              have hR2 := Lib.hid HRnd.out.1
              clear HRnd hdn
              have hwl : IntKind.i64.wrap ((l : Int) * 2) = (l : Int) * 2 := IntWalk.i64_in _ (by omega)
              refine wp_region_seq 9 0 [(true, [true, true, true, true, true, true, true, true, true])] _ _ (Keeps W5 [(⟨Br, 0, none⟩, .slice (some ⟨NX, 0, none⟩) (n + 1) (n + 1)), (⟨P, n, none⟩, .int .i64 (q : Int)), (⟨w.heap.size, 0, none⟩, .int .i64 (n : Int)), (⟨NX, q, none⟩, .int .i64 dn)]) (by kernel_rfl) (List.take_append_drop 9 _).symm (by kernel_rfl) (by kernel_rfl) (by kernel_rfl) (by kernel_rfl) (Keeps.start hCS) (fun Y Q4 F4 hY hF => ?_)
              simp only [phased, List.flatMap_cons, List.flatMap_nil, List.take_succ_cons, List.take_zero, List.drop_succ_cons, List.drop_zero, sel_true, sel_false, sel_nil, List.map_cons, List.map_nil, List.cons_append, List.nil_append, List.append_nil]
              repeat
                apply wpSeq_read (by first | rfl | (rw [hY]; rfl))
                · intro w2 hS2
                  (try simp only [Keeps, Cells] at hS2)
                  (try simp only [HasC, Cells] at hS2)
                  go_simp
                  with_reducible rfl
                simp only [Act.put, List.setIfInBounds_toArray, List.set_cons_zero, List.set_cons_succ]
              refine wpSeq_done (hF.out _ _ (fun K hK => ?_))
              clear hF hY
              refine OnlyK.mk (hK.out _ _ ?_)
              clear hK
              have cL : W5.drew.cell? ⟨Bl, 0, none⟩ = some (.int .i64 (l : Int)) := vL.cell 0
              go_wp2
              have e2 : (l : Int) * 2 = ((2 * l : Nat) : Int) := by omega
              rw [e2]
              have vL2 : Blk (W5.alloc (.cells #[.int .i64 ((2 * l : Nat) : Int)] 3)).drew W5.heap.size [.int .i64 ((2 * l : Nat) : Int)] 3 := Blk.new W5 [.int .i64 ((2 * l : Nat) : Int)] 3
              have e9 : numAt (.pointer (some ⟨W5.heap.size, 0, none⟩)) (W5.alloc (.cells #[.int .i64 ((2 * l : Nat) : Int)] 3)).drew = 2 * l := by
                unfold numAt
                simp only [vL2.cell 0]
                simp [intOf]
                omega
              have y1 := v0.lt
              have y2 := vN.lt
              have y3 := vP.lt
              have y4 := vB.lt
              refine ⟨?_, ?measure⟩
              · repeat apply Exists.intro
                refine ⟨?_, rfl⟩
                exact ⟨2 * l, W5.heap.size, NX, pl2, nl, rfl, by omega, by omega, hP2, hnl, hR2, vP.alloc _, vN.alloc _, v0.alloc _, vB.alloc _, vL2, (vW.alloc (by omega) _).drew, by omega, by omega, by omega, by omega, by omega, by omega, by omega⟩
              · show 400 - numAt (.pointer (some ⟨W5.heap.size, 0, none⟩)) _ < 400 - numAt (.pointer (some ⟨Bl, 0, none⟩)) _
                rw [e9, hnum]
                omega
end Go.Proofs.Ytalidjgniebohaa
