/- The length of a repetition (layer 12). No condition. -/
import Derived.Test.YtbfgdaijpcbddaaW12b
set_option linter.unusedSimpArgs false
set_option linter.unusedVariables false
set_option linter.unusedSectionVars false
namespace Go.Proofs.Ytbfgdaijpcbddaa
open Go.RowKit Go.Shelf
attribute [local go_sem] Oper.semAt_some

theorem getD_map_range {m k : Nat} {pre : List (Under m)} (h : pre.map Subtype.val = List.range k) : pre.length = k := by
  have := congrArg List.length h
  simpa using this
theorem mem_of_range {m k j : Nat} {pre : List (Under m)} (h : pre.map Subtype.val = List.range k) (hj : j < k) : ∃ x ∈ pre, x.1 = j := by
  have : j ∈ pre.map Subtype.val := by rw [h]; exact List.mem_range.2 hj
  obtain ⟨x, hx, e⟩ := List.mem_map.1 this
  exact ⟨x, hx, e⟩

def PreOK (xs : List Int) (p : Nat) (pre : List (Under p)) : Prop := ∀ k ∈ pre, S12.eqAt xs p k.1 = true
theorem PreOK.snoc {xs : List Int} {p : Nat} {pre : List (Under p)} {x : Under p} (h : PreOK xs p pre) (hx : S12.eqAt xs p x.1 = true) : PreOK xs p (pre ++ [x]) := fun k hk => by
  rcases List.mem_append.1 hk with h' | h'
  · exact h k h'
  · rw [List.mem_singleton.1 h']; exact hx
def StopAt (b : Nat) (xs : List Int) (p : Nat) (pre : List (Under p)) (X : World) : Prop :=
  ∃ (pr : List (Under p)) (x : Under p), pre = pr ++ [x] ∧ X.cell? ⟨b, 0, none⟩ = some (.int .i64 (pr.length : Int)) ∧ pr.length ≤ 255 ∧ PreOK xs p pr ∧ (S12.eqAt xs p x.1 = false ∨ pr.length = 255)
theorem StopAt.own {b : Nat} {xs : List Int} {p : Nat} {pre : List (Under p)} {A B : World} {row : Option Nat} (h : StopAt b xs p pre A) (hg : A.grownBy B row) (hr : ∀ r, row = some r → ∃ o : Obj, A.heap[r]? = some o ∧ o.isCells = false) : StopAt b xs p pre B := by
  obtain ⟨pr, x, h2, h3, h4⟩ := h
  exact ⟨pr, x, h2, cell_kept h3 hg hr, h4⟩

set_option maxRecDepth 100000 in
set_option maxHeartbeats 1000000 in
theorem repetition_any (b off cap : Nat) (xs : List Int) (p : Nat) (hp : p ≤ xs.length) (hlen : xs.length ≤ 1000000) (hcap : xs.length ≤ cap) (hne : 0 < xs.length) (w : World) (hrd : Rd w (some ⟨b, off, none⟩) (Bts xs)) :
    Calls Try.prog 53 #[.slice (some ⟨b, off, none⟩) xs.length cap, .int .i64 (p : Int)] w fun e w' => e = .returned (.int .i64 (S12.rep xs p : Int)) ∧ Below w.heap.size w w' := by
  obtain ⟨rp, hrp⟩ : ∃ r, S12.rep xs p = r := ⟨_, rfl⟩
  rw [hrp]
  have hbw : b < w.heap.size := by
    obtain ⟨b', o', e, hcc⟩ := hrd.at (i := 0) (by rw [Bts_length]; exact hne)
    cases e
    exact block_lt_of_cell (hcc 0 (by rw [Bts_length]; exact hne))
  refine (callsIn_wide (n := 9)).1 ?_
  refine callsIn_of_wp_marks Try.func53 rfl trivial ?_ rfl
  simp only [Try.ntmps53, List.size_toArray, List.length_cons, List.length_nil, Nat.reduceAdd, Nat.reduceSub, Array.replicate_succ, Array.replicate_zero, List.push_toArray, List.append_toArray, List.nil_append, List.cons_append]
  gi_wp2_with fail
  refine ⟨trivial, CallsIn.mono (callsIn_wide.2 (pairs_any _ _ _ _ _)) ?_⟩
  rintro e w2 ⟨rfl, rfl⟩
  gi_wp2_with fail
  obtain ⟨V, hV⟩ : ∃ V, ((w.alloc (Obj.cells #[Value.int IntKind.i64 0] 3)).alloc (Obj.cells #[Value.slice (some ⟨b, off, none⟩) xs.length cap] 22)).alloc (Obj.cells #[Value.int IntKind.i64 (p : Int)] 3) = V := ⟨_, rfl⟩
  have hVs : V.heap.size = w.heap.size + 3 := by rw [← hV]; simp
  have hVb : Below w.heap.size w V := by rw [← hV]; exact (((Below.refl _ _).alloc (Nat.le_refl _) _).alloc (by simp) _).alloc (by simp; omega) _
  have f1 : Blk V w.heap.size [.int .i64 0] 3 := by rw [← hV]; exact ((Blk.new w _ _).alloc _).alloc _
  have f2 : Blk V (w.heap.size + 1) [.slice (some ⟨b, off, none⟩) xs.length cap] 22 := by
    rw [← hV]; have h := (Blk.new (w.alloc (Obj.cells #[Value.int IntKind.i64 0] 3)) [.slice (some ⟨b, off, none⟩) xs.length cap] 22).alloc (Obj.cells #[Value.int IntKind.i64 (p : Int)] 3); rwa [World.size_alloc] at h
  have f3 : Blk V (w.heap.size + 1 + 1) [.int .i64 (p : Int)] 3 := by
    rw [← hV]; have h := Blk.new ((w.alloc (Obj.cells #[Value.int IntKind.i64 0] 3)).alloc (Obj.cells #[Value.slice (some ⟨b, off, none⟩) xs.length cap] 22)) [.int .i64 (p : Int)] 3; rwa [World.size_alloc, World.size_alloc] at h
  rw [hV]
  clear hV
  have hEq : ∀ k : Nat, (S12.eqAt xs p k = true ↔ xs.getD (p - 1 - k) 0 = xs.getD (xs.length - 1 - k) 0) := fun k => by unfold S12.eqAt; simp
  have HE := Lib.hid hEq
  have hDone : p ≤ 255 → (∀ k, k < p → S12.eqAt xs p k = true) → S12.rep xs p = p := fun h1 h2 => S12.rep_of (by omega) h2 (.inl (by omega))
  have hStop : ∀ k, k < p → (∀ j, j < k → S12.eqAt xs p j = true) → k ≤ 255 → (S12.eqAt xs p k = false ∨ k = 255) → S12.rep xs p = k := fun k h0 h1 h2 h3 => S12.rep_of (by omega) h1 (by rcases h3 with h | h; exact .inr h; exact .inl (by omega))
  rw [hrp] at hDone hStop
  have HD := Lib.hid hDone
  have HS := Lib.hid hStop
  clear hEq hDone hStop
  refine wpIn_rangeFunc_W rfl (by omega) (gf := 67) (lb := #[.pointer (some ⟨w.heap.size + 1, 0, none⟩), .pointer (some ⟨w.heap.size + 1 + 1, 0, none⟩)]) rfl trivial (enters_of Try.func67 (by kernel_rfl) rfl)
    (pairs_seq 8 (by omega) (w.heap.size + 1) (w.heap.size + 1 + 1) w.heap.size b off cap xs p hlen hp hcap (by omega) (by omega) (by omega) V (by omega) (f2.cell 0) (f3.cell 0) (hrd.step hVb)) (Below.refl _ _) (fun _ => rfl)
    (fun pre X => (X.cell? ⟨w.heap.size, 0, none⟩ = some (.int .i64 (pre.length : Int)) ∧ X.frozen? ⟨w.heap.size, 0, none⟩ = false ∧ pre.length ≤ 255 ∧ PreOK xs p pre) ∧ Below w.heap.size w X)
    (fun cd pre X => (cd = .exit 0 ∧ StopAt w.heap.size xs p pre X) ∧ Below w.heap.size w X)
    (OwnFrom.and (Own.from (fun s A B row hs hg hr => ⟨cell_kept hs.1 hg hr, (frozen_kept hs.1 hg hr).trans hs.2.1, hs.2.2⟩) _) (ownFrom_below (Nat.le_refl _) (by omega)))
    (fun cd => OwnFrom.and (Own.from (fun s A B row hs hg hr => ⟨hs.1, hs.2.own hg hr⟩) _) (ownFrom_below (Nat.le_refl _) (by omega)))
    ⟨⟨f1.cell 0, f1.free 0, by simp, fun k hk => by cases hk⟩, hVb⟩
    (fun x => { tmps := #[Value.slice (some { block := b, off := off }) xs.length cap, Value.int IntKind.i64 (p : Int), undef, undef,
          Value.int IntKind.i64 0, Value.pointer (some { block := w.heap.size, off := 0 }), .int .u8 (xs.getD (p - 1 - x.1) 0), .int .u8 (xs.getD (xs.length - 1 - x.1) 0),
          Value.slice (some { block := b, off := off }) xs.length cap, Value.int IntKind.i64 (p : Int),
          Value.func (Fn.func 67) #[]
            #[Value.pointer (some { block := w.heap.size + 1, off := 0 }),
              Value.pointer (some { block := w.heap.size + 1 + 1, off := 0 })],
          .int .u8 (xs.getD (p - 1 - x.1) 0), .int .u8 (xs.getD (xs.length - 1 - x.1) 0), undef, undef, undef, undef, undef, undef, undef, undef, undef, undef], defers := [] }) ?assign ?body ?done ?stop
  case assign =>
    intro m l' x X K hK
    gi_wp2
    exact hK
  case body =>
    rintro m l' pre x X ⟨⟨k1, k2, k3, k4⟩, hB⟩ hlt
    have he := HE.out x.1
    obtain ⟨xa, hxa⟩ : ∃ v, xs.getD (p - 1 - x.1) 0 = v := ⟨_, rfl⟩
    obtain ⟨xb, hxb⟩ : ∃ v, xs.getD (xs.length - 1 - x.1) 0 = v := ⟨_, rfl⟩
    rw [hxa, hxb] at he ⊢
    have hlx := block_lt_of_cell k1
    by_cases hab : xa = xb
    · subst hab
      have hok : S12.eqAt xs p x.1 = true := he.2 rfl
      by_cases h255 : pre.length = 255
      · have hc : ((pre.length : Int) == 255) = true := by simp; omega
        have hst : StopAt w.heap.size xs p (pre ++ [x]) X := ⟨pre, x, rfl, k1, k3, k4, .inr h255⟩
        clear he hok k4
        gi_wp2
        exact ⟨SameFrom.refl _ _, ⟨rfl, hst⟩, hB⟩
      · have hc : ((pre.length : Int) == 255) = false := by simp; omega
        have hsn := k4.snoc hok
        clear he hok k4
        gi_wp2
        refine ⟨SameFrom.setCell _ _ (by omega), KpO.setCell _ _, ⟨⟨?_, ?_, by simp; omega, hsn⟩, hB.setCell (p := ⟨w.heap.size, 0, none⟩) (by simp) _⟩⟩
        · rw [World.cell?_setCell_same' _ _ _ (by rw [k1]; rfl)]; simp
        · rw [World.frozen?_setCell]; exact k2
    · have hno : S12.eqAt xs p x.1 = false := by cases h : S12.eqAt xs p x.1; rfl; exact absurd (he.1 h) hab
      have hc : (xa != xb) = true := by simp [hab]
      have hst : StopAt w.heap.size xs p (pre ++ [x]) X := ⟨pre, x, rfl, k1, k3, k4, .inl hno⟩
      clear he k4
      gi_wp2
      exact ⟨SameFrom.refl _ _, ⟨rfl, hst⟩, hB⟩
  case done =>
    rintro D zs X hD hzs ⟨⟨k1, k2, k3, k4⟩, hB⟩ hK
    have hl := getD_map_range hzs
    obtain rfl : rp = p := HD.out (by omega) (fun k hk => by obtain ⟨x, hx, rfl⟩ := mem_of_range hzs hk; exact k4 x hx)
    rw [hl] at k1
    gi_wp2
    refine ⟨by simp, .inl ⟨_, _, rfl, run_takeDeferred hK, ?_⟩⟩
    refine ⟨_, ?_, rfl, hB.trans (belowK_b (w := w) (Nat.le_refl _) X D _ _ (by omega) hK rfl rfl)⟩
    simp [results, Try.f53, go_sem]
  case stop =>
    rintro D cd pre X hD ⟨k, hk, hpre⟩ ⟨⟨rfl, hst⟩, hB⟩ hK
    obtain ⟨pr, x, rfl, k1, k3, k4, k5⟩ := hst
    have hl := getD_map_range hpre
    obtain rfl : rp = pr.length := by
      have hl2 : k = pr.length + 1 := by simpa using hl.symm
      subst hl2
      rw [List.range_succ, List.map_append, List.map_singleton] at hpre
      obtain ⟨h1, h2⟩ := List.append_inj' hpre rfl
      simp at h2
      refine HS.out _ (by omega) (fun j hj => ?_) k3 (by rw [← h2]; exact k5.imp id (fun h => by omega))
      obtain ⟨y, hy, rfl⟩ := mem_of_range h1 hj
      exact k4 y hy
    gi_wp2
    refine ⟨by simp, .inl ⟨_, _, rfl, run_takeDeferred hK, ?_⟩⟩
    refine ⟨_, ?_, rfl, hB.trans (belowK_b (w := w) (Nat.le_refl _) X D _ _ (by omega) hK rfl rfl)⟩
    simp [results, Try.f53, go_sem]
end Go.Proofs.Ytbfgdaijpcbddaa
