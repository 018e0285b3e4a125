/- General lemmas for this seat's walks: a region whose order is open, in which some operations give values that depend on the order (fresh memory), with what is known of each. The walk's steps for regions with fresh values (Base8). Appending as one operation of a region with fresh values; cells kept by what grows. No condition. -/
import Derived.Test.YtalidjgniebohaaBase7
import Derived.Maps.AppendAt
set_option linter.unusedSimpArgs false
set_option linter.unusedVariables false
set_option linter.unusedSectionVars false
namespace Go.Proofs.Ytalidjgniebohaa
open Go.RowKit

section
variable {P : Program} {ops : Array Oper} {Q : Exit → Act → World → Prop} {S : World → Prop}

def AllP (p : Nat → Prop) : List Nat → Prop
  | [] => True
  | j :: r => p j ∧ AllP p r
theorem AllP_iff {p : Nat → Prop} : ∀ {l : List Nat}, AllP p l ↔ ∀ j ∈ l, p j
  | [] => by simp [AllP]
  | j :: r => by simp [AllP, AllP_iff (l := r)]

/-- An act in which just the operations of X have laid their values. -/
structure AtX (ops : Array Oper) (m : Nat) (V : Nat → Value) (a0 a : Act) (X : Nat → Prop) : Prop where
  defers : a.defers = a0.defers
  size : a.tmps.size = a0.tmps.size
  put : ∀ j t, j < m → X j → dstOf ops j = some t → t < a0.tmps.size → a.tmps[t]? = some (V j)
  old : ∀ t, (∀ j, j < m → X j → dstOf ops j ≠ some t) → a.tmps[t]? = a0.tmps[t]?

theorem AtX.congr {m : Nat} {V V' : Nat → Value} {a0 a : Act} {X X' : Nat → Prop} (h : AtX ops m V a0 a X) (hX : ∀ j, j < m → (X j ↔ X' j)) (hV : ∀ j, j < m → X j → V j = V' j) : AtX ops m V' a0 a X' :=
  ⟨h.defers, h.size, fun j t hj hx hd ht => by have hx' := (hX j hj).2 hx; rw [← hV j hj hx']; exact h.put j t hj hx' hd ht, fun t hn => h.old t fun j hj hx => hn j hj ((hX j hj).1 hx)⟩

theorem AtX.eq {m : Nat} {V : Nat → Value} {a0 a a' : Act} {X : Nat → Prop} (h : AtX ops m V a0 a X) (h' : AtX ops m V a0 a' X) : a = a' := by
  have e1 : a.tmps = a'.tmps := by
    refine Array.ext_getElem? fun t => ?_
    by_cases hj : ∃ j, j < m ∧ X j ∧ dstOf ops j = some t
    · obtain ⟨j, hj1, hj2, hj3⟩ := hj
      by_cases ht : t < a0.tmps.size
      · rw [h.put j t hj1 hj2 hj3 ht, h'.put j t hj1 hj2 hj3 ht]
      · rw [Array.getElem?_eq_none (by rw [h.size]; omega), Array.getElem?_eq_none (by rw [h'.size]; omega)]
    · have hn : ∀ j, j < m → X j → dstOf ops j ≠ some t := fun j h1 h2 h3 => hj ⟨j, h1, h2, h3⟩
      rw [h.old t hn, h'.old t hn]
  have e2 : a.defers = a'.defers := by rw [h.defers, h'.defers]
  cases a; cases a'
  simp only at e1 e2
  subst e1 e2
  rfl

theorem AtX.step {m i : Nat} {V : Nat → Value} {a0 a : Act} {X : Nat → Prop} (h : AtX ops m V a0 a X) (him : i < m)
    (hd : ∀ j, j < m → j ≠ i → ∀ t, dstOf ops i = some t → dstOf ops j ≠ some t) : AtX ops m V a0 (a.put (dstOf ops i) (V i)) (fun j => X j ∨ j = i) := by
  cases hdi : dstOf ops i with
  | none =>
    refine ⟨h.defers, h.size, fun j t hj hl hjt ht => ?_, fun t hn => h.old t fun j hj hl => hn j hj (.inl hl)⟩
    by_cases hji : j = i
    · subst hji; rw [hdi] at hjt; cases hjt
    · exact h.put j t hj (hl.resolve_right hji) hjt ht
  | some d =>
    have hput : (a.put (some d) (V i)).tmps = a.tmps.setIfInBounds d (V i) := rfl
    refine ⟨h.defers, by rw [hput, Array.size_setIfInBounds, h.size], fun j t hj hl hjt ht => ?_, fun t hn => ?_⟩
    · by_cases hji : j = i
      · subst hji
        rw [hdi] at hjt; cases hjt
        rw [hput, Array.getElem?_setIfInBounds_self_of_lt (by rw [h.size]; exact ht)]
      · have hne : d ≠ t := fun e => hd j hj hji d hdi (by rw [hjt, e])
        rw [hput, Array.getElem?_setIfInBounds_ne hne]
        exact h.put j t hj (hl.resolve_right hji) hjt ht
    · have hne : d ≠ t := fun e => hn i him (.inr rfl) (by rw [hdi, e])
      rw [hput, Array.getElem?_setIfInBounds_ne hne]
      exact h.old t fun j hj hl => hn j hj (.inl hl)

/-- An operation does the same in two acts that agree where it looks. -/
theorem AtX.same {m i : Nat} {o : Oper} {V V' : Nat → Value} {a b b' : Act} {X X' : Nat → Prop} (hsel : Region.noSelect ops = true) (hio : ops[i]? = some o)
    (h : AtX ops m V a b X) (h' : AtX ops m V' a b' X') (hj : ∀ j d, j < m → dstOf ops j = some d → d ∈ o.looksAt ops → X j ∧ X' j ∧ V j = V' j) :
    execOp b.eval o = execOp b'.eval o ∧ Region.wanted o (yielded ops b.tmps) = Region.wanted o (yielded ops b'.tmps) := by
  have htmp : ∀ d, d ∈ o.looksAt ops → b.tmps[d]? = b'.tmps[d]? := fun d hd => by
    by_cases hx : ∃ j, j < m ∧ dstOf ops j = some d
    · obtain ⟨j, hjm, hjd⟩ := hx
      obtain ⟨x1, x2, x3⟩ := hj j d hjm hjd hd
      by_cases ht : d < a.tmps.size
      · rw [h.put j d hjm x1 hjd ht, h'.put j d hjm x2 hjd ht, x3]
      · have s1 : b.tmps.size ≤ d := by rw [h.size]; exact Nat.le_of_not_lt ht
        have s2 : b'.tmps.size ≤ d := by rw [h'.size]; exact Nat.le_of_not_lt ht
        rw [Array.getElem?_eq_none s1, Array.getElem?_eq_none s2]
    · have hn : ∀ j, j < m → dstOf ops j ≠ some d := fun j h1 h2 => hx ⟨j, h1, h2⟩
      rw [h.old d (fun j hj _ => hn j hj), h'.old d (fun j hj _ => hn j hj)]
  refine ⟨execOp_congr o (fun cs c => Region.noSelect_spec hsel i o cs c hio) fun x hx => ?_, ?_⟩
  · cases x with
    | tmp d =>
      have := htmp d (List.mem_append_left _ (List.mem_filterMap.2 ⟨.tmp d, by simpa using hx, rfl⟩))
      simp only [Act.eval, Array.getD_eq_getD_getElem?, this]
    | const v => rfl
    | global g => rfl
    | func f => rfl
  · unfold Region.wanted
    cases hg : o.guard with
    | none => rfl
    | some gw =>
      obtain ⟨g, gb⟩ := gw
      have hy : yielded ops b.tmps g = yielded ops b'.tmps g := by
        unfold yielded
        cases hgd : (ops[g]?).bind (·.dst) with
        | none => rfl
        | some d =>
          have := htmp d (List.mem_append_right _ (by simp [hg, hgd]))
          simp only [Option.bind_some, this]
      simp only [hy]

/-- A run that gives v and keeps the world, or calls what gives v and only adds memory. -/
def Gv (P : Program) (w : World) (v : Value) : Result Next → Prop
  | .ok (.value u) w' => u = v ∧ w' = w
  | .ok (.enter f args) w' => w' = w ∧ Calls P f args w fun e w'' => e = .returned v ∧ Below w.heap.size w w''
  | _ => False
/-- A run that gives a value of which much is known: its shape H, and R in the new world, which keeps K. -/
def Mv (P : Program) (w : World) (H : Value → Prop) (R : Value → World → Prop) (K : World → Prop) : Result Next → Prop
  | .ok (.value u) w' => H u ∧ R u w' ∧ K w'
  | .ok (.enter f args) w' => w' = w ∧ Calls P f args w fun e w'' => ∃ u, e = .returned u ∧ H u ∧ R u w'' ∧ K w''
  | _ => False

def ConstY (P : Program) (Y : Array Value → Nat → Option Bool) (S : World → Prop) (o : Oper) (v : Value) (a : Act) : Prop :=
  (Region.wanted o (Y a.tmps) = true ∧ ∀ w, S w → Gv P w v ((execOp a.eval o).run P w)) ∨ (Region.wanted o (Y a.tmps) = false ∧ v = undef)
def PureY (P : Program) (Y : Array Value → Nat → Option Bool) (o : Oper) (v : Value) (a : Act) : Prop :=
  (Region.wanted o (Y a.tmps) = true ∧ ∀ w, (execOp a.eval o).run P w = .ok (.value v) w) ∨ (Region.wanted o (Y a.tmps) = false ∧ v = undef)

/-- What a region's fresh values are: which operations give them (nd), which compute from them (dv), the shape and what is known of each, what each needs (D), what it uses up (ex), which come later anyway (lat), and what remains (fin). -/
structure Fresh where
  nd : List Nat
  dv : List Nat
  Sh : Nat → Value → Prop
  R : Nat → Value → World → Prop
  D : Nat → List Nat
  ex : Nat → List Nat
  lat : Nat → List Nat
  fin : List Nat

def Fresh.isC (Z : Fresh) (k : Nat) : Bool := !Z.nd.contains k && !Z.dv.contains k

/-- First pass: what does not depend on fresh values. -/
def wpC (P : Program) (Y : Array Value → Nat → Option Bool) (S : World → Prop) (Z : Fresh) (F : Act → Prop) : Nat → List Oper → Act → Prop
  | _, [], a => F a
  | k, o :: rest, a => if Z.isC k then ∃ v, ConstY P Y S o v a ∧ wpC P Y S Z F (k + 1) rest (a.put o.dst v) else wpC P Y S Z F (k + 1) rest a
/-- Second pass, with the fresh values c. -/
def MakeY (P : Program) (Y : Array Value → Nat → Option Bool) (S : World → Prop) (Z : Fresh) (c : Nat → Value) (k : Nat) (o : Oper) (a : Act) : Prop :=
  Region.wanted o (Y a.tmps) = true ∧ ∀ w, S w → AllP (fun j => Z.R j (c j) w) (Z.D k) →
    Mv P w (Z.Sh k) (Z.R k) (fun w' => S w' ∧ ∀ j ∈ Z.nd, j ∉ Z.ex k → j ∉ Z.lat k → ∀ u, Z.Sh j u → Z.R j u w → Z.R j u w') ((execOp a.eval o).run P w)
def wpN (P : Program) (Y : Array Value → Nat → Option Bool) (S : World → Prop) (Z : Fresh) (c : Nat → Value) (F : Act → Prop) : Nat → List Oper → Act → Prop
  | _, [], a => F a
  | k, o :: rest, a =>
    if Z.isC k then wpN P Y S Z c F (k + 1) rest a
    else if Z.nd.contains k then MakeY P Y S Z c k o a ∧ wpN P Y S Z c F (k + 1) rest (a.put o.dst (c k))
    else ∃ v, PureY P Y o v a ∧ wpN P Y S Z c F (k + 1) rest (a.put o.dst v)

/-- All that is asked of the region's edges, as one Bool. -/
def freshB (ops : Array Oper) (m n : Nat) (Z : Fresh) : Bool :=
  Region.noSelect ops && decide (m + n = ops.size) &&
  ((List.range m).all fun i => (List.range m).all fun j => decide (i = j) || (match dstOf ops i with | some t => dstOf ops j != some t | none => true)) &&
  ((List.range m).all fun i => (List.range m).all fun j => match dstOf ops j, ops[i]? with | some t, some o => !(o.looksAt ops).contains t || (Region.waitsFor .any ops i j && (!Z.isC i || Z.isC j)) | _, _ => true) &&
  ((List.range ops.size).all fun i => match ops[i]? with | some o => o.after.all fun e => !Region.binds .any e || decide (e.on < i) | none => true) &&
  (Z.dv.all fun i => (List.range ops.size).all fun j => decide (j = i) || Region.waitsFor .any ops j i || Region.waitsFor .any ops i j || (match ops[i]?, ops[j]? with | some x, some y => x.apart ops y | _, _ => true)) &&
  (decide (n = 0) || ((List.range m).all fun i => Z.dv.contains i || (List.range (m + 1)).any fun j => decide (i < j) && Region.waitsFor .any ops j i && !Z.dv.contains j)) &&
  ((List.range ops.size).all fun t => decide (t ≤ m) || Region.waitsFor .any ops t (t - 1)) &&
  forced ops m n (fullL ops.size m) &&
  (Z.nd.all fun k => decide (k < m) && !Z.dv.contains k && (Z.D k).all fun j => Z.nd.contains j && Region.waitsFor .any ops k j && Z.nd.all fun e => !(Z.ex e).contains j || decide (e = k) || Region.waitsFor .any ops e k) &&
  (Z.fin.all fun j => Z.nd.contains j && Z.nd.all fun e => !(Z.ex e).contains j) &&
  (Z.nd.all fun k => (Z.lat k).all fun j => decide (j = k) || (List.range ops.size).any fun i => Region.waitsFor .any ops j i && (decide (i = k) || (Z.lat k).contains i))

/-- What the second pass lays open of the values V that belong to the fresh values c. -/
structure IsV (P : Program) (ops : Array Oper) (m : Nat) (S : World → Prop) (Z : Fresh) (a : Act) (F : (Nat → Value) → Act → Prop) (Vc c V : Nat → Value) : Prop where
  const : ∀ i, i < m → Z.isC i = true → V i = Vc i
  fresh : ∀ i o, i < m → ops[i]? = some o → Z.isC i = false → Z.nd.contains i = true → V i = c i ∧ ∃ b, AtX ops m V a b (fun j => Z.isC j = true ∨ j < i) ∧ MakeY P (yielded ops) S Z c i o b
  pure : ∀ i o, i < m → ops[i]? = some o → Z.isC i = false → Z.nd.contains i = false → ∃ b, AtX ops m V a b (fun j => Z.isC j = true ∨ j < i) ∧ Yields P ops o (V i) b
  fin : ∃ b, AtX ops m V a b (fun j => j < m) ∧ F c b

theorem IsV.uniq {m : Nat} {Z : Fresh} {a : Act} {F : (Nat → Value) → Act → Prop} {Vc c c' V V' : Nat → Value} (hsel : Region.noSelect ops = true)
    (hsz : m ≤ ops.size) (hback : ∀ {i : Nat} {o : Oper}, ops[i]? = some o → ∀ e ∈ o.after, Region.binds .any e = true → e.on < i)
    (hdep : ∀ i j t o, i < m → j < m → dstOf ops j = some t → ops[i]? = some o → t ∈ o.looksAt ops → Region.waitsFor .any ops i j = true)
    (h : IsV P ops m S Z a F Vc c V) (h' : IsV P ops m S Z a F Vc c' V') (L : Array Bool) (hc : HeadInv .any ops m L) (hcc : ∀ k, k < m → L.getD k false = true → Z.nd.contains k = true → c k = c' k) :
    ∀ i, i < m → L.getD i false = true → V i = V' i := by
  intro i
  induction i using Nat.strongRecOn with
  | _ i ih =>
    intro him hL
    by_cases hC : Z.isC i = true
    · rw [h.const i him hC, h'.const i him hC]
    · have hC' : Z.isC i = false := by simpa using hC
      have hio : ops[i]? = some (ops[i]'(by omega)) := by simp
      by_cases hn : Z.nd.contains i = true
      · rw [(h.fresh i _ him hio hC' hn).1, (h'.fresh i _ him hio hC' hn).1]
        exact hcc i him hL hn
      · have hn' : Z.nd.contains i = false := by simpa using hn
        obtain ⟨b, hb, y⟩ := h.pure i _ him hio hC' hn'
        obtain ⟨b', hb', y'⟩ := h'.pure i _ him hio hC' hn'
        have hs := AtX.same hsel hio hb hb' fun j d hj hjd hd => by
          have hw := hdep i j d _ him hj hjd hio hd
          obtain ⟨o2, ho2, e, he, hbd, hon⟩ := Region.waitsFor_spec hw
          have : o2 = _ := Option.some.inj (ho2.symm.trans hio)
          subst this
          have hji := hback hio e he hbd
          have hjL := hc.closed i _ hio hL e he hbd
          rw [hon] at hji hjL
          exact ⟨.inr hji, .inr hji, ih j hji hj hjL⟩
        unfold Yields at y y'
        rw [hs.1, hs.2] at y
        rcases y with ⟨w1, r1⟩ | ⟨w1, r1⟩ <;> rcases y' with ⟨w2, r2⟩ | ⟨w2, r2⟩
        · have := (r1 default).symm.trans (r2 default)
          simpa using this
        · rw [w1] at w2; cases w2
        · rw [w1] at w2; cases w2
        · rw [r1, r2]

/-- The first pass lays the constant values. -/
theorem passC {m : Nat} {Z : Fresh} {a : Act} {F : Act → Prop} {l : List Oper} (hopl : ∀ j, j < m → ops[j]? = l[j]?)
    (hdist : ∀ i, i < m → ∀ j, j < m → j ≠ i → ∀ t, dstOf ops i = some t → dstOf ops j ≠ some t) :
    ∀ (rest : List Oper) (k : Nat) (V0 : Nat → Value) (a1 : Act), k + rest.length = m → (∀ j, rest[j]? = if j < rest.length then l[k + j]? else none) →
      AtX ops m V0 a a1 (fun j => Z.isC j = true ∧ j < k) →
      (∀ i o, i < k → ops[i]? = some o → Z.isC i = true → ∃ b, AtX ops m V0 a b (fun j => Z.isC j = true ∧ j < i) ∧ ConstY P (yielded ops) S o (V0 i) b) →
      wpC P (yielded ops) S Z F k rest a1 →
      ∃ (V : Nat → Value) (a2 : Act), AtX ops m V a a2 (fun j => Z.isC j = true) ∧
        (∀ i o, i < m → ops[i]? = some o → Z.isC i = true → ∃ b, AtX ops m V a b (fun j => Z.isC j = true ∧ j < i) ∧ ConstY P (yielded ops) S o (V i) b) ∧ F a2 := by
  intro rest
  induction rest with
  | nil =>
    intro k V0 a1 hk _ hat hob hw
    simp only [List.length_nil, Nat.add_zero] at hk
    subst hk
    exact ⟨V0, a1, hat.congr (fun j hj => ⟨fun h => h.1, fun h => ⟨h, hj⟩⟩) (fun _ _ _ => rfl), hob, hw⟩
  | cons o rest ih =>
    intro k V0 a1 hk hr hat hob hw
    simp only [List.length_cons] at hk
    have hok : ops[k]? = some o := by
      rw [hopl k (by omega)]
      have := hr 0
      simpa using this.symm
    have hkd : dstOf ops k = o.dst := by simp [dstOf, hok]
    have hr' : ∀ j, rest[j]? = if j < rest.length then l[k + 1 + j]? else none := fun j => by
      have := hr (j + 1)
      simp only [List.getElem?_cons_succ, List.length_cons, Nat.add_lt_add_iff_right] at this
      rw [this, show k + (j + 1) = k + 1 + j by omega]
    unfold wpC at hw
    by_cases hC : Z.isC k = true
    · rw [if_pos hC] at hw
      obtain ⟨v, hv, hw⟩ := hw
      have agree : ∀ (b : Act) (X : Nat → Prop), (∀ j, X j → j < k) → AtX ops m V0 a b X → AtX ops m (fun j => if j = k then v else V0 j) a b X := fun b X hX hb =>
        hb.congr (fun _ _ => Iff.rfl) fun j _ hx => by
          have := hX j hx
          rw [if_neg (by omega)]
      refine ih (k + 1) (fun j => if j = k then v else V0 j) (a1.put o.dst v) (by omega) hr' ?_ ?_ hw
      · have h1 := (agree a1 _ (fun j h => h.2) hat).step (i := k) (by omega) (fun j hj hne t ht => hdist k (by omega) j hj hne t ht)
        rw [hkd] at h1
        simp only [if_true] at h1
        refine h1.congr (fun j hj => ⟨fun h => ?_, fun h => ?_⟩) (fun _ _ _ => rfl)
        · rcases h with h | rfl
          · exact ⟨h.1, by omega⟩
          · exact ⟨hC, by omega⟩
        · rcases Nat.lt_or_ge j k with h' | h'
          · exact .inl ⟨h.1, h'⟩
          · exact .inr (by omega)
      · intro i o' hi hio hiC
        by_cases hik : i = k
        · subst hik
          have : o' = o := Option.some.inj (hio.symm.trans hok)
          subst this
          exact ⟨a1, agree a1 _ (fun j h => h.2) hat, by simpa using hv⟩
        · obtain ⟨b, hb, hy⟩ := hob i o' (by omega) hio hiC
          exact ⟨b, agree b _ (fun j h => by omega) hb, by rw [if_neg hik]; exact hy⟩
    · rw [if_neg hC] at hw
      refine ih (k + 1) V0 a1 (by omega) hr' (hat.congr (fun j hj => ⟨fun h => ⟨h.1, by omega⟩, fun h => ⟨h.1, ?_⟩⟩) (fun _ _ _ => rfl)) (fun i o' hi hio hiC => ?_) hw
      · rcases Nat.lt_or_ge j k with h' | h'
        · exact h'
        · have : j = k := by omega
          subst this
          exact absurd h.1 hC
      · have : i ≠ k := fun e => hC (e ▸ hiC)
        exact hob i o' (by omega) hio hiC

/-- The second pass lays the others. -/
theorem passN {m : Nat} {Z : Fresh} {a : Act} {c : Nat → Value} {F : Act → Prop} {l : List Oper} (hopl : ∀ j, j < m → ops[j]? = l[j]?)
    (hdist : ∀ i, i < m → ∀ j, j < m → j ≠ i → ∀ t, dstOf ops i = some t → dstOf ops j ≠ some t) (Vc : Nat → Value) :
    ∀ (rest : List Oper) (k : Nat) (V0 : Nat → Value) (a1 : Act), k + rest.length = m → (∀ j, rest[j]? = if j < rest.length then l[k + j]? else none) →
      AtX ops m V0 a a1 (fun j => Z.isC j = true ∨ j < k) → (∀ i, i < m → Z.isC i = true → V0 i = Vc i) →
      (∀ i o, i < k → ops[i]? = some o → Z.isC i = false → Z.nd.contains i = true → V0 i = c i ∧ ∃ b, AtX ops m V0 a b (fun j => Z.isC j = true ∨ j < i) ∧ MakeY P (yielded ops) S Z c i o b) →
      (∀ i o, i < k → ops[i]? = some o → Z.isC i = false → Z.nd.contains i = false → ∃ b, AtX ops m V0 a b (fun j => Z.isC j = true ∨ j < i) ∧ Yields P ops o (V0 i) b) →
      wpN P (yielded ops) S Z c F k rest a1 →
      ∃ V, (∀ i, i < m → Z.isC i = true → V i = Vc i) ∧
        (∀ i o, i < m → ops[i]? = some o → Z.isC i = false → Z.nd.contains i = true → V i = c i ∧ ∃ b, AtX ops m V a b (fun j => Z.isC j = true ∨ j < i) ∧ MakeY P (yielded ops) S Z c i o b) ∧
        (∀ i o, i < m → ops[i]? = some o → Z.isC i = false → Z.nd.contains i = false → ∃ b, AtX ops m V a b (fun j => Z.isC j = true ∨ j < i) ∧ Yields P ops o (V i) b) ∧
        ∃ b, AtX ops m V a b (fun j => j < m) ∧ F b := by
  intro rest
  induction rest with
  | nil =>
    intro k V0 a1 hk _ hat hc hob hob2 hw
    simp only [List.length_nil, Nat.add_zero] at hk
    subst hk
    exact ⟨V0, hc, hob, hob2, a1, hat.congr (fun j hj => ⟨fun _ => hj, fun h => .inr h⟩) (fun _ _ _ => rfl), hw⟩
  | cons o rest ih =>
    intro k V0 a1 hk hr hat hc hob hob2 hw
    simp only [List.length_cons] at hk
    have hok : ops[k]? = some o := by
      rw [hopl k (by omega)]
      have := hr 0
      simpa using this.symm
    have hkd : dstOf ops k = o.dst := by simp [dstOf, hok]
    have hr' : ∀ j, rest[j]? = if j < rest.length then l[k + 1 + j]? else none := fun j => by
      have := hr (j + 1)
      simp only [List.getElem?_cons_succ, List.length_cons, Nat.add_lt_add_iff_right] at this
      rw [this, show k + (j + 1) = k + 1 + j by omega]
    unfold wpN at hw
    by_cases hC : Z.isC k = true
    · rw [if_pos hC] at hw
      refine ih (k + 1) V0 a1 (by omega) hr' (hat.congr (fun j hj => ⟨fun h => h.imp id fun h => by omega, fun h => ?_⟩) (fun _ _ _ => rfl)) hc (fun i o' hi hio hiC => ?_) (fun i o' hi hio hiC => ?_) hw
      · rcases h with h | h
        · exact .inl h
        · rcases Nat.lt_or_ge j k with h' | h'
          · exact .inr h'
          · have : j = k := by omega
            subst this
            exact .inl hC
      · have : i ≠ k := fun e => by subst e; rw [hC] at hiC; cases hiC
        exact hob i o' (by omega) hio hiC
      · have : i ≠ k := fun e => by subst e; rw [hC] at hiC; cases hiC
        exact hob2 i o' (by omega) hio hiC
    · rw [if_neg hC] at hw
      have hC' : Z.isC k = false := by simpa using hC
      have agree : ∀ (v : Value) (b : Act) (i : Nat), i ≤ k → AtX ops m V0 a b (fun j => Z.isC j = true ∨ j < i) → AtX ops m (fun j => if j = k then v else V0 j) a b (fun j => Z.isC j = true ∨ j < i) := fun v b i hi hb =>
        hb.congr (fun _ _ => Iff.rfl) fun j _ hx => by
          have : j ≠ k := fun e => by
            subst e
            rcases hx with h | h
            · exact hC h
            · omega
          rw [if_neg this]
      have put : ∀ v, AtX ops m (fun j => if j = k then v else V0 j) a (a1.put o.dst v) (fun j => Z.isC j = true ∨ j < k + 1) := fun v => by
        have h1 := (agree v a1 k (Nat.le_refl _) hat).step (i := k) (by omega) (fun j hj hne t ht => hdist k (by omega) j hj hne t ht)
        rw [hkd] at h1
        simp only [if_true] at h1
        refine h1.congr (fun j hj => ⟨fun h => ?_, fun h => ?_⟩) (fun _ _ _ => rfl)
        · rcases h with (h | h) | rfl
          · exact .inl h
          · exact .inr (by omega)
          · exact .inr (by omega)
        · rcases h with h | h
          · exact .inl (.inl h)
          · rcases Nat.lt_or_ge j k with h' | h'
            · exact .inl (.inr h')
            · exact .inr (by omega)
      have hc' : ∀ v, ∀ i, i < m → Z.isC i = true → (fun j => if j = k then v else V0 j) i = Vc i := fun v i hi hiC => by
        have : i ≠ k := fun e => hC (e ▸ hiC)
        simp only [if_neg this]
        exact hc i hi hiC
      have keep1 : ∀ v i o', i < k → ops[i]? = some o' → Z.isC i = false → Z.nd.contains i = true → (fun j => if j = k then v else V0 j) i = c i ∧ ∃ b, AtX ops m (fun j => if j = k then v else V0 j) a b (fun j => Z.isC j = true ∨ j < i) ∧ MakeY P (yielded ops) S Z c i o' b := fun v i o' hi hio hiC hn => by
        obtain ⟨e, b, hb, hy⟩ := hob i o' hi hio hiC hn
        exact ⟨by simp only [if_neg (show i ≠ k by omega)]; exact e, b, agree v b i (by omega) hb, hy⟩
      have keep2 : ∀ v i o', i < k → ops[i]? = some o' → Z.isC i = false → Z.nd.contains i = false → ∃ b, AtX ops m (fun j => if j = k then v else V0 j) a b (fun j => Z.isC j = true ∨ j < i) ∧ Yields P ops o' ((fun j => if j = k then v else V0 j) i) b := fun v i o' hi hio hiC hn => by
        obtain ⟨b, hb, hy⟩ := hob2 i o' hi hio hiC hn
        exact ⟨b, agree v b i (by omega) hb, by simp only [if_neg (show i ≠ k by omega)]; exact hy⟩
      by_cases hn : Z.nd.contains k = true
      · rw [if_pos hn] at hw
        obtain ⟨hv, hw⟩ := hw
        refine ih (k + 1) (fun j => if j = k then c k else V0 j) (a1.put o.dst (c k)) (by omega) hr' (put _) (hc' _) (fun i o' hi hio hiC hn' => ?_) (fun i o' hi hio hiC hn' => ?_) hw
        · by_cases hik : i = k
          · subst hik
            have : o' = o := Option.some.inj (hio.symm.trans hok)
            subst this
            exact ⟨by simp, a1, agree _ a1 i (Nat.le_refl _) hat, hv⟩
          · exact keep1 _ i o' (by omega) hio hiC hn'
        · have : i ≠ k := fun e => by subst e; rw [hn] at hn'; cases hn'
          exact keep2 _ i o' (by omega) hio hiC hn'
      · rw [if_neg hn] at hw
        obtain ⟨v, hv, hw⟩ := hw
        refine ih (k + 1) (fun j => if j = k then v else V0 j) (a1.put o.dst v) (by omega) hr' (put _) (hc' _) (fun i o' hi hio hiC hn' => ?_) (fun i o' hi hio hiC hn' => ?_) hw
        · have : i ≠ k := fun e => hn (e ▸ hn')
          exact keep1 _ i o' (by omega) hio hiC hn'
        · by_cases hik : i = k
          · subst hik
            have : o' = o := Option.some.inj (hio.symm.trans hok)
            subst this
            exact ⟨a1, agree _ a1 i (Nat.le_refl _) hat, by simp only [if_true]; exact hv⟩
          · exact keep2 _ i o' (by omega) hio hiC hn'

theorem ConstY.wpOp {i : Nat} {o : Oper} {v : Value} {a : Act} (hi : ops[i]? = some o) (hy : ConstY P (yielded ops) S o v a)
    {K : Act → World → Prop} {w : World} (hS : S w) (h : ∀ w', Below w.heap.size w w' → K (a.put o.dst v) w') : wpOp P ops Q i K a w := by
  unfold Go.wpOp
  simp only [hi]
  rcases hy with ⟨hw, hv⟩ | ⟨hw, rfl⟩
  · simp only [hw, if_true, Oper.wp]
    refine .inl ?_
    have hv := hv w hS
    revert hv
    generalize (execOp a.eval o).run P w = r
    intro hv
    cases r with
    | ok n w' =>
      cases n <;> simp only [Gv] at hv
      case value u => obtain ⟨rfl, rfl⟩ := hv; exact h _ (Below.refl _ _)
      case enter f args =>
        obtain ⟨rfl, hc⟩ := hv
        refine Calls.mono hc ?_
        rintro e w'' ⟨rfl, hb⟩
        exact h _ hb
    | halt x w' => simp [Gv] at hv
  · simp only [hw, Bool.false_eq_true, if_false]; exact h w (Below.refl _ _)

theorem MakeY.wpOp {i : Nat} {o : Oper} {a : Act} {Z : Fresh} {c : Nat → Value} (hi : ops[i]? = some o) (hy : MakeY P (yielded ops) S Z c i o a)
    {K : Act → World → Prop} {w : World} (hS : S w) (hD : AllP (fun j => Z.R j (c j) w) (Z.D i))
    (h : ∀ u w', Z.Sh i u → Z.R i u w' → S w' → (∀ j ∈ Z.nd, j ∉ Z.ex i → j ∉ Z.lat i → ∀ u, Z.Sh j u → Z.R j u w → Z.R j u w') → K (a.put o.dst u) w') : wpOp P ops Q i K a w := by
  unfold Go.wpOp
  simp only [hi]
  obtain ⟨hw, hv⟩ := hy
  simp only [hw, if_true, Oper.wp]
  refine .inl ?_
  have hv := hv w hS hD
  revert hv
  generalize (execOp a.eval o).run P w = r
  intro hv
  cases r with
  | ok n w' =>
    cases n <;> simp only [Mv] at hv
    case value u => obtain ⟨h1, h2, h3, h4⟩ := hv; exact h _ _ h1 h2 h3 h4
    case enter f args =>
      obtain ⟨rfl, hc⟩ := hv
      refine Calls.mono hc ?_
      rintro e w'' ⟨u, rfl, h1, h2, h3, h4⟩
      exact h _ _ h1 h2 h3 h4
  | halt x w' => simp [Mv] at hv

theorem wp_region_fresh_core {id : Nat} {a : Act} {w : World} (m n : Nat) (l t : List Oper) (S : World → Prop) (Z : Fresh) (hm : P.follows .mixedOrders = true) (hops : ops.toList = l ++ t) (hl : l.length = m) (ht : t.length = n)
    (ho : freshB ops m n Z = true) (hQ : ∀ c a d v w, Q (.panic c) (Act.put a d v) w → Q (.panic c) a w) (hS : S w.drew)
    (hSst : ∀ w w', S w → Below w.heap.size w w' → S w') (hRst : ∀ k ∈ Z.nd, ∀ u w w', Z.R k u w → Below w.heap.size w w' → Z.R k u w')
    (hdef : ∃ c : Nat → Value, ∀ k ∈ Z.nd, Z.Sh k (c k))
    (h : wpC P (yielded ops) S Z (fun a1 => ∀ c : Nat → Value, (∀ k ∈ Z.nd, Z.Sh k (c k)) → wpN P (yielded ops) S Z c (fun a2 => ∀ w', S w' → AllP (fun k => Z.R k (c k) w') Z.fin → wpList P ops Q t a2 w') 0 l a1) 0 l a) :
    (Code.region id ops true).wp P Q a w := by
  simp only [freshB, Bool.and_eq_true, decide_eq_true_eq, List.all_eq_true, List.mem_range, Bool.or_eq_true] at ho
  obtain ⟨⟨⟨⟨⟨⟨⟨⟨⟨⟨⟨hsel, hsz⟩, hdist⟩, hdep⟩, hback⟩, hfl⟩, hsink⟩, hchain⟩, hforce⟩, hnd⟩, hfin⟩, hlat⟩ := ho
  have hopl : ∀ j, j < m → ops[j]? = l[j]? := fun j hj => by
    have h1 : ops[j]? = (l ++ t)[j]? := by rw [← hops]; simp
    rw [h1, List.getElem?_append_left (by omega)]
  have hop2 : ∀ j, t[j]? = if j < n then ops[m + j]? else none := fun j => by
    have h1 : ops[m + j]? = (l ++ t)[m + j]? := by rw [← hops]; simp
    rw [h1]
    split
    · rw [List.getElem?_append_right (by omega), hl, Nat.add_sub_cancel_left]
    · rw [List.getElem?_eq_none (by omega)]
  have hback' : ∀ {i : Nat} {o : Oper}, ops[i]? = some o → ∀ e ∈ o.after, Region.binds .any e = true → e.on < i := fun {i o} hi e he hb => by
    have := hback i (Array.getElem?_eq_some_iff.1 hi).1
    simp only [hi] at this
    have := Array.all_eq_true_iff_forall_mem.1 this e he
    simpa [hb] using this
  have hdist' : ∀ i, i < m → ∀ j, j < m → j ≠ i → ∀ t, dstOf ops i = some t → dstOf ops j ≠ some t := fun i hi j hj hne t ht e => by
    have := (hdist i hi j hj).resolve_left (Ne.symm hne)
    simp [ht, e] at this
  have hdep' : ∀ i j t o, i < m → j < m → dstOf ops j = some t → ops[i]? = some o → t ∈ o.looksAt ops → Region.waitsFor .any ops i j = true ∧ (Z.isC i = true → Z.isC j = true) := fun i j t o hi hj hjt hio hto => by
    have := hdep i hi j hj
    simp only [hjt, hio] at this
    simp [hto] at this
    exact ⟨this.1, fun hC => by
      rcases this.2 with h | h
      · rw [hC] at h; cases h
      · exact h⟩
  obtain ⟨Vc, a1, hat1, hC, hN0⟩ := passC (S := S) (Z := Z) (m := m) (a := a) hopl hdist' l 0 (fun _ => undef) a (by omega)
    (fun j => by
      split
      · rw [Nat.zero_add]
      · rw [List.getElem?_eq_none (by omega)])
    ⟨rfl, rfl, fun i t _ hL _ _ => absurd hL.2 (Nat.not_lt_zero _), fun t _ => rfl⟩ (fun i o hi _ _ => absurd hi (Nat.not_lt_zero _)) h
  have hN : ∀ c : Nat → Value, (∀ k ∈ Z.nd, Z.Sh k (c k)) → ∃ V, IsV P ops m S Z a (fun c a2 => ∀ w', S w' → AllP (fun k => Z.R k (c k) w') Z.fin → wpList P ops Q t a2 w') Vc c V := fun c hc => by
    obtain ⟨V, h1, h2, h3, h4⟩ := passN (S := S) (Z := Z) (m := m) (a := a) (c := c) hopl hdist' Vc l 0 Vc a1 (by omega)
      (fun j => by
        split
        · rw [Nat.zero_add]
        · rw [List.getElem?_eq_none (by omega)])
      (hat1.congr (fun j hj => ⟨fun h => .inl h, fun h => h.resolve_right (Nat.not_lt_zero _)⟩) (fun _ _ _ => rfl)) (fun _ _ _ => rfl)
      (fun i o hi _ _ => absurd hi (Nat.not_lt_zero _)) (fun i o hi _ _ => absurd hi (Nat.not_lt_zero _)) (hN0 c hc)
    exact ⟨V, h1, h2, h3, h4⟩
  have hcore : ∀ (cnt : Nat) (L : Array Bool) (b : Act) (w' : World) (c V : Nat → Value), cntU m L = cnt → HeadInv .any ops m L → (∀ k ∈ Z.nd, Z.Sh k (c k)) →
      IsV P ops m S Z a (fun c a2 => ∀ w', S w' → AllP (fun k => Z.R k (c k) w') Z.fin → wpList P ops Q t a2 w') Vc c V → AtX ops m V a b (fun j => L.getD j false = true) → S w' →
      (∀ k ∈ Z.nd, L.getD k false = true → (∀ e ∈ Z.nd, k ∈ Z.ex e → L.getD e false = false) → Z.R k (c k) w') → wpAny P .any ops Q (cnt + n) L b w' := by
    intro cnt
    induction cnt with
    | zero =>
      intro L b w' c V hc hinv hsh hV hat hS' hR
      have hall := cntU_zero m L hc
      have hallf : ∀ i, i < m → L.getD i false = true := fun i hi => by
        have := hall i hi
        have h2 : i < L.size := by rw [hinv.size]; omega
        simp [h2] at this ⊢
        exact this
      have eL : L = fullL ops.size m := by
        refine Array.ext_getElem? fun i => ?_
        by_cases hi : i < ops.size
        · have h1 : L.getD i true = decide (i < m) := by
            by_cases him : i < m
            · rw [hall i him]; simpa using him
            · rw [hinv.tail i (by omega) hi]; simp [him]
          have h2 : i < L.size := by rw [hinv.size]; exact hi
          simp [h2] at h1
          simp [fullL, hi, h2, h1]
        · rw [Array.getElem?_eq_none (by rw [hinv.size]; omega), Array.getElem?_eq_none (by simp [fullL]; omega)]
      obtain ⟨b2, hb2, hF⟩ := hV.fin
      have eb := (hat.congr (X' := fun j => j < m) (fun j hj => ⟨fun _ => hj, fun _ => hallf j hj⟩) (fun _ _ _ => rfl)).eq hb2
      subst eb
      subst eL
      rw [Nat.zero_add]
      refine wpAny_forced n m _ t ht hop2 (by omega) hforce _ w' (hF w' hS' (AllP_iff.2 fun j hj => ?_))
      have h1 := hfin j hj
      simp only [List.contains_iff_mem] at h1
      have hjm := (hnd j h1.1).1.1
      exact hR j h1.1 (hallf j hjm) fun e he hje => by
        have := h1.2 e he
        simp [hje] at this
    | succ cnt ih =>
      intro L b w' c V hc hinv hsh hV hat hS' hR
      rw [show cnt + 1 + n = (cnt + n) + 1 by omega]
      have listed : ∀ i, i < m → i ∈ Region.ready .any ops L → ∀ j d o, j < m → ops[i]? = some o → dstOf ops j = some d → d ∈ o.looksAt ops → L.getD j false = true ∧ j < i := fun i him hr j d o hj hio hjd hd => by
        obtain ⟨hun, o', ho', hall⟩ := mem_ready.1 hr
        have : o' = o := Option.some.inj (ho'.symm.trans hio)
        subst this
        have hw := (hdep' i j d o' him hj hjd hio hd).1
        obtain ⟨o2, ho2, e, he, hb, hon⟩ := Region.waitsFor_spec hw
        have : o2 = o' := Option.some.inj (ho2.symm.trans hio)
        subst this
        have hjL := hall e he hb
        have hji := hback' hio e he hb
        rw [hon] at hjL hji
        exact ⟨hjL, hji⟩
      have same2 : ∀ i o b0, i < m → i ∈ Region.ready .any ops L → ops[i]? = some o → AtX ops m V a b0 (fun j => Z.isC j = true ∨ j < i) →
          execOp b.eval o = execOp b0.eval o ∧ Region.wanted o (yielded ops b.tmps) = Region.wanted o (yielded ops b0.tmps) := fun i o b0 him hr hio hb0 =>
        AtX.same hsel hio hat hb0 fun j d hj hjd hd => by
          have := listed i him hr j d o hj hio hjd hd
          exact ⟨this.1, .inr this.2, rfl⟩
      have atSet : ∀ i, i < m → L.getD i true = false → AtX ops m V a (b.put (dstOf ops i) (V i)) (fun j => (L.setIfInBounds i true).getD j false = true) := fun i him hun => by
        have hiL : i < L.size := by rw [hinv.size]; omega
        refine (hat.step him (hdist' i him)).congr (fun j hj => ?_) (fun _ _ _ => rfl)
        by_cases hji : j = i
        · subst hji; simp [hiL]
        · rw [getD_set_ne false (Ne.symm hji)]; simp [hji]
      have keepR : ∀ i, i < m → Z.nd.contains i = false → ∀ w2, Below w'.heap.size w' w2 → (∀ k ∈ Z.nd, (L.setIfInBounds i true).getD k false = true → (∀ e ∈ Z.nd, k ∈ Z.ex e → (L.setIfInBounds i true).getD e false = false) → Z.R k (c k) w2) := fun i him hin w2 hb k hk hkL hex => by
        have hki : i ≠ k := fun e => by subst e; simp [hk] at hin
        rw [getD_set_ne false hki] at hkL
        refine hRst k hk _ _ _ (hR k hk hkL fun e he hke => ?_) hb
        have h1 := hex e he hke
        cases hx : L.getD e false with
        | false => rfl
        | true => rw [getD_set_true hx] at h1; cases h1
      by_cases hf : ∃ i, i < m ∧ Z.dv.contains i = true ∧ i ∈ Region.ready .any ops L
      · obtain ⟨i, him, hfi, hr⟩ := hf
        obtain ⟨hun, o, hio, hall⟩ := mem_ready.1 hr
        have hid : dstOf ops i = o.dst := by simp [dstOf, hio]
        have hin : Z.nd.contains i = false := by
          cases hx : Z.nd.contains i with
          | false => rfl
          | true =>
            have := (hnd i (by simpa using hx)).1.2
            rw [hfi] at this; simp at this
        obtain ⟨b0, hb0, hy⟩ := hV.pure i o him hio (by unfold Fresh.isC; rw [hfi]; simp) hin
        have hs := same2 i o b0 him hr hio hb0
        have hy' : Yields P ops o (V i) b := by
          unfold Yields at *
          rw [hs.1, hs.2]
          exact hy
        refine wpAny_first hio (Region.noSelect_spec hsel) (fun c a w => hQ c a _ _ w) _ L b w' (fun j oj hoj hji hjun hno => ?_) hr hy' ?_
        · have h1 := hfl i (by simpa using hfi) j (Array.getElem?_eq_some_iff.1 hoj).1
          simp only [hio, hoj] at h1
          rcases h1 with ((h1 | h1) | h1) | h1
          · exact absurd h1 hji
          · obtain ⟨o2, ho2, e, he, hb, hon⟩ := Region.waitsFor_spec h1
            have : o2 = oj := Option.some.inj (ho2.symm.trans hoj)
            subst this
            exact absurd hon (hno e he hb)
          · obtain ⟨o2, ho2, e, he, hb, hon⟩ := Region.waitsFor_spec h1
            have : o2 = o := Option.some.inj (ho2.symm.trans hio)
            subst this
            have := hall e he hb
            rw [hon, getD_both hjun] at this
            cases this
          · exact h1
        · have := ih (L.setIfInBounds i true) (b.put (dstOf ops i) (V i)) w' c V (by have := cntU_set m L him hun; omega) (hinv.set hr him) hsh hV (atSet i him hun) hS' (keepR i him hin w' (Below.refl _ _))
          rwa [hid] at this
      · have hfr : ∀ i, i < m → Z.dv.contains i = true → i ∉ Region.ready .any ops L := fun i h1 h2 h3 => hf ⟨i, h1, h2, h3⟩
        have hone : cntU m L ≠ 0 := by omega
        obtain ⟨i0, hi0, hun0, hless⟩ := cntU_least hone
        have hi0s : i0 < ops.size := by omega
        have hr0 : i0 ∈ Region.ready .any ops L := mem_ready.2 ⟨hun0, ops[i0], by simp [hi0s], fun e he hb => by
          have h1 := hback' (i := i0) (o := ops[i0]) (by simp [hi0s]) e he hb
          have h2 := hless e.on h1
          have h3 : e.on < L.size := by rw [hinv.size]; omega
          simp [h3] at h2 ⊢
          exact h2⟩
        have hnf0 : Z.dv.contains i0 = false := by
          cases hx : Z.dv.contains i0 with
          | false => rfl
          | true => exact absurd hr0 (hfr i0 hi0 hx)
        have hlt : ∀ k ∈ Region.ready .any ops L, k < m := fun k hk => by
          rcases Nat.lt_or_ge k m with h | hkm
          · exact h
          obtain ⟨hkun, ok, hok, hkall⟩ := mem_ready.1 hk
          have hks := (Array.getElem?_eq_some_iff.1 hok).1
          have hn0 : n ≠ 0 := by omega
          have hsink' := hsink.resolve_left hn0
          have hmno : ∀ i, i ≤ m → Z.dv.contains i = false → L.getD i true = false → i < m → False ∨ ∃ j, j ≤ m ∧ i < j ∧ Z.dv.contains j = false ∧ L.getD j true = false ∧ j ∉ Region.ready .any ops L := fun i him hfi hiun hilt => by
            have := (hsink' i hilt).resolve_left (by rw [hfi]; simp)
            obtain ⟨j, hj, hj2⟩ := List.any_eq_true.1 this
            simp only [List.mem_range, Bool.and_eq_true, decide_eq_true_eq, Bool.not_eq_true'] at hj hj2
            obtain ⟨⟨hij, hw⟩, hfj⟩ := hj2
            obtain ⟨oj, hoj, e, he, hb, hon⟩ := Region.waitsFor_spec hw
            have hjs := (Array.getElem?_eq_some_iff.1 hoj).1
            have hjun : L.getD j true = false := by
              cases hx : L.getD j true with
              | false => rfl
              | true =>
                have hx' : L.getD j false = true := by
                  have h3 : j < L.size := by rw [hinv.size]; omega
                  simp [h3] at hx ⊢; exact hx
                have := hinv.closed j oj hoj hx' e he hb
                rw [hon, getD_both hiun] at this
                cases this
            refine .inr ⟨j, by omega, hij, hfj, hjun, fun hjr => ?_⟩
            obtain ⟨_, oj2, hoj2, hjall⟩ := mem_ready.1 hjr
            have : oj2 = oj := Option.some.inj (hoj2.symm.trans hoj)
            subst this
            have := hjall e he hb
            rw [hon, getD_both hiun] at this
            cases this
          have hmnr : m ∉ Region.ready .any ops L := by
            have climb : ∀ d i, m - i ≤ d → i < m → Z.dv.contains i = false → L.getD i true = false → m ∉ Region.ready .any ops L := by
              intro d
              induction d with
              | zero => intro i h1 h2; omega
              | succ d ihd =>
                intro i h1 h2 h3 h4
                rcases hmno i (by omega) h3 h4 h2 with h | ⟨j, hjm, hij, hfj, hjun, hjr⟩
                · exact h.elim
                · rcases Nat.lt_or_ge j m with hj | hj
                  · exact ihd j (by omega) hj hfj hjun
                  · obtain rfl : j = m := by omega
                    exact hjr
            exact climb (m - i0) i0 (Nat.le_refl _) hi0 hnf0 hun0
          rcases Nat.lt_or_ge m k with hmk | hmk
          · have hw := (hchain k hks).resolve_left (by omega)
            obtain ⟨o2, ho2, e, he, hb, hon⟩ := Region.waitsFor_spec hw
            have : o2 = ok := Option.some.inj (ho2.symm.trans hok)
            subst this
            have h1 := hkall e he hb
            have h2 := hinv.tail (k - 1) (by omega) (by omega)
            rw [hon, getD_both h2] at h1
            cases h1
          · obtain rfl : k = m := by omega
            exact absurd hk hmnr
        refine ⟨fun h0 => (by rw [h0] at hr0; cases hr0), fun i hi => ?_⟩
        have him := hlt i hi
        obtain ⟨hun, o, hio, hall⟩ := mem_ready.1 hi
        have hid : dstOf ops i = o.dst := by simp [dstOf, hio]
        by_cases hiC : Z.isC i = true
        · obtain ⟨b0, hb0, hy⟩ := hC i o him hio hiC
          have hs := AtX.same hsel hio hat hb0 fun j d hj hjd hd => by
            have h1 := listed i him hi j d o hj hio hjd hd
            have h2 := (hdep' i j d o him hj hjd hio hd).2 hiC
            exact ⟨h1.1, ⟨h2, h1.2⟩, hV.const j hj h2⟩
          have hy' : ConstY P (yielded ops) S o (Vc i) b := by
            unfold ConstY at *
            rw [hs.1, hs.2]
            exact hy
          refine hy'.wpOp hio hS' fun w2 hb2 => ?_
          have hin : Z.nd.contains i = false := by
            unfold Fresh.isC at hiC
            simp only [Bool.and_eq_true, Bool.not_eq_true'] at hiC
            exact hiC.1
          have := ih (L.setIfInBounds i true) (b.put (dstOf ops i) (V i)) w2 c V (by have := cntU_set m L him hun; omega) (hinv.set hi him) hsh hV (atSet i him hun) (hSst _ _ hS' hb2) (keepR i him hin w2 hb2)
          rwa [hid, hV.const i him hiC] at this
        · have hiC' : Z.isC i = false := by simpa using hiC
          have hnf : Z.dv.contains i = false := by
            cases hx : Z.dv.contains i with
            | false => rfl
            | true => exact absurd hi (hfr i him hx)
          have hin : Z.nd.contains i = true := by
            cases hx : Z.nd.contains i with
            | true => rfl
            | false => exact absurd (show Z.isC i = true by unfold Fresh.isC; rw [hx, hnf]; rfl) hiC
          have hin' : i ∈ Z.nd := by simpa using hin
          obtain ⟨hVi, b0, hb0, hy⟩ := hV.fresh i o him hio hiC' hin
          have hs := same2 i o b0 him hi hio hb0
          have hy' : MakeY P (yielded ops) S Z c i o b := by
            unfold MakeY at *
            rw [hs.1, hs.2]
            exact hy
          have iun : L.getD i false = false := getD_both hun
          refine hy'.wpOp hio hS' (AllP_iff.2 fun j hj => ?_) fun u w2 h1 h2 h3 h4 => ?_
          · have h5 := (hnd i hin').2 j hj
            obtain ⟨⟨h6, h7⟩, h8⟩ := h5
            obtain ⟨o2, ho2, e, he, hb, hon⟩ := Region.waitsFor_spec h7
            have : o2 = o := Option.some.inj (ho2.symm.trans hio)
            subst this
            have hjL := hall e he hb
            rw [hon] at hjL
            refine hR j (by simpa using h6) hjL fun x hx hjx => ?_
            rcases h8 x hx with (h9 | h9) | h9
            · simp [hjx] at h9
            · rw [h9]; exact iun
            · cases hxl : L.getD x false with
              | false => rfl
              | true =>
                obtain ⟨o3, ho3, e3, he3, hb3, hon3⟩ := Region.waitsFor_spec h9
                have := hinv.closed x o3 ho3 hxl e3 he3 hb3
                rw [hon3, iun] at this
                cases this
          · have hsh' : ∀ k ∈ Z.nd, Z.Sh k ((fun k => if k = i then u else c k) k) := fun k hk => by
              by_cases hki : k = i
              · subst hki; simpa using h1
              · simp only [if_neg hki]; exact hsh k hk
            obtain ⟨V', hV'⟩ := hN _ hsh'
            have huq := IsV.uniq hsel (by omega) hback' (fun i j t o h1 h2 h3 h4 h5 => (hdep' i j t o h1 h2 h3 h4 h5).1) hV hV' L hinv fun k hk hkL _ => by
              have : k ≠ i := fun e => by subst e; rw [iun] at hkL; cases hkL
              simp only [if_neg this]
            have hat' : AtX ops m V' a b (fun j => L.getD j false = true) := hat.congr (fun _ _ => Iff.rfl) fun j hj hx => huq j hj hx
            have hVi' : V' i = u := by
              have := (hV'.fresh i o him hio hiC' hin).1
              simpa using this
            have hiL : i < L.size := by rw [hinv.size]; omega
            have later : ∀ j, j ∈ Z.lat i → L.getD j false = true → j = i := by
              intro j
              induction j using Nat.strongRecOn with
              | _ j ihj =>
                intro hj hjL
                rcases hlat i hin' j hj with h5 | h5
                · exact h5
                · obtain ⟨i', _, h6⟩ := List.any_eq_true.1 h5
                  simp only [Bool.and_eq_true, Bool.or_eq_true, decide_eq_true_eq] at h6
                  obtain ⟨o3, ho3, e3, he3, hb3, hon3⟩ := Region.waitsFor_spec h6.1
                  have h7 := hinv.closed j o3 ho3 hjL e3 he3 hb3
                  have h8 := hback' ho3 e3 he3 hb3
                  rw [hon3] at h7 h8
                  rcases h6.2 with h9 | h9
                  · rw [h9, iun] at h7; cases h7
                  · have := ihj i' h8 (by simpa using h9) h7
                    rw [this, iun] at h7; cases h7
            have hat2 : AtX ops m V' a (b.put (dstOf ops i) (V' i)) (fun j => (L.setIfInBounds i true).getD j false = true) := by
              refine (hat'.step him (hdist' i him)).congr (fun j hj => ?_) (fun _ _ _ => rfl)
              by_cases hji : j = i
              · subst hji; simp [hiL]
              · rw [getD_set_ne false (Ne.symm hji)]; simp [hji]
            have := ih (L.setIfInBounds i true) (b.put (dstOf ops i) (V' i)) w2 _ V' (by have := cntU_set m L him hun; omega) (hinv.set hi him) hsh' hV' hat2 h3 fun k hk hkL hex => by
              by_cases hki : k = i
              · subst hki; simpa using h2
              · simp only [if_neg hki]
                rw [getD_set_ne false (Ne.symm hki)] at hkL
                refine h4 k hk (fun hke => ?_) (fun hkl => hki (later k hkl hkL)) _ (hsh k hk) (hR k hk hkL fun e he hke => ?_)
                · have := hex i hin' hke
                  simp [hiL] at this
                · have h1 := hex e he hke
                  cases hx : L.getD e false with
                  | false => rfl
                  | true => rw [getD_set_true hx] at h1; cases h1
            rwa [hid, hVi'] at this
  refine wp_region_any hm ?_
  have hL0 : Array.replicate ops.size false = fullL ops.size 0 := by
    refine Array.ext_getElem? fun i => ?_
    by_cases hi : i < ops.size <;> simp [fullL, hi]
  have hcnt : cntU m (fullL ops.size 0) = m := by
    have : ∀ k, k ≤ ops.size → cntU k (fullL ops.size 0) = k := by
      intro k
      induction k with
      | zero => intro _; rfl
      | succ k ih =>
        intro hk
        have e : (fullL ops.size 0).getD k true = false := by rw [fullL_getD, if_pos (show k < ops.size by omega)]; simp
        simp only [cntU]
        rw [ih (by omega), e]
        simp
    exact this m (by omega)
  have hno : ∀ j, (fullL ops.size 0).getD j false ≠ true := fun j hL => by (rw [fullL_getD] at hL; split at hL <;> simp at hL)
  have hinv0 : HeadInv .any ops m (fullL ops.size 0) := ⟨by simp [fullL], fun j oj hj hL => absurd hL (hno j), fun t _ ht => by rw [fullL_getD, if_pos ht]; simp⟩
  obtain ⟨c, hc⟩ := hdef
  obtain ⟨V, hV⟩ := hN c hc
  have h2 := hcore m (fullL ops.size 0) a w.drew c V hcnt hinv0 hc hV ⟨rfl, rfl, fun i t _ hL _ _ => absurd hL (hno i), fun t _ => rfl⟩ hS (fun k _ hL => absurd hL (hno k))
  rw [← hL0, hsz] at h2
  exact h2
end
end Go.Proofs.Ytalidjgniebohaa

namespace Go.Proofs.Ytalidjgniebohaa
open Go.RowKit

section
variable {P : Program} {ops : Array Oper} {Q : Exit → Act → World → Prop} {S : World → Prop}

theorem wpN_mono {Y : Array Value → Nat → Option Bool} {Z : Fresh} {c : Nat → Value} {F F' : Act → Prop} (hF : ∀ a, F a → F' a) : ∀ (l : List Oper) (k : Nat) (a : Act), wpN P Y S Z c F k l a → wpN P Y S Z c F' k l a
  | [], _, a, h => hF a h
  | o :: rest, k, a, h => by
    unfold wpN at h ⊢
    split
    · rename_i h1; rw [if_pos h1] at h; exact wpN_mono hF rest _ _ h
    · rename_i h1
      rw [if_neg h1] at h
      split
      · rename_i h2; rw [if_pos h2] at h; exact ⟨h.1, wpN_mono hF rest _ _ h.2⟩
      · rename_i h2; rw [if_neg h2] at h; obtain ⟨v, hv, h⟩ := h; exact ⟨v, hv, wpN_mono hF rest _ _ h⟩

/-- As the core, whatever the post says of a panic. -/
theorem wp_region_fresh {id : Nat} {a : Act} {w : World} (m n : Nat) (l t : List Oper) (S : World → Prop) (Z : Fresh) (hm : P.follows .mixedOrders = true) (hops : ops.toList = l ++ t) (hl : l.length = m) (ht : t.length = n)
    (ho : freshB ops m n Z = true) (hS : S w.drew)
    (hSst : ∀ w w', S w → Below w.heap.size w w' → S w') (hRst : ∀ k ∈ Z.nd, ∀ u w w', Z.R k u w → Below w.heap.size w w' → Z.R k u w')
    (hdef : ∃ c : Nat → Value, ∀ k ∈ Z.nd, Z.Sh k (c k))
    (h : ∀ (Y : Array Value → Nat → Option Bool) (F : (Nat → Value) → Act → Prop), (∀ t, Y t = yielded ops t) →
      Shut' (∀ c a', (∀ (K : Act → World → Prop) w', Shut' (∀ a w, Q .normal a w → K a w) → S w' → AllP (fun k => Z.R k (c k) w') Z.fin → wpList P ops (OnlyK K) t a' w') → F c a') →
      wpC P Y S Z (fun a1 => ∀ c : Nat → Value, (∀ k ∈ Z.nd, Z.Sh k (c k)) → wpN P Y S Z c (F c) 0 l a1) 0 l a) : (Code.region id ops true).wp P Q a w :=
  Code.wp_mono (OnlyK.imp (fun _ _ h => h)) (wp_region_fresh_core m n l t S Z hm hops hl ht ho (fun _ _ _ _ _ h => h) hS hSst hRst hdef
    (h _ (fun c a' => ∀ w', S w' → AllP (fun k => Z.R k (c k) w') Z.fin → wpList P ops (OnlyK fun a w => Q .normal a w) t a' w') (fun _ => rfl) (fun c _ h w' hS' hR => h (fun a w => Q .normal a w) w' (fun _ _ h => h) hS' hR)))

variable {Y : Array Value → Nat → Option Bool} {Z : Fresh} {k : Nat} {o : Oper} {rest : List Oper} {a : Act} {v : Value} {f : FuncId} {args : Array Value} {c : Nat → Value} {F : Act → Prop}

theorem wpC_value (hC : Z.isC k = true) (hw : Region.wanted o (Y a.tmps) = true) (h : ∀ w, S w → (execOp a.eval o).run P w = .ok (.value v) w) (h2 : wpC P Y S Z F (k + 1) rest (a.put o.dst v)) : wpC P Y S Z F k (o :: rest) a := by
  unfold wpC; rw [if_pos hC]
  exact ⟨v, .inl ⟨hw, fun w hS => by rw [h w hS]; exact ⟨rfl, rfl⟩⟩, h2⟩
theorem wpC_call (hC : Z.isC k = true) (hw : Region.wanted o (Y a.tmps) = true) (hr : ∀ w, S w → (execOp a.eval o).run P w = .ok (.enter f args) w)
    (h : ∀ w, S w → Calls P f args w fun e w' => e = .returned v ∧ Below w.heap.size w w') (h2 : wpC P Y S Z F (k + 1) rest (a.put o.dst v)) : wpC P Y S Z F k (o :: rest) a := by
  unfold wpC; rw [if_pos hC]
  exact ⟨v, .inl ⟨hw, fun w hS => by rw [hr w hS]; exact ⟨rfl, h w hS⟩⟩, h2⟩
theorem wpC_skip (hC : Z.isC k = false) (h2 : wpC P Y S Z F (k + 1) rest a) : wpC P Y S Z F k (o :: rest) a := by
  unfold wpC; rw [if_neg (by rw [hC]; simp)]; exact h2
theorem wpN_skip (hC : Z.isC k = true) (h2 : wpN P Y S Z c F (k + 1) rest a) : wpN P Y S Z c F k (o :: rest) a := by
  unfold wpN; rw [if_pos hC]; exact h2
theorem wpN_pure (hC : Z.isC k = false) (hn : Z.nd.contains k = false) (hw : Region.wanted o (Y a.tmps) = true) (h : ∀ w, (execOp a.eval o).run P w = .ok (.value v) w) (h2 : wpN P Y S Z c F (k + 1) rest (a.put o.dst v)) : wpN P Y S Z c F k (o :: rest) a := by
  unfold wpN; rw [if_neg (by rw [hC]; simp), if_neg (by rw [hn]; simp)]
  exact ⟨v, .inl ⟨hw, h⟩, h2⟩
theorem keepR (hRst : ∀ k ∈ Z.nd, ∀ u w w', Z.R k u w → Below w.heap.size w w' → Z.R k u w') {w w' : World} (hb : Below w.heap.size w w') {e e' : List Nat} : ∀ j ∈ Z.nd, j ∉ e → j ∉ e' → ∀ u, Z.Sh j u → Z.R j u w → Z.R j u w' := fun j hj _ _ u _ h => hRst j hj u w w' h hb
/-- A fresh value that an operation makes by itself, only adding memory. -/
theorem wpN_value (hC : Z.isC k = false) (hn : Z.nd.contains k = true) (hw : Region.wanted o (Y a.tmps) = true)
    (hSst : ∀ w w', S w → Below w.heap.size w w' → S w') (hRst : ∀ k ∈ Z.nd, ∀ u w w', Z.R k u w → Below w.heap.size w w' → Z.R k u w')
    (h : ∀ w, S w → AllP (fun j => Z.R j (c j) w) (Z.D k) → ∃ u w', (execOp a.eval o).run P w = .ok (.value u) w' ∧ Z.Sh k u ∧ Z.R k u w' ∧ Below w.heap.size w w') (h2 : wpN P Y S Z c F (k + 1) rest (a.put o.dst (c k))) : wpN P Y S Z c F k (o :: rest) a := by
  unfold wpN; rw [if_neg (by rw [hC]; simp), if_pos hn]
  refine ⟨⟨hw, fun w hS hD => ?_⟩, h2⟩
  obtain ⟨u, w', e, h1, h2, h3⟩ := h w hS hD
  rw [e]
  exact ⟨h1, h2, hSst _ _ hS h3, keepR hRst h3⟩
/-- A fresh value that an operation makes by itself, whatever it does to memory. -/
theorem wpN_run (hC : Z.isC k = false) (hn : Z.nd.contains k = true) (hw : Region.wanted o (Y a.tmps) = true)
    (h : ∀ w, S w → AllP (fun j => Z.R j (c j) w) (Z.D k) → ∃ u w', (execOp a.eval o).run P w = .ok (.value u) w' ∧ Z.Sh k u ∧ Z.R k u w' ∧ S w' ∧ ∀ j ∈ Z.nd, j ∉ Z.ex k → j ∉ Z.lat k → ∀ u, Z.Sh j u → Z.R j u w → Z.R j u w') (h2 : wpN P Y S Z c F (k + 1) rest (a.put o.dst (c k))) : wpN P Y S Z c F k (o :: rest) a := by
  unfold wpN; rw [if_neg (by rw [hC]; simp), if_pos hn]
  refine ⟨⟨hw, fun w hS hD => ?_⟩, h2⟩
  obtain ⟨u, w', e, h1, h2, h3, h4⟩ := h w hS hD
  rw [e]
  exact ⟨h1, h2, h3, h4⟩
/-- A fresh value that a call gives, only adding memory. -/
theorem wpN_call (hC : Z.isC k = false) (hn : Z.nd.contains k = true) (hw : Region.wanted o (Y a.tmps) = true)
    (hSst : ∀ w w', S w → Below w.heap.size w w' → S w') (hRst : ∀ k ∈ Z.nd, ∀ u w w', Z.R k u w → Below w.heap.size w w' → Z.R k u w')
    (hr : ∀ w, S w → AllP (fun j => Z.R j (c j) w) (Z.D k) → (execOp a.eval o).run P w = .ok (.enter f args) w)
    (h : ∀ w, S w → AllP (fun j => Z.R j (c j) w) (Z.D k) → Calls P f args w fun e w' => ∃ u, e = .returned u ∧ Z.Sh k u ∧ Z.R k u w' ∧ Below w.heap.size w w') (h2 : wpN P Y S Z c F (k + 1) rest (a.put o.dst (c k))) : wpN P Y S Z c F k (o :: rest) a := by
  unfold wpN; rw [if_neg (by rw [hC]; simp), if_pos hn]
  refine ⟨⟨hw, fun w hS hD => ?_⟩, h2⟩
  rw [hr w hS hD]
  refine ⟨rfl, (h w hS hD).mono ?_⟩
  rintro e w' ⟨u, rfl, h1, h2, h3⟩
  exact ⟨u, rfl, h1, h2, hSst _ _ hS h3, keepR hRst h3⟩
end
end Go.Proofs.Ytalidjgniebohaa

namespace Go.Proofs.Ytalidjgniebohaa
open Go.RowKit

theorem op_append_rd {P : Program} {w : World} {o : Oper} {a : Act} (s x : Operand) (t e : TypeId) (size bytes : Nat) (zc : List Value) (base : Nat)
    (he : Elems P t e size bytes zc) (ho : o.op = .call { callee := .builtin .append, args := #[s, x], argTypes := #[t, t] })
    (v : Value) (n : Nat) (xs : List Value) (hs : a.eval s = v) (hown : w.ownsRow base e size v n xs)
    (ad : Option Addr) (m c : Nat) (news : List Value) (hx : a.eval x = .slice ad m c) (hl : news.length = m * size) (hnews : Rd w ad news) (h1 : ∀ u ∈ news, u.oneCell' = true)
    (h63 : n + m ≤ maxLen) (hbytes : (n + m) * bytes ≤ 140737488355328) (hbase : base ≤ w.heap.size) :
    ∃ a' cap' w', (execOp a.eval o).run P w = .ok (.value (.slice a' (n + m) cap')) w' ∧ w'.ownsRow base e size (.slice a' (n + m) cap') (n + m) (xs ++ news) ∧ w.grownBy w' v.ownBlock := by
  obtain ⟨i, z, hi, hz, hsz, hby, hzs, hzc⟩ := he.open
  cases ad with
  | some ad =>
    have hnews' : ∀ j u, news[j]? = some u → w.cell? (ad.add j) = some u := by
      intro j u hu
      obtain ⟨b, off, e1, hr⟩ := hnews (fun e => by rw [e] at hu; simp at hu)
      cases e1
      rw [Addr.add_mid]; exact hr j u hu
    obtain ⟨v', w', hr, h2, h3, h4, h5⟩ := run_append_own_at (P := P) w base t o.type e i z size bytes he.1 hi hz hsz hby hzs he.2.2.2 v n xs hown ad m c news hl hnews' h1 h63 hbytes hbase
    obtain ⟨a', cap', rfl, _⟩ := owns_slice h2
    refine ⟨a', cap', w', ?_, h2, h3⟩
    unfold execOp
    simp only [ho, resolve, invoke, builtin, Sem.run_bind, Sem.run_pure, Result.andThen_ok, List.map_toArray, List.map_cons, List.map_nil, hs, hx, hr]
  | none =>
    have hn : news = [] := by
      cases hnn : news with
      | nil => rfl
      | cons y ys => obtain ⟨b, off, e1, _⟩ := hnews (by rw [hnn]; simp); simp at e1
    subst hn
    have hm : m = 0 := by
      have h0 : m * size = 0 := by simpa using hl.symm
      rcases Nat.mul_eq_zero.1 h0 with h | h
      · exact h
      · have := he.2.2.2; omega
    subst hm
    obtain ⟨a0, cap0, rfl, hnc, _⟩ := owns_slice hown
    refine ⟨a0, cap0, w, ?_, by simpa using hown, ⟨rfl, rfl, rfl, Nat.le_refl _, fun _ _ _ => rfl⟩⟩
    cases a0 with
    | none => simp [execOp, ho, resolve, invoke, builtin, hs, hx, Builtin.append_, run_underlying he.1, sizeOf, typeInfo, hi, Builtin.lenOf, Builtin.firstCells, hnc, Result.andThen]
    | some a0 => simp [execOp, ho, resolve, invoke, builtin, hs, hx, Builtin.append_, run_underlying he.1, sizeOf, typeInfo, hi, Builtin.lenOf, Builtin.firstCells, hnc, storeCells, Result.andThen]

/-- An append to a slice of the call's own, as an operation that gives a fresh value. -/
theorem wpN_append {P : Program} {Y : Array Value → Nat → Option Bool} {S : World → Prop} {Z : Fresh} {k : Nat} {o : Oper} {rest : List Oper} {a : Act} {c : Nat → Value} {F : Act → Prop}
    (s x : Operand) (t e : TypeId) (size bytes : Nat) (zc : List Value) (base : Nat) (he : Elems P t e size bytes zc)
    (v : Value) (n : Nat) (xs : List Value) (ad : Option Addr) (m cap : Nat) (news : List Value)
    (hC : Z.isC k = false) (hn : Z.nd.contains k = true) (hw : Region.wanted o (Y a.tmps) = true)
    (ho : o.op = .call { callee := .builtin .append, args := #[s, x], argTypes := #[t, t] }) (hs : a.eval s = v) (hx : a.eval x = .slice ad m cap)
    (hl : news.length = m * size) (h1 : ∀ u ∈ news, u.oneCell' = true) (h63 : n + m ≤ maxLen) (hbytes : (n + m) * bytes ≤ 140737488355328)
    (h : ∀ w, S w → AllP (fun j => Z.R j (c j) w) (Z.D k) → w.ownsRow base e size v n xs ∧ Rd w ad news ∧ base ≤ w.heap.size ∧
      ∀ a' cap' w', w'.ownsRow base e size (.slice a' (n + m) cap') (n + m) (xs ++ news) → w.grownBy w' v.ownBlock →
        Z.Sh k (.slice a' (n + m) cap') ∧ Z.R k (.slice a' (n + m) cap') w' ∧ S w' ∧ ∀ j ∈ Z.nd, j ∉ Z.ex k → j ∉ Z.lat k → ∀ u, Z.Sh j u → Z.R j u w → Z.R j u w')
    (h2 : wpN P Y S Z c F (k + 1) rest (a.put o.dst (c k))) : wpN P Y S Z c F k (o :: rest) a := by
  refine wpN_run hC hn hw (fun w hS hD => ?_) h2
  obtain ⟨k1, k2, k3, k4⟩ := h w hS hD
  obtain ⟨a', cap', w', r1, r2, r3⟩ := op_append_rd (w := w) s x t e size bytes zc base he ho v n xs hs k1 ad m cap news hx hl k2 h1 h63 hbytes k3
  exact ⟨_, w', r1, k4 a' cap' w' r2 r3⟩

theorem Cells.under {W w : World} {B : Nat} (hb : Below B W w) : ∀ {l : List (Addr × Value)}, (∀ p ∈ l, p.1.block < B) → Cells W l → Cells w l
  | [], _, h => h
  | (a, v) :: l, hl, ⟨h1, h2⟩ => ⟨by rw [hb.cell (hl (a, v) (by simp))]; exact h1, Cells.under hb (fun p hp => hl p (by simp [hp])) h2⟩
theorem Cells.lt {W : World} : ∀ {l : List (Addr × Value)}, Cells W l → ∀ p ∈ l, p.1.block < W.heap.size
  | [], _, p, hp => by simp at hp
  | (a, v) :: l, ⟨h1, h2⟩, p, hp => by
    rcases List.mem_cons.1 hp with rfl | hp
    · exact block_lt_of_cell h1
    · exact Cells.lt h2 p hp
theorem Keeps.of {W w : World} {l : List (Addr × Value)} (hl : Cells W l) (hb : Below W.heap.size W w) : Keeps W l w := ⟨hb, Cells.under hb hl.lt hl⟩
/-- What grows one block of the call's own keeps what lies below. -/
theorem grown_keeps {W w w' : World} {row : Option Nat} (hb : Below W.heap.size W w) (hg : w.grownBy w' row) (hr : ∀ k, row = some k → W.heap.size ≤ k) : Below W.heap.size W w' := Below.grown hb hg hb.size hr
theorem Blk.grown {w w' : World} {row : Option Nat} {b : Nat} {cs : List Value} {t : TypeId} (h : Blk w b cs t) (hg : w.grownBy w' row) (hne : some b ≠ row) : Blk w' b cs t := by
  unfold Blk at *
  rw [hg.block b (Array.getElem?_eq_some_iff.1 h).1 hne]; exact h
/-- The block of a slice of the call's own. -/
theorem owns_block {w : World} {base : Nat} {e : TypeId} {size n : Nat} {v : Value} {xs : List Value} (h : w.ownsRow base e size v n xs) {g : Nat} (hg : v.ownBlock = some g) : base ≤ g ∧ ∃ cur, w.heap[g]? = some (.cells cur e (0, 0)) := by
  rcases h.2 with ⟨rfl, _⟩ | ⟨g', cap, cur, rfl, hb, hh, _⟩
  · simp [Value.ownBlock] at hg
  · simp [Value.ownBlock] at hg
    subst hg
    exact ⟨hb, cur, hh⟩
end Go.Proofs.Ytalidjgniebohaa
