/- General lemmas for this seat's walks: make, as an operation of a region. No condition. -/
import Derived.Test.YtalidjgniebohaaBase12
import Derived.Laws.OwnMore
set_option linter.unusedSimpArgs false
set_option linter.unusedVariables false
set_option linter.unusedSectionVars false
namespace Go.Proofs.Ytalidjgniebohaa
open Go.RowKit

/-- make(T, n), elements of one cell: a block of its own that holds zeros. -/
theorem op_make1 {P : Program} {w : World} {o : Oper} {a : Act} (l : Operand) (t e : TypeId) (bytes : Nat) (z : Value) (he : Elems P t e 1 bytes [z]) (ho : o.op = Op.makeSlice t l l) (kl : IntKind) (n : Nat) (hl : a.eval l = .int kl (n : Int)) (hbytes : bytes * n ≤ 140737488355328) (h63 : n ≤ maxLen) :
    (execOp a.eval o).run P w = .ok (.value (.slice (some ⟨w.heap.size, 0, none⟩) n n)) (w.alloc (.cells (List.replicate n z).toArray e)) := by
  obtain ⟨i, z', hi, hz, hsz, hby, hzs, hzc⟩ := he.open
  have h63' : (n : Int) ≤ 9223372036854775807 := by
    have := h63
    simp [maxLen] at this
    omega
  have hb' : (i.bytes : Int) * (n : Int) ≤ 281474976710656 := by
    rw [hby]
    have : ((bytes * n : Nat) : Int) ≤ 281474976710656 := by omega
    rwa [Int.natCast_mul] at this
  have hr := run_make (P := P) w t e i z' he.1 hi hz kl kl n n (by omega) (Int.le_refl _) hb' h63'
  simp only [Int.toNat_natCast] at hr
  have hc : z'.cells = #[z] := by
    apply Array.ext'
    rw [hzc]
  have hm : madeCells z'.cells (n * i.size) = (List.replicate n z).toArray := by
    rw [hsz, Nat.mul_one, hc]
    apply Array.ext'
    rw [toList_madeCells_one]
  rw [hm] at hr
  simp [execOp, ho, hl, hr, Result.andThen]
end Go.Proofs.Ytalidjgniebohaa
