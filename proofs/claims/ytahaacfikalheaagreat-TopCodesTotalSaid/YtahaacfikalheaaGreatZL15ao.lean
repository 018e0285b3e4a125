/- A part of the proof of L15. No condition. -/
import Derived.Laws.MakeOwn
import Derived.Test.YtahaacfikalheaaGreatZL15an
set_option linter.all false
set_option maxRecDepth 100000
set_option maxHeartbeats 200000
namespace Go.Proofs.YtahaacfikalheaaGreat
open Go.RowKit
theorem zhN{P:Program}{w:World}{ops:Array Oper}{rest:List Oper}{o:Oper}{a:Act}{Q:Exit→Act→World→Prop}(l:Operand)(t e:TypeId)(size bytes:Nat)(zc:List Value)
 (he:Elems P t e size bytes zc) (hgd:o.guard=none) (ho:o.op=Op.makeSlice t l l) (kl:IntKind) (n:Nat) (hl:a.eval l = .int kl (n:Int)) (hbytes:bytes*n≤140737488355328) (h63:n≤maxLen)
 (h:∀w' Z,Blk w' w.heap.size Z e→Z.length=n*size→w'.heap.size=w.heap.size+1→Below w.heap.size w w'→wpList P ops Q rest (a.put o.dst (.slice (some ⟨w.heap.size,0,none⟩) n n)) w') :
 wpList P ops Q (o::rest) a w:=by
 obtain⟨i,z,hi,hz,hsz,hby,hzs,hzc⟩:=he.open;have h63':(n:Int)≤9223372036854775807:=by
  have:=h63;simp[maxLen]at this;omega
 have hb':(i.bytes:Int)*(n:Int)≤281474976710656:=by
  rw[hby];have:((bytes*n:Nat):Int)≤281474976710656:=by omega
  rwa[Int.natCast_mul]at this
 have hr:=run_make (P:=P) w t e i z he.1 hi hz kl kl n n (by omega) (Int.le_refl _) hb' h63';simp only[Int.toNat_natCast]at hr;refine zdV hgd (w':=w.alloc (.cells (madeCells z.cells (n*i.size)) e)) (v:=.slice (some ⟨w.heap.size,0,none⟩) n n) ?_ ?_
 ·simp[execOp,ho,hl,hr,Result.andThen]
 ·refine h _ (madeCells z.cells (n*i.size)).toList ?_ (by simp[size_madeCells,hsz]) (by simp) ((zF _ w).alloc (zD _) _);have:=Blk.new w (madeCells z.cells (n*i.size)).toList e;simpa using this
