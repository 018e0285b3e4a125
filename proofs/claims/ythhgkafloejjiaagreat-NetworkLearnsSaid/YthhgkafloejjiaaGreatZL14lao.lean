/- A part of the proof of L14l. No condition. -/
import Derived.Laws.MakeOwn
import Derived.Test.YthhgkafloejjiaaGreatZL14laj
set_option linter.all false
set_option maxRecDepth 100000
set_option maxHeartbeats 200000
namespace Go.Proofs.YthhgkafloejjiaaGreat
open Go.RowKit
theorem zpJ{P:Program}{w:World}{d:Array Oper}{f:List Oper}{o:Oper}{a:Act}{Q:Exit→Act→World→Prop}(l:Operand)(t e:TypeId)(g b:Nat)(m:List Value)
 (k:Elems P t e g b m) (r:o.guard=none) (x:o.op=Op.makeSlice t l l) (c:IntKind) (n:Nat) (B:a.eval l = .int c (n:Int)) (D:b*n≤140737488355328) (q:n≤maxLen)
 (h:∀w' Z,Blk w' w.heap.size Z e→Z.length=n*g→w'.heap.size=w.heap.size+1→Below w w w'→wpList P d Q f (a.put o.dst (.slice (some ⟨w,0,none⟩) n n)) w') :
 wpList P d Q (o::f) a w:=by
 obtain⟨i,z,C,A,s,p,F,E⟩:=k.open;have y:(n:Int)≤9223372036854775807:=by
  have:=q;simp[maxLen]at this;omega
 have u:(i.bytes:Int)*(n:Int)≤281474976710656:=by
  rw[p];have:((b*n:Nat):Int)≤281474976710656:=by omega
  rwa[Int.natCast_mul]at this
 have j:=run_make (P:=P) w t e i z k.1 C A c c n n om (Int.le_refl _) u y;simp only[Int.toNat_natCast]at j;refine zhX r (w':=w.alloc (.cells (madeCells z.cells (n*i.size)) e)) (v:=.slice (some ⟨w,0,none⟩) n n) ?_ ?_
 ·simp[execOp,x,B,j,Result.andThen]
 ·refine h _ (madeCells z.cells (n*i.size)).toList ?_ (by simp[size_madeCells,s]) by1 ((zJ _ w).alloc (zF _) _);have:=Blk.new w (madeCells z.cells (n*i.size)).toList e;simpa using this
