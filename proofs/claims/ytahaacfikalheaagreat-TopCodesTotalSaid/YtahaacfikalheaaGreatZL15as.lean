/- A part of the proof of L15. No condition. -/
import Derived.Laws.OwnMore
import Derived.Test.YtahaacfikalheaaGreatZL15ap
set_option linter.all false
set_option maxRecDepth 100000
set_option maxHeartbeats 200000
namespace Go.Proofs.YtahaacfikalheaaGreat
open Go.RowKit
theorem op_make1{P:Program}{w:World}{o:Oper}{a:Act}(l:Operand)(t e:TypeId)(bytes:Nat)(z:Value)(he:Elems P t e 1 bytes [z])(ho:o.op=Op.makeSlice t l l)(kl:IntKind)(n:Nat)(hl:a.eval l = .int kl (n:Int))(hbytes:bytes*n≤140737488355328)(h63:n≤maxLen) :
 (execOp a.eval o).run P w = .ok (.value (.slice (some ⟨w.heap.size,0,none⟩) n n)) (w.alloc (.cells (List.replicate n z).toArray e)):=by
 obtain⟨i,z',hi,hz,hsz,hby,hzs,hzc⟩:=he.open;have h63':(n:Int)≤9223372036854775807:=by
  have:=h63;simp[maxLen]at this;omega
 have hb':(i.bytes:Int)*(n:Int)≤281474976710656:=by
  rw[hby];have:((bytes*n:Nat):Int)≤281474976710656:=by omega
  rwa[Int.natCast_mul]at this
 have hr:=run_make (P:=P) w t e i z' he.1 hi hz kl kl n n (by omega) (Int.le_refl _) hb' h63';simp only[Int.toNat_natCast]at hr;have hc:z'.cells = #[z]:=by
  apply Array.ext';rw[hzc]
 have hm:madeCells z'.cells (n*i.size)=(List.replicate n z).toArray:=by
  rw[hsz,zaO,hc];apply Array.ext';rw[toList_madeCells_one]
 rw[hm]at hr;simp[execOp,ho,hl,hr,Result.andThen]
end Go.Proofs.YtahaacfikalheaaGreat
namespace Go.Proofs.YtahaacfikalheaaGreat
namespace S10
def first(bits hash:Nat):Nat:=(hash*2654435761%4294967296)%2^bits
def plc(bits hash k:Nat):List Nat:=((List.range k).map fun j=>first bits hash ^^^ j).filter fun i=>decide (i<2^bits)
def places(bits hash:Nat):List Nat:=plc bits hash 3
def mark(hash:Nat):Nat:=hash/16777216
theorem plc_succ(bits hash k:Nat):plc bits hash (k+1)=if first bits hash ^^^ k<2^bits then plc bits hash k ++ [first bits hash ^^^ k]else plc bits hash k:=by
 unfold plc;rw[List.range_succ,List.map_append,List.filter_append];split<;>simp[*]
theorem plc_len(bits hash k:Nat):(plc bits hash k).length≤k:=by
 unfold plc;exact yC (List.length_filter_le _ _) (by simp)
theorem plc_prefix(bits hash k:Nat):plc bits hash k <+: plc bits hash (k+1):=by
 rw[plc_succ];split
 ·exact⟨_,rfl⟩
 ·exact List.prefix_refl _
theorem plc_lt{bits hash k i:Nat}(h:i∈plc bits hash k):i<2^bits:=by
 unfold plc at h;simpa using (List.mem_filter.1 h).2
theorem first_lt(bits hash:Nat):first bits hash<2^bits:=Nat.mod_lt _ (zcB bits)
def bad1(x:Int):Bool:=decide (215≤x)
def tail(xs:List Int)(k:Nat):List Int:=(xs.drop (16*k+1)).take 15
def bad(xs:List Int)(m:Nat):Bool:=(List.range m).any fun k=>(tail xs k).any bad1
def check(bits:Int)(xs:List Int):Int:=if bits<0∨16<bits then 2 else if xs.length≠16*2^bits.toNat then 6 else if bad xs (2^bits.toNat)then 3 else 0
end S10
