/- A part of the proof of L14l. No condition. -/
import Derived.Laws.OwnMore
import Derived.Test.YthhgkafloejjiaaGreatZL14lap
set_option linter.all false
set_option maxRecDepth 100000
set_option maxHeartbeats 200000
namespace Go.Proofs.YthhgkafloejjiaaGreat
namespace S10
def first(bits hash:Nat):Nat:=(hash*2654435761%4294967296)%2^bits
def plc(bits hash k:Nat):List Nat:=((List.range k).map fun j=>first bits hash ^^^ j).filter fun i=>decide (i<2^bits)
def places(bits hash:Nat):List Nat:=plc bits hash 3
def mark(hash:Nat):Nat:=hash/16777216
theorem plc_succ(a hash k:Nat):plc a hash (k+1)=if first a hash ^^^ k<2^a then plc a hash k ++ [first a hash ^^^ k]else plc a hash k:=by
 unfold plc;rw[List.range_succ,List.map_append,List.filter_append];split<;>simp[*]
theorem plc_len(a hash k:Nat):(plc a hash k).length≤k:=by
 unfold plc;exact yD (List.length_filter_le _ _) by1
theorem plc_prefix(a hash k:Nat):plc a hash k <+: plc a hash (k+1):=by
 rw[plc_succ];split
 ·exact⟨_,rfl⟩
 ·exact List.prefix_refl _
theorem plc_lt{a hash k i:Nat}(h:i∈plc a hash k):i<2^a:=by
 unfold plc at h;simpa using (List.mem_filter.1 h).2
theorem first_lt(a hash:Nat):first a hash<2^a:=Nat.mod_lt _ (zaJ a)
def bad1(x:Int):Bool:=decide (215≤x)
def tail(xs:List Int)(k:Nat):List Int:=(xs.drop (16*k+1)).take 15
def bad(xs:List Int)(m:Nat):Bool:=(List.range m).any fun k=>(tail xs k).any bad1
def check(bits:Int)(xs:List Int):Int:=if bits<0∨16<bits then 2 else if xs.length≠16*2^bits.toNat then 6 else if bad xs (2^bits.toNat)then 3 else 0
end S10
