/- A part of the proof that ends in L14p (Spec10). No condition. -/
import Derived.Below
import Derived.Deep.MidRow
import Derived.Laws.AppendOwnNone
import Derived.Laws.CopyOwn
import Derived.Laws.MakeOwn
import Derived.Laws.OwnMore
import Derived.Lib.Hide
import Derived.Maps.AppendAt
import Derived.Orders
import Derived.OrdersHeld
import Derived.StillTail
import Derived.Tactics
import Derived.WalkKit
import Derived.Test.YtieeogndnhighaaGreatZL14paq
set_option linter.unusedSectionVars false
set_option linter.unusedSimpArgs false
set_option linter.unusedVariables false
set_option maxRecDepth 100000
set_option maxHeartbeats 200000
namespace Go.Proofs.YtieeogndnhighaaGreat
namespace S10
def first(bits hash:Nat):Nat:=(hash*2654435761%4294967296)%2^bits
def plc(bits hash k:Nat):List Nat:=((List.range k).map fun j=>first bits hash ^^^ j).filter fun i=>decide (i<2^bits)
def places(bits hash:Nat):List Nat:=plc bits hash 3
def bad1(x:Int):Bool:=decide (215≤x)
def tail(xs:List Int)(k:Nat):List Int:=(xs.drop (16*k+1)).take 15
def bad(xs:List Int)(m:Nat):Bool:=(List.range m).any fun k=>(tail xs k).any bad1
def check(bits:Int)(xs:List Int):Int:=if bits<0∨16<bits then 2 else if xs.length≠16*2^bits.toNat then 6 else if bad xs (2^bits.toNat)then 3 else 0
end S10
end Go.Proofs.YtieeogndnhighaaGreat
