/- A part of the proof that ends in L14p (Base14). No condition. -/
import Derived.Below
import Derived.Deep.MidRow
import Derived.Laws.AppendOwnNone
import Derived.Laws.CopyOwn
import Derived.Laws.MakeOwn
import Derived.Laws.OwnMore
import Derived.Lib.Hide
import Derived.LoopIn
import Derived.LoopNIn
import Derived.Maps.AppendAt
import Derived.Orders
import Derived.OrdersHeld
import Derived.OwnWalkIn
import Derived.RangeFuncBound
import Derived.RangeFuncCalls
import Derived.RangeFuncLeaves
import Derived.RangeFuncNested
import Derived.Shelf.Abstract
import Derived.Shelf.RegionOpen
import Derived.StillTail
import Derived.Tactics
import Derived.TacticsInMore
import Derived.WalkKit
import Derived.Test.YtieeogndnhighaaGreatZL14paq
set_option linter.unusedSectionVars false
set_option linter.unusedSimpArgs false
set_option linter.unusedVariables false
set_option maxRecDepth 100000
set_option maxHeartbeats 200000
namespace Go.Proofs.YtieeogndnhighaaGreat
open Go.RowKit Go.Shelf
section
variable {P:Program} {ops:Array Oper} {Q:Exit→Act→World→Prop} {n l:Nat} {md:Region.Mode}
theorem rowsIn_round{row:String}{args:Array Value}{w:World}{R:Value→World→Prop}(h:Rows P row args w R):RowsIn (Fence.wide.inRound l) n P row args w R:=fun c cs _=>
 let ⟨v,w',r,s⟩:=h c cs;⟨v,w',r,stepsIn_wide.2 s⟩
theorem zeI{f:FuncId}{args:Array Value}{w:World}{R:Ending→World→Prop}(h:Calls P f args w R):CallsIn (Fence.wide.inRound l) n P f args w R:=CallsIn.inRound l (callsIn_wide.2 h)
theorem wpOper_round{o:Oper}(hnd:∀c,o.op≠ .defer c){a:Act}{w:World}{K K':Act→World→Prop}(hK:∀a w,K a w→K' a w)(h:o.wp P a w K Q):o.wpIn (Fence.wide.inRound l) n P a w K' Q:=by
 refine⟨fun _ _=>yI,?_⟩;have e:o.semAt (Fence.wide.inRound l).round a.eval=execOp a.eval o:=Oper.semAt_some l _ _ hnd;rw[e];unfold Oper.wp at h;generalize (execOp a.eval o).run P w=r at *;cases r with
 | ok x w'=>
   cases x<;>simp only[Oper.upon]at h<;>simp only[Oper.uponIn]<;>
    first
     | exact hK _ _ h
     | exact⟨fun hd=>(by cases hd),CallsIn.mono (zeI h) (fun e w'' he=>by cases e<;>first|exact hK _ _ he|exact he)⟩
     | exact⟨fun hd=>(by cases hd),RowsIn.mono (rowsIn_round h) (fun _ _ he=>hK _ _ he)⟩
 | halt x w'=>cases x<;>simp only[Oper.upon]at h<;>simp only[Oper.uponIn]<;>exact h
def znS(ops:Array Oper):Bool:=ops.all fun o=>match o.op with | .defer _=>false|_=>true
theorem noDefer_at(h:znS ops=true){i:Nat}{o:Oper}(ho:ops[i]? = some o):∀c,o.op≠ .defer c:=fun c hc=>by
 unfold znS at h;rw[Array.all_eq_true]at h;obtain⟨hi,rfl⟩:=Array.getElem?_eq_some_iff.1 ho;have:=h i hi;rw[hc]at this;cases this
theorem zdY{W W':World}(h:Below W.heap.size W W'):KeepsOthers W W':=⟨h.size,fun k _ hk _=>(h.block k (Array.getElem?_eq_some_iff.1 hk).1).trans hk⟩
theorem onlyK_in{K:Act→World→Prop}:¬LetsOut (OnlyK K):=fun⟨_,_,h⟩=>h
end
end Go.Proofs.YtieeogndnhighaaGreat
