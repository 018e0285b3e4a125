/- A part of the proof of L15. No condition. -/
import Derived.LoopIn
import Derived.LoopNIn
import Derived.OwnWalkIn
import Derived.RangeFuncBound
import Derived.RangeFuncCalls
import Derived.RangeFuncLeaves
import Derived.RangeFuncNested
import Derived.Shelf.Abstract
import Derived.Shelf.RegionOpen
import Derived.TacticsInMore
import Derived.Test.YtahaacfikalheaaGreatZL15as
set_option linter.all false
set_option maxRecDepth 100000
set_option maxHeartbeats 200000
namespace Go.Proofs.YtahaacfikalheaaGreat
open Go.RowKit Go.Shelf
section
variable {P:Program} {ops:Array Oper} {Q:Exit→Act→World→Prop} {n l:Nat} {md:Region.Mode}
theorem rowsIn_round{row:String}{args:Array Value}{w:World}{R:Value→World→Prop}(h:Rows P row args w R):RowsIn (Fence.wide.inRound l) n P row args w R:=fun c cs _=>
 let ⟨v,w',r,s⟩:=h c cs;⟨v,w',r,stepsIn_wide.2 s⟩
theorem zhC{f:FuncId}{args:Array Value}{w:World}{R:Ending→World→Prop}(h:Calls P f args w R):CallsIn (Fence.wide.inRound l) n P f args w R:=CallsIn.inRound l (callsIn_wide.2 h)
theorem zmS{o:Oper}(hnd:∀c,o.op≠ .defer c){a:Act}{w:World}{K K':Act→World→Prop}(hK:∀a w,K a w→K' a w)(h:o.wp P a w K Q):o.wpIn (Fence.wide.inRound l) n P a w K' Q:=by
 refine⟨fun _ _=>yF,?_⟩;have e:o.semAt (Fence.wide.inRound l).round a.eval=execOp a.eval o:=Oper.semAt_some l _ _ hnd;rw[e];unfold Oper.wp at h;generalize (execOp a.eval o).run P w=r at *;cases r with
 | ok x w'=>
   cases x<;>simp only[Oper.upon]at h<;>simp only[Oper.uponIn]<;>
    first
     | exact hK _ _ h
     | exact⟨fun hd=>(by cases hd),CallsIn.mono (zhC h) (fun e w'' he=>by cases e<;>first|exact hK _ _ he|exact he)⟩
     | exact⟨fun hd=>(by cases hd),RowsIn.mono (rowsIn_round h) (fun _ _ he=>hK _ _ he)⟩
 | halt x w'=>cases x<;>simp only[Oper.upon]at h<;>simp only[Oper.uponIn]<;>exact h
def zlO(ops:Array Oper):Bool:=ops.all fun o=>match o.op with | .defer _=>false|_=>true
theorem zsD(h:zlO ops=true){i:Nat}{o:Oper}(ho:ops[i]? = some o):∀c,o.op≠ .defer c:=fun c hc=>by
 unfold zlO at h;rw[Array.all_eq_true]at h;obtain⟨hi,rfl⟩:=Array.getElem?_eq_some_iff.1 ho;have:=h i hi;rw[hc]at this;cases this
theorem zgX(hnd:zlO ops=true)(hQ:¬LetsOut Q):∀(fuel:Nat) (listed:Array Bool) (a:Act) (w:World),wpAny P md ops Q fuel listed a w→wpAnyIn (Fence.wide.inRound l) n P md ops Q fuel listed a w
 | 0,_,_,_,h=>h
 | fuel+1,listed,a,w,h=>by
   refine⟨h.1,fun i hi=> ?_⟩;have hi':=h.2 i hi;unfold wpOp at hi';unfold wpOpIn;cases ho:ops[i]? with
   | none=>
     simp only[ho]at hi'⊢;exact zgX hnd hQ fuel _ _ _ hi'
   | some o=>
     simp only[ho]at hi'⊢;split
     ·rename_i hw
      rw[zO hw]at hi';rcases hi' with hi'|⟨_,hl⟩
      ·exact zmS (zsD hnd ho) (fun a w h=>zgX hnd hQ fuel _ a w h) hi'
      ·exact absurd hl hQ
     ·rename_i hw
      rw[zG hw]at hi';exact⟨fun _ _=>yF,zgX hnd hQ fuel _ _ _ hi'⟩
theorem zbI{W W':World}(h:Below W.heap.size W W'):KeepsOthers W W':=⟨h.size,fun k _ hk _=>(h.block k (Array.getElem?_eq_some_iff.1 hk).1).trans hk⟩
theorem onlyK_in{K:Act→World→Prop}:¬LetsOut (OnlyK K):=fun⟨_,_,h⟩=>h
theorem zgK{id:Nat}{a:Act}{w:World}(m k:Nat)(ph:List (Bool×List Bool))(r t:List Oper)(S:World→Prop)(hm:P.follows .mixedOrders=true)(hops:ops.toList=r++t)(hl:r.length=m)(ht:t.length=k)
 (hls:(zeL ph (List.range m)).map (fun p=>(p.1,ops[p.2]?))=(zeL ph r).map (fun p=>(p.1,some p.2)))
 (ho:(zkB ops m k (zeL ph (List.range m))&&zlO ops)=true) (hS:S w.drew)
 (h:∀(Y:Array Value→Nat→Option Bool) (Q':Exit→Act→World→Prop) (F:Act→World→Prop),(∀t,Y t=yielded ops t)→
   Shut' (∀a' w',(∀(K:Act→World→Prop),Shut' (∀a w,Q .normal a w→K a w)→wpList P ops (OnlyK K) t a' w')→F a' w')→
   zdD P Y Q' S F (zeL ph r) a w.drew):(Code.region id ops true).wpIn (Fence.wide.inRound l) n P Q a w:=by
 simp only[zS]at ho;refine wpIn_mono (Q:=OnlyK fun a w=>Q .normal a w) ?_ (OnlyK.imp (fun _ _ h=>h));refine wpIn_region_any hm (zgX ho.2 onlyK_in _ _ _ _ ?_);have ho1:=ho.1;simp only[zkB,zS,zY,List.all_eq_true]at ho1;obtain⟨⟨⟨⟨⟨⟨hsel,hbar⟩,hsz⟩,hlen⟩,hsq⟩,hend⟩,hforce⟩:=ho1
 have H:=zgN (P:=P) (Q:=OnlyK fun a w=>Q .normal a w) (S:=S) (tail:=k) hbar hsel (fun _ _ _ _ _ h=>h) (zeL ph (List.range m)) (zeL ph r) (Array.replicate ops.size false) a _ hS hls hsq hend
  (zfM (fun a2 w2 h2=>zcC k m _ t ht (fun j=>by
    have hj:=yS (fun x=>x[m+j]?) hops;simp only[Array.getElem?_toList]at hj;rw[hj,yQ (by omega),hl,zcM];split
    ·rfl
    ·exact yP (by omega)) (by omega) hforce a2 w2 h2) (zeL ph r) a _
    (h _ (OnlyK fun a w=>Q .normal a w) (fun a2 w2=>wpList P ops (OnlyK fun a w=>Q .normal a w) t a2 w2) (fun _=>rfl) (fun _ _ h=>h (fun a w=>Q .normal a w) (fun _ _ h=>h))))
 have:=ziI _ _ _ _ H;rw[hlen,hsz]at this;exact this
end
