/- A part of the proof of L14l. No condition. -/
import Derived.Laws.OwnMore
import Derived.LoopIn
import Derived.LoopNIn
import Derived.OwnWalkIn
import Derived.RangeFuncBound
import Derived.RangeFuncCalls
import Derived.RangeFuncLeaves
import Derived.RangeFuncNested
import Derived.Shelf.Abstract
import Derived.Shelf.RegionOpen
import Derived.TacticsInMore
import Derived.Test.YthhgkafloejjiaaGreatZL14lap
set_option linter.all false
set_option maxRecDepth 100000
set_option maxHeartbeats 200000
namespace Go.Proofs.YthhgkafloejjiaaGreat
open Go.RowKit Go.Shelf
section
variable {P:Program} {ops:Array Oper} {Q:Exit→Act→World→Prop} {n l:Nat} {md:Region.Mode}
theorem rowsIn_round{a:String}{args:Array Value}{w:World}{R:Value→World→Prop}(h:Rows P a args w R):RowsIn (Fence.wide.inRound l) n P a args w R:=fun c b _=>
 let ⟨v,w',r,s⟩:=h c b;⟨v,w',r,stepsIn_wide.2 s⟩
theorem zhJ{f:FuncId}{args:Array Value}{w:World}{R:Ending→World→Prop}(h:Calls P f args w R):CallsIn (Fence.wide.inRound l) n P f args w R:=CallsIn.inRound l (callsIn_wide.2 h)
theorem znI{o:Oper}(i:∀c,o.op≠ .defer c){a:Act}{w:World}{K g:Act→World→Prop}(f:∀a w,K a w→g a w)(h:o.wp P a w K Q):o.wpIn (Fence.wide.inRound l) n P a w g Q:=by
 refine⟨fun _ _=>zT,?_⟩;have e:o.semAt (Fence.wide.inRound l).round a.eval=execOp a.eval o:=Oper.semAt_some l _ _ i;rw[e];unfold Oper.wp at h;generalize (execOp a.eval o).run P w=r at *;cases r with
 | ok x w'=>
   cases x<;>simp only[Oper.upon]at h<;>simp only[Oper.uponIn]<;>
    first
     | exact f _ _ h
     | exact⟨fun d=>(by cases d),CallsIn.mono (zhJ h) (fun e j b=>by cases e<;>first|exact f _ _ b|exact b)⟩
     | exact⟨fun d=>(by cases d),RowsIn.mono (rowsIn_round h) (fun _ _ b=>f _ _ b)⟩
 | halt x w'=>cases x<;>simp only[Oper.upon]at h<;>simp only[Oper.uponIn]<;>exact h
def zmE(ops:Array Oper):Bool:=ops.all fun o=>match o.op with | .defer _=>false|_=>true
theorem zsY(h:zmE ops=true){i:Nat}{o:Oper}(a:ops[i]? = some o):∀c,o.op≠ .defer c:=fun c d=>by
 unfold zmE at h;rw[Array.all_eq_true]at h;obtain⟨b,rfl⟩:=Array.getElem?_eq_some_iff.1 a;have:=h i b;rw[d]at this;cases this
theorem zgY(d:zmE ops=true)(e:¬LetsOut Q):∀(c:Nat) (f:Array Bool) (a:Act) (w:World),wpAny P md ops Q c f a w→wpAnyIn (Fence.wide.inRound l) n P md ops Q c f a w
 | 0,_,_,_,h=>h
 | c+1,f,a,w,h=>by
   refine⟨h.1,fun i k=> ?_⟩;have b:=h.2 i k;unfold wpOp at b;unfold wpOpIn;cases ho:ops[i]? with
   | none=>
     simp only[ho]at b⊢;exact zgY d e c _ _ _ b
   | some o=>
     simp only[ho]at b⊢;split
     ·rename_i g
      rw[zQ g]at b;rcases b with b|⟨_,j⟩
      ·exact znI (zsY d ho) (fun a w h=>zgY d e c _ a w h) b
      ·exact absurd j e
     ·rename_i g
      rw[zG g]at b;exact⟨fun _ _=>zT,zgY d e c _ _ _ b⟩
theorem zbD{W b:World}(h:Below W W b):KeepsOthers W b:=⟨h.size,fun k _ a _=>(h.block k (Array.getElem?_eq_some_iff.1 a).1).trans a⟩
theorem onlyK_in{K:Act→World→Prop}:¬LetsOut (OnlyK K):=fun⟨_,_,h⟩=>h
theorem zgJ{C:Nat}{a:Act}{w:World}(m k:Nat)(b:List (Bool×List Bool))(r t:List Oper)(S:World→Prop)(G:P.follows .mixedOrders=true)(v:ops.toList=r++t)(I:r.length=m)(E:t.length=k)
 (z:(zeE b (List.range m)).map (fun p=>(p.1,ops[p.2]?))=(zeE b r).map (fun p=>(p.1,some p.2)))
 (d:(zkQ ops m k (zeE b (List.range m))&&zmE ops)=true) (M:S w.drew)
 (h:∀(Y:Array Value→Nat→Option Bool) (L:Exit→Act→World→Prop) (F:Act→World→Prop),(∀t,Y t=yielded ops t)→
   Shut' (∀f i,(∀(K:Act→World→Prop),Shut' (∀a w,Q .normal a w→K a w)→wpList P ops (OnlyK K) t f i)→F f i)→
   zcQ P Y L S F (zeE b r) a w.drew):(Code.region C ops true).wpIn (Fence.wide.inRound l) n P Q a w:=by
 simp only[zS]at d;refine wpIn_mono (Q:=OnlyK fun a w=>Q .normal a w) ?_ (OnlyK.imp (fun _ _ h=>h));refine wpIn_region_any G (zgY d.2 onlyK_in _ _ _ _ ?_);have g:=d.1;simp only[zkQ,zS,yC,List.all_eq_true]at g;obtain⟨⟨⟨⟨⟨⟨D,s⟩,y⟩,q⟩,B⟩,A⟩,J⟩:=g
 have H:=zgP (P:=P) (Q:=OnlyK fun a w=>Q .normal a w) (S:=S) (tail:=k) s D (fun _ _ _ _ _ h=>h) (zeE b (List.range m)) (zeE b r) (Array.replicate ops.size false) a _ M z B A
  (zfM (fun c e u=>zcD k m _ t E (fun j=>by
    have o:=yG (fun x=>x[m+j]?) v;simp only[Array.getElem?_toList]at o;rw[o,yK om,I,zdW];split
    ·rfl
    ·exact yY om) om J c e u) (zeE b r) a _
    (h _ (OnlyK fun a w=>Q .normal a w) (fun c e=>wpList P ops (OnlyK fun a w=>Q .normal a w) t c e) (fun _=>rfl) (fun _ _ h=>h (fun a w=>Q .normal a w) (fun _ _ h=>h))))
 have:=ziZ _ _ _ _ H;rw[q,y]at this;exact this
end
