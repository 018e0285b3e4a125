/- A part of the proof of L14s. No condition. -/
import Derived.Deep.Slices
import Derived.Laws.IdiomArrays
import Derived.Lib.SmallJoins
import Derived.OpenShut
import Derived.ProofKit
import Derived.Test.YtieeogndnhighaaGreatZL14sbb
set_option linter.all false
set_option maxRecDepth 100000
set_option maxHeartbeats 200000
namespace Go.Proofs.YtieeogndnhighaaGreat
open Go.ChangeShapes Go.WideShapes Go.ChangeAt Go.RowKit
theorem lawOwn:ownKnob Tryz.prog.godebug=none:=by kernel_rfl
theorem lawLaid:laidOutB Tryz.prog=true:=by kernel_rfl
instance:Inhabited S14.C:=⟨⟨0,0,0,0,0,0⟩⟩
theorem cells_C14:Tryz.prog.cellsOf 54=6:=by kernel_rfl
theorem zaG:Tryz.prog.cellsOf 3=1:=by kernel_rfl
theorem comp_cells{H:Type}{enc:TypeId×Value→H}{W:World}{m:Nat}{cs:List Value}{y:DataW H×List MemPlace}(hlen:cs.length=6)
 (h:DataW.trod enc Tryz.prog W 0 (fun _=>true) true m 54 cs=some y):∃x:S14.C,cs=yB x:=by
 obtain⟨ys,n,_,_,_,hyl,hf⟩:=DataW.trod_struct Tryz.underlying54 h
 match cs,hlen,ys,hyl with
 | [c0,c1,c2,c3,c4,c5],_,[y0,y1,y2,y3,y4,y5],_=>
   have t0:DataW.trod enc Tryz.prog W 0 (fun _=>true) true n 3 [c0]=some y0:=by
    have:=hf 0 _ rfl;simpa[zaG] using this
   obtain⟨x0,e0,_,_⟩:=DataW.trod_int Tryz.underlying3 t0;simp at e0;subst e0;have t1:DataW.trod enc Tryz.prog W 0 (fun _=>true) true n 3 [c1]=some y1:=by
    have:=hf 1 _ rfl;simpa[zaG] using this
   obtain⟨x1,e1,_,_⟩:=DataW.trod_int Tryz.underlying3 t1;simp at e1;subst e1;have t2:DataW.trod enc Tryz.prog W 0 (fun _=>true) true n 3 [c2]=some y2:=by
    have:=hf 2 _ rfl;simpa[zaG] using this
   obtain⟨x2,e2,_,_⟩:=DataW.trod_int Tryz.underlying3 t2;simp at e2;subst e2;have t3:DataW.trod enc Tryz.prog W 0 (fun _=>true) true n 3 [c3]=some y3:=by
    have:=hf 3 _ rfl;simpa[zaG] using this
   obtain⟨x3,e3,_,_⟩:=DataW.trod_int Tryz.underlying3 t3;simp at e3;subst e3;have t4:DataW.trod enc Tryz.prog W 0 (fun _=>true) true n 3 [c4]=some y4:=by
    have:=hf 4 _ rfl;simpa[zaG] using this
   obtain⟨x4,e4,_,_⟩:=DataW.trod_int Tryz.underlying3 t4;simp at e4;subst e4;have t5:DataW.trod enc Tryz.prog W 0 (fun _=>true) true n 3 [c5]=some y5:=by
    have:=hf 5 _ rfl;simpa[zaG] using this
   obtain⟨x5,e5,_,_⟩:=DataW.trod_int Tryz.underlying3 t5;simp at e5;subst e5;exact⟨⟨x0,x1,x2,x3,x4,x5⟩,rfl⟩
