/- A part of the proof of L14g. No condition. -/
import Derived.Deep.Slices
import Derived.Laws.IdiomArrays
import Derived.Lib.SmallJoins
import Derived.OpenShut
import Derived.ProofKit
import Derived.Test.YtieeogndnhighaaGreatZL14gbc
set_option linter.all false
set_option maxRecDepth 100000
set_option maxHeartbeats 200000
namespace Go.Proofs.YtieeogndnhighaaGreat
open Go.ChangeShapes Go.WideShapes Go.ChangeAt Go.RowKit
theorem lawOwn:ownKnob Tryz.prog.godebug=none:=by kernel_rfl
theorem lawLaid:laidOutB Tryz.prog=true:=by kernel_rfl
instance:Inhabited S14.C:=⟨⟨0,0,0,0,0,0⟩⟩
theorem cells_C14:Tryz.prog.cellsOf 54=6:=by kernel_rfl
theorem zdZ:Tryz.prog.cellsOf 3=1:=by kernel_rfl
theorem comp_cells{H:Type}{enc:TypeId×Value→H}{W:World}{m:Nat}{cs:List Value}{y:DataW H×List MemPlace}(hlen:cs.length=6)
 (h:DataW.trod enc Tryz.prog W 0 (fun _=>true) true m 54 cs=some y):∃x:S14.C,cs=yA x:=by
 obtain⟨ys,n,_,_,_,hyl,hf⟩:=DataW.trod_struct Tryz.underlying54 h
 match cs,hlen,ys,hyl with
 | [c0,c1,c2,c3,c4,c5],_,[y0,y1,y2,y3,y4,y5],_=>
   have t0:DataW.trod enc Tryz.prog W 0 (fun _=>true) true n 3 [c0]=some y0:=by
    have:=hf 0 _ rfl;simpa[zdZ] using this
   obtain⟨x0,e0,_,_⟩:=DataW.trod_int Tryz.underlying3 t0;simp at e0;subst e0;have t1:DataW.trod enc Tryz.prog W 0 (fun _=>true) true n 3 [c1]=some y1:=by
    have:=hf 1 _ rfl;simpa[zdZ] using this
   obtain⟨x1,e1,_,_⟩:=DataW.trod_int Tryz.underlying3 t1;simp at e1;subst e1;have t2:DataW.trod enc Tryz.prog W 0 (fun _=>true) true n 3 [c2]=some y2:=by
    have:=hf 2 _ rfl;simpa[zdZ] using this
   obtain⟨x2,e2,_,_⟩:=DataW.trod_int Tryz.underlying3 t2;simp at e2;subst e2;have t3:DataW.trod enc Tryz.prog W 0 (fun _=>true) true n 3 [c3]=some y3:=by
    have:=hf 3 _ rfl;simpa[zdZ] using this
   obtain⟨x3,e3,_,_⟩:=DataW.trod_int Tryz.underlying3 t3;simp at e3;subst e3;have t4:DataW.trod enc Tryz.prog W 0 (fun _=>true) true n 3 [c4]=some y4:=by
    have:=hf 4 _ rfl;simpa[zdZ] using this
   obtain⟨x4,e4,_,_⟩:=DataW.trod_int Tryz.underlying3 t4;simp at e4;subst e4;have t5:DataW.trod enc Tryz.prog W 0 (fun _=>true) true n 3 [c5]=some y5:=by
    have:=hf 5 _ rfl;simpa[zdZ] using this
   obtain⟨x5,e5,_,_⟩:=DataW.trod_int Tryz.underlying3 t5;simp at e5;subst e5;exact⟨⟨x0,x1,x2,x3,x4,x5⟩,rfl⟩
end Go.Proofs.YtieeogndnhighaaGreat
namespace Go.Proofs.YtieeogndnhighaaGreat
open Go.ChangeShapes Go.WideShapes Go.ChangeAt Go.RowKit
theorem open_compsC{H:Type}{enc:TypeId×Value→H}{W:World}{base:Nat}{v:Value}{d:DataW H}{p:List MemPlace}(hv:Value.okWide Tryz.prog W .any base 22 v)
 (h:DataW.Trod enc Tryz.prog W 0 (fun _=>true) true 22 v d p) :
 ∃(a:Option Addr) (xs:List S14.C) (cap:Nat),v = .slice a xs.length cap∧xs.length≤cap∧cap≤9223372036854775807∧Rd W a (zeN xs):=by
 obtain⟨a0,len,cap,rfl⟩:=okWide_slice Tryz.underlying22 hv;obtain⟨fuel,hf⟩:=h;rcases Go.Deep.open_slice Tryz.underlying22 hf with⟨hcs,_⟩|⟨x,l,c,m,n,D,Pl,hcs,_,hl,hm,hmm,_,hx⟩
 ·simp[Value.cells]at hcs;obtain⟨rfl,rfl,rfl⟩:=hcs;exact⟨none,[],0,rfl,by simp,by omega,Rd.nil _ _⟩
 ·simp[Value.cells]at hcs;obtain⟨rfl,rfl,rfl⟩:=hcs;simp at hmm;subst hmm;rw[cells_C14]at hx
  have hb:∀i,i<len→∃y:S14.C,∀j,j<6→W.cell? (x.add (i*6+j))=(yA y)[j]? :=fun i hi=>by
   obtain⟨cs,h1,h2⟩:=hx i (by omega);obtain⟨_,hlen,hcell⟩:=World.cells?_some h1;obtain⟨y,rfl⟩:=comp_cells hlen h2;refine⟨y,fun j hj=> ?_⟩;rw[←hcell j hj,Go.Deep.add_add]
  obtain⟨B,hB⟩:=Go.Deep.choose_lt (α:=S14.C) (p:=fun i y=>∀j,j<6→W.cell? (x.add (i*6+j))=(yA y)[j]?) hb;unfold maxLen at hm;refine⟨some x,(List.range len).map B,_,by simp;rfl,by simp;omega,by omega,?_⟩;intro hne;have hpos:0<len:=by
   rcases Nat.eq_zero_or_pos len with h0|h0
   ·subst h0;simp[zeN]at hne
   ·exact h0
  obtain⟨b,o,sp⟩:=x;have h0:=hB 0 hpos 0 (by omega);have hsp:sp=none:=by
   have h':W.cell? ⟨b,o,sp⟩=some (.int .i64 (B 0).kind):=by simpa[Addr.add,yA] using h0
   exact World.cell?_spot h'
  subst hsp;refine⟨b,o,rfl,fun j v hv=> ?_⟩;have hjl:j<6*len:=by
   have:=(List.getElem?_eq_some_iff.1 hv).1;rw[zaT]at this;simpa using this
  have hi:j/6<len:=by omega
  have h1:=hB (j/6) hi (j%6) (by omega);have h2:=Cs14_at ((List.range len).map B) (i:=j/6) (j:=j%6) (x:=B (j/6)) (by simp[hi]) (by omega);rw[show 6*(j/6)+j%6=j by omega,hv]at h2;rw[←h2,show j/6*6+j%6=j by omega,Addr.add_mid]at h1;exact h1
