/- A part of the proof of L14s. No condition. -/
import Derived.Test.YtieeogndnhighaaGreatZL14san
import Derived.Test.YtieeogndnhighaaGreatZL14sbk
set_option linter.all false
set_option maxRecDepth 100000
set_option maxHeartbeats 200000
namespace Go.Proofs.YtieeogndnhighaaGreat
open Go.ChangeShapes Go.WideShapes Go.ChangeAt Go.RowKit
theorem cells_u8:Tryz.prog.cellsOf 5=1:=by kernel_rfl
theorem wf_u8{x:Int}(h:(Lit.int .u8 x).wf=true):0≤x∧x<256:=by
 have:=bounds_u8 h;omega
theorem zfW{H:Type}{enc:TypeId×Value→H}{W:World}{m0:Nat}{c0:Value}{y:DataW H×List MemPlace}
 (hf:DataW.trod enc Tryz.prog W 0 (fun _=>true) true m0 59 [c0]=some y) :
 ∃(a:Option Addr) (xs:List Int) (cap:Nat),c0 = .slice a xs.length cap∧xs.length≤cap∧cap≤9223372036854775807∧Rd W a (Bts xs)∧(∀x∈xs,0≤x∧x<256):=by
 rcases Go.Deep.open_slice1 Tryz.underlying59 cells_u8 hf with⟨hcs,_⟩|⟨x,l,c,m,n,V,D,Pl,hcs,_,hl,hm,hmm,_,hx⟩
 ·simp at hcs;subst hcs;exact⟨none,[],0,rfl,by simp,by omega,Rd.nil _ _,fun _ h=>absurd h zbZ⟩
 ·simp at hcs;subst hcs
  have hb:∀i,i<l→∃z:Int,V i = .int .u8 z∧(Lit.int .u8 z).wf=true:=fun i hi=>by
   obtain⟨z,e0,_,wz⟩:=DataW.trod_int Tryz.underlying5 (hx i (by simp at hmm;omega)).2;simp at e0;exact⟨z,e0,wz⟩
  obtain⟨B,hB⟩:=Go.Deep.choose_lt (α:=Int) (p:=fun i z=>V i = .int .u8 z∧(Lit.int .u8 z).wf=true) hb;unfold maxLen at hm;simp at hmm;refine⟨some x,(List.range l).map B,c,by simp,by simp;omega,by omega,?_,?_⟩
  ·intro hne;have hpos:0<l:=by
    rcases zdI l with h0|h0
    ·subst h0;simp[Bts]at hne
    ·exact h0
   obtain⟨b,o,sp⟩:=x;have h0:=(hx 0 (by omega)).1;have hsp:sp=none:=by
    have h':W.cell? ⟨b,o,sp⟩=some (V 0):=by simpa[Addr.add] using h0
    exact World.cell?_spot h'
   subst hsp;refine⟨b,o,rfl,fun j v hv=> ?_⟩;simp only[Bts,List.map_map,zaB]at hv;have hj:j<l:=by
    by_cases hj:j<l
    ·exact hj
    ·rw[yZ (by simp;omega)]at hv;simp at hv
   rw[List.getElem?_range hj]at hv;simp at hv;have:=(hx j (by omega)).1;rw[Addr.add_mid]at this;rw[this,(hB j hj).1,hv]
  ·intro z hz;simp only[List.mem_map,List.mem_range]at hz;obtain⟨i,hi,rfl⟩:=hz;exact wf_u8 (hB i hi).2
