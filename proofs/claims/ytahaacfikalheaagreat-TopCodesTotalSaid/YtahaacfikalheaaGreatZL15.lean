/- A part of the proof of L15. No condition. -/
import Derived.Deep.SlicePairs
import Derived.Laws.IdiomArrays
import Derived.OpenShut
import Derived.ProofKit
import Derived.Test.YtahaacfikalheaaGreatZL15bx
set_option linter.all false
set_option maxRecDepth 100000
set_option maxHeartbeats 200000
namespace Go.Proofs.YtahaacfikalheaaGreat
open Go.ChangeShapes Go.WideShapes Go.ChangeAt Go.RowKit
theorem lawOwn:ownKnob Tryz.prog.godebug=none:=by kernel_rfl
theorem zmB:laidOutB Tryz.prog=true:=by kernel_rfl
instance:Inhabited S14.C:=⟨⟨0,0,0,0,0,0⟩⟩
theorem cells_C14:Tryz.prog.cellsOf 37=6:=by kernel_rfl
theorem zdS:Tryz.prog.cellsOf 3=1:=by kernel_rfl
theorem comp_cells{H:Type}{enc:TypeId×Value→H}{W:World}{m:Nat}{cs:List Value}{y:DataW H×List MemPlace}(hlen:cs.length=6)
 (h:DataW.trod enc Tryz.prog W 0 (fun _=>true) true m 37 cs=some y):∃x:S14.C,cs=zZ x:=by
 obtain⟨ys,n,_,_,_,hyl,hf⟩:=DataW.trod_struct Tryz.underlying37 h
 match cs,hlen,ys,hyl with
 | [c0,c1,c2,c3,c4,c5],_,[y0,y1,y2,y3,y4,y5],_=>
   have t0:DataW.trod enc Tryz.prog W 0 (fun _=>true) true n 3 [c0]=some y0:=by
    have:=hf 0 _ rfl;simpa[zdS] using this
   obtain⟨x0,e0,_,_⟩:=DataW.trod_int Tryz.underlying3 t0;simp at e0;subst e0;have t1:DataW.trod enc Tryz.prog W 0 (fun _=>true) true n 3 [c1]=some y1:=by
    have:=hf 1 _ rfl;simpa[zdS] using this
   obtain⟨x1,e1,_,_⟩:=DataW.trod_int Tryz.underlying3 t1;simp at e1;subst e1;have t2:DataW.trod enc Tryz.prog W 0 (fun _=>true) true n 3 [c2]=some y2:=by
    have:=hf 2 _ rfl;simpa[zdS] using this
   obtain⟨x2,e2,_,_⟩:=DataW.trod_int Tryz.underlying3 t2;simp at e2;subst e2;have t3:DataW.trod enc Tryz.prog W 0 (fun _=>true) true n 3 [c3]=some y3:=by
    have:=hf 3 _ rfl;simpa[zdS] using this
   obtain⟨x3,e3,_,_⟩:=DataW.trod_int Tryz.underlying3 t3;simp at e3;subst e3;have t4:DataW.trod enc Tryz.prog W 0 (fun _=>true) true n 3 [c4]=some y4:=by
    have:=hf 4 _ rfl;simpa[zdS] using this
   obtain⟨x4,e4,_,_⟩:=DataW.trod_int Tryz.underlying3 t4;simp at e4;subst e4;have t5:DataW.trod enc Tryz.prog W 0 (fun _=>true) true n 3 [c5]=some y5:=by
    have:=hf 5 _ rfl;simpa[zdS] using this
   obtain⟨x5,e5,_,_⟩:=DataW.trod_int Tryz.underlying3 t5;simp at e5;subst e5;exact⟨⟨x0,x1,x2,x3,x4,x5⟩,rfl⟩
theorem open_comps{H:Type}{enc:TypeId×Value→H}{W:World}{base:Nat}{v:Value}{d:DataW H}{p:List MemPlace}(hv:Value.okWide Tryz.prog W .any base 22 v)
 (h:DataW.Trod enc Tryz.prog W 0 (fun _=>true) true 22 v d p) :
 ∃(a:Option Addr) (xs:List S14.C) (cap:Nat),v = .slice a xs.length cap∧xs.length≤9223372036854775807∧Rd W a (zhK xs):=by
 obtain⟨a0,len,cap,rfl⟩:=okWide_slice Tryz.underlying22 hv;obtain⟨fuel,hf⟩:=h;rcases Go.Deep.open_slice Tryz.underlying22 hf with⟨hcs,_⟩|⟨x,l,c,m,n,D,Pl,hcs,_,hl,hm,hmm,_,hx⟩
 ·simp[Value.cells]at hcs;obtain⟨rfl,rfl,rfl⟩:=hcs;exact⟨none,[],0,rfl,by simp,Rd.nil _ _⟩
 ·simp[Value.cells]at hcs;obtain⟨rfl,rfl,rfl⟩:=hcs;simp at hmm;subst hmm;rw[cells_C14]at hx
  have hb:∀i,i<len→∃y:S14.C,∀j,j<6→W.cell? (x.add (i*6+j))=(zZ y)[j]? :=fun i hi=>by
   obtain⟨cs,h1,h2⟩:=hx i (by omega);obtain⟨_,hlen,hcell⟩:=World.cells?_some h1;obtain⟨y,rfl⟩:=comp_cells hlen h2;refine⟨y,fun j hj=> ?_⟩;rw[←hcell j hj,Go.Deep.add_add]
  obtain⟨B,hB⟩:=Go.Deep.choose_lt (α:=S14.C) (p:=fun i y=>∀j,j<6→W.cell? (x.add (i*6+j))=(zZ y)[j]?) hb;unfold maxLen at hm;refine⟨some x,(List.range len).map B,_,by simp;rfl,by simp;omega,?_⟩;intro hne;have hpos:0<len:=by
   rcases zeC len with h0|h0
   ·subst h0;simp[zhK]at hne
   ·exact h0
  obtain⟨b,o,sp⟩:=x;have h0:=hB 0 hpos 0 (by omega);have hsp:sp=none:=by
   have h':W.cell? ⟨b,o,sp⟩=some (.int .i64 (B 0).kind):=by simpa[Addr.add,zZ] using h0
   exact World.cell?_spot h'
  subst hsp;refine⟨b,o,rfl,fun j v hv=> ?_⟩;have hjl:j<6*len:=by
   have:=(List.getElem?_eq_some_iff.1 hv).1;rw[zbB]at this;simpa using this
  have hi:j/6<len:=by omega
  have h1:=hB (j/6) hi (j%6) (by omega);have h2:=Cs14_at ((List.range len).map B) (i:=j/6) (j:=j%6) (x:=B (j/6)) (by simp[hi]) (by omega);rw[show 6*(j/6)+j%6=j by omega,hv]at h2;rw[←h2,show j/6*6+j%6=j by omega,Addr.add_mid]at h1;exact h1
end Go.Proofs.YtahaacfikalheaaGreat
namespace Go.Proofs.YtahaacfikalheaaGreat
open Go.ChangeShapes Go.WideShapes Go.ChangeAt Go.RowKit
theorem cells_u8:Tryz.prog.cellsOf 5=1:=by kernel_rfl
theorem wf_u8{x:Int}(h:(Lit.int .u8 x).wf=true):0≤x∧x<256:=by
 have:=bounds_u8 h;omega
theorem nat_of_u8{x:Int}(h:(Lit.int .u8 x).wf=true):∃n:Nat,x=n∧n<256:=by
 have b:=wf_u8 h;obtain⟨n,rfl⟩:=Int.eq_ofNat_of_zero_le b.1;exact⟨n,rfl,by omega⟩
theorem zrG{H:Type}{enc:TypeId×Value→H}{W:World}{m0:Nat}{c0:Value}{y:DataW H×List MemPlace}
 (hf:DataW.trod enc Tryz.prog W 0 (fun _=>true) true m0 24 [c0]=some y) :
 ∃(a:Option Addr) (xs:List Int) (cap:Nat),c0 = .slice a xs.length cap∧xs.length≤cap∧cap≤9223372036854775807∧Rd W a (Bts xs)∧(∀x∈xs,0≤x∧x<256):=by
 rcases Go.Deep.open_slice1 Tryz.underlying24 cells_u8 hf with⟨hcs,_⟩|⟨x,l,c,m,n,V,D,Pl,hcs,_,hl,hm,hmm,_,hx⟩
 ·simp at hcs;subst hcs;exact⟨none,[],0,rfl,by simp,by omega,Rd.nil _ _,fun _ h=>absurd h zdJ⟩
 ·simp at hcs;subst hcs
  have hb:∀i,i<l→∃z:Int,V i = .int .u8 z∧(Lit.int .u8 z).wf=true:=fun i hi=>by
   obtain⟨z,e0,_,wz⟩:=DataW.trod_int Tryz.underlying5 (hx i (by simp at hmm;omega)).2;simp at e0;exact⟨z,e0,wz⟩
  obtain⟨B,hB⟩:=Go.Deep.choose_lt (α:=Int) (p:=fun i z=>V i = .int .u8 z∧(Lit.int .u8 z).wf=true) hb;unfold maxLen at hm;simp at hmm;refine⟨some x,(List.range l).map B,c,by simp,by simp;omega,by omega,?_,?_⟩
  ·intro hne;have hpos:0<l:=by
    rcases zeC l with h0|h0
    ·subst h0;simp[Bts]at hne
    ·exact h0
   obtain⟨b,o,sp⟩:=x;have h0:=(hx 0 (by omega)).1;have hsp:sp=none:=by
    have h':W.cell? ⟨b,o,sp⟩=some (V 0):=by simpa[Addr.add] using h0
    exact World.cell?_spot h'
   subst hsp;refine⟨b,o,rfl,fun j v hv=> ?_⟩;simp only[Bts,List.map_map,zaG]at hv;have hj:j<l:=by
    by_cases hj:j<l
    ·exact hj
    ·rw[yP (by simp;omega)]at hv;simp at hv
   rw[List.getElem?_range hj]at hv;simp at hv;have:=(hx j (by omega)).1;rw[Addr.add_mid]at this;rw[this,(hB j hj).1,hv]
  ·intro z hz;simp only[List.mem_map,zfQ]at hz;obtain⟨i,hi,rfl⟩:=hz;exact wf_u8 (hB i hi).2
theorem open_bytes{H:Type}{enc:TypeId×Value→H}{W:World}{base:Nat}{v:Value}{d:DataW H}{p:List MemPlace}(hv:Value.okWide Tryz.prog W .any base 24 v)
 (h:DataW.Trod enc Tryz.prog W 0 (fun _=>true) true 24 v d p) :
 ∃(a:Option Addr) (xs:List Int) (cap:Nat),v = .slice a xs.length cap∧xs.length≤cap∧xs.length≤9223372036854775807∧Rd W a (Bts xs)∧(∀x∈xs,0≤x∧x<256):=by
 obtain⟨a0,len,cap,rfl⟩:=okWide_slice Tryz.underlying24 hv;obtain⟨fuel,hf⟩:=h;obtain⟨a,xs,cap,e,h1,h2,h3,h4⟩:=zrG (c0:=.slice a0 len cap) (by simpa[Value.cells] using hf);exact⟨a,xs,cap,e,h1,yC h1 h2,h3,h4⟩
end Go.Proofs.YtahaacfikalheaaGreat
namespace Go.Proofs.YtahaacfikalheaaGreat
open Go.ChangeShapes Go.WideShapes Go.ChangeAt Go.RowKit
theorem cells_lx:Tryz.prog.cellsOf 35=1:=by kernel_rfl
theorem cells_u32:Tryz.prog.cellsOf 44=1:=by kernel_rfl
theorem wf_u32{x:Int}(h:(Lit.int .u32 x).wf=true):0≤x∧x<4294967296:=by
 have:=bounds_u32 h;omega
def Nts32(l:List Int):List Value:=l.map (.int .u32 ·)
theorem open_intsCell{H:Type}{enc:TypeId×Value→H}{W:World}{m0:Nat}{c0:Value}{y:DataW H×List MemPlace}
 (hf:DataW.trod enc Tryz.prog W 0 (fun _=>true) true m0 69 [c0]=some y) :
 ∃(a:Option Addr) (xs:List Int) (cap:Nat),c0 = .slice a xs.length cap∧xs.length≤cap∧cap≤9223372036854775807∧Rd W a (zaK xs)∧∀x∈xs,(Lit.int .i64 x).wf=true:=by
 rcases Go.Deep.open_slice1 Tryz.underlying69 zdS hf with⟨hcs,_⟩|⟨x,l,c,m,n,V,D,Pl,hcs,_,hl,hm,hmm,_,hx⟩
 ·simp at hcs;subst hcs;exact⟨none,[],0,rfl,by simp,by omega,Rd.nil _ _,by simp⟩
 ·simp at hcs;subst hcs
  have hb:∀i,i<l→∃z:Int,V i = .int .i64 z∧(Lit.int .i64 z).wf=true:=fun i hi=>by
   obtain⟨z,e0,_,wz⟩:=DataW.trod_int Tryz.underlying3 (hx i (by simp at hmm;omega)).2;simp at e0;exact⟨z,e0,wz⟩
  obtain⟨B,hB⟩:=Go.Deep.choose_lt (α:=Int) (p:=fun i z=>V i = .int .i64 z∧(Lit.int .i64 z).wf=true) hb;unfold maxLen at hm;simp at hmm;refine⟨some x,(List.range l).map B,c,by simp,by simp;omega,by omega,?_,?_⟩
  ·intro hne;have hpos:0<l:=by
    rcases zeC l with h0|h0
    ·subst h0;simp[zaK]at hne
    ·exact h0
   obtain⟨b,o,sp⟩:=x;have h0:=(hx 0 (by omega)).1;have hsp:sp=none:=by
    have h':W.cell? ⟨b,o,sp⟩=some (V 0):=by simpa[Addr.add] using h0
    exact World.cell?_spot h'
   subst hsp;refine⟨b,o,rfl,fun j v hv=> ?_⟩;simp only[zaK,List.map_map,zaG]at hv;have hj:j<l:=by
    by_cases hj:j<l
    ·exact hj
    ·rw[yP (by simp;omega)]at hv;simp at hv
   rw[List.getElem?_range hj]at hv;simp at hv;have:=(hx j (by omega)).1;rw[Addr.add_mid]at this;rw[this,(hB j hj).1,hv]
  ·intro z hz;simp only[List.mem_map,zfQ]at hz;obtain⟨i,hi,rfl⟩:=hz;exact(hB i hi).2
instance:Inhabited Row13:=⟨⟨none,0,[]⟩⟩
theorem open_u32Cell{H:Type}{enc:TypeId×Value→H}{W:World}{m0:Nat}{c0:Value}{y:DataW H×List MemPlace}
 (hf:DataW.trod enc Tryz.prog W 0 (fun _=>true) true m0 35 [c0]=some y) :
 ∃(a:Option Addr) (xs:List Int) (cap:Nat),c0 = .slice a xs.length cap∧xs.length≤cap∧cap≤9223372036854775807∧Rd W a (Nts32 xs)∧(∀x∈xs,0≤x∧x<4294967296):=by
 rcases Go.Deep.open_slice1 Tryz.underlying35 cells_u32 hf with⟨hcs,_⟩|⟨x,l,c,m,n,V,D,Pl,hcs,_,hl,hm,hmm,_,hx⟩
 ·simp at hcs;subst hcs;exact⟨none,[],0,rfl,by simp,by omega,Rd.nil _ _,fun _ h=>absurd h zdJ⟩
 ·simp at hcs;subst hcs
  have hb:∀i,i<l→∃z:Int,V i = .int .u32 z∧(Lit.int .u32 z).wf=true:=fun i hi=>by
   obtain⟨z,e0,_,wz⟩:=DataW.trod_int Tryz.underlying44 (hx i (by simp at hmm;omega)).2;simp at e0;exact⟨z,e0,wz⟩
  obtain⟨B,hB⟩:=Go.Deep.choose_lt (α:=Int) (p:=fun i z=>V i = .int .u32 z∧(Lit.int .u32 z).wf=true) hb;unfold maxLen at hm;simp at hmm;refine⟨some x,(List.range l).map B,c,by simp,by simp;omega,by omega,?_,?_⟩
  ·intro hne;have hpos:0<l:=by
    rcases zeC l with h0|h0
    ·subst h0;simp[Nts32]at hne
    ·exact h0
   obtain⟨b,o,sp⟩:=x;have h0:=(hx 0 (by omega)).1;have hsp:sp=none:=by
    have h':W.cell? ⟨b,o,sp⟩=some (V 0):=by simpa[Addr.add] using h0
    exact World.cell?_spot h'
   subst hsp;refine⟨b,o,rfl,fun j v hv=> ?_⟩;simp only[Nts32,List.map_map,zaG]at hv;have hj:j<l:=by
    by_cases hj:j<l
    ·exact hj
    ·rw[yP (by simp;omega)]at hv;simp at hv
   rw[List.getElem?_range hj]at hv;simp at hv;have:=(hx j (by omega)).1;rw[Addr.add_mid]at this;rw[this,(hB j hj).1,hv]
  ·intro z hz;simp only[List.mem_map,zfQ]at hz;obtain⟨i,hi,rfl⟩:=hz;exact wf_u32 (hB i hi).2
instance:Inhabited S14.P:=⟨S14.P0⟩
instance:Inhabited Lay:=⟨zdO⟩
theorem u32s_of{l:List Int}(h:∀x∈l,0≤x∧x<4294967296):∃xs:List Nat,Nts32 l=zhJ xs∧xs.length=l.length∧∀x∈xs,x<4294967296:=by
 induction l with
 | nil=>exact⟨[],rfl,rfl,fun x h=>absurd h zdJ⟩
 | cons a l ih=>
   obtain⟨xs,e,hl,hx⟩:=ih fun x hx=>h x (List.mem_cons_of_mem _ hx);obtain⟨n,rfl⟩:=Int.eq_ofNat_of_zero_le (h a List.mem_cons_self).1;refine⟨n::xs,?_,by simp[hl],fun x hx'=> ?_⟩
   ·show Value.int .u32 (n:Int)::Nts32 l = .int .u32 (n:Int)::zhJ xs;rw[e]
   ·rcases List.mem_cons.1 hx' with rfl|h'
    ·have:=(h _ List.mem_cons_self).2;omega
    ·exact hx x h'
end Go.Proofs.YtahaacfikalheaaGreat
namespace Go.Proofs.YtahaacfikalheaaGreat
open Go.ChangeShapes Go.WideShapes Go.ChangeAt Go.RowKit
theorem nats15{xs:List Int}(h:∀x∈xs,0≤x∧x<256):∃l:List Nat,Bts xs=Nbs l∧l.length=xs.length∧S15.By l:=by
 induction xs with
 | nil=>exact⟨[],rfl,rfl,fun x h=>by cases h⟩
 | cons a xs ih=>
   obtain⟨l,e,hl,hx⟩:=ih fun x hx=>h x (List.mem_cons_of_mem _ hx);obtain⟨n,rfl⟩:=Int.eq_ofNat_of_zero_le (h a List.mem_cons_self).1;refine⟨n::l,?_,by simp[hl],fun x hx'=> ?_⟩
   ·show Value.int .u8 (n:Int)::Bts xs = .int .u8 (n:Int)::Nbs l;rw[e]
   ·rcases List.mem_cons.1 hx' with rfl|h'
    ·have:=(h _ List.mem_cons_self).2;omega
    ·exact hx x h'
theorem open_nbs{H:Type}{enc:TypeId×Value→H}{W:World}{base:Nat}{v:Value}{d:DataW H}{p:List MemPlace}(hv:Value.okWide Tryz.prog W .any base 24 v)
 (h:DataW.Trod enc Tryz.prog W 0 (fun _=>true) true 24 v d p) :
 ∃(a:Option Addr) (l:List Nat) (cap:Nat),v = .slice a l.length cap∧l.length≤cap∧Rd W a (Nbs l)∧S15.By l:=by
 obtain⟨a,xs,cap,e,h1,_,h3,h4⟩:=open_bytes hv h;obtain⟨l,e1,e2,e3⟩:=nats15 h4;rw[e1]at h3;exact⟨a,l,cap,by rw[e,e2],by rw[e2];exact h1,h3,e3⟩
theorem open_ctxs{H:Type}{enc:TypeId×Value→H}{W:World}{base:Nat}{v:Value}{d:DataW H}{p:List MemPlace}(hv:Value.okWide Tryz.prog W .any base 23 v)
 (h:DataW.Trod enc Tryz.prog W 0 (fun _=>true) true 23 v d p) :
 ∃(a:Option Addr) (vs:List Value) (cs:List (List Nat)) (cap:Nat),v = .slice a cs.length cap∧CX W a vs cs∧∀x∈cs,∀y∈x,y<4294967296:=by
 obtain⟨a0,len,cap,rfl⟩:=okWide_slice Tryz.underlying23 hv;obtain⟨fuel,hf⟩:=h;rcases Go.Deep.open_slice1 Tryz.underlying23 cells_lx hf with⟨hcs,_⟩|⟨x,l,c,m,n,V,D,Pl,hcs,_,hl,hm,hmm,_,hx⟩
 ·simp[Value.cells]at hcs;obtain⟨rfl,rfl,rfl⟩:=hcs;exact⟨none,[],[],0,rfl,CX.nil15 W,fun x h=>by cases h⟩
 ·simp[Value.cells]at hcs;obtain⟨rfl,rfl,rfl⟩:=hcs;simp at hmm;subst hmm
  have hb:∀i,i<len→∃r:List Nat×Option Addr×Nat,V i = .slice r.2.1 r.1.length r.2.2∧Rd W r.2.1 (zhJ r.1)∧∀y∈r.1,y<4294967296:=fun i hi=>by
   obtain⟨a,xs,cap',e,h1,h2,h3,h4⟩:=open_u32Cell (hx i (by omega)).2;obtain⟨l,e1,e2,e3⟩:=u32s_of h4;rw[e1]at h3;exact⟨(l,a,cap'),by rw[e,e2],h3,e3⟩
  obtain⟨B,hB⟩:=Go.Deep.choose_lt (α:=List Nat×Option Addr×Nat) (p:=fun i r=>V i = .slice r.2.1 r.1.length r.2.2∧Rd W r.2.1 (zhJ r.1)∧∀y∈r.1,y<4294967296) hb;refine⟨some x,(List.range len).map V,(List.range len).map fun i=>(B i).1,_,by simp;rfl,⟨by simp,?_,?_⟩,?_⟩
  ·intro hne;have hpos:0<len:=by
    rcases zeC len with h0|h0
    ·subst h0;simp at hne
    ·exact h0
   obtain⟨b,o,sp⟩:=x;have h0:=(hx 0 (by omega)).1;have hsp:sp=none:=by
    have h':W.cell? ⟨b,o,sp⟩=some (V 0):=by simpa[Addr.add] using h0
    exact World.cell?_spot h'
   subst hsp;refine⟨b,o,rfl,fun j v hv=> ?_⟩;simp only[zaG]at hv;have hj:j<len:=by
    by_cases hj:j<len
    ·exact hj
    ·rw[yP (by simp;omega)]at hv;simp at hv
   rw[List.getElem?_range hj]at hv;simp at hv;have:=(hx j (by omega)).1;rw[Addr.add_mid]at this;rw[this,hv]
  ·intro j l hl;have hj:j<len:=by simpa using (List.getElem?_eq_some_iff.1 hl).1
   simp[hj]at hl;subst hl;exact⟨(B j).2.1,(B j).2.2,by simp[hj,(hB j hj).1],(hB j hj).2.1⟩
  ·intro z hz;simp only[List.mem_map,zfQ]at hz;obtain⟨i,hi,rfl⟩:=hz;exact(hB i hi).2.2
end Go.Proofs.YtahaacfikalheaaGreat
namespace Go.Proofs.YtahaacfikalheaaGreat
open Go.ChangeShapes Go.WideShapes Go.ChangeAt Go.RowKit
theorem zhX(os:Os)(started:os.Started)(H:Type)(enc:TypeId×Value→H) :
 ReturnsInHanded {} Tryz.checked os 3 .any (Rows.topCodesReturnSpec.pre6 enc Tryz.prog Tryz.f3 Rows.topCodesReturnRow.domain false) (Rows.topCodesReturnSpec.post enc Tryz.prog Tryz.f3 false true false false):=by
 refine returnsInHanded_of_change (C:=Tryz.checked) lawOwn started (by kernel_rfl) Tryz.func3
  (ChangeSpec.witness6 (enc:=enc) (C:=Tryz.checked) false ⟨#[],#[.slice none 0 0,.slice none 0 0,.slice none 0 0],[]⟩ 8 (by kernel_rfl) (by kernel_rfl) (by kernel_rfl) (by kernel_rfl)) ?_
 intro W base args ds gs before hval0 hW hcnd _;have hval:∀(j:Nat) t v,Tryz.f3.params[j]? = some t→args[j]? = some v→Value.okWide Tryz.prog W .any base t v:=hval0;have hW':=hW;obtain⟨p,q,hA0,hV,rfl,hfz,hnd⟩:=hW;have hA:DataW.TrodAll enc Tryz.prog W 0 (fun _=>true) true Tryz.f3.params.toList args.toList ds p:=hA0;rw[Tryz.params3]at hA hval;obtain⟨v0,vs0,d0,ds0,p0,q0,hargs,rfl,rfl,h0,r0⟩:=trodAll_cons hA;obtain⟨v1,vs1,d1,ds1,p1,q1,rfl,rfl,rfl,h1,r1⟩:=trodAll_cons r0;obtain⟨v2,vs2,d2,ds2,p2,q2,rfl,rfl,rfl,h2,r2⟩:=trodAll_cons r1;obtain⟨rfl,rfl,rfl⟩:=trodAll_nil r2;obtain rfl:args = #[v0,v1,v2]:=by cases args;simp_all
 obtain⟨rfl,rfl⟩:=trodVars_none hV;have k0:=h0;have lt0:∀x∈p0,x.block<W.heap.size:=by obtain⟨m,hm⟩:=k0;exact DataW.trod_lt m _ _ _ hm
 have ok0:=hval 0 22 v0 rfl rfl;have k1:=h1;have lt1:∀x∈p1,x.block<W.heap.size:=by obtain⟨m,hm⟩:=k1;exact DataW.trod_lt m _ _ _ hm
 have ok1:=hval 1 23 v1 rfl rfl;have k2:=h2;have lt2:∀x∈p2,x.block<W.heap.size:=by obtain⟨m,hm⟩:=k2;exact DataW.trod_lt m _ _ _ hm
 have ok2:=hval 2 24 v2 rfl rfl;clear hA0 hval0;obtain⟨a,xs,cap,rfl,hl,hrd⟩:=open_comps ok0 h0;obtain⟨ac,vs,cs,cc,rfl,hC,hx⟩:=open_ctxs ok1 h1;obtain⟨ad,ds,cd,rfl,_,hrdd,hds⟩:=open_nbs ok2 h2;refine(znP xs cs ds hx hds a ac ad vs cap cc cd W hrd hC hrdd).mono fun e W' ⟨he,bel⟩=> ?_;subst he;exact⟨_,rfl,_,_,_,[],_,[],hW',trodAll_mk1 (shut_bool Tryz.underlying4 _),(trodAll_cons_mk (Below.trod zmB (by kernel_rfl) (zaV (by kernel_rfl)) k0 bel lt0) (trodAll_cons_mk (Below.trod zmB (by kernel_rfl) (zaV (by kernel_rfl)) k1 bel lt1) (trodAll_cons_mk (Below.trod zmB (by kernel_rfl) (zaV (by kernel_rfl)) k2 bel lt2) trodAll_mk0))),rfl,bel.frame _,fun h=>by cases h⟩
theorem TopCodesReturn_holds:Rows.TopCodesReturnSaid:=
 OpenClaim.holds_of_wide 3 Tryz.f3 rfl rfl rfl rfl rfl rfl rfl ⟨rfl,rfl,rfl,rfl,rfl⟩ rfl rfl rfl rfl rfl (by kernel_rfl) Tryz.func3 (by kernel_rfl)
  (zaV (by kernel_rfl)) (by unfold Func.isWrapper;rw[zG (of_decide_eq_false (by kernel_rfl))];exact⟨rfl,rfl⟩)
  (fun os started H enc _=>zhX os started H enc)
theorem ziQ(os:Os)(started:os.Started)(H:Type)(enc:TypeId×Value→H) :
 ReturnsInHanded {} Tryz.checked os 4 .any (Rows.topCodesTotalSpec.pre6 enc Tryz.prog Tryz.f4 Rows.topCodesTotalRow.domain false) (Rows.topCodesTotalSpec.post enc Tryz.prog Tryz.f4 false true false false):=by
 refine returnsInHanded_of_change (C:=Tryz.checked) lawOwn started (by kernel_rfl) Tryz.func4
  (ChangeSpec.witness6 (enc:=enc) (C:=Tryz.checked) false ⟨#[],#[.slice none 0 0,.slice none 0 0,.int .u8 0],[]⟩ 8 (by kernel_rfl) (by kernel_rfl) (by kernel_rfl) (by kernel_rfl)) ?_
 intro W base args ds gs before hval0 hW hcnd _;have hval:∀(j:Nat) t v,Tryz.f4.params[j]? = some t→args[j]? = some v→Value.okWide Tryz.prog W .any base t v:=hval0;have hW':=hW;obtain⟨p,q,hA0,hV,rfl,hfz,hnd⟩:=hW;have hA:DataW.TrodAll enc Tryz.prog W 0 (fun _=>true) true Tryz.f4.params.toList args.toList ds p:=hA0;rw[Tryz.params4]at hA hval;obtain⟨v0,vs0,d0,ds0,p0,q0,hargs,rfl,rfl,h0,r0⟩:=trodAll_cons hA;obtain⟨v1,vs1,d1,ds1,p1,q1,rfl,rfl,rfl,h1,r1⟩:=trodAll_cons r0;obtain⟨v2,vs2,d2,ds2,p2,q2,rfl,rfl,rfl,h2,r2⟩:=trodAll_cons r1;obtain⟨rfl,rfl,rfl⟩:=trodAll_nil r2;obtain rfl:args = #[v0,v1,v2]:=by cases args;simp_all
 obtain⟨rfl,rfl⟩:=trodVars_none hV;have k0:=h0;have lt0:∀x∈p0,x.block<W.heap.size:=by obtain⟨m,hm⟩:=k0;exact DataW.trod_lt m _ _ _ hm
 have ok0:=hval 0 22 v0 rfl rfl;have k1:=h1;have lt1:∀x∈p1,x.block<W.heap.size:=by obtain⟨m,hm⟩:=k1;exact DataW.trod_lt m _ _ _ hm
 have ok1:=hval 1 24 v1 rfl rfl;have k2:=h2;have lt2:∀x∈p2,x.block<W.heap.size:=by obtain⟨m,hm⟩:=k2;exact DataW.trod_lt m _ _ _ hm
 have ok2:=hval 2 5 v2 rfl rfl;clear hA0 hval0;obtain⟨a,xs,cap,rfl,hl,hrd⟩:=open_comps ok0 h0;obtain⟨ad,ds,cd,rfl,hle,hrdd,hds⟩:=open_nbs ok1 h1;obtain⟨z,rfl,rfl,rfl,wz⟩:=open_int Tryz.underlying5 ok2 h2;obtain⟨n,rfl,hn⟩:=nat_of_u8 wz;refine(zoN xs ds n hn hds a ad cap cd hle W hrd hrdd).mono fun e W' ⟨he,bel⟩=> ?_;subst he;exact⟨_,rfl,_,_,_,[],_,[],hW',trodAll_mk1 (shut_bool Tryz.underlying4 _),(trodAll_cons_mk (Below.trod zmB (by kernel_rfl) (zaV (by kernel_rfl)) k0 bel lt0) (trodAll_cons_mk (Below.trod zmB (by kernel_rfl) (zaV (by kernel_rfl)) k1 bel lt1) (trodAll_cons_mk (Below.trod zmB (by kernel_rfl) (zaV (by kernel_rfl)) k2 bel lt2) trodAll_mk0))),rfl,bel.frame _,fun h=>by cases h⟩
theorem TopCodesTotal_holds:Rows.TopCodesTotalSaid:=
 OpenClaim.holds_of_wide 4 Tryz.f4 rfl rfl rfl rfl rfl rfl rfl ⟨rfl,rfl,rfl,rfl,rfl⟩ rfl rfl rfl rfl rfl (by kernel_rfl) Tryz.func4 (by kernel_rfl)
  (zaV (by kernel_rfl)) (by unfold Func.isWrapper;rw[zG (of_decide_eq_false (by kernel_rfl))];exact⟨rfl,rfl⟩)
  (fun os started H enc _=>ziQ os started H enc)
