/- A part of the proof of L15. No condition. -/
import Derived.Laws.AppendOwnNone
import Derived.Test.YtahaacfikalheaaGreatZL15ad
set_option linter.all false
set_option maxRecDepth 100000
set_option maxHeartbeats 200000
namespace Go.Proofs.YtahaacfikalheaaGreat
open Go.RowKit
def Elems(P:Program)(t e:TypeId)(size bytes:Nat)(zc:List Value):Prop:=
 P.underlying t=some (.slice e)∧(P.info? e).map (fun i=>(i.zero.map (fun z=>z.cells.toList),i.size,i.bytes))=some (some zc,size,bytes)∧zc.length=size∧0<size
theorem Elems.open{P:Program}{t e:TypeId}{size bytes:Nat}{zc:List Value}(h:Elems P t e size bytes zc) :
 ∃i z,P.info? e=some i∧i.zero=some z∧i.size=size∧i.bytes=bytes∧z.cells.size=size∧z.cells.toList=zc:=by
 obtain⟨_,h1,h2,_⟩:=h;cases hi:P.info? e with
 | none=>simp[hi]at h1
 | some i=>
   rw[hi]at h1;simp only[Option.map_some,Option.some.injEq,Prod.mk.injEq]at h1;obtain⟨hz,hs,hb⟩:=h1;cases hzz:i.zero with
   | none=>simp[hzz]at hz
   | some z=>
     rw[hzz]at hz;simp only[Option.map_some,Option.some.injEq]at hz;exact⟨i,z,rfl,hzz,hs,hb,by rw[←Array.length_toList,hz,h2],hz⟩
theorem Rd.of_owns{w:World}{base:Nat}{e:TypeId}{size n cap:Nat}{a:Option Addr}{xs:List Value}(h:w.ownsRow base e size (.slice a n cap) n xs):Rd w a xs:=fun hne=>by
 have hlen:=h.1;rcases h.2 with⟨h',h0⟩|⟨g,cap',cur,h',hb,hg,hnc,hcm,hcs,htake⟩
 ·subst h0;exact absurd (List.length_eq_zero_iff.1 (by simpa using hlen)) hne
 ·simp only[Value.slice.injEq,true_and]at h';obtain⟨rfl,rfl⟩:=h';refine⟨g,0,rfl,fun j v hv=> ?_⟩;have hj:j<n*size:=by rw[←hlen];exact(List.getElem?_eq_some_iff.1 hv).1
  rw[yK,h.cellAt j hj];exact hv
theorem zaX{w:World}{base:Nat}{e:TypeId}{size n:Nat}{v:Value}{xs:List Value}(h:w.ownsRow base e size v n xs):∃a cap,v = .slice a n cap∧n≤cap∧cap≤maxLen:=by
 rcases h.2 with⟨rfl,rfl⟩|⟨g,cap',cur,rfl,hb,hg,hnc,hcm,hcs,htake⟩
 ·exact⟨none,0,rfl,zD _,zcA _⟩
 ·exact⟨_,_,rfl,hnc,hcm⟩
theorem yX{w w':World}{base B:Nat}{e:TypeId}{size n:Nat}{v:Value}{xs:List Value}(h:w.ownsRow base e size v n xs)(hb:Below w.heap.size w w'):w'.ownsRow base e size v n xs:=by
 refine⟨h.1,?_⟩;rcases h.2 with h'|⟨g,cap',cur,h',hb',hg,r⟩
 ·exact .inl h'
 ·exact .inr ⟨g,cap',cur,h',hb',(hb.block g (Array.getElem?_eq_some_iff.1 hg).1).trans hg,r⟩
theorem zaL{P:Program}{w:World}{ops:Array Oper}{rest:List Oper}{o:Oper}{a:Act}{Q:Exit→Act→World→Prop}(s x:Operand)(t e:TypeId)(size bytes:Nat)(zc:List Value)(base:Nat)
 (he:Elems P t e size bytes zc) (hgd:o.guard=none) (ho:o.op = .call {callee:=.builtin .append,args:=#[s,x],argTypes:=#[t,t]})
 (v:Value) (n:Nat) (xs:List Value) (hs:a.eval s=v) (hown:w.ownsRow base e size v n xs)
 (ad:Option Addr) (m c:Nat) (news:List Value) (hx:a.eval x = .slice ad m c) (hl:news.length=m*size) (hnews:Rd w ad news) (h1:∀u∈news,u.oneCell'=true)
 (h63:n+m≤maxLen) (hbytes:(n+m)*bytes≤140737488355328) (hbase:base≤w.heap.size)
 (h:∀a' cap' w',w'.ownsRow base e size (.slice a' (n+m) cap') (n+m) (xs++news)→w.grownBy w' v.ownBlock→wpList P ops Q rest (a.put o.dst (.slice a' (n+m) cap')) w'):wpList P ops Q (o::rest) a w:=by
 obtain⟨i,z,hi,hz,hsz,hby,hzs,hzc⟩:=he.open
 have hf:∀v' w',w'.ownsRow base e size v' (n+m) (xs++news)→w.grownBy w' v.ownBlock→wpList P ops Q rest (a.put o.dst v') w':=fun v' w' h2 h3=>by
  obtain⟨a',cap',rfl,_⟩:=zaX h2;exact h _ _ _ h2 h3
 cases ad with
 | some ad=>
   refine wpList_append_own w hgd s x t ho base e i z size bytes he.1 hi hz hsz hby hzs he.2.2.2 v n xs hs hown ad m c news hx hl ?_ h1 h63 hbytes hbase (fun v' w' h2 h3 _=>hf v' w' h2 h3);intro j u hu;obtain⟨b,off,e1,hr⟩:=hnews (fun e=>by rw[e]at hu;simp at hu);cases e1;rw[Addr.add_mid];exact hr j u hu
 | none=>
   have hn:news = []:=by
    cases hnn:news with
    | nil=>rfl
    | cons y ys=>obtain⟨b,off,e1,_⟩:=hnews (by rw[hnn];simp);simp at e1
   subst hn;have hm:m=0:=by
    have h0:m*size=0:=by simpa using hl.symm
    rcases Nat.mul_eq_zero.1 h0 with h|h
    ·exact h
    ·have:=he.2.2.2;omega
   subst hm;refine zdV (v:=v) (w':=w) hgd ?_ (hf v w (by simpa using hown) ⟨rfl,rfl,rfl,zD _,fun _ _ _=>rfl⟩);obtain⟨a0,cap0,rfl,hnc,_⟩:=zaX hown;cases a0 with
   | none=>simp[execOp,ho,resolve,invoke,builtin,hs,hx,Builtin.append_,run_underlying he.1,sizeOf,typeInfo,hi,Builtin.lenOf,Builtin.firstCells,hnc,Result.andThen]
   | some a0=>simp[execOp,ho,resolve,invoke,builtin,hs,hx,Builtin.append_,run_underlying he.1,sizeOf,typeInfo,hi,Builtin.lenOf,Builtin.firstCells,hnc,storeCells,Result.andThen]
