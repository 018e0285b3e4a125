/- A part of the proof of L14l. No condition. -/
import Derived.Laws.AppendOwnNone
import Derived.Test.YthhgkafloejjiaaGreatZL14lad
set_option linter.all false
set_option maxRecDepth 100000
set_option maxHeartbeats 200000
namespace Go.Proofs.YthhgkafloejjiaaGreat
open Go.RowKit
def Elems(P:Program)(t e:TypeId)(size bytes:Nat)(zc:List Value):Prop:=
 P.underlying t=some (.slice e)∧(P.info? e).map (fun i=>(i.zero.map (fun z=>z.cells.toList),i.size,i.bytes))=some (some zc,size,bytes)∧zc.length=size∧0<size
theorem Elems.open{P:Program}{t e:TypeId}{c f:Nat}{d:List Value}(h:Elems P t e c f d) :
 ∃i z,P.info? e=some i∧i.zero=some z∧i.size=c∧i.bytes=f∧z.cells.size=c∧z.cells.toList=d:=by
 obtain⟨_,b,g,_⟩:=h;cases hi:P.info? e with
 | none=>simp[hi]at b
 | some i=>
   rw[hi]at b;simp only[Option.map_some,Option.some.injEq,Prod.mk.injEq]at b;obtain⟨a,j,k⟩:=b;cases hzz:i.zero with
   | none=>simp[hzz]at a
   | some z=>
     rw[hzz]at a;simp only[Option.map_some,Option.some.injEq]at a;exact⟨i,z,rfl,hzz,j,k,by rw[←Array.length_toList,a,g],a⟩
theorem Rd.of_owns{w:World}{k:Nat}{e:TypeId}{f n cap:Nat}{a:Option Addr}{xs:List Value}(h:w.ownsRow k e f (.slice a n cap) n xs):Rd w a xs:=fun l=>by
 have c:=h.1;rcases h.2 with⟨b,i⟩|⟨g,r,o,b,p,s,q,x,t,u⟩
 ·subst i;exact absurd (List.length_eq_zero_iff.1 (by simpa using c)) l
 ·simp only[Value.slice.injEq,true_and]at b;obtain⟨rfl,rfl⟩:=b;refine⟨g,0,rfl,fun j v d=> ?_⟩;have m:j<n*f:=by rw[←c];exact(List.getElem?_eq_some_iff.1 d).1
  rw[yE,h.cellAt j m];exact d
theorem zaV{w:World}{f:Nat}{e:TypeId}{c n:Nat}{v:Value}{xs:List Value}(h:w.ownsRow f e c v n xs):∃a b,v = .slice a n b∧n≤b∧b≤maxLen:=by
 rcases h.2 with⟨rfl,rfl⟩|⟨g,k,m,rfl,o,p,d,i,j,l⟩
 ·exact⟨none,0,rfl,zF _,zfY _⟩
 ·exact⟨_,_,rfl,d,i⟩
theorem yM{w w':World}{d B:Nat}{e:TypeId}{b n:Nat}{v:Value}{xs:List Value}(h:w.ownsRow d e b v n xs)(j:Below w w w'):w'.ownsRow d e b v n xs:=by
 refine⟨h.1,?_⟩;rcases h.2 with a|⟨g,f,i,a,k,c,r⟩
 ·exact .inl a
 ·exact .inr ⟨g,f,i,a,k,(j.block g (Array.getElem?_eq_some_iff.1 c).1).trans c,r⟩
theorem yQ{P:Program}{w:World}{H:Array Oper}{I:List Oper}{o:Oper}{a:Act}{Q:Exit→Act→World→Prop}(s x:Operand)(t e:TypeId)(f B:Nat)(V:List Value)(l:Nat)
 (g:Elems P t e f B V) (M:o.guard=none) (E:o.op = .call {callee:=.builtin .append,args:=#[s,x],argTypes:=#[t,t]})
 (v:Value) (n:Nat) (xs:List Value) (F:a.eval s=v) (K:w.ownsRow l e f v n xs)
 (k:Option Addr) (m c:Nat) (d:List Value) (L:a.eval x = .slice k m c) (S:d.length=m*f) (T:Rd w k d) (h1:∀u∈d,u.oneCell'=true)
 (X:n+m≤maxLen) (ab:(n+m)*B≤140737488355328) (aa:l≤w.heap.size)
 (h:∀r G w',w'.ownsRow l e f (.slice r (n+m) G) (n+m) (xs++d)→w.grownBy w' v.ownBlock→wpList P H Q I (a.put o.dst (.slice r (n+m) G)) w'):wpList P H Q (o::I) a w:=by
 obtain⟨i,z,J,hz,Z,W,ac,af⟩:=g.open
 have O:∀p w',w'.ownsRow l e f p (n+m) (xs++d)→w.grownBy w' v.ownBlock→wpList P H Q I (a.put o.dst p) w':=fun p w' q C=>by
  obtain⟨r,G,rfl,_⟩:=zaV q;exact h _ _ _ q C
 cases k with
 | some k=>
   refine wpList_append_own w M s x t E l e i z f B g.1 J hz Z W ac g.2.2.2 v n xs F K k m c d L S ?_ h1 X ab aa (fun p w' q C _=>O p w' q C);intro j u D;obtain⟨b,U,A,hr⟩:=T (fun e=>by rw[e]at D;simp at D);cases A;rw[Addr.add_mid];exact hr j u D
 | none=>
   have hn:d = []:=by
    cases hnn:d with
    | nil=>rfl
    | cons y ys=>obtain⟨b,U,A,_⟩:=T (by rw[hnn];simp);simp at A
   subst hn;have hm:m=0:=by
    have Y:m*f=0:=by simpa using S.symm
    rcases Nat.mul_eq_zero.1 Y with h|h
    ·exact h
    ·have:=g.2.2.2;omega
   subst hm;refine zhX (v:=v) (w':=w) M ?_ (O v w (by simpa using K) ⟨rfl,rfl,rfl,zF _,fun _ _ _=>rfl⟩);obtain⟨R,ae,rfl,N,_⟩:=zaV K;cases R with
   | none=>simp[execOp,E,resolve,invoke,builtin,F,L,Builtin.append_,run_underlying g.1,sizeOf,typeInfo,J,Builtin.lenOf,Builtin.firstCells,N,Result.andThen]
   | some R=>simp[execOp,E,resolve,invoke,builtin,F,L,Builtin.append_,run_underlying g.1,sizeOf,typeInfo,J,Builtin.lenOf,Builtin.firstCells,N,storeCells,Result.andThen]
