/- A part of the proof of L15. No condition. -/
import Derived.Maps.AppendAt
import Derived.Test.YtahaacfikalheaaGreatZL15ae
set_option linter.all false
set_option maxRecDepth 100000
set_option maxHeartbeats 200000
namespace Go.Proofs.YtahaacfikalheaaGreat
open Go.RowKit
theorem Rd.new(w:World)(cs:List Value)(t:TypeId):Rd (w.alloc (.cells cs.toArray t)) (some ⟨w.heap.size,0,none⟩) cs:=fun _=>⟨_,0,rfl,(Blk.new w cs t).cells⟩
theorem zjE{P:Program}{w:World}{ops:Array Oper}{rest:List Oper}{o:Oper}{a:Act}{Q:Exit→Act→World→Prop}(s x:Operand)(t e:TypeId)(size bytes:Nat)(zc:List Value)(base:Nat)
 (he:Elems P t e size bytes zc) (hgd:o.guard=none) (ho:o.op = .call {callee:=.builtin .append,args:=#[s,x],argTypes:=#[t,t]})
 (v:Value) (n:Nat) (xs:List Value) (hs:a.eval s=v) (hown:w.ownsRow base e size v n xs)
 (ad:Option Addr) (m c:Nat) (news:List Value) (hx:a.eval x = .slice ad m c) (hl:news.length=m*size) (hnews:Rd w ad news) (h1:∀u∈news,u.oneCell'=true)
 (h63:n+m≤maxLen) (hbytes:(n+m)*bytes≤140737488355328) (hbase:base≤w.heap.size)
 (h:∀a' cap' w',w'.ownsRow base e size (.slice a' (n+m) cap') (n+m) (xs++news)→w.grownBy w' v.ownBlock→
   ((Value.slice a' (n+m) cap').ownBlock=v.ownBlock∨(Value.slice a' (n+m) cap').ownBlock=some w.heap.size)→wpList P ops Q rest (a.put o.dst (.slice a' (n+m) cap')) w'):wpList P ops Q (o::rest) a w:=by
 obtain⟨i,z,hi,hz,hsz,hby,hzs,hzc⟩:=he.open
 have hf:∀v' w',w'.ownsRow base e size v' (n+m) (xs++news)→w.grownBy w' v.ownBlock→(v'.ownBlock=v.ownBlock∨v'.ownBlock=some w.heap.size)→wpList P ops Q rest (a.put o.dst v') w':=fun v' w' h2 h3 h4=>by
  obtain⟨a',cap',rfl,_⟩:=zaX h2;exact h _ _ _ h2 h3 h4
 cases ad with
 | some ad=>
   refine wpList_append_own_at w hgd s x t ho base e i z size bytes he.1 hi hz hsz hby hzs he.2.2.2 v n xs hs hown ad m c news hx hl ?_ h1 h63 hbytes hbase (fun v' w' h2 h3 _ h5=>hf v' w' h2 h3 h5);intro j u hu;obtain⟨b,off,e1,hr⟩:=hnews (fun e=>by rw[e]at hu;simp at hu);cases e1;rw[Addr.add_mid];exact hr j u hu
 | none=>
   have hn:news = []:=by
    cases hnn:news with
    | nil=>rfl
    | cons y ys=>obtain⟨b,off,e1,_⟩:=hnews (by rw[hnn];simp);simp at e1
   subst hn;have hm:m=0:=by
    have h0:m*size=0:=by simpa using hl.symm
    rcases Nat.mul_eq_zero.1 h0 with h|h
    ·exact h
    ·have:=he.2.2.2;omega
   subst hm;refine zdV (v:=v) (w':=w) hgd ?_ (hf v w (by simpa using hown) ⟨rfl,rfl,rfl,zD _,fun _ _ _=>rfl⟩ (.inl rfl));obtain⟨a0,cap0,rfl,hnc,_⟩:=zaX hown;cases a0 with
   | none=>simp[execOp,ho,resolve,invoke,builtin,hs,hx,Builtin.append_,run_underlying he.1,sizeOf,typeInfo,hi,Builtin.lenOf,Builtin.firstCells,hnc,Result.andThen]
   | some a0=>simp[execOp,ho,resolve,invoke,builtin,hs,hx,Builtin.append_,run_underlying he.1,sizeOf,typeInfo,hi,Builtin.lenOf,Builtin.firstCells,hnc,storeCells,Result.andThen]
