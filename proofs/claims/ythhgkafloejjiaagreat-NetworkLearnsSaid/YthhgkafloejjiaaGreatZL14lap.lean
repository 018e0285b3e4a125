/- A part of the proof of L14l. No condition. -/
import Derived.StillTail
import Derived.Test.YthhgkafloejjiaaGreatZL14lao
set_option linter.all false
set_option maxRecDepth 100000
set_option maxHeartbeats 200000
namespace Go.Proofs.YthhgkafloejjiaaGreat
open Go.RowKit
section
variable {P:Program} {ops:Array Oper} {Q:Exit→Act→World→Prop} {S:World→Prop}
structure Fresh where
 nd:List Nat
 dv:List Nat
 Sh:Nat→Value→Prop
 R:Nat→Value→World→Prop
 D:Nat→List Nat
 ex:Nat→List Nat
 lat:Nat→List Nat
 fin:List Nat
end
end Go.Proofs.YthhgkafloejjiaaGreat
namespace Go.Proofs.YthhgkafloejjiaaGreat
open Go.RowKit
section
variable {P:Program} {ops:Array Oper} {Q:Exit→Act→World→Prop} {S:World→Prop}
variable {Y:Array Value→Nat→Option Bool} {Z:Fresh} {k:Nat} {o:Oper} {rest:List Oper} {a:Act} {v:Value} {f:FuncId} {args:Array Value} {c:Nat→Value} {F:Act→Prop}
end
end Go.Proofs.YthhgkafloejjiaaGreat
namespace Go.Proofs.YthhgkafloejjiaaGreat
open Go.RowKit
theorem zeZ{P:Program}{w:World}{o:Oper}{a:Act}(s x:Operand)(t e:TypeId)(g B:Nat)(Q:List Value)(q:Nat)
 (k:Elems P t e g B Q) (D:o.op = .call {callee:=.builtin .append,args:=#[s,x],argTypes:=#[t,t]})
 (v:Value) (n:Nat) (xs:List Value) (E:a.eval s=v) (I:w.ownsRow q e g v n xs)
 (f:Option Addr) (m c:Nat) (d:List Value) (J:a.eval x = .slice f m c) (M:d.length=m*g) (N:Rd w f d) (h1:∀u∈d,u.oneCell'=true)
 (S:n+m≤maxLen) (Z:(n+m)*B≤140737488355328) (X:q≤w.heap.size) :
 ∃p r l,(execOp a.eval o).run P w = .ok (.value (.slice p (n+m) r)) l∧l.ownsRow q e g (.slice p (n+m) r) (n+m) (xs++d)∧w.grownBy l v.ownBlock:=by
 obtain⟨i,z,H,hz,W,R,aa,ab⟩:=k.open;cases f with
 | some f=>
   have V:∀j u,d[j]? = some u→w.cell? (f.add j)=some u:=by
    intro j u C;obtain⟨b,O,A,G⟩:=N (fun e=>by rw[e]at C;simp at C);cases A;rw[Addr.add_mid];exact G j u C
   obtain⟨v',l,G,K,U,h4,h5⟩:=run_append_own_at (P:=P) w q t o.type e i z g B k.1 H hz W R aa k.2.2.2 v n xs I f m c d M V h1 S Z X;obtain⟨p,r,rfl,_⟩:=zaV K;refine⟨p,r,l,?_,K,U⟩;unfold execOp;simp only[D,resolve,invoke,builtin,Sem.run_bind,Sem.run_pure,Result.andThen_ok,List.map_toArray,lmc,lmn,E,J,G]
 | none=>
   have hn:d = []:=by
    cases hnn:d with
    | nil=>rfl
    | cons y ys=>obtain⟨b,O,A,_⟩:=N (by rw[hnn];simp);simp at A
   subst hn;have hm:m=0:=by
    have T:m*g=0:=by simpa using M.symm
    rcases Nat.mul_eq_zero.1 T with h|h
    ·exact h
    ·have:=k.2.2.2;omega
   subst hm;obtain⟨F,Y,rfl,L,_⟩:=zaV I;refine⟨F,Y,w,?_,by simpa using I,⟨rfl,rfl,rfl,zF _,fun _ _ _=>rfl⟩⟩;cases F with
   | none=>simp[execOp,D,resolve,invoke,builtin,E,J,Builtin.append_,run_underlying k.1,sizeOf,typeInfo,H,Builtin.lenOf,Builtin.firstCells,L,Result.andThen]
   | some F=>simp[execOp,D,resolve,invoke,builtin,E,J,Builtin.append_,run_underlying k.1,sizeOf,typeInfo,H,Builtin.lenOf,Builtin.firstCells,L,storeCells,Result.andThen]
theorem Cells.under{W w:World}{B:Nat}(b:Below B W w):∀{l:List (Addr×Value)},(∀p∈l,p.1.block<B)→Cells W l→Cells w l
 | [],_,h=>h
 | (a,v)::l,hl,⟨h1,h2⟩=>⟨by rw[b.cell (hl (a,v) by1)];exact h1,Cells.under b (fun p c=>hl p (by simp[c])) h2⟩
theorem Cells.lt{W:World}:∀{l:List (Addr×Value)},Cells W l→∀p∈l,p.1.block<W.heap.size
 | [],_,p,b=>by simp at b
 | (a,v)::l,⟨h1,h2⟩,p,b=>by
   rcases List.mem_cons.1 b with rfl|b
   ·exact zE h1
   ·exact Cells.lt h2 p b
theorem Keeps.of{W w:World}{l:List (Addr×Value)}(a:Cells W l)(b:Below W W w):Keeps W l w:=⟨b,Cells.under b a.lt a⟩
theorem zqW{W w w':World}{b:Option Nat}(a:Below W W w)(d:w.grownBy w' b)(c:∀k,b=some k→W.heap.size≤k):Below W W w':=Below.grown a d a.size c
theorem Blk.grown{w w':World}{c:Option Nat}{b:Nat}{a:List Value}{t:TypeId}(h:Blk w b a t)(e:w.grownBy w' c)(d:some b≠c):Blk w' b a t:=by
 unfold Blk at *;rw[e.block b (Array.getElem?_eq_some_iff.1 h).1 d];exact h
theorem zbP{w:World}{c:Nat}{e:TypeId}{d n:Nat}{v:Value}{xs:List Value}(h:w.ownsRow c e d v n xs){g:Nat}(b:v.ownBlock=some g):c≤g∧∃a,w.heap[g]? = some (.cells a e (0,0)):=by
 rcases h.2 with⟨rfl,_⟩|⟨k,j,a,rfl,i,f,_⟩
 ·simp[Value.ownBlock]at b
 ·simp[Value.ownBlock]at b;subst b;exact⟨i,a,f⟩
end Go.Proofs.YthhgkafloejjiaaGreat
namespace Go.Proofs.YthhgkafloejjiaaGreat
open Go.RowKit
section
variable {P:Program} {ops:Array Oper} {Q:Exit→Act→World→Prop} {S:World→Prop}
def znO(P:Program)(ops:Array Oper)(Q:Exit→Act→World→Prop)(S:World→Prop)(m tail:Nat):Nat→Array Bool→Act→World→Prop
 | 0,listed,a,w=>(∀i∈Region.ready .any ops listed,m≤i)∧wpAny P .any ops Q tail listed a w
 | fuel+1,listed,a,w=>Region.ready .any ops listed≠ []∧(∀i∈Region.ready .any ops listed,i<m)∧
   ∀i∈Region.ready .any ops listed,wpOp P ops Q i (fun a' w'=>S w'∧znO P ops Q S m tail fuel (listed.setIfInBounds i true) a' w') a w
theorem ziZ{m tail:Nat}:∀(b:Nat) (c:Array Bool) (a:Act) (w:World),znO P ops Q S m tail b c a w→wpAny P .any ops Q (b+tail) c a w
 | 0,c,a,w,h=>by rw[yE];exact h.2
 | b+1,c,a,w,h=>by
   rw[show b+1+tail=(b+tail)+1 by omega];exact⟨fun j=>absurd j h.1,fun i g=>wpOp_mono (fun f d e=>ziZ b _ f d e.2) (h.2.2 i g)⟩
theorem znN{m tail i:Nat}{r:Oper}{v:Value}(D:zeO ops m=true)(F:i<m)(C:ops[i]? = some r)(J:∀(j:Nat) (o:Oper) t b,ops[j]? = some o→o.op≠ .select t b)
 (N:∀c a w,Q (.panic c) (a.put r.dst v) w→Q (.panic c) a w) :
 ∀(u:Nat) (f:Array Bool) (a:Act) (w:World),
  (∀j s,ops[j]? = some s→j≠i→f.getD j true=false→(∀e∈s.after,Region.binds .any e=true→e.on≠i)→r.apart ops s=true)→
  i∈Region.ready .any ops f→YieldsIf P ops S r v a→S w→
  znO P ops Q S m tail u (f.setIfInBounds i true) (a.put r.dst v) w→znO P ops Q S m tail (u+1) f a w:=by
 intro u;induction u with
 | zero=>
   intro f a w _ l A x H
   have z:∀j∈Region.ready .any ops f,j<m:=fun j n=>by
    rcases yU j m with h|h
    ·exact h
    ·have d:=zdU D n h F;have p:=(mem_ready.1 l).1;rcases yU i f.size with g|g
     ·simp[g]at p d;rw[p]at d;cases d
     ·simp[zaL g]at d
   refine⟨fun h=>(by rw[h]at l;cases l),z,fun j n=> ?_⟩;by_cases q:j=i
   ·subst q;exact A.wpOp C x ⟨x,H⟩
   ·have d:=H.1 j (ready_mono n q);have E:=z j n;omega
 | succ u T=>
   intro f a w L l A x H
   have z:∀j∈Region.ready .any ops f,j<m:=fun j n=>by
    rcases yU j m with h|h
    ·exact h
    ·have d:=zdU D n h F;have p:=(mem_ready.1 l).1;rcases yU i f.size with g|g
     ·simp[g]at p d;rw[p]at d;cases d
     ·simp[zaL g]at d
   refine⟨fun h=>(by rw[h]at l;cases l),z,fun j n=> ?_⟩;by_cases q:j=i
   ·subst q;exact A.wpOp C x ⟨x,H⟩
   ·have d:=H.2.2 j (ready_mono n q);obtain⟨K,s,B,U⟩:=mem_ready.1 n
    have aa:∀e∈s.after,Region.binds .any e=true→e.on≠i:=fun e X W O=>by
     have d:=U e X W;have p:=(mem_ready.1 l).1;rw[O]at d;rcases yU i f.size with g|g
     ·simp[g]at p d;rw[p]at d;cases d
     ·simp[zaL g]at d
    have E:=wpOp_putIf B (L j s B q K aa) (fun t b=>J i r t b C) (fun t b=>J j s t b B) N A d
    have V:∀k ok,ops[k]? = some ok→k≠i→(f.setIfInBounds j true).getD k true=false→
     (∀e∈ok.after,Region.binds .any e=true→e.on≠i)→r.apart ops ok=true:=fun k ok hk Z I M=>by
     refine L k ok hk Z ?_ M;by_cases G:j=k
     ·subst G;exact K
     ·rw[getD_set_ne true G]at I;exact I
    refine wpOp_mono (fun R Y y=>⟨y.2.1,T (f.setIfInBounds j true) R Y V (ready_mono l (Ne.symm q)) y.1 y.2.1 ?_⟩) E;rw[Array.setIfInBounds_comm _ _ q];exact y.2.2
def zgI(P:Program)(Y:Array Value→Nat→Option Bool)(S:World→Prop)(F:Act→Prop):List Oper→Act→Prop
 | [],a=>F a
 | o::rest,a=>∃v,((Region.wanted o (Y a.tmps)=true∧∀w,S w→(execOp a.eval o).run P w = .ok (.value v) w)∨(Region.wanted o (Y a.tmps)=false∧v=undef))∧zgI P Y S F rest (a.put o.dst v)
def zcN(P:Program)(Y:Array Value→Nat→Option Bool)(Q:Exit→Act→World→Prop)(S:World→Prop)(F:Act→World→Prop):List Oper→Act→World→Prop
 | [],a,w=>F a w
 | o::rest,a,w=>if Region.wanted o (Y a.tmps)=true then o.wp P a w (fun a' w'=>S w'∧zcN P Y Q S F rest a' w') Q∨(o.asks P a w∧LetsOut Q)else S w∧zcN P Y Q S F rest (a.put o.dst undef) w
def zdC:List Nat→Array Bool→Array Bool
 | [],l=>l
 | k::r,l=>zdC r (l.setIfInBounds k true)
def takesB(ops:Array Oper)(m:Nat):List Nat→Array Bool→Bool
 | [],_=>true
 | k::r,l=>(Region.ready .any ops l).contains k&&Region.free .any ops l k&&decide (k<m)&&takesB ops m r (l.setIfInBounds k true)
def zuW(ops:Array Oper)(m:Nat):List Nat→Array Bool→Bool
 | [],_=>true
 | k::r,l=>(Region.ready .any ops l == [k])&&decide (k<m)&&zuW ops m r (l.setIfInBounds k true)
theorem znM{m tail fuel:Nat}(i:zeO ops m=true)(j:Region.noSelect ops=true)(g:∀c a d v w,Q (.panic c) (Act.put a d v) w→Q (.panic c) a w){w:World}(l:S w) :
 ∀(b:List Nat) (f:List Oper) (e:Array Bool) (a:Act),b.map (fun k=>ops[k]?)=f.map some→takesB ops m b e=true→
 zgI P (yielded ops) S (fun q=>znO P ops Q S m tail fuel (zdC b e) q w) f a→znO P ops Q S m tail (b.length+fuel) e a w
 | [],f,e,a,hl,_,h=>by
   cases f with
   | nil=>simpa[zgI,zdC] using h
   | cons o r=>simp at hl
 | k::b,f,e,a,hl,ht,h=>by
   cases f with
   | nil=>simp at hl
   | cons o r=>
     simp only[lmc,List.cons.injEq]at hl;simp only[takesB,zS,yC]at ht;obtain⟨v,p,n⟩:=h;rw[show(k::b).length+fuel=(b.length+fuel)+1 by simp;omega]
     exact znN i ht.1.2 hl.1 (Region.noSelect_spec j) (fun c a w=>g c a _ _ w) _ e a w (Region.free_spec hl.1 ht.1.1.2) (by simpa using ht.1.1.1) p l
      (znM i j g l b r _ _ hl.2 ht.2 n)
theorem zgZ{m tail:Nat}:∀(b:List Nat) (c:List Oper) (d:Array Bool) (a:Act) (w:World),b.map (fun k=>ops[k]?)=c.map some→zuW ops m b d=true→
 (∀i∈Region.ready .any ops (zdC b d),m≤i)→
 zcN P (yielded ops) Q S (fun g f=>wpAny P .any ops Q tail (zdC b d) g f) c a w→znO P ops Q S m tail b.length d a w
 | [],c,d,a,w,hl,_,hend,h=>by
   cases c with
   | nil=>exact⟨hend,h⟩
   | cons o r=>simp at hl
 | k::b,c,d,a,w,hl,hc,hend,h=>by
   cases c with
   | nil=>simp at hl
   | cons o r=>
     simp only[lmc,List.cons.injEq]at hl;simp only[zuW,zS,beq_iff_eq,yC]at hc;refine⟨by rw[hc.1.1];simp,fun i e=> ?_,fun i e=> ?_⟩
     ·rw[hc.1.1,zaQ]at e;rw[e];exact hc.1.2
     ·rw[hc.1.1,zaQ]at e;subst e;unfold Go.wpOp;simp only[hl.1];unfold zcN at h;split
      ·rename_i j
       rw[zQ j]at h;exact h.imp (Oper.wp_mono fun g f l=>⟨l.1,zgZ b r _ g f hl.2 hc.2 hend l.2⟩) id
      ·rename_i j
       rw[zG j]at h;exact⟨h.1,zgZ b r _ _ w hl.2 hc.2 hend h.2⟩
def znA(ops:Array Oper)(m n:Nat)(st ch:List Nat):Bool:=
 Region.noSelect ops&&zeO ops m&&decide (m+n=ops.size)&&decide (st.length+ch.length=m)&&takesB ops m st (Array.replicate ops.size false)&&zuW ops m ch (zdC st (Array.replicate ops.size false)) &&
  (Region.ready .any ops (zdC ch (zdC st (Array.replicate ops.size false)))).all (fun i=>decide (m≤i))&&forced ops m n (zdC ch (zdC st (Array.replicate ops.size false)))
theorem zjE{U:Nat}{a:Act}{w:World}(m n:Nat)(A q:List Nat)(l t b e:List Oper)(S:World→Prop)(X:P.follows .mixedOrders=true)(I:ops.toList=l++t)(Y:l.length=m)(W:t.length=n)
 (L:A.map (fun k=>ops[k]?)=b.map some) (T:q.map (fun k=>ops[k]?)=e.map some)
 (B:znA ops m n A q=true) (D:∀c a d v w,Q (.panic c) (Act.put a d v) w→Q (.panic c) a w) (hS:S w.drew)
 (h:zgI P (yielded ops) S (fun g=>zcN P (yielded ops) Q S (fun y z=>wpList P ops Q t y z) e g w.drew) b a):(Code.region U ops true).wp P Q a w:=by
 simp only[znA,zS,yC,List.all_eq_true]at B;obtain⟨⟨⟨⟨⟨⟨⟨V,F⟩,J⟩,E⟩,ab⟩,ac⟩,R⟩,aa⟩:=B;refine wp_region_any X ?_;have N:∀(K f:Act→World→Prop),(∀a w,K a w→f a w)→∀(e:List Oper) (a:Act) (w:World),zcN P (yielded ops) Q S K e a w→zcN P (yielded ops) Q S f e a w:=by
  intro K f u e;induction e with
  | nil=>exact fun a w h=>u a w h
  | cons o r i=>
    intro a w h;unfold zcN at h⊢;split
    ·rename_i s
     rw[zQ s]at h;exact h.imp (Oper.wp_mono fun g O p=>⟨p.1,i g O p.2⟩) (fun h=>h)
    ·rename_i s
     rw[zG s]at h;exact⟨h.1,i _ _ h.2⟩
 have Z:∀(K f:Act→Prop),(∀a,K a→f a)→∀(b:List Oper) (a:Act),zgI P (yielded ops) S K b a→zgI P (yielded ops) S f b a:=by
  intro K f u b;induction b with
  | nil=>exact fun a h=>u a h
  | cons o r i=>
    intro a h;obtain⟨v,M,h⟩:=h;exact⟨v,M,i _ h⟩
 have H:=znM (tail:=n) (fuel:=q.length) F V D hS A b (Array.replicate ops.size false) a L ab
  (Z _ _ (fun g p=>zgZ q e _ g _ T ac R (N _ _ (fun y z G=>zcD n m _ t W (fun j=>by
    have C:=yG (fun x=>x[m+j]?) I;simp only[Array.getElem?_toList]at C;rw[C,yK om,Y,zdW];split
    ·rfl
    ·exact yY om) om aa y z G) e g _ p)) b a h)
 have:=ziZ _ _ _ _ H;rw[E,J]at this;exact this
def sel{α:Type}:List Bool→List α→List α
 | true::m,x::xs=>x::sel m xs
 | false::m,_::xs=>sel m xs
 | _,_=>[]
theorem zdY{α:Type}(m:List Bool)(x:α)(xs:List α):sel (true::m) (x::xs)=x::sel m xs:=rfl
theorem zcV{α:Type}(m:List Bool)(x:α)(xs:List α):sel (false::m) (x::xs)=sel m xs:=rfl
theorem zfO{α:Type}(xs:List α):sel [] xs = []:=by cases xs<;>rfl
theorem zhV{p:Nat}{a:Act}{w:World}(m n:Nat)(d b:List Bool)(l t:List Oper)(S:World→Prop)(s:P.follows .mixedOrders=true)(f:ops.toList=l++t)(u:l.length=m)(q:t.length=n)
 (g:(sel d (List.range m)).map (fun k=>ops[k]?)=(sel d l).map some) (o:(sel b (List.range m)).map (fun k=>ops[k]?)=(sel b l).map some)
 (j:znA ops m n (sel d (List.range m)) (sel b (List.range m))=true) (x:S w.drew)
 (h:∀(Y:Array Value→Nat→Option Bool) (v:Exit→Act→World→Prop) (F:Act→World→Prop),(∀t,Y t=yielded ops t)→
   Shut' (∀c e,(∀(K:Act→World→Prop),Shut' (∀a w,Q .normal a w→K a w)→wpList P ops (OnlyK K) t c e)→F c e)→
   zgI P Y S (fun c=>zcN P Y v S F (sel b l) c w.drew) (sel d l) a):(Code.region p ops true).wp P Q a w:=
 Code.wp_mono (OnlyK.imp (fun _ _ h=>h)) (zjE m n _ _ l t _ _ S s f u q g o j (fun _ _ _ _ _ h=>h) x
  (h _ (OnlyK fun a w=>Q .normal a w) (fun i r=>wpList P ops (OnlyK fun a w=>Q .normal a w) t i r) (fun _=>rfl) (fun _ _ h=>h (fun a w=>Q .normal a w) (fun _ _ h=>h))))
variable {Y:Array Value→Nat→Option Bool} {o:Oper} {rest:List Oper} {a:Act} {v:Value} {f:FuncId} {args:Array Value} {F:Act→Prop} {G:Act→World→Prop} {w w':World}
theorem zkL(c:Region.wanted o (Y a.tmps)=true)(h:∀w,S w→(execOp a.eval o).run P w = .ok (.value v) w)(b:zgI P Y S F rest (a.put o.dst v)):zgI P Y S F (o::rest) a:=⟨v,.inl ⟨c,h⟩,b⟩
theorem znH(h:F a):zgI P Y S F [] a:=h
theorem zgX(c:Region.wanted o (Y a.tmps)=true)(b:(execOp a.eval o).run P w = .ok (.value v) w')(d:S w')(h:zcN P Y Q S G rest (a.put o.dst v) w'):zcN P Y Q S G (o::rest) a w:=by
 unfold zcN;rw[zQ c];exact .inl (by unfold Oper.wp;rw[b];exact⟨d,h⟩)
theorem wpChain_call(g:Region.wanted o (Y a.tmps)=true)(d:(execOp a.eval o).run P w = .ok (.enter f args) w)
 (h:Calls P f args w fun e b=>∃v,e = .returned v∧S b∧zcN P Y Q S G rest (a.put o.dst v) b):zcN P Y Q S G (o::rest) a w:=by
 unfold zcN;rw[zQ g];refine .inl ?_;unfold Oper.wp;rw[d];refine Calls.mono h ?_;rintro e b ⟨v,rfl,c,h⟩;exact⟨c,h⟩
theorem znJ(h:G a w):zcN P Y Q S G [] a w:=h
theorem zgK(s x:Operand)(t e:TypeId)(d k:Nat)(l:List Value)(g:Nat)(M:Elems P t e d k l)
 (v:Value) (n:Nat) (xs:List Value) (j:Option Addr) (m cap:Nat) (c:List Value) (r:Region.wanted o (Y a.tmps)=true)
 (B:o.op = .call {callee:=.builtin .append,args:=#[s,x],argTypes:=#[t,t]}) (C:a.eval s=v) (K:a.eval x = .slice j m cap)
 (F:c.length=m*d) (I:∀u∈c,u.oneCell'=true) (q:n+m≤maxLen) (z:(n+m)*k≤140737488355328)
 (J:w.ownsRow g e d v n xs) (L:Rd w j c) (y:g≤w.heap.size)
 (h:∀f i b,b.ownsRow g e d (.slice f (n+m) i) (n+m) (xs++c)→w.grownBy b v.ownBlock→S b∧zcN P Y Q S G rest (a.put o.dst (.slice f (n+m) i)) b):zcN P Y Q S G (o::rest) a w:=by
 obtain⟨f,i,b,H,E,p⟩:=zeZ (P:=P) (w:=w) s x t e d k l g M B v n xs C J j m cap c K F L I q z y;obtain⟨A,D⟩:=h f i b E p;exact zgX r H A D
end
end Go.Proofs.YthhgkafloejjiaaGreat
namespace Go.Proofs.YthhgkafloejjiaaGreat
open Go.RowKit
section
variable {P:Program} {ops:Array Oper} {Q:Exit→Act→World→Prop} {S:World→Prop}
def zcQ(P:Program)(Y:Array Value→Nat→Option Bool)(Q:Exit→Act→World→Prop)(S:World→Prop)(F:Act→World→Prop):List (Bool×Oper)→Act→World→Prop
 | [],a,w=>F a w
 | (true,o)::rest,a,w=>∃v,((Region.wanted o (Y a.tmps)=true∧∀w,S w→(execOp a.eval o).run P w = .ok (.value v) w)∨(Region.wanted o (Y a.tmps)=false∧v=undef))∧zcQ P Y Q S F rest (a.put o.dst v) w
 | (false,o)::rest,a,w=>if Region.wanted o (Y a.tmps)=true then o.wp P a w (fun a' w'=>S w'∧zcQ P Y Q S F rest a' w') Q∨(o.asks P a w∧LetsOut Q)else S w∧zcQ P Y Q S F rest (a.put o.dst undef) w
def seqB(ops:Array Oper)(m:Nat):List (Bool×Nat)→Array Bool→Bool
 | [],_=>true
 | (true,k)::r,l=>(Region.ready .any ops l).contains k&&Region.free .any ops l k&&decide (k<m)&&seqB ops m r (l.setIfInBounds k true)
 | (false,k)::r,l=>(Region.ready .any ops l == [k])&&decide (k<m)&&seqB ops m r (l.setIfInBounds k true)
theorem zgP{m tail:Nat}(q:zeO ops m=true)(s:Region.noSelect ops=true)(n:∀c a d v w,Q (.panic c) (Act.put a d v) w→Q (.panic c) a w) :
 ∀(f:List (Bool×Nat)) (g:List (Bool×Oper)) (j:Array Bool) (a:Act) (w:World),S w→f.map (fun p=>(p.1,ops[p.2]?))=g.map (fun p=>(p.1,some p.2))→seqB ops m f j=true→
 (∀i∈Region.ready .any ops (zdC (f.map Prod.snd) j),m≤i)→
 zcQ P (yielded ops) Q S (fun u y=>wpAny P .any ops Q tail (zdC (f.map Prod.snd) j) u y) g a w→znO P ops Q S m tail f.length j a w
 | [],g,j,a,w,hS,e,_,hend,h=>by
   cases g with
   | nil=>exact⟨hend,h⟩
   | cons o r=>simp at e
 | (true,k)::f,g,j,a,w,hS,e,hb,hend,h=>by
   cases g with
   | nil=>simp at e
   | cons p r=>
     obtain⟨b,o⟩:=p;simp only[lmc,List.cons.injEq,Prod.mk.injEq]at e;obtain⟨⟨rfl,t⟩,e⟩:=e;simp only[seqB,zS,yC]at hb;obtain⟨v,A,B⟩:=h
     exact znN q hb.1.2 t (Region.noSelect_spec s) (fun c a w=>n c a _ _ w) _ j a w (Region.free_spec t hb.1.1.2) (by simpa using hb.1.1.1) A hS
      (zgP q s n f r _ _ w hS e hb.2 hend B)
 | (false,k)::f,g,j,a,w,hS,e,hb,hend,h=>by
   cases g with
   | nil=>simp at e
   | cons p r=>
     obtain⟨b,o⟩:=p;simp only[lmc,List.cons.injEq,Prod.mk.injEq]at e;obtain⟨⟨rfl,t⟩,e⟩:=e;simp only[seqB,zS,beq_iff_eq,yC]at hb;refine⟨by rw[hb.1.1];simp,fun i l=> ?_,fun i l=> ?_⟩
     ·rw[hb.1.1,zaQ]at l;rw[l];exact hb.1.2
     ·rw[hb.1.1,zaQ]at l;subst l;unfold Go.wpOp;simp only[t];unfold zcQ at h;split
      ·rename_i x
       rw[zQ x]at h;exact h.imp (Oper.wp_mono fun u y z=>⟨z.1,zgP q s n f r _ u y z.1 e hb.2 hend z.2⟩) (fun h=>h)
      ·rename_i x
       rw[zG x]at h;exact⟨h.1,zgP q s n f r _ _ w hS e hb.2 hend h.2⟩
theorem zfM{Y:Array Value→Nat→Option Bool}{F e:Act→World→Prop}(b:∀a w,F a w→e a w):∀(l:List (Bool×Oper)) (a:Act) (w:World),zcQ P Y Q S F l a w→zcQ P Y Q S e l a w
 | [],a,w,h=>b a w h
 | (true,o)::r,a,w,⟨v,hv,h⟩=>⟨v,hv,zfM b r _ w h⟩
 | (false,o)::r,a,w,h=>by
   unfold zcQ at h⊢;split
   ·rename_i c
    rw[zQ c]at h;exact h.imp (Oper.wp_mono fun g f d=>⟨d.1,zfM b r g f d.2⟩) (fun h=>h)
   ·rename_i c
    rw[zG c]at h;exact⟨h.1,zfM b r _ w h.2⟩
def zkQ(ops:Array Oper)(m n:Nat)(ks:List (Bool×Nat)):Bool:=
 Region.noSelect ops&&zeO ops m&&decide (m+n=ops.size)&&decide (ks.length=m)&&seqB ops m ks (Array.replicate ops.size false) &&
  (Region.ready .any ops (zdC (ks.map Prod.snd) (Array.replicate ops.size false))).all (fun i=>decide (m≤i))&&forced ops m n (zdC (ks.map Prod.snd) (Array.replicate ops.size false))
theorem zkK{C:Nat}{a:Act}{w:World}(m n:Nat)(e:List (Bool×Nat))(l t:List Oper)(b:List (Bool×Oper))(S:World→Prop)(F:P.follows .mixedOrders=true)(u:ops.toList=l++t)(G:l.length=m)(E:t.length=n)
 (z:e.map (fun p=>(p.1,ops[p.2]?))=b.map (fun p=>(p.1,some p.2)))
 (i:zkQ ops m n e=true) (o:∀c a d v w,Q (.panic c) (Act.put a d v) w→Q (.panic c) a w) (J:S w.drew)
 (h:zcQ P (yielded ops) Q S (fun f g=>wpList P ops Q t f g) b a w.drew):(Code.region C ops true).wp P Q a w:=by
 simp only[zkQ,zS,yC,List.all_eq_true]at i;obtain⟨⟨⟨⟨⟨⟨D,r⟩,y⟩,q⟩,B⟩,A⟩,I⟩:=i;refine wp_region_any F ?_
 have H:=zgP (tail:=n) r D o e b (Array.replicate ops.size false) a _ J z B A
  (zfM (fun f g s=>zcD n m _ t E (fun j=>by
    have k:=yG (fun x=>x[m+j]?) u;simp only[Array.getElem?_toList]at k;rw[k,yK om,G,zdW];split
    ·rfl
    ·exact yY om) om I f g s) b a _ h)
 have:=ziZ _ _ _ _ H;rw[q,y]at this;exact this
def zeE{α:Type}(ph:List (Bool×List Bool))(l:List α):List (Bool×α):=ph.flatMap fun p=>(sel p.2 l).map fun o=>(p.1,o)
theorem wp_region_seq{j:Nat}{a:Act}{w:World}(m n:Nat)(b:List (Bool×List Bool))(l t:List Oper)(S:World→Prop)(q:P.follows .mixedOrders=true)(e:ops.toList=l++t)(r:l.length=m)(k:t.length=n)
 (f:(zeE b (List.range m)).map (fun p=>(p.1,ops[p.2]?))=(zeE b l).map (fun p=>(p.1,some p.2)))
 (i:zkQ ops m n (zeE b (List.range m))=true) (u:S w.drew)
 (h:∀(Y:Array Value→Nat→Option Bool) (s:Exit→Act→World→Prop) (F:Act→World→Prop),(∀t,Y t=yielded ops t)→
   Shut' (∀c d,(∀(K:Act→World→Prop),Shut' (∀a w,Q .normal a w→K a w)→wpList P ops (OnlyK K) t c d)→F c d)→
   zcQ P Y s S F (zeE b l) a w.drew):(Code.region j ops true).wp P Q a w:=
 Code.wp_mono (OnlyK.imp (fun _ _ h=>h)) (zkK m n _ l t _ S q e r k f i (fun _ _ _ _ _ h=>h) u
  (h _ (OnlyK fun a w=>Q .normal a w) (fun g o=>wpList P ops (OnlyK fun a w=>Q .normal a w) t g o) (fun _=>rfl) (fun _ _ h=>h (fun a w=>Q .normal a w) (fun _ _ h=>h))))
variable {Y:Array Value→Nat→Option Bool} {o:Oper} {rest:List (Bool×Oper)} {a:Act} {v:Value} {f:FuncId} {args:Array Value} {F:Act→Prop} {G:Act→World→Prop} {w w':World}
theorem zaH(c:Region.wanted o (Y a.tmps)=true)(h:∀w,S w→(execOp a.eval o).run P w = .ok (.value v) w)(b:zcQ P Y Q S G rest (a.put o.dst v) w):zcQ P Y Q S G ((true,o)::rest) a w:=⟨v,.inl ⟨c,h⟩,b⟩
theorem wpSeq_unread(c:Region.wanted o (Y a.tmps)=false)(b:zcQ P Y Q S G rest (a.put o.dst undef) w):zcQ P Y Q S G ((true,o)::rest) a w:=⟨undef,.inr ⟨c,rfl⟩,b⟩
theorem zpE(c:Region.wanted o (Y a.tmps)=true)(b:(execOp a.eval o).run P w = .ok (.value v) w')(d:S w')(h:zcQ P Y Q S G rest (a.put o.dst v) w'):zcQ P Y Q S G ((false,o)::rest) a w:=by
 unfold zcQ;rw[zQ c];exact .inl (by unfold Oper.wp;rw[b];exact⟨d,h⟩)
theorem wpSeq_skip(b:Region.wanted o (Y a.tmps)=false)(c:S w)(h:zcQ P Y Q S G rest (a.put o.dst undef) w):zcQ P Y Q S G ((false,o)::rest) a w:=by
 unfold zcQ;rw[zG (by rw[b];simp)];exact⟨c,h⟩
theorem wpSeq_call(g:Region.wanted o (Y a.tmps)=true)(d:(execOp a.eval o).run P w = .ok (.enter f args) w)
 (h:Calls P f args w fun e b=>∃v,e = .returned v∧S b∧zcQ P Y Q S G rest (a.put o.dst v) b):zcQ P Y Q S G ((false,o)::rest) a w:=by
 unfold zcQ;rw[zQ g];refine .inl ?_;unfold Oper.wp;rw[d];refine Calls.mono h ?_;rintro e b ⟨v,rfl,c,h⟩;exact⟨c,h⟩
theorem wpSeq_done(h:G a w):zcQ P Y Q S G [] a w:=h
theorem znG(s x:Operand)(t e:TypeId)(d k:Nat)(l:List Value)(g:Nat)(M:Elems P t e d k l)
 (v:Value) (n:Nat) (xs:List Value) (j:Option Addr) (m cap:Nat) (c:List Value) (r:Region.wanted o (Y a.tmps)=true)
 (B:o.op = .call {callee:=.builtin .append,args:=#[s,x],argTypes:=#[t,t]}) (C:a.eval s=v) (K:a.eval x = .slice j m cap)
 (F:c.length=m*d) (I:∀u∈c,u.oneCell'=true) (q:n+m≤maxLen) (z:(n+m)*k≤140737488355328)
 (J:w.ownsRow g e d v n xs) (L:Rd w j c) (y:g≤w.heap.size)
 (h:∀f i b,b.ownsRow g e d (.slice f (n+m) i) (n+m) (xs++c)→w.grownBy b v.ownBlock→S b∧zcQ P Y Q S G rest (a.put o.dst (.slice f (n+m) i)) b):zcQ P Y Q S G ((false,o)::rest) a w:=by
 obtain⟨f,i,b,H,E,p⟩:=zeZ (P:=P) (w:=w) s x t e d k l g M B v n xs C J j m cap c K F L I q z y;obtain⟨A,D⟩:=h f i b E p;exact zpE r H A D
end
theorem zvG:(∀{α:Type} (b:List (Bool×List Bool)) (l:List α),zeE b l=b.flatMap fun p=>(sel p.2 l).map fun o=>(p.1,o))∧U=true∧zvE=false∧(∀{α β:Type} (f:α→List β) (x:α) (a:List α),(x::a).flatMap f=f x++a.flatMap f)∧(∀{α β:Type} (f:α→List β),([]:List α).flatMap f = [])∧(∀{α:Type} (n:Nat) (x:α) (a:List α),(x::a).take (n+1)=x::a.take n)∧(∀{α:Type} (a:List α),a.take 0 = [])∧(∀{α:Type} (n:Nat) (x:α) (a:List α),(x::a).drop (n+1)=a.drop n)∧(∀{α:Type} (a:List α),a.drop 0=a)∧(∀{α:Type} (m:List Bool) (x:α) (a:List α),sel (true::m) (x::a)=x::sel m a)∧(∀{α:Type} (m:List Bool) (x:α) (a:List α),sel (false::m) (x::a)=sel m a)∧(∀{α:Type} (a:List α),sel [] a = [])∧(∀{α β:Type} (f:α→β) (x:α) (a:List α),(x::a).map f=f x::a.map f)∧(∀{α β:Type} (f:α→β),([]:List α).map f = [])∧(∀{α:Type} (x:α) (a c:List α),(x::a)++c=x::(a++c))∧(∀{α:Type} (a:List α),[]++a=a)∧(∀{α:Type} (a:List α),a ++ []=a):=⟨fun _ _=>rfl,rfl,rfl,lfc,lfn,ltc,ltz,ldc,ldz,zdY,zcV,zfO,lmc,lmn,lca,lna,lan⟩
theorem sel_map14{α β:Type}(f:α→β):∀(m:List Bool) (l:List α),sel m (l.map f)=(sel m l).map f
 | [],l=>by rw[zfO,zfO];rfl
 | true::m,[]=>rfl
 | false::m,[]=>rfl
 | true::m,x::l=>by rw[List.map_cons,zdY,zdY,List.map_cons,sel_map14 f m l]
 | false::m,x::l=>by rw[List.map_cons,zcV,zcV,sel_map14 f m l]
theorem phased_map14{α β:Type}(f:α→β)(l:List α):∀a:List (Bool×List Bool),zeE a (l.map f)=(zeE a l).map fun p=>(p.1,f p.2)
 | []=>rfl
 | p::a=>by
   have h:=phased_map14 f l a;unfold zeE at h⊢;rw[List.flatMap_cons,List.flatMap_cons,List.map_append,h,sel_map14,List.map_map,List.map_map];rfl
theorem zvI{P:Program}{b:Array Oper}{Q:Exit→Act→World→Prop}{o:Nat}{a:Act}{w:World}(m n:Nat)(d:List (Bool×List Bool))(S:World→Prop)(c:(P.follows .mixedOrders&&zkQ b m n (zeE d (List.range m)))=true)(q:S w.drew)
 (h:∀(Y:Array Value→Nat→Option Bool) (p:Exit→Act→World→Prop) (F:Act→World→Prop),(∀t,Y t=yielded b t)→
   Shut' (∀g l,(∀(K:Act→World→Prop),Shut' (∀a w,Q .normal a w→K a w)→wpList P b (OnlyK K) (b.toList.drop m) g l)→F g l)→
   zcQ P Y p S F (zeE d (b.toList.take m)) a w.drew):(Code.region o b true).wp P Q a w:=by
 rw[Bool.and_eq_true]at c;have r:m+n=b.size:=by
  have j:=c.2;simp only[zkQ,Bool.and_eq_true,decide_eq_true_eq]at j;exact j.1.1.1.1.2
 have e:(List.range m).map (fun k=>b[k]?)=(b.toList.take m).map some:=by
  apply List.ext_getElem?;intro i;rw[List.getElem?_map,List.getElem?_map,List.getElem?_take];by_cases f:i<m
  ·rw[List.getElem?_range f,if_pos f,Array.getElem?_toList];have:i<b.size:=by omega
   simp[this]
  ·rw[if_neg f,List.getElem?_eq_none (by simp;omega)];rfl
 refine wp_region_seq m n d _ _ S c.1 (List.take_append_drop m _).symm (by simp;omega) (by simp;omega) ?_ c.2 q h;rw[←phased_map14 (fun k=>b[k]?),←phased_map14 some,e]
section
variable {P:Program} {Q:Exit→Act→World→Prop} {o:Oper} {a:Act} {w w':World} {S:World→Prop} {Y:Array Value→Nat→Option Bool} {G:Act→World→Prop} {rest:List (Bool×Oper)} {R:Prop} {v:Value} {f:FuncId} {args:Array Value} {V:Value}
theorem mrd{b:List (Bool×Oper)}{R:Prop}{v:Value}(k:R)(d:Region.wanted o (Y a.tmps)=true:=by rw[hY];rfl)(h:∀w,S w→(execOp a.eval o).run P w = .ok (.value v) w:=by intro f c;(try simp only[Keeps,Cells]at c);go_simp;with_reducible rfl)(e:zcQ P Y Q S G b (a.put o.dst v) w=R:=by simp only[zvF];rfl):zcQ P Y Q S G ((true,o)::b) a w:=zaH d h (e▸k)
theorem mud{b:List (Bool×Oper)}{R:Prop}(k:R)(c:Region.wanted o (Y a.tmps)=false:=by rw[hY];rfl)(e:zcQ P Y Q S G b (a.put o.dst undef) w=R:=by simp only[zvF];rfl):zcQ P Y Q S G ((true,o)::b) a w:=wpSeq_unread c (e▸k)
theorem msk{b:List (Bool×Oper)}{R:Prop}(d:S w)(k:R)(c:Region.wanted o (Y a.tmps)=false:=by rw[hY];rfl)(e:zcQ P Y Q S G b (a.put o.dst undef) w=R:=by simp only[zvF];rfl):zcQ P Y Q S G ((false,o)::b) a w:=wpSeq_skip c d (e▸k)
theorem mvl{b:List (Bool×Oper)}{R:Prop}{v:Value}{w':World}(c:S w')(k:R)(d:Region.wanted o (Y a.tmps)=true:=by rw[hY];rfl)(h:(execOp a.eval o).run P w = .ok (.value v) w':=by go_simp;first|with_reducible exact⟨rfl,rfl⟩|with_reducible rfl)(e:zcQ P Y Q S G b (a.put o.dst v) w'=R:=by simp only[zvF];rfl):zcQ P Y Q S G ((false,o)::b) a w:=zpE d h c (e▸k)
theorem mcl{c:List (Bool×Oper)}{f:FuncId}{args:Array Value}(k:Calls P f args w fun e b=>∃v,e = .returned v∧S b∧zcQ P Y Q S G c (a.put o.dst v) b)(d:Region.wanted o (Y a.tmps)=true:=by rw[hY];rfl)(h:(execOp a.eval o).run P w = .ok (.enter f args) w:=by go_simp;first|with_reducible exact⟨rfl,rfl⟩|with_reducible rfl):zcQ P Y Q S G ((false,o)::c) a w:=wpSeq_call d h k
theorem mdn{C:Act→World→Prop}(d:Shut' (∀c b,C c b→G c b))(k:C a w):zcQ P Y Q S G [] a w:=wpSeq_done (d.out _ _ k)
theorem mck{c:World}{l:List (Addr×Value)}{Y:Array Value→Nat→Option Bool}{G:Act→World→Prop}{g:List (Bool×Oper)}{R:World→Prop}{f:FuncId}{args:Array Value}{V:Value}(h:Keeps c l w)(H:Calls P f args w fun e b=>e = .returned V∧Below w.heap.size w b)(k:∀b,Below w.heap.size w b→Keeps c l b→R b)(e:∀b,zcQ P Y Q (Keeps c l) G g (a.put o.dst V) b=R b:=by intro _;simp only[zvF];rfl):Calls P f args w fun e b=>∃v,e = .returned v∧Keeps c l b∧zcQ P Y Q (Keeps c l) G g (a.put o.dst v) b:=H.mono fun j b ⟨i,d⟩=>⟨V,i,h.step d,(e b).symm▸k b d (h.step d)⟩
end
def phR(rl:List (Bool×Nat×Nat)):List (Bool×List Bool):=rl.map fun p=>(p.1,List.replicate p.2.1 false++List.replicate p.2.2 true)
theorem sel_runs{α:Type}:∀(s c:Nat) (l:List α),sel (List.replicate s false++List.replicate c true) l=(l.drop s).take c
 | 0,0,l=>by rw[List.replicate_zero,List.replicate_zero,List.nil_append,zfO];rfl
 | 0,c+1,[]=>by rw[List.replicate_succ];rfl
 | 0,c+1,x::l=>by
   have h:=sel_runs 0 c l;rw[List.replicate_zero,List.nil_append]at h;rw[List.replicate_zero,List.nil_append,List.replicate_succ,zdY,h];rfl
 | s+1,c,[]=>by rw[List.replicate_succ,List.cons_append];simp[sel]
 | s+1,c,x::l=>by rw[List.replicate_succ,List.cons_append,zcV,sel_runs s c l];rfl
theorem phR_cons{α:Type}(k:Bool)(s c:Nat)(r:List (Bool×Nat×Nat))(l:List α):zeE (phR ((k,s,c)::r)) l=((l.drop s).take c).map (fun o=>(k,o))++zeE (phR r) l:=by
 unfold zeE phR;rw[List.map_cons,List.flatMap_cons,sel_runs]
theorem phR_nil{α:Type}(l:List α):zeE (phR []) l = []:=rfl
theorem zvK:(∀{α:Type} (k:Bool) (s c:Nat) (r:List (Bool×Nat×Nat)) (l:List α),zeE (phR ((k,s,c)::r)) l=((l.drop s).take c).map (fun o=>(k,o))++zeE (phR r) l)∧(∀{α:Type} (l:List α),zeE (phR []) l = [])∧U=true∧zvE=false∧(∀{α:Type} (n:Nat) (x:α) (a:List α),(x::a).take (n+1)=x::a.take n)∧(∀{α:Type} (a:List α),a.take 0 = [])∧(∀{α:Type} (n:Nat) (x:α) (a:List α),(x::a).drop (n+1)=a.drop n)∧(∀{α:Type} (a:List α),a.drop 0=a)∧(∀{α β:Type} (f:α→β) (x:α) (a:List α),(x::a).map f=f x::a.map f)∧(∀{α β:Type} (f:α→β),([]:List α).map f = [])∧(∀{α:Type} (x:α) (a b:List α),(x::a)++b=x::(a++b))∧(∀{α:Type} (a:List α),[]++a=a)∧(∀{α:Type} (a:List α),a ++ []=a):=⟨phR_cons,phR_nil,rfl,rfl,ltc,ltz,ldc,ldz,lmc,lmn,lca,lna,lan⟩
theorem zvL{P:Program}{b:Array Oper}{Q:Exit→Act→World→Prop}{k:Nat}{a:Act}{w:World}{L:List (Bool×Oper)}(m n:Nat)(c:List (Bool×Nat×Nat))(S:World→Prop)(g:S w.drew)
 (h:∀(Y:Array Value→Nat→Option Bool) (j:Exit→Act→World→Prop) (F:Act→World→Prop),(∀t,Y t=yielded b t)→
   Shut' (∀f d,(∀(K:Act→World→Prop),Shut' (∀a w,Q .normal a w→K a w)→wpList P b (OnlyK K) (b.toList.drop m) f d)→F f d)→
   zcQ P Y j S F L a w.drew) (i:(P.follows .mixedOrders&&zkQ b m n (zeE (phR c) (List.range m)))=true:=by kernel_rfl) (e:zeE (phR c) (b.toList.take m)=L:=by simp only[zvK];rfl):(Code.region k b true).wp P Q a w:=zvI m n (phR c) S i g (by rw[e];exact h)
