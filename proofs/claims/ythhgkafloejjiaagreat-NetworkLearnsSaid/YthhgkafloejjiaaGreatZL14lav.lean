/- A part of the proof of L14l. No condition. -/
import Derived.RangeFuncWrites
import Derived.Test.YthhgkafloejjiaaGreatZL14las
set_option linter.all false
set_option maxRecDepth 100000
set_option maxHeartbeats 200000
namespace Go.Proofs.YthhgkafloejjiaaGreat
open Go.RowKit Go.Shelf
section
variable {F:Fence} {n:Nat} {P:Program} {α:Type}
structure SameFrom(B:Nat)(W W':World):Prop where
 size:W.heap.size≤W'.heap.size
 same:∀k,B≤k→k<W.heap.size→W'.heap[k]? = W.heap[k]?
theorem SameFrom.at{B:Nat}{W b:World}(h:SameFrom B W b)(k:Nat)(o:Obj)(c:B≤k)(a:W.heap[k]? = some o):b.heap[k]? = some o:=
 (h.same k c (Array.getElem?_eq_some_iff.1 a).1).trans a
theorem SameFrom.trans{B:Nat}{X Y Z:World}(h:SameFrom B X Y)(k:SameFrom B Y Z):SameFrom B X Z:=
 ⟨yD h.size k.size,fun i a b=>(k.same i a (zbA b h.size)).trans (h.same i a b)⟩
theorem SameFrom.up{B a:Nat}{W b:World}(h:SameFrom B W b)(c:B≤a):SameFrom a W b:=⟨h.size,fun k d=>h.same k om⟩
theorem SameFrom.put{B l:Nat}(W:World)(o:Obj)(h:l<B):SameFrom B W (W.putObj l o):=by
 have a:=grownBy_putObj' W l o;exact⟨a.size,fun k c b=>a.block k b (fun e=>by cases e;omega)⟩
theorem SameFrom.refl(B:Nat)(W:World):SameFrom B W W:=⟨zF _,fun _ _ _=>rfl⟩
theorem SameFrom.setCell{B b i:Nat}(W:World)(v:Value)(h:b<B):SameFrom B W (W.setCell ⟨b,i,none⟩ v):=
 ⟨by simp,fun k a _=>heap_setCell_other W ⟨b,i,none⟩ k v (fun e=>by simp at e;omega)⟩
def KpO(c:Nat)(A B:World):Prop:=A.heap.size≤B.heap.size∧∀(k:Nat) (o:Obj),¬k=c→A.heap[k]? = some o→o.isCells=true→B.heap[k]? = some o
theorem KpO.trans{c:Nat}{A B C:World}(h:KpO c A B)(k:KpO c B C):KpO c A C:=⟨yD h.1 k.1,fun i o b d a=>k.2 i o b (h.2 i o b d a) a⟩
theorem KpO.refl(c:Nat)(A:World):KpO c A A:=⟨zF _,fun _ _ _ h _=>h⟩
theorem KpO.put{c l:Nat}{W:World}{o:Obj}(o':Obj)(f:W.heap[l]? = some o)(g:o.isCells=false):KpO c W (W.putObj l o'):=by
 have b:=grownBy_putObj' W l o';refine⟨b.size,fun k x _ a d=> ?_⟩;rw[b.block k (Array.getElem?_eq_some_iff.1 a).1 (fun e=>by cases e;rw[f]at a;cases a;rw[g]at d;cases d)];exact a
theorem KpO.setCell{c i:Nat}(W:World)(v:Value):KpO c W (W.setCell ⟨c,i,none⟩ v):=
 ⟨by simp,fun k o b a _=>(heap_setCell_other W ⟨c,i,none⟩ k v (fun e=>b (by simp at e;omega))).trans a⟩
theorem KpO.cell{c:Nat}{W b:World}(h:KpO c W b){p:Addr}{v:Value}(a:W.cell? p=some v)(e:¬p.block=c):b.cell? p=some v:=by
 unfold World.cell? at a⊢;cases ho:W.heap[p.block]? with
 | none=>rw[ho]at a;simp at a
 | some o=>
   rw[ho]at a;have d:o.isCells=true:=by cases o<;>simp_all [Obj.isCells]
   rw[h.2 _ _ e ho d];exact a
theorem Rd.kpo{w w':World}{c:Nat}{a:Option Addr}{vals:List Value}(h:Rd w a vals)(g:KpO c w w')(f:∀b o,a=some ⟨b,o,none⟩→vals≠ []→¬b=c):Rd w' a vals:=fun d=>by
 obtain⟨b,o,rfl,e⟩:=h d;exact⟨b,o,rfl,fun j v i=>g.cell (e j v i) (f b o rfl d)⟩
def SeqW(F:Fence)(n:Nat)(P:Program)(g:Nat)(lb:Array Value)(encs:α→Array Value)(c₀:Nat)(S Sp:List α→Prop)(N:Nat)(w:World):Prop:=
 ∀(l:Nat) (J Jx:List α→World→Prop) (W:World),Below w w W→OwnFrom W.heap.size J→OwnFrom W.heap.size Jx→
  (∀m pre x W1,J pre W1→pre.length<N→YieldAt F m P l (encs x) W1 fun e W'=>
    (e = .returned (.bool true)∧J (pre ++ [x]) W'∧SameFrom W.heap.size W1 W'∧KpO c₀ W1 W')∨(e = .returned (.bool false)∧Jx (pre ++ [x]) W'∧SameFrom W.heap.size W1 W'))→
  J [] W→
  CallsIn F n P g (#[.func (.yield l) #[] #[]]++lb) W fun e W'=>(∃v,e = .returned v)∧((∃xs,S xs∧J xs W')∨(∃pre,Sp pre∧Jx pre W'))
def postW(B c₀:Nat)(I:List α→World→Prop)(Ix:Code→List α→World→Prop)(xs:List α)(W:World):Exit→Act→World→Prop
 | .normal,_,W'=>SameFrom B W W'∧KpO c₀ W W'∧I xs W'
 | .ret,_,W'=>SameFrom B W W'∧Ix .ret xs W'
 | .exit id,_,W'=>SameFrom B W W'∧Ix (.exit id) xs W'
 | .goto t,_,W'=>SameFrom B W W'∧Ix (.goto t) xs W'
 | .panic _,_,_=>False
 | .outgrown,_,_=>False
theorem zoK{g:Operand}{ps:Array Tmp}{assign body:Code}{Q:Exit→Act→World→Prop}{a:Act}{w L:World}{gf:Nat}{lb:Array Value}{aa:α→Array Value}{c₀:Nat}{S Sp:List α→Prop}{N:Nat}
 (ap:F.round=none) (h1:1≤n) (hg:a.eval g = .func (.func gf) #[] lb) (ao:F.fn gf) (eg:∀args w,(callFunc gf args).run P w = .ok (.enter gf args) w)
 (av:SeqW F (n-1) P gf lb aa c₀ S Sp N L) (ah:Below L L w) (aq:∀x,(aa x).size=ps.size)
 (I:List α→World→Prop) (E:Code→List α→World→Prop) (C:OwnFrom w.heap.size I) (Z:∀c,OwnFrom w.heap.size (E c)) (h0:I [] w) (a₁:α→Act)
 (ar:∀(m l:Nat) (x:α) (W:World) (K:Act→World→Prop),K (a₁ x) W→
   assign.wpIn (F.inRound l) m P (Exit.then K (fun _ _ _=>False)) {tmps:=(ps.zip (aa x)).foldl (fun t (p,v)=>t.setIfInBounds p v) a.tmps,defers:=[]} W)
 (an:∀(m l:Nat) (f:List α) (x:α) (W:World),I f W→f.length<N→body.wpIn (F.inRound l) m P (postW w.heap.size c₀ I E (f ++ [x]) W) (a₁ x) W)
 (al:∀(D:Nat) (T:List α) (W:World),w.heap.size≤D→S T→I T W→W.heap[D]? = some (.deferred (some []))→Q .normal {a with defers:={target:=.collected D,args:=#[]}::a.defers} W)
 (am:∀(D:Nat) (c:Code) (f:List α) (W:World),w.heap.size≤D→Sp f→E c f W→W.heap[D]? = some (.deferred (some []))→c.wpIn F n P Q {a with defers:={target:=.collected D,args:=#[]}::a.defers} W) :
 (Code.rangeFunc g ps assign body).wpIn F n P Q a w:=by
 obtain⟨B,O⟩:=zvJ w.heap.size;rw[O]at C Z an al am;refine wpIn_rangeFunc fun fn ax=> ?_;rw[ap]
 let j:LoopState→Option Code→Loop:=fun q u=>{state:=q,pending:=u,fn,tmps:=a.tmps,params:=ps,assign,body,defers:=B}
 obtain⟨V,G⟩:=zvJ ((w.alloc (.deferred (some []))).alloc (.loop (j .ready none)));have vs:V.heap.size=B+2:=by rw[←G,←O];simp
 have vL:V.heap[B+1]? = some (.loop (j .ready none)):=by
  have:=World.alloc_heap_new (w.alloc (.deferred (some []))) (.loop (j .ready none));rw[zY,O,G]at this;exact this
 have vD:V.heap[B]? = some (.deferred (some [])):=by
  rw[←G,←O];exact(Below.heap_alloc _ _ _ by1).trans (World.alloc_heap_new w _)
 have vI:I [] V:=by rw[←G];exact C.alloc _ (C.alloc _ h0)
 have vB:Below L L V:=by
  rw[←G];exact ah.trans ((((zJ _ w).alloc (zF _) _).alloc by1 _).mono ah.size)
 have ai:=run_enterLoop_outer (P:=P) (w:=w) fn a.tmps ps assign body;rw[O]at ai
 let z:LoopState→Option Code→World→Prop:=fun q u W=>W.heap[B+1]? = some (.loop (j q u))∧W.heap[B]? = some (.deferred (some []))
 have ag:∀(q:LoopState) (u:Option Code) (X Y:World) (A:Option Nat),z q u X→X.grownBy Y A→(∀r,A=some r→B+2≤r)→z q u Y:=fun q u X Y A h hg k=>
  ⟨(hg.block _ (Array.getElem?_eq_some_iff.1 h.1).1 (fun e=>by have:=k _ e.symm;omega)).trans h.1,(hg.block _ (Array.getElem?_eq_some_iff.1 h.2).1 (fun e=>by have:=k _ e.symm;omega)).trans h.2⟩
 have af:∀(q:LoopState) (u:Option Code) (ae:LoopState) (ac:Option Code) (X:World),z q u X→z ae ac (X.putObj (B+1) (.loop (j ae ac))):=fun q u ae ac X h=>
  ⟨World.putObj_heap_same (Array.getElem?_eq_some_iff.1 h.1).1,(World.putObj_heap_other om).trans h.2⟩
 refine⟨B+1,[{target:=.collected B,args:=#[]}],V,{target:=.fn (.func gf) lb,args:=#[.func (.yield (B+1)) #[] #[]]},V,gf,#[.func (.yield (B+1)) #[] #[]]++lb,V,
  by rw[←G];exact ai,by simp only[resolve,hg];simp[go_sem],fun f' ak=>by simp[Target.leads]at ak;subst ak;exact ao,by simp[invoke,go_sem,eg],fun _=>h1,?_⟩
 refine(av (B+1) (fun f W=>I f W∧z .ready none W) (fun f W=>∃c,E c f W∧z .done (some c) W) V vB
  (fun s X Y A hs R k=>⟨C s X Y A hs.1 R (fun r e=>⟨by have:=(k r e).1;omega,(k r e).2⟩),ag _ _ _ _ _ hs.2 R (fun r e=>by have:=(k r e).1;omega)⟩)
  (fun s X Y A hs R k=>by
    obtain⟨c,hc,b⟩:=hs;exact⟨c,Z c s X Y A hc R (fun r e=>⟨by have:=(k r e).1;omega,(k r e).2⟩),ag _ _ _ _ _ b R (fun r e=>by have:=(k r e).1;omega)⟩)
  ?_ ⟨vI,vL,vD⟩).mono ?_
 ·rintro m f x W ⟨M,b⟩ au;have hy:=run_yield (P:=P) (args:=aa x) b.1 (aq x);refine⟨fn,_,assign,body,hy,roundIn_of_wpIn ax (ar _ _ x W _ ⟨_,run_beginRound b.1 rfl,?_⟩)⟩;have aj:=af .ready none .busy none W b;have s1:=(Array.getElem?_eq_some_iff.1 b.1).1;refine wpIn_mono (an _ _ f x _ (C.putObj _ M om b.1 rfl) au) ?_
  have J:∀(o:Option Code) (X:World),SameFrom B (W.putObj (B+1) (.loop (j .busy none))) X→
   (Instr.endRound (B+1) o).run P X = .ok (.bool o.isNone) (X.putObj (B+1) (.loop (j (if o.isNone then .ready else .done) o)))∧z .busy none X:=fun o X y=>by
   have H:z .busy none X:=⟨y.at _ _ om aj.1,y.at _ _ (zF _) aj.2⟩;exact⟨run_endRound (P:=P) o H.1,H⟩
  have U:∀(o:Option Code) (X:World),SameFrom B (W.putObj (B+1) (.loop (j .busy none))) X→SameFrom V.heap.size W (X.putObj (B+1) (.loop (j (if o.isNone then .ready else .done) o))):=fun o X y=>
   ((SameFrom.put W _ om).trans (y.up om)).trans (SameFrom.put X _ om)
  have ab:∀(c:Code) (X:World),SameFrom B (W.putObj (B+1) (.loop (j .busy none))) X→E c (f ++ [x]) X→
   ∃d,E d (f ++ [x]) (X.putObj (B+1) (.loop (j .done (some c))))∧z .done (some d) (X.putObj (B+1) (.loop (j .done (some c)))):=fun c X y ad=>
   ⟨c,(Z c).putObj _ ad om (J (some c) X y).2.1 rfl,af _ _ _ _ X (J (some c) X y).2⟩
  rintro e a3 X i;cases e with
  | normal=>
    obtain⟨y,hb,ad⟩:=i;obtain⟨k,H⟩:=J none X y;refine⟨_,_,k,.inl ⟨rfl,⟨C.putObj _ ad om H.1 rfl,af _ _ _ _ X H⟩,U none X y,?_⟩⟩;exact((KpO.put _ b.1 rfl).trans hb).trans (KpO.put _ H.1 rfl)
  | ret=>exact⟨_,_,(J (some .ret) X i.1).1,.inr ⟨rfl,ab _ X i.1 i.2,U (some .ret) X i.1⟩⟩
  | exit id=>exact⟨_,_,(J (some (.exit id)) X i.1).1,.inr ⟨rfl,ab _ X i.1 i.2,U (some (.exit id)) X i.1⟩⟩
  | goto t=>exact⟨_,_,(J (some (.goto t)) X i.1).1,.inr ⟨rfl,ab _ X i.1 i.2,U (some (.goto t)) X i.1⟩⟩
  | panic ch=>exact i.elim
  | outgrown=>exact i.elim
 ·rintro e X ⟨⟨v,rfl⟩,⟨T,hS,M,b⟩|⟨f,aw,c,M,b⟩⟩
  ·exact⟨none,_,run_endLoop (P:=P) b.1 (by simp[j]),al _ T _ (zF _) hS (C.putObj _ M om b.1 rfl) ((World.putObj_heap_other om).trans b.2)⟩
  ·exact⟨some c,_,run_endLoop (P:=P) b.1 (by simp[j]),am _ c f _ (zF _) aw ((Z c).putObj _ M om b.1 rfl) ((World.putObj_heap_other om).trans b.2)⟩
end
end Go.Proofs.YthhgkafloejjiaaGreat
namespace Go.Proofs.YthhgkafloejjiaaGreat
open Go.RowKit Go.Shelf
section
variable {P:Program} {ops:Array Oper} {Q:Exit→Act→World→Prop} {S:World→Prop}
def anc(ops:Array Oper):Nat→Nat→List Nat
 | 0,_=>[]
 | f+1,j=>match ops[j]? with
   | none=>[]
   | some o=>(o.after.toList.filter fun e=>Region.binds .any e).flatMap fun e=>e.on::anc ops f e.on
def zrA(ops:Array Oper)(listed:Array Bool):Prop:=∀j o,ops[j]? = some o→listed.getD j false=true→∀e∈o.after,Region.binds .any e=true→listed.getD e.on false=true
theorem znB{b:Array Bool}(c:zrA ops b):∀(f j:Nat),(∀o,ops[j]? = some o→∀e∈o.after,Region.binds .any e=true→b.getD e.on false=true)→∀i∈anc ops f j,b.getD i false=true
 | 0,j,h,i,a=>by simp[anc]at a
 | f+1,j,h,i,a=>by
   unfold anc at a;cases ho:ops[j]? with
   | none=>simp[ho]at a
   | some o=>
     simp only[ho,List.mem_flatMap,List.mem_filter,List.mem_cons]at a;obtain⟨e,⟨q,l⟩,a⟩:=a;have d:=h o ho e (by simpa using q) l;rcases a with rfl|a
     ·exact d
     ·exact znB c f e.on (fun n p k m g=>c e.on n p d k m g) i a
def zhL(ops:Array Oper)(m:Nat):Bool:=(List.range ops.size).all fun k=>decide (k<m)||(List.range m).all fun j=>(anc ops ops.size k).contains j
theorem zlI{m:Nat}(h:zhL ops m=true){k j:Nat}{a:Array Bool}(g:zrA ops a)(p:k∈Region.ready .any ops a)(q:m≤k)(n:j<m):a.getD j false=true:=by
 obtain⟨_,o,c,l⟩:=mem_ready.1 p;have i:=(Array.getElem?_eq_some_iff.1 c).1;simp only[zhL,List.all_eq_true,List.mem_range,Bool.or_eq_true,yC]at h;have b:=(h k i).resolve_left om j n;exact znB g _ k (fun r d e b f=>by rw[c]at d;cases d;exact l e b f) j (by simpa using b)
theorem zbZ{k:Nat}{a:Array Bool}(n:zrA ops a)(r:k∈Region.ready .any ops a):zrA ops (a.setIfInBounds k true):=fun j o b i e m g=>by
 obtain⟨_,s,q,p⟩:=mem_ready.1 r
 have d:∀x,a.getD x false=true→(a.setIfInBounds k true).getD x false=true:=fun x l=>by
  by_cases c:k=x
  ·subst c;rcases yU k a.size with h|h
   ·simp[h]
   ·simp[zaL h]at l
  ·rw[getD_set_ne false c];exact l
 by_cases f:k=j
 ·subst f;rw[q]at b;cases b;exact d _ (p e m g)
 ·rw[getD_set_ne false f]at i;exact d _ (n j o b i e m g)
theorem zkD(n:Nat):zrA ops (Array.replicate n false):=fun j o _ a=>by
 rw[Array.getD_eq_getD_getElem?,Array.getElem?_replicate]at a;split at a<;>simp at a
def freeM(ops:Array Oper)(m:Nat)(listed:Array Bool)(i:Nat):Bool:=
 match ops[i]? with
 | none=>false
 | some oi=>(List.range m).all fun j=>j==i||listed.getD j true||match ops[j]? with
    | some oj=>oj.after.any (fun e=>Region.binds .any e&&e.on==i)||oi.apart ops oj
    | none=>true
theorem ztD{m i:Nat}{d:Oper}{f:Array Bool}(q:ops[i]? = some d)(h:freeM ops m f i=true)(j:Nat)(p:j<m)(c:Oper)
 (o:ops[j]? = some c) (n:j≠i) (g:f.getD j true=false) (l:∀e∈c.after,Region.binds .any e=true→e.on≠i):d.apart ops c=true:=by
 simp only[freeM,q,List.all_eq_true,List.mem_range]at h;have a:=h j p;simp only[o,Bool.or_eq_true,beq_iff_eq,n,false_or,g,Bool.false_eq_true]at a;rcases a with a|a
 ·obtain⟨e,k,b⟩:=Array.any_eq_true'.1 a;simp only[zS,beq_iff_eq]at b;exact absurd b.2 (l e k b.1)
 ·exact a
def seqX(ops:Array Oper)(m:Nat):List (Bool×Nat)→Array Bool→Bool
 | [],_=>true
 | (true,k)::r,l=>(Region.ready .any ops l).contains k&&freeM ops m l k&&decide (k<m)&&seqX ops m r (l.setIfInBounds k true)
 | (false,k)::r,l=>(Region.ready .any ops l == [k])&&decide (k<m)&&seqX ops m r (l.setIfInBounds k true)
def seqOrderX(ops:Array Oper)(m n:Nat)(ks:List (Bool×Nat)):Bool:=
 Region.noSelect ops&&zhL ops m&&decide (m+n=ops.size)&&decide (ks.length=m)&&seqX ops m ks (Array.replicate ops.size false) &&
  (Region.ready .any ops (zdC (ks.map Prod.snd) (Array.replicate ops.size false))).all (fun i=>decide (m≤i))&&forced ops m n (zdC (ks.map Prod.snd) (Array.replicate ops.size false))
def zjH(P:Program)(ops:Array Oper)(Q:Exit→Act→World→Prop)(S:World→Prop)(m:Nat)(X:Array Bool→Act→World→Prop):Nat→Array Bool→Act→World→Prop
 | 0,listed,a,w=>(∀i∈Region.ready .any ops listed,m≤i)∧X listed a w
 | fuel+1,listed,a,w=>Region.ready .any ops listed≠ []∧(∀i∈Region.ready .any ops listed,i<m)∧
   ∀i∈Region.ready .any ops listed,wpOp P ops Q i (fun a' w'=>S w'∧zjH P ops Q S m X fuel (listed.setIfInBounds i true) a' w') a w
theorem znK{m i:Nat}{X:Array Bool→Act→World→Prop}{r:Oper}{v:Value}(E:zhL ops m=true)(G:i<m)(D:ops[i]? = some r)(K:∀(j:Nat) (o:Oper) u b,ops[j]? = some o→o.op≠ .select u b)
 (O:∀c a w,Q (.panic c) (a.put r.dst v) w→Q (.panic c) a w) :
 ∀(x:Nat) (f:Array Bool) (a:Act) (w:World),
  zrA ops f→(∀j s,j<m→ops[j]? = some s→j≠i→f.getD j true=false→(∀e∈s.after,Region.binds .any e=true→e.on≠i)→r.apart ops s=true)→
  i∈Region.ready .any ops f→YieldsIf P ops S r v a→S w→
  zjH P ops Q S m X x (f.setIfInBounds i true) (a.put r.dst v) w→zjH P ops Q S m X (x+1) f a w:=by
 intro x;induction x with
 | zero=>
   intro f a w z _ n B y H
   have t:∀j∈Region.ready .any ops f,j<m:=fun j l=>by
    rcases yU j m with h|h
    ·exact h
    ·have d:=zlI E z l h G;have p:=(mem_ready.1 n).1;rcases yU i f.size with g|g
     ·simp[g]at p d;rw[p]at d;cases d
     ·simp[zaL g]at d
   refine⟨fun h=>(by rw[h]at n;cases n),t,fun j l=> ?_⟩;by_cases q:j=i
   ·subst q;exact B.wpOp D y ⟨y,H⟩
   ·have d:=H.1 j (ready_mono l q);have F:=t j l;omega
 | succ x U=>
   intro f a w z M n B y H
   have t:∀j∈Region.ready .any ops f,j<m:=fun j l=>by
    rcases yU j m with h|h
    ·exact h
    ·have d:=zlI E z l h G;have p:=(mem_ready.1 n).1;rcases yU i f.size with g|g
     ·simp[g]at p d;rw[p]at d;cases d
     ·simp[zaL g]at d
   refine⟨fun h=>(by rw[h]at n;cases n),t,fun j l=> ?_⟩;by_cases q:j=i
   ·subst q;exact B.wpOp D y ⟨y,H⟩
   ·have d:=H.2.2 j (ready_mono l q);obtain⟨L,s,C,V⟩:=mem_ready.1 l
    have ac:∀e∈s.after,Region.binds .any e=true→e.on≠i:=fun e Z Y R=>by
     have d:=V e Z Y;have p:=(mem_ready.1 n).1;rw[R]at d;rcases yU i f.size with g|g
     ·simp[g]at p d;rw[p]at d;cases d
     ·simp[zaL g]at d
    have F:=wpOp_putIf C (M j s (t j l) C q L ac) (fun u b=>K i r u b D) (fun u b=>K j s u b C) O B d
    have W:∀k ok,k<m→ops[k]? = some ok→k≠i→(f.setIfInBounds j true).getD k true=false→
     (∀e∈ok.after,Region.binds .any e=true→e.on≠i)→r.apart ops ok=true:=fun k ok ab hk aa J N=>by
     refine M k ok ab hk aa ?_ N;by_cases I:j=k
     ·subst I;exact L
     ·rw[getD_set_ne true I]at J;exact J
    refine wpOp_mono (fun T w' A=>⟨A.2.1,U (f.setIfInBounds j true) T w' (zbZ z l) W (ready_mono n (Ne.symm q)) A.1 A.2.1 ?_⟩) F;rw[Array.setIfInBounds_comm _ _ q];exact A.2.2
theorem zjA{m:Nat}{X:Array Bool→Act→World→Prop}(s:zhL ops m=true)(t:Region.noSelect ops=true)(q:∀c a d v w,Q (.panic c) (Act.put a d v) w→Q (.panic c) a w) :
 ∀(f:List (Bool×Nat)) (l:List (Bool×Oper)) (g:Array Bool) (a:Act) (w:World),zrA ops g→S w→f.map (fun p=>(p.1,ops[p.2]?))=l.map (fun p=>(p.1,some p.2))→seqX ops m f g=true→
 (∀i∈Region.ready .any ops (zdC (f.map Prod.snd) g),m≤i)→
 zcQ P (yielded ops) Q S (fun x z=>X (zdC (f.map Prod.snd) g) x z) l a w→zjH P ops Q S m X f.length g a w
 | [],l,g,a,w,hd,hS,e,_,hend,h=>by
   cases l with
   | nil=>exact⟨hend,h⟩
   | cons o r=>simp at e
 | (true,k)::f,l,g,a,w,hd,hS,e,hb,hend,h=>by
   cases l with
   | nil=>simp at e
   | cons p r=>
     obtain⟨b,o⟩:=p;simp only[lmc,List.cons.injEq,Prod.mk.injEq]at e;obtain⟨⟨rfl,u⟩,e⟩:=e;simp only[seqX,zS,yC]at hb;obtain⟨v,B,D⟩:=h
     exact znK s hb.1.2 u (Region.noSelect_spec t) (fun c a w=>q c a _ _ w) _ g a w hd (fun j E C=>ztD u hb.1.1.2 j C E) (by simpa using hb.1.1.1) B hS
      (zjA s t q f r _ _ w (zbZ hd (by simpa using hb.1.1.1)) hS e hb.2 hend D)
 | (false,k)::f,l,g,a,w,hd,hS,e,hb,hend,h=>by
   cases l with
   | nil=>simp at e
   | cons p r=>
     obtain⟨b,o⟩:=p;simp only[lmc,List.cons.injEq,Prod.mk.injEq]at e;obtain⟨⟨rfl,u⟩,e⟩:=e;simp only[seqX,zS,beq_iff_eq,yC]at hb;refine⟨by rw[hb.1.1];simp,fun i n=> ?_,fun i n=> ?_⟩
     ·rw[hb.1.1,zaQ]at n;rw[n];exact hb.1.2
     ·rw[hb.1.1,zaQ]at n;subst n;unfold Go.wpOp;simp only[u];unfold zcQ at h;split
      ·rename_i y
       rw[zQ y]at h;exact h.imp (Oper.wp_mono fun x z A=>⟨A.1,zjA s t q f r _ x z (zbZ hd (by rw[hb.1.1];simp)) A.1 e hb.2 hend A.2⟩) (fun h=>h)
      ·rename_i y
       rw[zG y]at h;exact⟨h.1,zjA s t q f r _ _ w (zbZ hd (by rw[hb.1.1];simp)) hS e hb.2 hend h.2⟩
theorem zgA{n l m tail:Nat}(e:zmE ops=true)(f:¬LetsOut Q):∀(c:Nat) (d:Array Bool) (a:Act) (w:World),
 zjH P ops Q S m (fun d a w=>wpAnyIn (Fence.wide.inRound l) n P .any ops Q tail d a w) c d a w→wpAnyIn (Fence.wide.inRound l) n P .any ops Q (c+tail) d a w
 | 0,d,a,w,h=>by rw[yE];exact h.2
 | c+1,d,a,w,h=>by
   rw[show c+1+tail=(c+tail)+1 by omega];refine⟨fun p=>absurd p h.1,fun i k=> ?_⟩;have b:=h.2.2 i k;unfold Go.wpOp at b;unfold wpOpIn;cases ho:ops[i]? with
   | none=>
     simp only[ho]at b⊢;exact zgA e f c _ _ _ b.2
   | some o=>
     simp only[ho]at b⊢;split
     ·rename_i g
      rw[zQ g]at b;rcases b with b|⟨_,j⟩
      ·exact znI (zsY e ho) (fun a w h=>zgA e f c _ a w h.2) b
      ·exact absurd j f
     ·rename_i g
      rw[zG g]at b;exact⟨fun _ _=>zT,zgA e f c _ _ _ b.2⟩
theorem zjI{F:Fence}{nn:Nat}:∀(n k:Nat) (b:Array Bool) (l:List Oper),l.length=n→(∀j,l[j]? = if j<n then ops[k+j]? else none)→k+n≤ops.size→
 forced ops k n b=true→∀(a:Act) (w:World),wpListIn F nn P ops Q l a w→wpAnyIn F nn P .any ops Q n b a w
 | 0,k,b,l,hl,hop,hsz,hf,a,w,h=>by
   have:l = []:=List.length_eq_zero_iff.1 hl;subst this;simp only[forced,List.isEmpty_iff]at hf;exact⟨hf,h⟩
 | n+1,k,b,l,hl,hop,hsz,hf,a,w,h=>by
   cases l with
   | nil=>simp at hl
   | cons o q=>
     simp only[forced,zS,beq_iff_eq]at hf;have p:ops[k]? = some o:=by simpa using (hop 0).symm
     have d:=zjI (F:=F) (nn:=nn) n (k+1) (b.setIfInBounds k true) q (by simpa using hl)
      (fun j=>by
        have e:=hop (j+1);simp only[lgs,Nat.add_lt_add_iff_right]at e;rw[e,show k+(j+1)=k+1+j by omega]) om hf.2
     refine⟨(fun g=>by rw[hf.1]at g;cases g),fun i f=> ?_⟩;rw[hf.1,zaQ]at f;subst f;unfold wpOpIn;simp only[p];unfold wpListIn at h;split
     ·rename_i c
      rw[zQ c]at h;exact Oper.wpIn_mono (fun r m=>d r m) h
     ·rename_i c
      rw[zG c]at h;exact⟨h.1,d _ _ h.2⟩
theorem zrN{n l D:Nat}{a:Act}{w:World}(m k:Nat)(b:List (Bool×List Bool))(r t:List Oper)(S:World→Prop)(I:P.follows .mixedOrders=true)(v:ops.toList=r++t)(J:r.length=m)(G:t.length=k)
 (z:(zeE b (List.range m)).map (fun p=>(p.1,ops[p.2]?))=(zeE b r).map (fun p=>(p.1,some p.2)))
 (d:(seqOrderX ops m k (zeE b (List.range m))&&zmE ops)=true) (N:S w.drew)
 (h:∀(Y:Array Value→Nat→Option Bool) (M:Exit→Act→World→Prop) (F:Act→World→Prop),(∀t,Y t=yielded ops t)→
   Shut' (∀f i,(∀(K:Act→World→Prop),Shut' (∀a w,Q .normal a w→K a w)→wpListIn (Fence.wide.inRound l) n P ops (OnlyK K) t f i)→F f i)→
   zcQ P Y M S F (zeE b r) a w.drew):(Code.region D ops true).wpIn (Fence.wide.inRound l) n P Q a w:=by
 simp only[zS]at d;refine wpIn_mono (Q:=OnlyK fun a w=>Q .normal a w) ?_ (OnlyK.imp (fun _ _ h=>h));refine wpIn_region_any I ?_;have g:=d.1;simp only[seqOrderX,zS,yC,List.all_eq_true]at g;obtain⟨⟨⟨⟨⟨⟨E,s⟩,y⟩,q⟩,C⟩,B⟩,L⟩:=g
 have H:=zjA (P:=P) (Q:=OnlyK fun a w=>Q .normal a w) (S:=S) (X:=fun A a w=>wpAnyIn (Fence.wide.inRound l) n P .any ops (OnlyK fun a w=>Q .normal a w) k A a w) s E (fun _ _ _ _ _ h=>h) (zeE b (List.range m)) (zeE b r) (Array.replicate ops.size false) a _ (zkD _) N z C B
  (zfM (fun c e u=>zjI k m _ t G (fun j=>by
    have o:=yG (fun x=>x[m+j]?) v;simp only[Array.getElem?_toList]at o;rw[o,yK om,J,zdW];split
    ·rfl
    ·exact yY om) om L c e u) (zeE b r) a _
    (h _ (OnlyK fun a w=>Q .normal a w) (fun c e=>wpListIn (Fence.wide.inRound l) n P ops (OnlyK fun a w=>Q .normal a w) t c e) (fun _=>rfl) (fun _ _ h=>h (fun a w=>Q .normal a w) (fun _ _ h=>h))))
 have:=zgA d.2 onlyK_in _ _ _ _ H;rw[q,y]at this;exact this
end
end Go.Proofs.YthhgkafloejjiaaGreat
namespace Go.Proofs.YthhgkafloejjiaaGreat
open Go.RowKit
inductive KU where
 | e|r|p|l
section
variable {P:Program} {ops:Array Oper} {Q:Exit→Act→World→Prop} {S:World→Prop}
def zdM(l:List (Addr×Value))(w:World):Prop:=Cells w l
def CU(S:World→Prop)(q:Nat)(L:Array Bool)(w:World):Prop:=L.getD q false=false→S w
theorem CU.set{q i:Nat}{L:Array Bool}{w:World}(h:CU S q L w)(a:i≠q):CU S q (L.setIfInBounds i true) w:=fun b=>h (by rwa[getD_set_ne false a]at b)
theorem CU.unset{q i:Nat}{L:Array Bool}{w:World}(h:CU S q (L.setIfInBounds i true) w)(a:i≠q):CU S q L w:=fun b=>h (by rwa[getD_set_ne false a])
def wpAnyU(P:Program)(ops:Array Oper)(Q:Exit→Act→World→Prop)(S:World→Prop)(q m tail:Nat):Nat→Array Bool→Act→World→Prop
 | 0,listed,a,w=>(∀i∈Region.ready .any ops listed,m≤i)∧wpAny P .any ops Q tail listed a w
 | fuel+1,listed,a,w=>Region.ready .any ops listed≠ []∧(∀i∈Region.ready .any ops listed,i<m)∧
   ∀i∈Region.ready .any ops listed,wpOp P ops Q i (fun a' w'=>CU S q (listed.setIfInBounds i true) w'∧wpAnyU P ops Q S q m tail fuel (listed.setIfInBounds i true) a' w') a w
theorem zsL{q m tail:Nat}:∀(b:Nat) (c:Array Bool) (a:Act) (w:World),wpAnyU P ops Q S q m tail b c a w→wpAny P .any ops Q (b+tail) c a w
 | 0,c,a,w,h=>by rw[yE];exact h.2
 | b+1,c,a,w,h=>by
   rw[show b+1+tail=(b+tail)+1 by omega];exact⟨fun j=>absurd j h.1,fun i g=>wpOp_mono (fun f d e=>zsL b _ f d e.2) (h.2.2 i g)⟩
theorem zlF{L:Array Bool}{i:Nat}(h:L.getD i true=false):L.getD i false=false:=by
 rcases yU i L.size with a|a
 ·simp[a]at h⊢;exact h
 ·simp[zaL a]at h⊢
theorem znL{q m tail i:Nat}{s:Oper}{v:Value}{T:World→Prop}(I:zeO ops m=true)(N:i<m)(F:ops[i]? = some s)(R:∀(j:Nat) (o:Oper) u b,ops[j]? = some o→o.op≠ .select u b)
 (X:∀c a w,Q (.panic c) (a.put s.dst v) w→Q (.panic c) a w) (C:i≠q) (G:∀(L:Array Bool) (w:World),zrA ops L→L.getD i false=false→CU S q L w→T w) :
 ∀(x:Nat) (f:Array Bool) (a:Act) (w:World),
  (∀j t,ops[j]? = some t→j≠i→f.getD j true=false→(∀e∈t.after,Region.binds .any e=true→e.on≠i)→s.apart ops t=true)→
  zrA ops f→i∈Region.ready .any ops f→YieldsIf P ops T s v a→CU S q f w→
  wpAnyU P ops Q S q m tail x (f.setIfInBounds i true) (a.put s.dst v) w→wpAnyU P ops Q S q m tail (x+1) f a w:=by
 intro x;induction x with
 | zero=>
   intro f a w _ z l B y H
   have A:∀j∈Region.ready .any ops f,j<m:=fun j n=>by
    rcases yU j m with h|h
    ·exact h
    ·have d:=zdU I n h N;have p:=(mem_ready.1 l).1;rcases yU i f.size with g|g
     ·simp[g]at p d;rw[p]at d;cases d
     ·simp[zaL g]at d
   refine⟨fun h=>(by rw[h]at l;cases l),A,fun j n=> ?_⟩;by_cases r:j=i
   ·subst r;exact B.wpOp F (G _ _ z (zlF (mem_ready.1 l).1) y) ⟨y.set C,H⟩
   ·have d:=H.1 j (ready_mono n r);have J:=A j n;omega
 | succ x ih=>
   intro f a w V z l B y H
   have A:∀j∈Region.ready .any ops f,j<m:=fun j n=>by
    rcases yU j m with h|h
    ·exact h
    ·have d:=zdU I n h N;have p:=(mem_ready.1 l).1;rcases yU i f.size with g|g
     ·simp[g]at p d;rw[p]at d;cases d
     ·simp[zaL g]at d
   refine⟨fun h=>(by rw[h]at l;cases l),A,fun j n=> ?_⟩;by_cases r:j=i
   ·subst r;exact B.wpOp F (G _ _ z (zlF (mem_ready.1 l).1) y) ⟨y.set C,H⟩
   ·have d:=H.2.2 j (ready_mono n r);obtain⟨U,t,E,aa⟩:=mem_ready.1 n
    have ad:∀e∈t.after,Region.binds .any e=true→e.on≠i:=fun e he hb Y=>by
     have d:=aa e he hb;have p:=(mem_ready.1 l).1;rw[Y]at d;rcases yU i f.size with g|g
     ·simp[g]at p d;rw[p]at d;cases d
     ·simp[zaL g]at d
    have J:=wpOp_putIf E (V j t E r U ad) (fun u b=>R i s u b F) (fun u b=>R j t u b E) X B d
    have ab:∀k ok,ops[k]? = some ok→k≠i→(f.setIfInBounds j true).getD k true=false→
     (∀e∈ok.after,Region.binds .any e=true→e.on≠i)→s.apart ops ok=true:=fun k ok hk ac O W=>by
     refine V k ok hk ac ?_ W;by_cases M:j=k
     ·subst M;exact U
     ·rw[getD_set_ne true M]at O;exact O
    refine wpOp_mono (fun Z w' h3=> ?_) J;obtain⟨h4,D,K⟩:=h3;rw[Array.setIfInBounds_comm _ _ (Ne.symm r)]at D K;exact⟨D.unset C,ih (f.setIfInBounds j true) Z w' ab (zbZ z n) (ready_mono l (Ne.symm r)) h4 (D.unset C) K⟩
def zbI(P:Program)(Y:Array Value→Nat→Option Bool)(Q:Exit→Act→World→Prop)(S:World→Prop)(F:Act→World→Prop):List (KU×Oper)→Act→World→Prop
 | [],a,w=>F a w
 | (.r,o)::rest,a,w=>∃v,((Region.wanted o (Y a.tmps)=true∧∀w,S w→(execOp a.eval o).run P w = .ok (.value v) w)∨(Region.wanted o (Y a.tmps)=false∧v=undef))∧zbI P Y Q S F rest (a.put o.dst v) w
 | (.p,o)::rest,a,w=>∃v,((Region.wanted o (Y a.tmps)=true∧∀w:World,True→(execOp a.eval o).run P w = .ok (.value v) w)∨(Region.wanted o (Y a.tmps)=false∧v=undef))∧zbI P Y Q S F rest (a.put o.dst v) w
 | (.l,o)::rest,a,w=>if Region.wanted o (Y a.tmps)=true then o.wp P a w (fun a' w'=>zbI P Y Q S F rest a' w') Q∨(o.asks P a w∧LetsOut Q)else zbI P Y Q S F rest (a.put o.dst undef) w
 | (.e,o)::rest,a,w=>if Region.wanted o (Y a.tmps)=true then o.wp P a w (fun a' w'=>S w'∧zbI P Y Q S F rest a' w') Q∨(o.asks P a w∧LetsOut Q)else S w∧zbI P Y Q S F rest (a.put o.dst undef) w
def seqU(ops:Array Oper)(q m:Nat):List (KU×Nat)→Array Bool→Bool
 | [],_=>true
 | (.r,k)::r,l=>(Region.ready .any ops l).contains k&&Region.free .any ops l k&&decide (k<m)&&decide (k≠q)&&(anc ops ops.size q).contains k&&seqU ops q m r (l.setIfInBounds k true)
 | (.p,k)::r,l=>(Region.ready .any ops l).contains k&&Region.free .any ops l k&&decide (k<m)&&decide (k≠q)&&seqU ops q m r (l.setIfInBounds k true)
 | (.l,k)::r,l=>(Region.ready .any ops l == [k])&&decide (k<m)&&decide (k=q)&&r.isEmpty&&seqU ops q m r (l.setIfInBounds k true)
 | (.e,k)::r,l=>(Region.ready .any ops l == [k])&&decide (k<m)&&decide (k≠q)&&seqU ops q m r (l.setIfInBounds k true)
theorem zeG{q m tail:Nat}(z:zeO ops m=true)(A:Region.noSelect ops=true)(y:∀c a d v w,Q (.panic c) (Act.put a d v) w→Q (.panic c) a w) :
 ∀(j:List (KU×Nat)) (E:List (KU×Oper)) (f:Array Bool) (a:Act) (w:World),zrA ops f→CU S q f w→j.map (fun p=>(p.1,ops[p.2]?))=E.map (fun p=>(p.1,some p.2))→seqU ops q m j f=true→
 (∀i∈Region.ready .any ops (zdC (j.map Prod.snd) f),m≤i)→
 zbI P (yielded ops) Q S (fun I u=>wpAny P .any ops Q tail (zdC (j.map Prod.snd) f) I u) E a w→wpAnyU P ops Q S q m tail j.length f a w
 | [],E,f,a,w,_,hS,n,_,hend,h=>by
   cases E with
   | nil=>exact⟨hend,h⟩
   | cons o r=>simp at n
 | (kind,k)::j,E,f,a,w,s,hS,n,hb,hend,h=>by
   cases E with
   | nil=>simp at n
   | cons p r=>
     obtain⟨b,o⟩:=p;simp only[lmc,List.cons.injEq,Prod.mk.injEq]at n;obtain⟨⟨rfl,H⟩,n⟩:=n
     match kind,hb,h with
     | .r,hb,h=>
       simp only[seqU,zS,yC]at hb;obtain⟨v,K,M⟩:=h;obtain⟨⟨⟨⟨⟨g,D⟩,G⟩,F⟩,C⟩,N⟩:=hb;have l:k∈Region.ready .any ops f:=by simpa using g
       exact znL (T:=S) z G H (Region.noSelect_spec A) (fun c a w=>y c a _ _ w) F (fun L w s Z R=>R (by
        cases hq:L.getD q false with
        | false=>rfl
        | true=>
          have:=znB s ops.size q (fun X V e Y O=>s q X V hq e Y O) k (by simpa using C);rw[Z]at this;cases this)) _ f a w (Region.free_spec H D) s l K hS
        (zeG z A y j r _ _ w (zbZ s l) (hS.set F) n N hend M)
     | .p,hb,h=>
       simp only[seqU,zS,yC]at hb;obtain⟨v,K,M⟩:=h;obtain⟨⟨⟨⟨g,D⟩,G⟩,F⟩,N⟩:=hb;have l:k∈Region.ready .any ops f:=by simpa using g
       exact znL (T:=fun _=>True) z G H (Region.noSelect_spec A) (fun c a w=>y c a _ _ w) F (fun L w _ _ _=>zT) _ f a w (Region.free_spec H D) s l K hS
        (zeG z A y j r _ _ w (zbZ s l) (hS.set F) n N hend M)
     | .l,hb,h=>
       simp only[seqU,zS,beq_iff_eq,yC]at hb;obtain⟨⟨⟨⟨g,D⟩,G⟩,F⟩,C⟩:=hb;have l:k∈Region.ready .any ops f:=by rw[g];simp
       subst G
       have J:∀u,CU S k (f.setIfInBounds k true) u:=fun u U=>by
        have W:=(mem_ready.1 l).1;rcases yU k f.size with x|x
        ·simp[x]at U
        ·simp[zaL x]at W
       refine⟨by rw[g];simp,fun i t=> ?_,fun i t=> ?_⟩
       ·rw[g,zaQ]at t;rw[t];exact D
       ·rw[g,zaQ]at t;subst t;unfold Go.wpOp;simp only[H];unfold zbI at h;split
        ·rename_i B
         rw[zQ B]at h;exact h.imp (Oper.wp_mono fun I u x=>⟨J u,zeG z A y j r _ I u (zbZ s l) (J u) n C hend x⟩) (fun h=>h)
        ·rename_i B
         rw[zG B]at h;exact⟨J w,zeG z A y j r _ _ w (zbZ s l) (J w) n C hend h⟩
     | .e,hb,h=>
       simp only[seqU,zS,beq_iff_eq,yC]at hb;obtain⟨⟨⟨g,D⟩,G⟩,C⟩:=hb;have l:k∈Region.ready .any ops f:=by rw[g];simp
       refine⟨by rw[g];simp,fun i t=> ?_,fun i t=> ?_⟩
       ·rw[g,zaQ]at t;rw[t];exact D
       ·rw[g,zaQ]at t;subst t;unfold Go.wpOp;simp only[H];unfold zbI at h;split
        ·rename_i B
         rw[zQ B]at h;exact h.imp (Oper.wp_mono fun I u x=>⟨fun _=>x.1,zeG z A y j r _ I u (zbZ s l) (fun _=>x.1) n C hend x.2⟩) (fun h=>h)
        ·rename_i B
         rw[zG B]at h;exact⟨fun _=>h.1,zeG z A y j r _ _ w (zbZ s l) (fun _=>h.1) n C hend h.2⟩
theorem zdK{Y:Array Value→Nat→Option Bool}{F g:Act→World→Prop}(c:∀a w,F a w→g a w):∀(l:List (KU×Oper)) (a:Act) (w:World),zbI P Y Q S F l a w→zbI P Y Q S g l a w
 | [],a,w,h=>c a w h
 | (.r,o)::r,a,w,⟨v,hv,h⟩=>⟨v,hv,zdK c r _ w h⟩
 | (.p,o)::r,a,w,⟨v,hv,h⟩=>⟨v,hv,zdK c r _ w h⟩
 | (.l,o)::r,a,w,h=>by
   unfold zbI at h⊢;split
   ·rename_i b
    rw[zQ b]at h;exact h.imp (Oper.wp_mono fun f e d=>zdK c r f e d) (fun h=>h)
   ·rename_i b
    rw[zG b]at h;exact zdK c r _ w h
 | (.e,o)::r,a,w,h=>by
   unfold zbI at h⊢;split
   ·rename_i b
    rw[zQ b]at h;exact h.imp (Oper.wp_mono fun f e d=>⟨d.1,zdK c r f e d.2⟩) (fun h=>h)
   ·rename_i b
    rw[zG b]at h;exact⟨h.1,zdK c r _ w h.2⟩
def zpQ(ops:Array Oper)(q m n:Nat)(ks:List (KU×Nat)):Bool:=
 Region.noSelect ops&&zeO ops m&&decide (m+n=ops.size)&&decide (ks.length=m)&&seqU ops q m ks (Array.replicate ops.size false) &&
  (Region.ready .any ops (zdC (ks.map Prod.snd) (Array.replicate ops.size false))).all (fun i=>decide (m≤i))&&forced ops m n (zdC (ks.map Prod.snd) (Array.replicate ops.size false))
theorem zjT{D:Nat}{a:Act}{w:World}(q m n:Nat)(e:List (KU×Nat))(l t:List Oper)(b:List (KU×Oper))(S:World→Prop)(G:P.follows .mixedOrders=true)(y:ops.toList=l++t)(I:l.length=m)(F:t.length=n)
 (A:e.map (fun p=>(p.1,ops[p.2]?))=b.map (fun p=>(p.1,some p.2)))
 (i:zpQ ops q m n e=true) (o:∀c a d v w,Q (.panic c) (Act.put a d v) w→Q (.panic c) a w) (K:S w.drew)
 (h:zbI P (yielded ops) Q S (fun f g=>wpList P ops Q t f g) b a w.drew):(Code.region D ops true).wp P Q a w:=by
 simp only[zpQ,zS,yC,List.all_eq_true]at i;obtain⟨⟨⟨⟨⟨⟨E,s⟩,z⟩,r⟩,C⟩,B⟩,J⟩:=i;refine wp_region_any G ?_
 have H:=zeG (tail:=n) s E o e b (Array.replicate ops.size false) a _ (zkD _) (fun _=>K) A C B
  (zdK (fun f g u=>zcD n m _ t F (fun j=>by
    have k:=yG (fun x=>x[m+j]?) y;simp only[Array.getElem?_toList]at k;rw[k,yK om,I,zdW];split
    ·rfl
    ·exact yY om) om J f g u) b a _ h)
 have:=zsL _ _ _ _ H;rw[r,z]at this;exact this
def zeJ{α:Type}(ph:List (KU×List Bool))(l:List α):List (KU×α):=ph.flatMap fun p=>(sel p.2 l).map fun o=>(p.1,o)
theorem zbF{j:Nat}{a:Act}{w:World}(q m n:Nat)(b:List (KU×List Bool))(l t:List Oper)(S:World→Prop)(r:P.follows .mixedOrders=true)(e:ops.toList=l++t)(s:l.length=m)(k:t.length=n)
 (f:(zeJ b (List.range m)).map (fun p=>(p.1,ops[p.2]?))=(zeJ b l).map (fun p=>(p.1,some p.2)))
 (i:zpQ ops q m n (zeJ b (List.range m))=true) (v:S w.drew)
 (h:∀(Y:Array Value→Nat→Option Bool) (u:Exit→Act→World→Prop) (F:Act→World→Prop),(∀t,Y t=yielded ops t)→
   Shut' (∀c d,(∀(K:Act→World→Prop),Shut' (∀a w,Q .normal a w→K a w)→wpList P ops (OnlyK K) t c d)→F c d)→
   zbI P Y u S F (zeJ b l) a w.drew):(Code.region j ops true).wp P Q a w:=
 Code.wp_mono (OnlyK.imp (fun _ _ h=>h)) (zjT q m n _ l t _ S r e s k f i (fun _ _ _ _ _ h=>h) v
  (h _ (OnlyK fun a w=>Q .normal a w) (fun g o=>wpList P ops (OnlyK fun a w=>Q .normal a w) t g o) (fun _=>rfl) (fun _ _ h=>h (fun a w=>Q .normal a w) (fun _ _ h=>h))))
variable {Y:Array Value→Nat→Option Bool} {o:Oper} {rest:List (KU×Oper)} {a:Act} {v:Value} {f:FuncId} {args:Array Value} {G:Act→World→Prop} {w w':World}
theorem zpF(c:Region.wanted o (Y a.tmps)=true)(h:∀w,S w→(execOp a.eval o).run P w = .ok (.value v) w)(b:zbI P Y Q S G rest (a.put o.dst v) w):zbI P Y Q S G ((.r,o)::rest) a w:=⟨v,.inl ⟨c,h⟩,b⟩
theorem wpSeqU_pure(c:Region.wanted o (Y a.tmps)=true)(h:∀w:World,(execOp a.eval o).run P w = .ok (.value v) w)(b:zbI P Y Q S G rest (a.put o.dst v) w):zbI P Y Q S G ((.p,o)::rest) a w:=⟨v,.inl ⟨c,fun w _=>h w⟩,b⟩
theorem wpSeqU_value(c:Region.wanted o (Y a.tmps)=true)(b:(execOp a.eval o).run P w = .ok (.value v) w')(d:S w')(h:zbI P Y Q S G rest (a.put o.dst v) w'):zbI P Y Q S G ((.e,o)::rest) a w:=by
 unfold zbI;rw[zQ c];exact .inl (by unfold Oper.wp;rw[b];exact⟨d,h⟩)
theorem wpSeqU_last_store(c:Region.wanted o (Y a.tmps)=true)(b:(execOp a.eval o).run P w = .ok .skip w')(h:zbI P Y Q S G rest (a.put o.dst undef) w'):zbI P Y Q S G ((.l,o)::rest) a w:=by
 unfold zbI;rw[zQ c];exact .inl (by unfold Oper.wp;rw[b];exact h)
theorem wpSeqU_call(g:Region.wanted o (Y a.tmps)=true)(d:(execOp a.eval o).run P w = .ok (.enter f args) w)
 (h:Calls P f args w fun e b=>∃v,e = .returned v∧S b∧zbI P Y Q S G rest (a.put o.dst v) b):zbI P Y Q S G ((.e,o)::rest) a w:=by
 unfold zbI;rw[zQ g];refine .inl ?_;unfold Oper.wp;rw[d];refine Calls.mono h ?_;rintro e b ⟨v,rfl,c,h⟩;exact⟨c,h⟩
theorem ztR(s x:Operand)(t e:TypeId)(d k:Nat)(l:List Value)(g:Nat)(M:Elems P t e d k l)
 (v:Value) (n:Nat) (xs:List Value) (j:Option Addr) (m cap:Nat) (c:List Value) (r:Region.wanted o (Y a.tmps)=true)
 (B:o.op = .call {callee:=.builtin .append,args:=#[s,x],argTypes:=#[t,t]}) (C:a.eval s=v) (K:a.eval x = .slice j m cap)
 (F:c.length=m*d) (I:∀u∈c,u.oneCell'=true) (q:n+m≤maxLen) (z:(n+m)*k≤140737488355328)
 (J:w.ownsRow g e d v n xs) (L:Rd w j c) (y:g≤w.heap.size)
 (h:∀f i b,b.ownsRow g e d (.slice f (n+m) i) (n+m) (xs++c)→w.grownBy b v.ownBlock→S b∧zbI P Y Q S G rest (a.put o.dst (.slice f (n+m) i)) b):zbI P Y Q S G ((.e,o)::rest) a w:=by
 obtain⟨f,i,b,H,E,p⟩:=zeZ (P:=P) (w:=w) s x t e d k l g M B v n xs C J j m cap c K F L I q z y;obtain⟨A,D⟩:=h f i b E p;exact wpSeqU_value r H A D
theorem zcG(h:G a w):zbI P Y Q S G [] a w:=h
end
section
variable {P:Program} {ops:Array Oper} {Q:Exit→Act→World→Prop} {S:World→Prop} {Y:Array Value→Nat→Option Bool} {o:Oper} {rest:List (Bool×Oper)} {a:Act} {G:Act→World→Prop} {w w':World}
theorem wpSeq_store(c:Region.wanted o (Y a.tmps)=true)(b:(execOp a.eval o).run P w = .ok .skip w')(d:S w')(h:zcQ P Y Q S G rest (a.put o.dst undef) w'):zcQ P Y Q S G ((false,o)::rest) a w:=by
 unfold zcQ;rw[zQ c];exact .inl (by unfold Oper.wp;rw[b];exact⟨d,h⟩)
end
section
variable {P:Program} {Q:Exit→Act→World→Prop} {o:Oper} {a:Act} {w w':World} {S:World→Prop} {Y:Array Value→Nat→Option Bool} {G:Act→World→Prop} {rest:List (KU×Oper)} {R:Prop} {v:Value} {f:FuncId} {args:Array Value} {V:Value}
theorem muR{b:List (KU×Oper)}{R:Prop}{v:Value}(k:R)(d:Region.wanted o (Y a.tmps)=true:=by rw[hY];rfl)(h:∀w,S w→(execOp a.eval o).run P w = .ok (.value v) w:=by intro f c;(try simp only[Keeps,zdM,Cells]at c);go_simp;with_reducible rfl)(e:zbI P Y Q S G b (a.put o.dst v) w=R:=by simp only[zvF];rfl):zbI P Y Q S G ((.r,o)::b) a w:=zpF d h (e▸k)
theorem muP{b:List (KU×Oper)}{R:Prop}{v:Value}(k:R)(c:Region.wanted o (Y a.tmps)=true:=by rw[hY];rfl)(h:∀w:World,(execOp a.eval o).run P w = .ok (.value v) w:=by intro d;go_simp;with_reducible rfl)(e:zbI P Y Q S G b (a.put o.dst v) w=R:=by simp only[zvF];rfl):zbI P Y Q S G ((.p,o)::b) a w:=wpSeqU_pure c h (e▸k)
theorem muV{b:List (KU×Oper)}{R:Prop}{v:Value}{w':World}(c:S w')(k:R)(d:Region.wanted o (Y a.tmps)=true:=by rw[hY];rfl)(h:(execOp a.eval o).run P w = .ok (.value v) w':=by go_simp;first|with_reducible exact⟨rfl,rfl⟩|with_reducible rfl)(e:zbI P Y Q S G b (a.put o.dst v) w'=R:=by simp only[zvF];rfl):zbI P Y Q S G ((.e,o)::b) a w:=wpSeqU_value d h c (e▸k)
theorem muC{c:List (KU×Oper)}{f:FuncId}{args:Array Value}(k:Calls P f args w fun e b=>∃v,e = .returned v∧S b∧zbI P Y Q S G c (a.put o.dst v) b)(d:Region.wanted o (Y a.tmps)=true:=by rw[hY];rfl)(h:(execOp a.eval o).run P w = .ok (.enter f args) w:=by go_simp;first|with_reducible exact⟨rfl,rfl⟩|with_reducible rfl):zbI P Y Q S G ((.e,o)::c) a w:=wpSeqU_call d h k
theorem muL{b:List (KU×Oper)}{R:Prop}{w':World}(k:R)(c:Region.wanted o (Y a.tmps)=true:=by rw[hY];rfl)(h:(execOp a.eval o).run P w = .ok .skip w':=by go_simp;first|with_reducible exact⟨rfl,rfl⟩|with_reducible rfl)(e:zbI P Y Q S G b (a.put o.dst undef) w'=R:=by simp only[zvF];rfl):zbI P Y Q S G ((.l,o)::b) a w:=wpSeqU_last_store c h (e▸k)
end
section
variable {P:Program} {Q:Exit→Act→World→Prop} {o:Oper} {a:Act} {w w':World} {S:World→Prop} {Y:Array Value→Nat→Option Bool} {G:Act→World→Prop} {rest:List (Bool×Oper)} {R:Prop} {v:Value} {f:FuncId} {args:Array Value} {V:Value}
theorem mst{b:List (Bool×Oper)}{R:Prop}{w':World}(c:S w')(k:R)(d:Region.wanted o (Y a.tmps)=true:=by rw[hY];rfl)(h:(execOp a.eval o).run P w = .ok .skip w':=by go_simp;first|with_reducible exact⟨rfl,rfl⟩|with_reducible rfl)(e:zcQ P Y Q S G b (a.put o.dst undef) w'=R:=by simp only[zvF];rfl):zcQ P Y Q S G ((false,o)::b) a w:=wpSeq_store d h c (e▸k)
theorem mrh{b:List (Bool×Oper)}{R:Prop}{v:Value}(k:R)(d:Region.wanted o (Y a.tmps)=true:=by rw[hY];rfl)(h:∀w,S w→(execOp a.eval o).run P w = .ok (.value v) w:=by intro f c;(try simp only[Keeps,zdM,Cells]at c);go_simp;with_reducible rfl)(e:zcQ P Y Q S G b (a.put o.dst v) w=R:=by simp only[zvF];rfl):zcQ P Y Q S G ((true,o)::b) a w:=zaH d h (e▸k)
end
end Go.Proofs.YthhgkafloejjiaaGreat
namespace Go.Proofs.YthhgkafloejjiaaGreat
open Go.RowKit
inductive Plan (α:Type) where
 | done:Plan α
 | read:α→Plan α→Plan α
 | one:α→Plan α→Plan α
 | two:Plan α→Plan α→Plan α
def Plan.map{α β:Type}(f:α→β):Plan α→Plan β
 | .done=>.done
 | .read k p=>.read (f k) (p.map f)
 | .one k p=>.one (f k) (p.map f)
 | .two p q=>.two (p.map f) (q.map f)
section
variable {P:Program} {ops:Array Oper} {Q:Exit→Act→World→Prop} {S:World→Prop}
def zaI(P:Program)(Y:Array Value→Nat→Option Bool)(Q:Exit→Act→World→Prop)(S:World→Prop)(F:Act→World→Prop):Plan Oper→Act→World→Prop
 | .done,a,w=>F a w
 | .read o rest,a,w=>∃v,((Region.wanted o (Y a.tmps)=true∧∀w,S w→(execOp a.eval o).run P w = .ok (.value v) w)∨(Region.wanted o (Y a.tmps)=false∧v=undef))∧zaI P Y Q S F rest (a.put o.dst v) w
 | .one o rest,a,w=>if Region.wanted o (Y a.tmps)=true then o.wp P a w (fun a' w'=>S w'∧zaI P Y Q S F rest a' w') Q∨(o.asks P a w∧LetsOut Q)else S w∧zaI P Y Q S F rest (a.put o.dst undef) w
 | .two p q,a,w=>zaI P Y Q S F p a w∧zaI P Y Q S F q a w
def heads:Plan Nat→List Nat
 | .done=>[]
 | .read _ _=>[]
 | .one k _=>[k]
 | .two p q=>heads p++heads q
def zrX(ops:Array Oper)(m n:Nat):Nat→Plan Nat→Array Bool→Bool
 | f,.done,l=>decide (f=0)&&(Region.ready .any ops l).all (fun i=>decide (m≤i))&&forced ops m n l
 | f,.read k p,l=>decide (0<f)&&(Region.ready .any ops l).contains k&&freeM ops m l k&&decide (k<m)&&zrX ops m n (f-1) p (l.setIfInBounds k true)
 | f,.one k p,l=>decide (0<f)&&(Region.ready .any ops l).contains k&&decide (k<m)&&zrX ops m n (f-1) p (l.setIfInBounds k true)
 | f,.two p q,l=>zrX ops m n f p l&&zrX ops m n f q l
def zkT(ops:Array Oper):Bool→Plan Nat→Array Bool→Bool
 | _,.done,_=>true
 | _,.read k p,l=>zkT ops true p (l.setIfInBounds k true)
 | b,.one k p,l=>(!b||(Region.ready .any ops l == [k]))&&zkT ops true p (l.setIfInBounds k true)
 | b,.two p q,l=>(!b||((Region.ready .any ops l).all (fun i=>(heads p++heads q).contains i) && !(heads p++heads q).isEmpty&&(Region.ready .any ops l != [])))&&zkT ops false p l&&zkT ops false q l
theorem plan_head{Y:Array Value→Nat→Option Bool}{F:Act→World→Prop}{m n:Nat}{X:Array Bool→Act→World→Prop}(U:zhL ops m=true)(ac:Region.noSelect ops=true)(T:∀c a d v w,Q (.panic c) (Act.put a d v) w→Q (.panic c) a w)(hY:Y=yielded ops)
 (hF:∀(l:Array Bool) (a:Act) (w:World),forced ops m n l=true→F a w→X l a w) :
 ∀(p:Plan Nat) (t:Plan Oper) (f:Nat) (l:Array Bool) (a:Act) (w:World),zrA ops l→S w→p.map (fun k=>ops[k]?)=t.map some→zrX ops m n f p l=true→
 (zkT ops true p l=true→zaI P Y Q S F t a w→zjH P ops Q S m X f l a w)∧
 (zkT ops false p l=true→zaI P Y Q S F t a w→∀i∈heads p,∃b,f=b+1∧i<m∧wpOp P ops Q i (fun C y=>S y∧zjH P ops Q S m X b (l.setIfInBounds i true) C y) a w):=by
 intro p;induction p with
 | done=>
   intro t f l a w z B u x;cases t with
   | done=>
     simp only[zrX,zS,yC,List.all_eq_true]at x;obtain⟨⟨rfl,Z⟩,ae⟩:=x;exact⟨fun _ h=>⟨Z,hF _ _ _ ae h⟩,fun _ _ i g=>(by cases g)⟩
   | _=>simp[Plan.map]at u
 | read k p ih=>
   intro t f l a w z B u x;cases t with
   | read o t=>
     simp only[Plan.map,Plan.read.injEq]at u;obtain⟨A,u⟩:=u;simp only[zrX,zS,yC]at x;obtain⟨⟨⟨⟨W,D⟩,aa⟩,G⟩,x⟩:=x;obtain⟨b,rfl⟩:∃b,f=b+1:=⟨f-1,by omega⟩;refine⟨fun s h=> ?_,fun _ _ i g=>(by cases g)⟩;obtain⟨v,N,ab⟩:=h;rw[hY]at N
     exact znK U G A (Region.noSelect_spec ac) (fun c a w=>T c a _ _ w) _ l a w z (fun j oj V=>ztD A aa j V oj) (by simpa using D) N B
      ((ih t b _ _ w (zbZ z (by simpa using D)) B u x).1 s ab)
   | _=>simp[Plan.map]at u
 | one k p ih=>
   intro t f l a w z B u x;cases t with
   | one o t=>
     simp only[Plan.map,Plan.one.injEq]at u;obtain⟨A,u⟩:=u;simp only[zrX,zS,yC]at x;obtain⟨⟨⟨W,D⟩,G⟩,x⟩:=x;obtain⟨b,rfl⟩:∃b,f=b+1:=⟨f-1,by omega⟩
     have E:zkT ops true p (l.setIfInBounds k true)=true→zaI P Y Q S F (.one o t) a w→wpOp P ops Q k (fun C y=>S y∧zjH P ops Q S m X b (l.setIfInBounds k true) C y) a w:=fun s h=>by
      unfold Go.wpOp;simp only[A];unfold zaI at h;rw[hY]at h;split
      ·rename_i H
       rw[zQ H]at h;exact h.imp (Oper.wp_mono fun C y K=>⟨K.1,(ih t b _ C y (zbZ z (by simpa using D)) K.1 u x).1 s (by rw[hY];exact K.2)⟩) (fun h=>h)
      ·rename_i H
       rw[zG H]at h;exact⟨h.1,(ih t b _ _ w (zbZ z (by simpa using D)) B u x).1 s (by rw[hY];exact h.2)⟩
     refine⟨fun s h=> ?_,fun s h i g=> ?_⟩
     ·simp only[zkT,zS,Bool.not_true,Bool.false_or,beq_iff_eq]at s;refine⟨by rw[s.1];simp,fun i g=> ?_,fun i g=> ?_⟩
      ·rw[s.1,zaQ]at g;rw[g];exact G
      ·rw[s.1,zaQ]at g;subst g;exact E s.2 h
     ·simp only[zkT,Bool.not_false,Bool.true_or,zaP]at s;rw[heads,zaQ]at g;subst g;exact⟨b,rfl,G,E s h⟩
   | _=>simp[Plan.map]at u
 | two p q ihp ihq=>
   intro t f l a w z B u x;cases t with
   | two t ql=>
     simp only[Plan.map,Plan.two.injEq]at u;simp only[zrX,zS]at x
     have E:zkT ops false p l=true→zkT ops false q l=true→zaI P Y Q S F (.two t ql) a w→∀i∈heads p++heads q,∃b,f=b+1∧i<m∧wpOp P ops Q i (fun C y=>S y∧zjH P ops Q S m X b (l.setIfInBounds i true) C y) a w:=fun L I h i g=>by
      rcases List.mem_append.1 g with g|g
      ·exact(ihp t f l a w z B u.1 x.1).2 L h.1 i g
      ·exact(ihq ql f l a w z B u.2 x.2).2 I h.2 i g
     refine⟨fun s h=> ?_,fun s h=> ?_⟩
     ·simp only[zkT,zS,Bool.not_true,Bool.false_or,List.all_eq_true,bne_iff_ne]at s;obtain⟨⟨⟨⟨M,R⟩,ad⟩,L⟩,I⟩:=s;have A:=E L I h;obtain⟨b,rfl⟩:∃b,f=b+1:=by
       cases hh:heads p++heads q with
       | nil=>rw[hh]at R;simp at R
       | cons i r=>obtain⟨b,e,_⟩:=A i (by rw[hh];simp);exact⟨b,e⟩
      refine⟨ad,fun i g=> ?_,fun i g=> ?_⟩
      ·obtain⟨O,e,J,_⟩:=A i (by simpa using M i g);exact J
      ·obtain⟨O,e,_,J⟩:=A i (by simpa using M i g);obtain rfl:O=b:=by omega
       exact J
     ·simp only[zkT,zS,Bool.not_false,Bool.true_or,true_and]at s;exact E s.1 s.2 h
   | _=>simp[Plan.map]at u
def zqF(ops:Array Oper)(m n:Nat)(p:Plan Nat):Bool:=
 Region.noSelect ops&&zhL ops m&&decide (m+n=ops.size)&&zrX ops m n m p (Array.replicate ops.size false)&&zkT ops true p (Array.replicate ops.size false)
theorem zsK{m tail:Nat}:∀(c:Nat) (b:Array Bool) (a:Act) (w:World),zjH P ops Q S m (fun b a w=>wpAny P .any ops Q tail b a w) c b a w→wpAny P .any ops Q (c+tail) b a w
 | 0,b,a,w,h=>by rw[yE];exact h.2
 | c+1,b,a,w,h=>by
   rw[show c+1+tail=(c+tail)+1 by omega];exact⟨fun j=>absurd j h.1,fun i g=>wpOp_mono (fun f d e=>zsK c _ f d e.2) (h.2.2 i g)⟩
def o0P:Oper:={dst:=none,op:=.move (.const undef),type:=0,pos:= "",after:=#[],guard:=none}
theorem zjU{C:Nat}{a:Act}{w:World}(m n:Nat)(p:Plan Nat)(l t:List Oper)(e:Plan Oper)(S:World→Prop)(F:P.follows .mixedOrders=true)(u:ops.toList=l++t)(G:l.length=m)(E:t.length=n)
 (z:p.map (fun k=>ops[k]?)=e.map some)
 (i:zqF ops m n p=true) (q:∀c a d v w,Q (.panic c) (Act.put a d v) w→Q (.panic c) a w) (J:S w.drew)
 (h:zaI P (yielded ops) Q S (fun b f=>wpList P ops Q t b f) e a w.drew):(Code.region C ops true).wp P Q a w:=by
 simp only[zqF,zS,yC]at i;obtain⟨⟨⟨⟨D,r⟩,y⟩,B⟩,A⟩:=i;refine wp_region_any F ?_
 have H:=(plan_head (X:=fun g a w=>wpAny P .any ops Q n g a w) r D q rfl (fun g b f I s=>zcD n m _ t E (fun j=>by
  have o:=yG (fun x=>x[m+j]?) u;simp only[Array.getElem?_toList]at o;rw[o,yK om,G,zdW];split
  ·rfl
  ·exact yY om) om I b f s) p e m (Array.replicate ops.size false) a _ (zkD _) J z B).1 A h
 have:=zsK _ _ _ _ H;rw[y]at this;exact this
theorem zaO{j:Nat}{a:Act}{w:World}(m n:Nat)(p:Plan Nat)(l t:List Oper)(c:Oper)(S:World→Prop)(r:P.follows .mixedOrders=true)(e:ops.toList=l++t)(s:l.length=m)(o:t.length=n)
 (f:p.map (fun k=>ops[k]?)=(p.map (fun k=>l.getD k c)).map some)
 (i:zqF ops m n p=true) (v:S w.drew)
 (h:∀(Y:Array Value→Nat→Option Bool) (u:Exit→Act→World→Prop) (F:Act→World→Prop),(∀t,Y t=yielded ops t)→
   Shut' (∀b d,(∀(K:Act→World→Prop),Shut' (∀a w,Q .normal a w→K a w)→wpList P ops (OnlyK K) t b d)→F b d)→
   zaI P Y u S F (p.map (fun k=>l.getD k c)) a w.drew):(Code.region j ops true).wp P Q a w:=
 Code.wp_mono (OnlyK.imp (fun _ _ h=>h)) (zjU m n p l t _ S r e s o f i (fun _ _ _ _ _ h=>h) v
  (h _ (OnlyK fun a w=>Q .normal a w) (fun g q=>wpList P ops (OnlyK fun a w=>Q .normal a w) t g q) (fun _=>rfl) (fun _ _ h=>h (fun a w=>Q .normal a w) (fun _ _ h=>h))))
variable {Y:Array Value→Nat→Option Bool} {o:Oper} {rest:Plan Oper} {a:Act} {v:Value} {f:FuncId} {args:Array Value} {G:Act→World→Prop} {w w':World}
theorem zcR(c:Region.wanted o (Y a.tmps)=true)(h:∀w,S w→(execOp a.eval o).run P w = .ok (.value v) w)(b:zaI P Y Q S G rest (a.put o.dst v) w):zaI P Y Q S G (.read o rest) a w:=⟨v,.inl ⟨c,h⟩,b⟩
theorem zfZ(c:Region.wanted o (Y a.tmps)=true)(b:(execOp a.eval o).run P w = .ok (.value v) w')(d:S w')(h:zaI P Y Q S G rest (a.put o.dst v) w'):zaI P Y Q S G (.one o rest) a w:=by
 unfold zaI;rw[zQ c];exact .inl (by unfold Oper.wp;rw[b];exact⟨d,h⟩)
theorem zbR(g:Region.wanted o (Y a.tmps)=true)(d:(execOp a.eval o).run P w = .ok (.enter f args) w)
 (h:Calls P f args w fun e b=>∃v,e = .returned v∧S b∧zaI P Y Q S G rest (a.put o.dst v) b):zaI P Y Q S G (.one o rest) a w:=by
 unfold zaI;rw[zQ g];refine .inl ?_;unfold Oper.wp;rw[d];refine Calls.mono h ?_;rintro e b ⟨v,rfl,c,h⟩;exact⟨c,h⟩
theorem zaT(h:G a w):zaI P Y Q S G .done a w:=h
theorem zbV{p q:Plan Oper}(c:zaI P Y Q S G p a w)(b:zaI P Y Q S G q a w):zaI P Y Q S G (.two p q) a w:=⟨c,b⟩
theorem share3{F:Act→World→Prop}{T:Prop}{α β γ:Type}(R:α→β→γ→World→Prop){A:α→β→γ→Act}(b:(∀x y z w,R x y z w→F (A x y z) w)→T)(a:∀x y z w,R x y z w→F (A x y z) w):T:=b a
theorem share1{F:Act→World→Prop}{T:Prop}{α:Type}(R:α→World→Prop){A:α→Act}(b:(∀x w,R x w→F (A x) w)→T)(a:∀x w,R x w→F (A x) w):T:=b a
theorem share4{F:Act→World→Prop}{T:Prop}{α β γ δ:Type}(R:α→β→γ→δ→World→Prop){A:α→β→γ→δ→Act}(b:(∀x y z i w,R x y z i w→F (A x y z i) w)→T)(a:∀x y z i w,R x y z i w→F (A x y z i) w):T:=b a
theorem zfN(f:Nat→Value)(A:List Value)(T:TypeId)(e:Region.wanted o (Y a.tmps)=true)(d:(execOp a.eval o).run P w = .ok (.value (f w.heap.size)) (w.alloc (.cells A.toArray T)))
 (h:∀b c,w.heap.size=b→Blk c b A T→Below w w c→S c∧zaI P Y Q S G rest (a.put o.dst (f b)) c):zaI P Y Q S G (.one o rest) a w:=
 have k:=h _ _ rfl (Blk.new w A T) ((zJ _ _).alloc (zF _) _)
 zfZ e d k.1 k.2
end
section
variable {P:Program} {Q:Exit→Act→World→Prop} {o:Oper} {a:Act} {w w':World} {S:World→Prop} {Y:Array Value→Nat→Option Bool} {G:Act→World→Prop} {rest:Plan Oper} {R:Prop} {v:Value} {f:FuncId} {args:Array Value} {V:Value}
theorem mpR(k:R)(c:Region.wanted o (Y a.tmps)=true:=by rw[hY];rfl)(h:∀w,S w→(execOp a.eval o).run P w = .ok (.value v) w:=by intro d b;(try simp only[Keeps,Cells]at b);go_simp;with_reducible rfl)(e:zaI P Y Q S G rest (a.put o.dst v) w=R:=by simp only[zvF];rfl):zaI P Y Q S G (.read o rest) a w:=zcR c h (e▸k)
theorem mpH(k:R)(c:Region.wanted o (Y a.tmps)=true:=by rw[hY];rfl)(h:∀w,S w→(execOp a.eval o).run P w = .ok (.value v) w:=by intro d b;(try simp only[Keeps,zdM,Cells]at b);go_simp;with_reducible rfl)(e:zaI P Y Q S G rest (a.put o.dst v) w=R:=by simp only[zvF];rfl):zaI P Y Q S G (.read o rest) a w:=zcR c h (e▸k)
theorem mpV(b:S w')(k:R)(c:Region.wanted o (Y a.tmps)=true:=by rw[hY];rfl)(h:(execOp a.eval o).run P w = .ok (.value v) w':=by go_simp;first|with_reducible exact⟨rfl,rfl⟩|with_reducible rfl)(e:zaI P Y Q S G rest (a.put o.dst v) w'=R:=by simp only[zvF];rfl):zaI P Y Q S G (.one o rest) a w:=zfZ c h b (e▸k)
theorem mpC(k:Calls P f args w fun e b=>∃v,e = .returned v∧S b∧zaI P Y Q S G rest (a.put o.dst v) b)(c:Region.wanted o (Y a.tmps)=true:=by rw[hY];rfl)(h:(execOp a.eval o).run P w = .ok (.enter f args) w:=by go_simp;first|with_reducible exact⟨rfl,rfl⟩|with_reducible rfl):zaI P Y Q S G (.one o rest) a w:=zbR c h k
end
theorem mpk{P:Program}{Q:Exit→Act→World→Prop}{o:Oper}{a:Act}{w W:World}{l:List (Addr×Value)}{Y:Array Value→Nat→Option Bool}{G:Act→World→Prop}{b:Plan Oper}{R:Prop}{v:Value}(h:Below W.heap.size W w)(c:Cells W l)(k:R)(e:zaI P Y Q (fun K=>Below W.heap.size W K∧Cells K l) G b (a.put o.dst v) w=R:=by simp only[zvF];rfl):∃u,Ending.returned v = .returned u∧(Below W.heap.size W w∧Cells w l)∧zaI P Y Q (fun K=>Below W.heap.size W K∧Cells K l) G b (a.put o.dst u) w:=⟨v,rfl,⟨h,Cells.step h c⟩,e▸k⟩
