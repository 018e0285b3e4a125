/- A part of the proof of L14l. No condition. -/
import Derived.Below
import Derived.Deep.MidRow
import Derived.Orders
import Derived.OrdersHeld
import Derived.Tactics
set_option linter.all false
set_option maxRecDepth 100000
set_option maxHeartbeats 200000
namespace Go.Proofs.YthhgkafloejjiaaGreat
open Go.RowKit
theorem zC:∀{p:Prop} (h:p),RowKit.Hid p:=fun h=>h
theorem zD.{u_1}:∀{α:Type u_1} {l:List α} {i:Nat} (h:i<l.length),l[i]? = some l[i]:=@List.getElem?_eq_getElem
theorem zE:∀{w:World} {a:Addr} {v:Value},w.cell? a=some v→a.block<w.heap.size:=@block_lt_of_cell
theorem zF:∀(n:Nat),n≤n:=@Nat.le_refl
theorem zG.{u}:∀{c:Prop} {h:Decidable c},¬c→∀{α:Sort u} {t e:α},(if c then t else e)=e:=@if_neg
theorem zI.{u}:∀{α:Type u} {b a:α},some b=some a→b=a:=@Option.some.inj
theorem zJ:∀(B:Nat) (w:World),Below B w w:=@Below.refl
theorem zK.{u_1}:∀{α:Type u_1} {l:List α} {i:Nat} {a:α},l.getD i a=l[i]?.getD a:=@List.getD_eq_getElem?_getD
theorem zL:∀{p:Prop} [inst:Decidable p],¬p→decide p=false:=@decide_eq_false
theorem zO:∀{p:Prop} [inst:Decidable p],p→decide p=true:=@decide_eq_true
theorem zQ.{u}:∀{c:Prop} {h:Decidable c},c→∀{α:Sort u} {t e:α},(if c then t else e)=t:=@if_pos
theorem zS:∀(a b:Bool),((a&&b)=true)=(a=true∧b=true):=@Bool.and_eq_true
theorem zT:True:=@trivial
theorem zU.{u_1}:∀{α:Type u_1} (i:Nat) (l:List α),List.take i l++List.drop i l=l:=@List.take_append_drop
theorem zY:∀(w:World) (o:Obj),(w.alloc o).heap.size=w.heap.size+1:=@World.size_alloc
theorem zZ:∀{a b:Prop},a→b→a∧b:=@And.intro
theorem yC:∀{p:Prop} [inst:Decidable p],(decide p=true)=p:=@decide_eq_true_eq
theorem yD:∀{n m k:Nat},n≤m→m≤k→n≤k:=@Nat.le_trans
theorem yE:∀(n:Nat),0+n=n:=@Nat.zero_add
theorem yF.{u_1}:∀{α:Type u_1} {l:List α} {i:Nat} {a:α},l[i]? = some a→a∈l:=@List.mem_of_getElem?
theorem yG.{u,v}:∀{α:Sort u} {β:Sort v} {a b:α} (f:α→β),a=b→f a=f b:=@congrArg
theorem yH.{u}:∀{α:Type u} {b:List α} {i:Nat} {a:α},(b.set i a).length=b.length:=@List.length_set
theorem yI.{u_1,u_2}:∀{α:Type u_1} {β:Type u_2} {f:α→β} {l:List α} {i:Nat},(List.map f l)[i]? = Option.map f l[i]? :=@List.getElem?_map
theorem yJ.{u_1}:∀{α:Type u_1} {i:Nat} {l:List α},(List.take i l).length=min i l.length:=@List.length_take
theorem yK.{u_1}:∀{α:Type u_1} {a b:List α} {i:Nat},a.length≤i→(a++b)[i]? = b[i-a.length]? :=@List.getElem?_append_right
theorem yO.{u_1,u_2}:∀{α:Type u_1} {β:Type u_2} {a:List α} (f:α→β),(List.map f a).length=a.length:=@List.length_map
theorem yR.{u_1}:∀{α:Type u_1} {l:List α} {n:Nat} (h:n<l.length),l[n]∈l:=@List.getElem_mem
theorem yU:∀(n m:Nat),n<m∨n≥m:=@Nat.lt_or_ge
theorem yY.{u_1}:∀{α:Type u_1} {l:List α} {i:Nat},l.length≤i→l[i]? = none:=@List.getElem?_eq_none
theorem zaD.{u_1}:∀{α:Type u_1} {l:List α},List.take l.length l=l:=@List.take_length
theorem zaF:∀{a b:Int},0≤a→a.tdiv b=a/b:=@Int.tdiv_eq_ediv_of_nonneg
theorem zaG.{u}:∀{α:Type u} {b a:List α},(b++a).length=b.length+a.length:=@List.length_append
theorem zaJ:∀(w:Nat),0<2^w:=@Nat.two_pow_pos
theorem zaL.{u_1}:∀{α:Type u_1} {i:Nat} {a:Array α},a.size≤i→a[i]? = none:=@Array.getElem?_eq_none
theorem zaP:∀(b:Bool),(true&&b)=b:=@Bool.true_and
theorem zaQ.{u_1}:∀{α:Type u_1} {a b:α},a∈ [b]↔a=b:=@List.mem_singleton
theorem zbA:∀{n m k:Nat},n<m→m≤k→n<k:=@Nat.lt_of_lt_of_le
theorem zbE:∀{p:Prop} [inst:Decidable p],decide p=true→p:=@of_decide_eq_true
theorem zbG.{u_1}:∀{α:Type u_1} {l:List α} {i j:Nat},(List.take i l)[j]? = if j<i then l[j]? else none:=@List.getElem?_take
theorem zbH.{u_1}:∀{α:Type u_1} {a b:List α} {i:Nat},i<a.length→(a++b)[i]? = a[i]? :=@List.getElem?_append_left
theorem zbL.{u}:∀{α:Type u} {a:α} {b:List α},(a::b).length=b.length+1:=@List.length_cons
theorem zbU.{u_1}:∀{α:Type u_1} {a:α},¬a∈ []:=@List.not_mem_nil
theorem zcC.{u_1}:∀{α:Type u_1} {a b:α},(some a).getD b=a:=@Option.getD_some
theorem zcE:∀(n m k:Nat),n+m+k=n+(m+k):=@Nat.add_assoc
theorem zcP:∀{n:Nat},n>0→∀{i j:Nat},i≤j→n^i≤n^j:=@Nat.pow_le_pow_right
theorem zdD:∀(b:Bool),(false&&b)=false:=@Bool.false_and
theorem zdG.{u_1}:∀{α:Type u_1} {x:α} {a:List α} {d:α},(x::a).getD 0 d=x:=@List.getD_cons_zero
theorem zdI.{u_1}:∀{α:Type u_1} {a:List α} {i j:Nat},(List.drop i a)[j]? = a[i+j]? :=@List.getElem?_drop
theorem zdV:∀(n:Nat),n=0∨n>0:=@Nat.eq_zero_or_pos
theorem zdW:∀(n m:Nat),n+m-n=m:=@Nat.add_sub_cancel_left
theorem zeC:True:=@True.intro
theorem zeF.{u_1}:∀{α:Type u_1} {x:α} {a:List α} {n:Nat} {d:α},(x::a).getD (n+1) d=a.getD n d:=@List.getD_cons_succ
theorem zfB:∀(n k:Nat),n/k≤n:=@Nat.div_le_self
theorem zfX.{u}:∀{α:Type u} {a:List α},a.toArray.size=a.length:=@List.size_toArray
theorem zfY:∀(n:Nat),0≤n:=@Nat.zero_le
theorem zgO:∀{a:Int},0≤a→↑a.toNat=a:=@Int.toNat_of_nonneg
theorem zgW.{u_1}:∀{α:Type u_1} {l:List α} {i j:Nat},i≠j→∀{a:α},(l.set i a)[j]? = l[j]? :=@List.getElem?_set_ne
theorem sIB{α:Type}(xs:List α)(i:Nat)(a:α):xs.toArray.setIfInBounds i a=(xs.set i a).toArray:=List.setIfInBounds_toArray ..
theorem sC0{α:Type}(x y:α)(xs:List α):(x::xs).set 0 y=y::xs:=rfl
theorem sCs{α:Type}(x y:α)(n:Nat)(xs:List α):(x::xs).set (n+1) y=x::xs.set n y:=rfl
theorem lfc{α β:Type}(f:α→List β)(x:α)(xs:List α):(x::xs).flatMap f=f x++xs.flatMap f:=rfl
theorem lfn{α β:Type}(f:α→List β):([]:List α).flatMap f = []:=rfl
theorem ltc{α:Type}(n:Nat)(x:α)(xs:List α):(x::xs).take (n+1)=x::xs.take n:=rfl
theorem ltz{α:Type}(xs:List α):xs.take 0 = []:=rfl
theorem ldc{α:Type}(n:Nat)(x:α)(xs:List α):(x::xs).drop (n+1)=xs.drop n:=rfl
theorem ldz{α:Type}(xs:List α):xs.drop 0=xs:=rfl
theorem lmc{α β:Type}(f:α→β)(x:α)(xs:List α):(x::xs).map f=f x::xs.map f:=rfl
theorem lmn{α β:Type}(f:α→β):([]:List α).map f = []:=rfl
theorem lca{α:Type}(x:α)(xs ys:List α):(x::xs)++ys=x::(xs++ys):=rfl
theorem lna{α:Type}(xs:List α) : []++xs=xs:=rfl
theorem lan{α:Type}(xs:List α):xs ++ []=xs:=List.append_nil xs
theorem lgz{α:Type}(x:α)(xs:List α):(x::xs)[0]? = some x:=rfl
theorem lgs{α:Type}(x:α)(n:Nat)(xs:List α):(x::xs)[n+1]? = xs[n]? :=rfl
theorem zvF:(∀(a:Act) (d:Tmp) (v:Value),a.put (some d) v = {a with tmps:=a.tmps.setIfInBounds d v})∧(∀(a:Act) (v:Value),a.put none v=a)∧(∀{α:Type} (b:List α) (i:Nat) (a:α),b.toArray.setIfInBounds i a=(b.set i a).toArray)∧(∀{α:Type} (x y:α) (b:List α),(x::b).set 0 y=y::b)∧(∀{α:Type} (x y:α) (n:Nat) (b:List α),(x::b).set (n+1) y=x::b.set n y):=⟨fun _ _ _=>rfl,fun _ _=>rfl,sIB,sC0,sCs⟩
theorem zvH:(∀{α:Type} (x:α) (a:List α),(x::a)[0]? = some x)∧(∀{α:Type} (x:α) (n:Nat) (a:List α),(x::a)[n+1]? = a[n]?):=⟨lgz,lgs⟩
theorem zvJ.{u}{α:Sort u}(e:α):∃x,e=x:=⟨_,rfl⟩
def U:Bool:=true
def zvE:Bool:=false
end Go.Proofs.YthhgkafloejjiaaGreat
namespace Go.Proofs.YthhgkafloejjiaaGreat
section
variable {P:Program} {ops:Array Oper} {Q:Exit→Act→World→Prop} {S:World→Prop}
def Gives(P:Program)(S:World→Prop)(v:Value):Result Next→Prop
 | .ok (.value u) w'=>u=v∧S w'
 | .ok .skip w'=>undef=v∧S w'
 | .ok (.enter f args) w'=>Calls P f args w' fun e w''=>e = .returned v∧S w''
 | _=>False
def SteadyY(P:Program)(Y:Array Value→Nat→Option Bool)(S:World→Prop)(o:Oper)(v:Value)(a:Act):Prop:=
 (Region.wanted o (Y a.tmps)=true∧∀w,S w→Gives P S v ((execOp a.eval o).run P w))∨
 (Region.wanted o (Y a.tmps)=false∧v=undef)
def Steady(P:Program)(ops:Array Oper)(S:World→Prop)(o:Oper)(v:Value)(a:Act):Prop:=SteadyY P (yielded ops) S o v a
theorem Gives.upon{o:Oper}{a:Act}{v:Value}{K:Act→World→Prop}{r:Result Next}(h:Gives P S v r)
 (d:∀c,S c→K (a.put o.dst v) c):o.upon P a K Q r:=by
 cases r with
 | ok n c=>
   cases n<;>simp only[Gives]at h;case value u=>obtain⟨rfl,b⟩:=h;exact d _ b
   case skip=>obtain⟨rfl,b⟩:=h;exact d _ b
   case enter f args=>
    refine Calls.mono h ?_;rintro e g ⟨rfl,b⟩;exact d _ b
 | halt x c=>simp[Gives]at h
theorem Steady.wpOp{i:Nat}{o:Oper}{v:Value}{a:Act}(g:ops[i]? = some o)(e:Steady P ops S o v a)
 {K:Act→World→Prop} {w:World} (d:S w) (h:∀c,S c→K (a.put o.dst v) c):wpOp P ops Q i K a w:=by
 unfold Go.wpOp;simp only[g];rcases e with⟨b,f⟩|⟨b,rfl⟩
 ·simp only[b,if_true,Oper.wp];exact .inl ((f w d).upon h)
 ·simp only[b,Bool.false_eq_true,if_false];exact h w d
theorem Steady.of_same{o:Oper}{v:Value}{a b:Act}(c:Steady P ops S o v a)(e:execOp b.eval o=execOp a.eval o)
 (d:Region.wanted o (yielded ops b.tmps)=Region.wanted o (yielded ops a.tmps)):Steady P ops S o v b:=by
 unfold Steady SteadyY at *;rw[e,d];exact c
theorem wpOp_putS{j:Nat}{g i:Oper}{v:Value}(I:ops[j]? = some i)(D:g.apart ops i=true)
 (E:∀q b,g.op≠ .select q b) (y:∀q b,i.op≠ .select q b)
 (z:∀c a w,Q (.panic c) (a.put g.dst v) w→Q (.panic c) a w) {K:Act→World→Prop} {a:Act} {w:World}
 (k:Steady P ops S g v a) (h:wpOp P ops Q j K (a.put g.dst v) w) :
 wpOp P ops Q j (fun A s=>Steady P ops S g v A∧K (A.put g.dst v) s) a w:=by
 obtain⟨t,m,B⟩:=Oper.apart_spec D
 have l:∀(a:Act),Steady P ops S g v a→∀u,Steady P ops S g v (a.put i.dst u):=fun a k u=>
  k.of_same (execOp_put g E a i.dst u B) (wanted_put g a i.dst u B)
 have H:∀d,Steady P ops S g v {a with defers:=d::a.defers}:=fun d=>k.of_same rfl rfl;unfold Go.wpOp at *;simp only[I]at *;rw[wanted_put i a g.dst v t]at h;split
 ·rename_i p
  simp only[p,if_true]at h;rcases h with h|⟨C,F⟩;case inr=>exact .inr ⟨by unfold Oper.asks at *;rw[execOp_put i y a g.dst v t]at C;exact C,F⟩
  refine .inl ?_;unfold Oper.wp at *;rw[execOp_put i y a g.dst v t]at h;generalize (execOp a.eval i).run P w=r at *;cases r with
  | ok n s=>
    cases n<;>simp only[Oper.upon]at h⊢;case value u=>exact⟨l a k u,by rw[←Act.put_comm a v u m];exact h⟩
    case skip=>exact⟨l a k _,by rw[←Act.put_comm a v undef m];exact h⟩
    case defer d=>
     refine⟨l _ (H d) _,?_⟩;rw[←Act.put_comm _ v undef m,←Act.put_defers];exact h
    case enter f args=>
     refine Calls.mono h fun e G o=> ?_;cases e with
     | returned u=>exact⟨l a k u,by rw[←Act.put_comm a v u m];exact o⟩
     | panicked c=>exact z _ _ _ o
     | outgrown=>exact o
    case row row args=>exact Rows.mono h fun u G o=>⟨l a k u,by rw[←Act.put_comm a v u m];exact o⟩
  | halt x s=>
    cases x<;>simp only[Oper.upon]at h⊢;case panic u=>exact z _ _ _ h
 ·rename_i p
  simp only[p]at h;exact⟨l a k _,by rw[←Act.put_comm a v undef m];exact h⟩
def wpAnyS(P:Program)(ops:Array Oper)(Q:Exit→Act→World→Prop)(S:World→Prop)(m:Nat)(tail:Nat):Nat→Array Bool→Act→Prop
 | 0,listed,a=>(∀i∈Region.ready .any ops listed,m≤i)∧∀w,S w→wpAny P .any ops Q tail listed a w
 | fuel+1,listed,a=>(Region.ready .any ops listed≠ [])∧(∀i∈Region.ready .any ops listed,i<m)∧
   ∀i∈Region.ready .any ops listed,∀w,S w→wpOp P ops Q i (fun a' w'=>S w'∧wpAnyS P ops Q S m tail fuel (listed.setIfInBounds i true) a') a w
theorem zsM{m tail:Nat}:∀(b:Nat) (c:Array Bool) (a:Act) (w:World),S w→wpAnyS P ops Q S m tail b c a→
 wpAny P .any ops Q (b+tail) c a w
 | 0,c,a,w,hS,h=>by rw[Nat.zero_add];exact h.2 w hS
 | b+1,c,a,w,hS,h=>by
   rw[show b+1+tail=(b+tail)+1 by omega];exact⟨fun j=>absurd j h.1,fun i g=>wpOp_mono (fun f e d=>zsM b _ f e d.1 d.2) (h.2.2 i g w hS)⟩
def zeO(ops:Array Oper)(m:Nat):Bool:=
 (List.range ops.size).all fun k=>decide (k<m)||(List.range m).all fun j=>match ops[k]? with
   | some o=>o.after.any (fun e=>Region.binds .any e&&e.on==j)
   | none=>true
theorem zdU{m:Nat}(h:zeO ops m=true){k j:Nat}{b:Array Bool}(n:k∈Region.ready .any ops b)(p:m≤k)(l:j<m) :
 b.getD j false=true:=by
 obtain⟨_,o,c,i⟩:=mem_ready.1 n;have g:=(Array.getElem?_eq_some_iff.1 c).1;simp only[zeO,List.all_eq_true,List.mem_range,Bool.or_eq_true,decide_eq_true_eq]at h;have d:=(h k g).resolve_left (by omega) j l;simp only[c]at d;obtain⟨e,f,a⟩:=Array.any_eq_true'.1 d;simp only[Bool.and_eq_true,beq_iff_eq]at a;have:=i e f a.1;rwa[a.2]at this
theorem wpAnyS_first{m tail i:Nat}{r:Oper}{v:Value}(E:zeO ops m=true)(G:i<m)(D:ops[i]? = some r)(L:∀(j:Nat) (o:Oper) t b,ops[j]? = some o→o.op≠ .select t b)
 (R:∀c a w,Q (.panic c) (a.put r.dst v) w→Q (.panic c) a w) :
 ∀(u:Nat) (f:Array Bool) (a:Act),
  (∀j s,ops[j]? = some s→j≠i→f.getD j true=false→(∀e∈s.after,Region.binds .any e=true→e.on≠i)→r.apart ops s=true)→
  i∈Region.ready .any ops f→Steady P ops S r v a→
  wpAnyS P ops Q S m tail u (f.setIfInBounds i true) (a.put r.dst v)→wpAnyS P ops Q S m tail (u+1) f a:=by
 intro u;induction u with
 | zero=>
   intro f a _ l y H
   have x:∀j∈Region.ready .any ops f,j<m:=fun j n=>by
    rcases Nat.lt_or_ge j m with h|h
    ·exact h
    ·have d:=zdU E n h G;have p:=(mem_ready.1 l).1;rcases Nat.lt_or_ge i f.size with g|g
     ·simp[g]at p d;rw[p]at d;cases d
     ·simp[Array.getElem?_eq_none g]at d
   refine⟨fun h=>(by rw[h]at l;cases l),x,fun j n w z=> ?_⟩;by_cases q:j=i
   ·subst q;exact y.wpOp D z fun K C=>⟨C,H⟩
   ·have d:=H.1 j (ready_mono n q);have F:=x j n;omega
 | succ u V=>
   intro f a N l y H
   have x:∀j∈Region.ready .any ops f,j<m:=fun j n=>by
    rcases Nat.lt_or_ge j m with h|h
    ·exact h
    ·have d:=zdU E n h G;have p:=(mem_ready.1 l).1;rcases Nat.lt_or_ge i f.size with g|g
     ·simp[g]at p d;rw[p]at d;cases d
     ·simp[Array.getElem?_eq_none g]at d
   refine⟨fun h=>(by rw[h]at l;cases l),x,fun j n w z=> ?_⟩;by_cases q:j=i
   ·subst q;exact y.wpOp D z fun K C=>⟨C,H⟩
   ·have d:=H.2.2 j (ready_mono n q) w z;obtain⟨M,s,B,W⟩:=mem_ready.1 n
    have ab:∀e∈s.after,Region.binds .any e=true→e.on≠i:=fun e Z Y T=>by
     have d:=W e Z Y;have p:=(mem_ready.1 l).1;rw[T]at d;rcases Nat.lt_or_ge i f.size with g|g
     ·simp[g]at p d;rw[p]at d;cases d
     ·simp[Array.getElem?_eq_none g]at d
    have F:=wpOp_putS B (N j s B q M ab) (fun t b=>L i r t b D) (fun t b=>L j s t b B) R y d
    have X:∀k ok,ops[k]? = some ok→k≠i→(f.setIfInBounds j true).getD k true=false→
     (∀e∈ok.after,Region.binds .any e=true→e.on≠i)→r.apart ops ok=true:=fun k ok hk aa J O=>by
     refine N k ok hk aa ?_ O;by_cases I:j=k
     ·subst I;exact M
     ·rw[getD_set_ne true I]at J;exact J
    refine wpOp_mono (fun U K A=>⟨A.2.1,V (f.setIfInBounds j true) U X (ready_mono l (Ne.symm q)) A.1 ?_⟩) F;rw[Array.setIfInBounds_comm _ _ q];exact A.2.2
def zdX(P:Program)(Y:Array Value→Nat→Option Bool)(S:World→Prop)(F:Act→Prop):List Oper→Act→Prop
 | [],a=>F a
 | o::rest,a=>∃v,SteadyY P Y S o v a∧zdX P Y S F rest (a.put o.dst v)
def zjZ(ops:Array Oper):Nat→Nat→Array Bool→Bool
 | _,0,_=>true
 | k,n+1,listed=>(Region.ready .any ops listed).contains k&&Region.free .any ops listed k&&zjZ ops (k+1) n (listed.setIfInBounds k true)
def forced(ops:Array Oper):Nat→Nat→Array Bool→Bool
 | _,0,listed=>(Region.ready .any ops listed).isEmpty
 | k,n+1,listed=>(Region.ready .any ops listed == [k])&&forced ops (k+1) n (listed.setIfInBounds k true)
def zgC:Nat→Nat→Array Bool→Array Bool
 | _,0,l=>l
 | k,n+1,l=>zgC (k+1) n (l.setIfInBounds k true)
theorem zcD:∀(n k:Nat) (b:Array Bool) (l:List Oper),l.length=n→(∀j,l[j]? = if j<n then ops[k+j]? else none)→k+n≤ops.size→
 forced ops k n b=true→∀(a:Act) (w:World),wpList P ops Q l a w→wpAny P .any ops Q n b a w
 | 0,k,b,l,hl,hop,hsz,hf,a,w,h=>by
   have:l = []:=List.length_eq_zero_iff.1 hl;subst this;simp only[forced,List.isEmpty_iff]at hf;exact⟨hf,h⟩
 | n+1,k,b,l,hl,hop,hsz,hf,a,w,h=>by
   cases l with
   | nil=>simp at hl
   | cons o q=>
     simp only[forced,Bool.and_eq_true,beq_iff_eq]at hf;have p:ops[k]? = some o:=by simpa using (hop 0).symm
     have d:=zcD n (k+1) (b.setIfInBounds k true) q (by simpa using hl)
      (fun j=>by
        have e:=hop (j+1);simp only[lgs,Nat.add_lt_add_iff_right]at e;rw[e,show k+(j+1)=k+1+j by omega]) (by omega) hf.2
     refine⟨(fun g=>by rw[hf.1]at g;cases g),fun i f=> ?_⟩;rw[hf.1,List.mem_singleton]at f;subst f;unfold Go.wpOp;simp only[p];unfold wpList at h;split
     ·rename_i c
      rw[if_pos c]at h;exact h.imp (Oper.wp_mono fun r m=>d r m) id
     ·rename_i c
      rw[if_neg c]at h;exact d _ _ h
theorem zhM{m tail:Nat}(f:zeO ops m=true)(p:Region.noSelect ops=true)
 (e:∀c a d v w,Q (.panic c) (Act.put a d v) w→Q (.panic c) a w) (s:List Oper) :
 ∀(n k:Nat) (b:Array Bool) (l:List Oper),l.length=n→(∀j,l[j]? = if j<n then ops[k+j]? else none)→k+n=m→
 zjZ ops k n b=true→(∀i∈Region.ready .any ops (zgC k n b),m≤i)→∀(a:Act),
 zdX P (yielded ops) S (fun r=>∀w,S w→wpAny P .any ops Q tail (zgC k n b) r w) l a→wpAnyS P ops Q S m tail n b a
 | 0,k,b,l,hl,hop,hsz,hio,hend,a,h=>by
   have:l = []:=List.length_eq_zero_iff.1 hl;subst this;exact⟨hend,h⟩
 | n+1,k,b,l,hl,hop,hsz,hio,hend,a,h=>by
   cases l with
   | nil=>simp at hl
   | cons o x=>
     simp only[zjZ,Bool.and_eq_true]at hio;have g:ops[k]? = some o:=by simpa using (hop 0).symm
     obtain⟨v,t,u⟩:=h;refine wpAnyS_first f (by omega) g (Region.noSelect_spec p) (fun c a w=>e c a _ _ w) n b a (Region.free_spec g hio.1.2) (by simpa using hio.1.1) t ?_
     exact zhM f p e s n (k+1) _ x (by simpa using hl)
      (fun j=>by
        have q:=hop (j+1);simp only[lgs,Nat.add_lt_add_iff_right]at q;rw[q,show k+(j+1)=k+1+j by omega]) (by omega) hio.2 hend _ u
def zkU(ops:Array Oper)(m n:Nat):Bool:=
 Region.noSelect ops&&zeO ops m&&decide (m+n=ops.size)&&zjZ ops 0 m (Array.replicate ops.size false) &&
  (Region.ready .any ops (zgC 0 m (Array.replicate ops.size false))).all (fun i=>decide (m≤i))&&forced ops m n (zgC 0 m (Array.replicate ops.size false))
theorem zeW{B:Nat}{a:Act}{w:World}(m n:Nat)(l t:List Oper)(S:World→Prop)(G:P.follows .mixedOrders=true)(g:ops.toList=l++t)(k:l.length=m)(E:t.length=n)
 (i:zkU ops m n=true) (p:∀c a d v w,Q (.panic c) (Act.put a d v) w→Q (.panic c) a w) (K:S w.drew)
 (h:zdX P (yielded ops) S (fun e=>∀b,S b→wpList P ops Q t e b) l a):(Code.region B ops true).wp P Q a w:=by
 simp only[zkU,Bool.and_eq_true,decide_eq_true_eq,List.all_eq_true]at i;obtain⟨⟨⟨⟨⟨D,q⟩,x⟩,u⟩,A⟩,I⟩:=i;refine wp_region_any G ?_
 have z:∀j,l[j]? = if j<m then ops[0+j]? else none:=fun j=>by
  have f:ops[j]? = (l++t)[j]? :=by rw[←g];simp
  rw[Nat.zero_add,f];split
  ·rw[List.getElem?_append_left (by omega)]
  ·rw[List.getElem?_eq_none (by omega)]
 have F:∀j,t[j]? = if j<n then ops[m+j]? else none:=fun j=>by
  have f:ops[m+j]? = (l++t)[m+j]? :=by rw[←g];simp
  rw[f];split
  ·rw[List.getElem?_append_right (by omega),k,Nat.add_sub_cancel_left]
  ·rw[List.getElem?_eq_none (by omega)]
 have J:∀(l:List Oper) (a:Act),zdX P (yielded ops) S (fun e=>∀b,S b→wpList P ops Q t e b) l a→
  zdX P (yielded ops) S (fun e=>∀b,S b→wpAny P .any ops Q n (zgC 0 m (Array.replicate ops.size false)) e b) l a:=by
  intro l;induction l with
  | nil=>exact fun a h b C=>zcD n m _ t E F (by omega) I a b (h b C)
  | cons o L r=>rintro a ⟨v,y,H⟩;exact⟨v,y,r _ H⟩
 have f:=zhM (tail:=n) q D p t m 0 _ l k z (by omega) u A a (J l a h);have s:=zsM m _ a _ K f;rwa[x]at s
def Shut'(p:Prop):Prop:=p
theorem Shut'.out{p:Prop}(h:Shut' p):p:=h
def OnlyK(K:Act→World→Prop):Exit→Act→World→Prop
 | .normal,a,w=>K a w
 | _,_,_=>False
theorem OnlyK.mk{K:Act→World→Prop}{a:Act}{w:World}(h:K a w):OnlyK K .normal a w:=h
theorem OnlyK.imp{K:Act→World→Prop}(b:∀a w,K a w→Q .normal a w):∀(e:Exit) (a:Act) (w:World),OnlyK K e a w→Q e a w:=fun e a w h=>by
 cases e<;>first|exact b _ _ h|exact(h:False).elim
theorem zbJ{k:Nat}{a:Act}{w:World}(m n:Nat)(l t:List Oper)(S:World→Prop)(f:P.follows .mixedOrders=true)(d:ops.toList=l++t)(i:l.length=m)(e:t.length=n)
 (g:zkU ops m n=true) (j:S w.drew)
 (h:∀(Y:Array Value→Nat→Option Bool) (F:Act→Prop),(∀t,Y t=yielded ops t)→
   Shut' (∀c,(∀(K:Act→World→Prop) b,Shut' (∀a w,Q .normal a w→K a w)→S b→wpList P ops (OnlyK K) t c b)→F c)→zdX P Y S F l a):(Code.region k ops true).wp P Q a w:=
 Code.wp_mono (OnlyK.imp (fun _ _ h=>h)) (zeW m n l t S f d i e g (fun _ _ _ _ _ h=>h) j
  (h _ _ (fun _=>rfl) (fun _ h b o=>h (fun a w=>Q .normal a w) b (fun _ _ h=>h) o)))
theorem zbX{i:Nat}{a:Act}{w:World}(m:Nat)(S:World→Prop)(d:P.follows .mixedOrders=true)(g:ops.toList.length=m)
 (e:zkU ops m 0=true) (f:S w.drew)
 (h:∀(Y:Array Value→Nat→Option Bool) (F:Act→Prop),(∀t,Y t=yielded ops t)→
   Shut' (∀c,(∀b,S b→Q .normal c b)→F c)→zdX P Y S F ops.toList a):(Code.region i ops true).wp P Q a w:=
 Code.wp_mono (OnlyK.imp (fun _ _ h=>h)) (zeW m 0 ops.toList [] S d (by simp) g rfl e (fun _ _ _ _ _ h=>h) f (h _ _ (fun _=>rfl) (fun _ h=>h)))
theorem yN{Y:Array Value→Nat→Option Bool}{F:Act→Prop}{o:Oper}{c:List Oper}{a:Act}{v:Value}(e:Region.wanted o (Y a.tmps)=true)
 (h:∀w,S w→(execOp a.eval o).run P w = .ok (.value v) w) (d:zdX P Y S F c (a.put o.dst v)):zdX P Y S F (o::c) a:=
 ⟨v,.inl ⟨e,fun w b=>by rw[h w b];exact⟨rfl,b⟩⟩,d⟩
theorem zcF{Y:Array Value→Nat→Option Bool}{F:Act→Prop}{o:Oper}{c:List Oper}{a:Act}{v:Value}{f:FuncId}{args:Array Value}(j:Region.wanted o (Y a.tmps)=true)
 (i:∀w,S w→(execOp a.eval o).run P w = .ok (.enter f args) w)
 (h:∀w,S w→Calls P f args w fun e g=>e = .returned v∧S g) (d:zdX P Y S F c (a.put o.dst v)):zdX P Y S F (o::c) a:=
 ⟨v,.inl ⟨j,fun w b=>by rw[i w b];exact h w b⟩,d⟩
end
theorem zhX{P:Program}{b:Array Oper}{Q:Exit→Act→World→Prop}{o:Oper}{c:List Oper}{a:Act}{w w':World}{v:Value}(e:o.guard=none)
 (d:(execOp a.eval o).run P w = .ok (.value v) w') (h:wpList P b Q c (a.put o.dst v) w'):wpList P b Q (o::c) a w:=
 wpList_plain e fun K f=>by unfold Oper.wp;rw[d];exact f _ _ h
theorem zaK{P:Program}{b:Array Oper}{Q:Exit→Act→World→Prop}{o:Oper}{c:List Oper}{a:Act}{w:World}(T:TypeId)(Z:Array Value)
 (f:∀w,(Instr.alloc T true (.tuple #[])).run P w = .ok (.pointer (some ⟨w.heap.size,0,none⟩)) (w.alloc (.cells Z T)))
 (e:o.guard=none) (d:o.op = .alloc T) (h:wpList P b Q c (a.put o.dst (.pointer (some ⟨w.heap.size,0,none⟩))) (w.alloc (.cells Z T))):wpList P b Q (o::c) a w:=
 zhX e (by simp[execOp,d,f]) h
@[go_sem] theorem zaM (w:World) (b i c j:Nat) (v:Value) (h:¬b=c):(w.setCell ⟨b,i,none⟩ v).cell? ⟨c,j,none⟩=w.cell? ⟨c,j,none⟩:=
  World.cell?_setCell_other w ⟨b,i,none⟩ ⟨c,j,none⟩ v (fun e=>h (by cases e;rfl))
open Go.RowKit in
theorem zoS{W a:World}(c:Below W.heap.size W a):(∀b o,b<W.heap.size→a.cell? ⟨b,o,none⟩=W.cell? ⟨b,o,none⟩)∧(∀b o,b<W.heap.size→a.frozen? ⟨b,o,none⟩=W.frozen? ⟨b,o,none⟩):=
 ⟨fun b o h=>c.cell (p:=⟨b,o,none⟩) h,fun b o h=>c.frozen (p:=⟨b,o,none⟩) h⟩
open Go.RowKit in
theorem zeU{B b:Nat}(c:B≤b):∀(a:List Value) (o:Nat) (w:World),Below B w (w.setCells b o a)
 | [],_,w=>Below.refl _ _
 | v::a,o,w=>((Below.refl B w).setCell (p:=⟨b,o,none⟩) c v).trans (zeU c a (o+1) _)
def Cells(w:World):List (Addr×Value)→Prop
 | []=>True
 | (a,v)::l=>w.cell? a=some v∧Cells w l
open Go.RowKit in
theorem Cells.step{b d:World}(c:Below b.heap.size b d):∀{l:List (Addr×Value)},Cells b l→Cells d l
 | [],h=>h
 | (a,v)::l,⟨h1,h2⟩=>⟨by rw[c.cell (block_lt_of_cell h1)];exact h1,Cells.step c h2⟩
open Go.RowKit in
def Keeps(W:World)(l:List (Addr×Value))(w:World):Prop:=Below W.heap.size W w∧Cells w l
open Go.RowKit in
theorem Keeps.step{W a b:World}{l:List (Addr×Value)}(h:Keeps W l a)(c:Below a.heap.size a b):Keeps W l b:=
 ⟨h.1.trans (c.mono h.1.size),h.2.step c⟩
open Go.RowKit in
theorem Keeps.start{W:World}{l:List (Addr×Value)}(h:Cells W l):Keeps W l W.drew:=
 ⟨(Below.refl _ _).drew,h.step (Below.refl _ _).drew⟩
theorem mok{Q:Exit→Act→World→Prop}{K:Act→World→Prop}{a:Act}{w:World}(b:Shut' (∀a w,Q .normal a w→K a w))(k:Q .normal a w):OnlyK K .normal a w:=OnlyK.mk (b.out _ _ k)
instance:Coe Int Value:=⟨Value.int .i64⟩
instance:Coe Nat Value:=⟨fun n=>Value.int .i64 (n:Int)⟩
instance:Coe World Nat:=⟨fun w=>w.heap.size⟩
theorem om{p:Prop}(h:p:=by omega):p:=h
theorem zk{p:Prop}(h:p:=by kernel_rfl):p:=h
theorem by1{p:Prop}(h:p:=by simp):p:=h
theorem by2{p:Prop}(h:p:=by decide):p:=h
theorem by3{p:Prop}(h:p:=by rfl):p:=h
theorem zh2{p q:Prop}(a:p)(b:q):RowKit.Hid p∧RowKit.Hid q:=⟨a,b⟩
theorem zh3{p q r:Prop}(a:p)(b:q)(c:r):RowKit.Hid p∧RowKit.Hid q∧RowKit.Hid r:=⟨a,b,c⟩
theorem zh4{p q r s:Prop}(a:p)(b:q)(c:r)(d:s):RowKit.Hid p∧RowKit.Hid q∧RowKit.Hid r∧RowKit.Hid s:=⟨a,b,c,d⟩
