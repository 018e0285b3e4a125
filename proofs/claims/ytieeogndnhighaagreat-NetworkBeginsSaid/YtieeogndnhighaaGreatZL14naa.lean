/- A part of the proof of L14n. No condition. -/
import Derived.Below
import Derived.Deep.MidRow
import Derived.Orders
import Derived.OrdersHeld
import Derived.Tactics
set_option linter.all false
set_option maxRecDepth 100000
set_option maxHeartbeats 200000
namespace Go.Proofs.YtieeogndnhighaaGreat
open Go.RowKit
theorem zD:∀{p:Prop} (h:p),RowKit.Hid p:=fun h=>h
theorem zE:∀(n:Nat),n≤n:=@Nat.le_refl
theorem zG:∀(B:Nat) (w:World),Below B w w:=@Below.refl
theorem zI.{u_1}:∀{α:Type u_1} {l:List α} {i:Nat} (h:i<l.length),l[i]? = some l[i]:=@List.getElem?_eq_getElem
theorem zJ:∀{w:World} {a:Addr} {v:Value},w.cell? a=some v→a.block<w.heap.size:=@block_lt_of_cell
theorem zK.{u}:∀{c:Prop} {h:Decidable c},¬c→∀{α:Sort u} {t e:α},(if c then t else e)=e:=@if_neg
theorem zL:∀{p:Prop} [inst:Decidable p],¬p→decide p=false:=@decide_eq_false
theorem zO.{u}:∀{α:Type u} {val val_1:α},some val=some val_1→val=val_1:=@Option.some.inj
theorem zQ:∀{p:Prop} [inst:Decidable p],p→decide p=true:=@decide_eq_true
theorem zU.{u}:∀{c:Prop} {h:Decidable c},c→∀{α:Sort u} {t e:α},(if c then t else e)=t:=@if_pos
theorem zY.{u_1}:∀{α:Type u_1} {l:List α} {i:Nat} {a:α},l.getD i a=l[i]?.getD a:=@List.getD_eq_getElem?_getD
theorem yA:∀(w:World) (o:Obj),(w.alloc o).heap.size=w.heap.size+1:=@World.size_alloc
theorem yD:∀{n m k:Nat},n≤m→m≤k→n≤k:=@Nat.le_trans
theorem yF:∀(a b:Bool),((a&&b)=true)=(a=true∧b=true):=@Bool.and_eq_true
theorem yJ:True:=@trivial
theorem yK:∀{p:Prop} [inst:Decidable p],(decide p=true)=p:=@decide_eq_true_eq
theorem yN.{u_1}:∀{α:Type u_1} {l:List α} {i:Nat} {a:α},l[i]? = some a→a∈l:=@List.mem_of_getElem?
theorem yP.{u_1}:∀{α:Type u_1} {l₁ l₂:List α} {i:Nat},l₁.length≤i→(l₁++l₂)[i]? = l₂[i-l₁.length]? :=@List.getElem?_append_right
theorem yQ.{u,v}:∀{α:Sort u} {β:Sort v} {a₁ a₂:α} (f:α→β),a₁=a₂→f a₁=f a₂:=@congrArg
theorem yR.{u}:∀{α:Type u} {n:Nat} {a:α},(List.replicate n a).length=n:=@List.length_replicate
theorem yV:∀(n:Nat),0+n=n:=@Nat.zero_add
theorem yY.{u_1}:∀{α:Type u_1} {l:List α} {i:Nat},l.length≤i→l[i]? = none:=@List.getElem?_eq_none
theorem zaA.{u_1,u_2}:∀{α:Type u_1} {β:Type u_2} {as:List α} (f:α→β),(List.map f as).length=as.length:=@List.length_map
theorem zaF.{u_1}:∀{α:Type u_1} (i:Nat) (l:List α),List.take i l++List.drop i l=l:=@List.take_append_drop
theorem zaH.{u_1,u_2}:∀{α:Type u_1} {β:Type u_2} {f:α→β} {l:List α} {i:Nat},(List.map f l)[i]? = Option.map f l[i]? :=@List.getElem?_map
theorem zaL.{u_1}:∀{α:Type u_1} {a:α},¬a∈ []:=@List.not_mem_nil
theorem zaR:∀(n m:Nat),n<m∨n≥m:=@Nat.lt_or_ge
theorem zaS:∀(w:Nat),0<2^w:=@Nat.two_pow_pos
theorem zbD.{u}:∀{α:Type u} {a:α} {as:List α},(a::as).length=as.length+1:=@List.length_cons
theorem zbE:∀(b:Bool),(true&&b)=b:=@Bool.true_and
theorem zbG:∀(n:Nat),n=0∨n>0:=@Nat.eq_zero_or_pos
theorem zbH:∀{n m k:Nat},n<m→m≤k→n<k:=@Nat.lt_of_lt_of_le
theorem zcN.{u_1}:∀{α:Type u_1} {i:Nat} {l:List α},(List.take i l).length=min i l.length:=@List.length_take
theorem zcP.{u_1}:∀{α:Type u_1} {l:List α},List.take l.length l=l:=@List.take_length
theorem zcX:True:=@True.intro
theorem zcY.{u_1}:∀{α:Type u_1} {i:Nat} {xs:Array α},xs.size≤i→xs[i]? = none:=@Array.getElem?_eq_none
theorem zdB.{u_1}:∀{α:Type u_1} {i:Nat} {l:List α},l.length≤i→List.take i l=l:=@List.take_of_length_le
theorem zdI.{u}:∀{α:Type u} {as bs:List α},(as++bs).length=as.length+bs.length:=@List.length_append
theorem zdS:∀{a b:Nat},a≤b→min a b=a:=@Nat.min_eq_left
theorem zdT.{u}:∀{α:Type u} {as:List α} {i:Nat} {a:α},(as.set i a).length=as.length:=@List.length_set
theorem zdW.{u_1}:∀{α:Type u_1} {a b:α},a∈ [b]↔a=b:=@List.mem_singleton
theorem zeG:∀(n:Nat),0≤n:=@Nat.zero_le
theorem zeV:∀{a b:Prop},a→b→a∧b:=@And.intro
theorem zeW:∀(n m:Nat),n+m-n=m:=@Nat.add_sub_cancel_left
theorem zfB.{u_1}:∀{α:Type u_1} {l₁ l₂:List α} {i:Nat},i<l₁.length→(l₁++l₂)[i]? = l₁[i]? :=@List.getElem?_append_left
theorem zfQ:∀{n:Nat},n>0→∀{i j:Nat},i≤j→n^i≤n^j:=@Nat.pow_le_pow_right
theorem sIB{α:Type}(xs:List α)(i:Nat)(a:α):xs.toArray.setIfInBounds i a=(xs.set i a).toArray:=List.setIfInBounds_toArray ..
theorem sC0{α:Type}(x y:α)(xs:List α):(x::xs).set 0 y=y::xs:=rfl
theorem sCs{α:Type}(x y:α)(n:Nat)(xs:List α):(x::xs).set (n+1) y=x::xs.set n y:=rfl
theorem lfc{α β:Type}(f:α→List β)(x:α)(xs:List α):(x::xs).flatMap f=f x++xs.flatMap f:=rfl
theorem lfn{α β:Type}(f:α→List β):([]:List α).flatMap f = []:=rfl
theorem ltc{α:Type}(n:Nat)(x:α)(xs:List α):(x::xs).take (n+1)=x::xs.take n:=rfl
theorem ltz{α:Type}(xs:List α):xs.take 0 = []:=rfl
theorem ldc{α:Type}(n:Nat)(x:α)(xs:List α):(x::xs).drop (n+1)=xs.drop n:=rfl
theorem ldz{α:Type}(xs:List α):xs.drop 0=xs:=rfl
theorem lmc{α β:Type}(f:α→β)(x:α)(xs:List α):(x::xs).map f=f x::xs.map f:=rfl
theorem lmn{α β:Type}(f:α→β):([]:List α).map f = []:=rfl
theorem lca{α:Type}(x:α)(xs ys:List α):(x::xs)++ys=x::(xs++ys):=rfl
theorem lna{α:Type}(xs:List α) : []++xs=xs:=rfl
theorem lan{α:Type}(xs:List α):xs ++ []=xs:=List.append_nil xs
theorem lgz{α:Type}(x:α)(xs:List α):(x::xs)[0]? = some x:=rfl
theorem lgs{α:Type}(x:α)(n:Nat)(xs:List α):(x::xs)[n+1]? = xs[n]? :=rfl
theorem zrB:(∀(a:Act) (d:Tmp) (v:Value),a.put (some d) v = {a with tmps:=a.tmps.setIfInBounds d v})∧(∀(a:Act) (v:Value),a.put none v=a)∧(∀{α:Type} (xs:List α) (i:Nat) (a:α),xs.toArray.setIfInBounds i a=(xs.set i a).toArray)∧(∀{α:Type} (x y:α) (xs:List α),(x::xs).set 0 y=y::xs)∧(∀{α:Type} (x y:α) (n:Nat) (xs:List α),(x::xs).set (n+1) y=x::xs.set n y):=⟨fun _ _ _=>rfl,fun _ _=>rfl,sIB,sC0,sCs⟩
theorem zrD:(∀{α:Type} (x:α) (xs:List α),(x::xs)[0]? = some x)∧(∀{α:Type} (x:α) (n:Nat) (xs:List α),(x::xs)[n+1]? = xs[n]?):=⟨lgz,lgs⟩
def U:Bool:=true
def zrA:Bool:=false
end Go.Proofs.YtieeogndnhighaaGreat
namespace Go.Proofs.YtieeogndnhighaaGreat
section
variable {P:Program} {ops:Array Oper} {Q:Exit→Act→World→Prop} {S:World→Prop}
def Gives(P:Program)(S:World→Prop)(v:Value):Result Next→Prop
 | .ok (.value u) w'=>u=v∧S w'
 | .ok .skip w'=>undef=v∧S w'
 | .ok (.enter f args) w'=>Calls P f args w' fun e w''=>e = .returned v∧S w''
 | _=>False
def SteadyY(P:Program)(Y:Array Value→Nat→Option Bool)(S:World→Prop)(o:Oper)(v:Value)(a:Act):Prop:=
 (Region.wanted o (Y a.tmps)=true∧∀w,S w→Gives P S v ((execOp a.eval o).run P w))∨
 (Region.wanted o (Y a.tmps)=false∧v=undef)
def Steady(P:Program)(ops:Array Oper)(S:World→Prop)(o:Oper)(v:Value)(a:Act):Prop:=SteadyY P (yielded ops) S o v a
theorem Gives.upon{o:Oper}{a:Act}{v:Value}{K:Act→World→Prop}{r:Result Next}(h:Gives P S v r)
 (hK:∀w',S w'→K (a.put o.dst v) w'):o.upon P a K Q r:=by
 cases r with
 | ok n w'=>
   cases n<;>simp only[Gives]at h;case value u=>obtain⟨rfl,hS⟩:=h;exact hK _ hS
   case skip=>obtain⟨rfl,hS⟩:=h;exact hK _ hS
   case enter f args=>
    refine Calls.mono h ?_;rintro e w'' ⟨rfl,hS⟩;exact hK _ hS
 | halt x w'=>simp[Gives]at h
theorem Steady.wpOp{i:Nat}{o:Oper}{v:Value}{a:Act}(hi:ops[i]? = some o)(hy:Steady P ops S o v a)
 {K:Act→World→Prop} {w:World} (hS:S w) (h:∀w',S w'→K (a.put o.dst v) w'):wpOp P ops Q i K a w:=by
 unfold Go.wpOp;simp only[hi];rcases hy with⟨hw,hv⟩|⟨hw,rfl⟩
 ·simp only[hw,if_true,Oper.wp];exact .inl ((hv w hS).upon h)
 ·simp only[hw,Bool.false_eq_true,if_false];exact h w hS
theorem Steady.of_same{o:Oper}{v:Value}{a a':Act}(hy:Steady P ops S o v a)(he:execOp a'.eval o=execOp a.eval o)
 (hw:Region.wanted o (yielded ops a'.tmps)=Region.wanted o (yielded ops a.tmps)):Steady P ops S o v a':=by
 unfold Steady SteadyY at *;rw[he,hw];exact hy
theorem wpOp_putS{j:Nat}{oi oj:Oper}{v:Value}(hj:ops[j]? = some oj)(hap:oi.apart ops oj=true)
 (hsi:∀cs b,oi.op≠ .select cs b) (hsj:∀cs b,oj.op≠ .select cs b)
 (hQ:∀c a w,Q (.panic c) (a.put oi.dst v) w→Q (.panic c) a w) {K:Act→World→Prop} {a:Act} {w:World}
 (hy:Steady P ops S oi v a) (h:wpOp P ops Q j K (a.put oi.dst v) w) :
 wpOp P ops Q j (fun a' w'=>Steady P ops S oi v a'∧K (a'.put oi.dst v) w') a w:=by
 obtain⟨h1,h2,h3⟩:=Oper.apart_spec hap
 have keep:∀(a:Act),Steady P ops S oi v a→∀u,Steady P ops S oi v (a.put oj.dst u):=fun a hy u=>
  hy.of_same (execOp_put oi hsi a oj.dst u h3) (wanted_put oi a oj.dst u h3)
 have keepD:∀d,Steady P ops S oi v {a with defers:=d::a.defers}:=fun d=>hy.of_same rfl rfl;unfold Go.wpOp at *;simp only[hj]at *;rw[wanted_put oj a oi.dst v h1]at h;split
 ·rename_i hw
  simp only[hw,if_true]at h;rcases h with h|⟨hasks,hlets⟩;case inr=>exact .inr ⟨by unfold Oper.asks at *;rw[execOp_put oj hsj a oi.dst v h1]at hasks;exact hasks,hlets⟩
  refine .inl ?_;unfold Oper.wp at *;rw[execOp_put oj hsj a oi.dst v h1]at h;generalize (execOp a.eval oj).run P w=r at *;cases r with
  | ok n w'=>
    cases n<;>simp only[Oper.upon]at h⊢;case value u=>exact⟨keep a hy u,by rw[←Act.put_comm a v u h2];exact h⟩
    case skip=>exact⟨keep a hy _,by rw[←Act.put_comm a v undef h2];exact h⟩
    case defer d=>
     refine⟨keep _ (keepD d) _,?_⟩;rw[←Act.put_comm _ v undef h2,←Act.put_defers];exact h
    case enter f args=>
     refine Calls.mono h fun e w'' he=> ?_;cases e with
     | returned u=>exact⟨keep a hy u,by rw[←Act.put_comm a v u h2];exact he⟩
     | panicked c=>exact hQ _ _ _ he
     | outgrown=>exact he
    case row row args=>exact Rows.mono h fun u w'' he=>⟨keep a hy u,by rw[←Act.put_comm a v u h2];exact he⟩
  | halt x w'=>
    cases x<;>simp only[Oper.upon]at h⊢;case panic u=>exact hQ _ _ _ h
 ·rename_i hw
  simp only[hw]at h;exact⟨keep a hy _,by rw[←Act.put_comm a v undef h2];exact h⟩
def wpAnyS(P:Program)(ops:Array Oper)(Q:Exit→Act→World→Prop)(S:World→Prop)(m:Nat)(tail:Nat):Nat→Array Bool→Act→Prop
 | 0,listed,a=>(∀i∈Region.ready .any ops listed,m≤i)∧∀w,S w→wpAny P .any ops Q tail listed a w
 | fuel+1,listed,a=>(Region.ready .any ops listed≠ [])∧(∀i∈Region.ready .any ops listed,i<m)∧
   ∀i∈Region.ready .any ops listed,∀w,S w→wpOp P ops Q i (fun a' w'=>S w'∧wpAnyS P ops Q S m tail fuel (listed.setIfInBounds i true) a') a w
theorem zoZ{m tail:Nat}:∀(fuel:Nat) (listed:Array Bool) (a:Act) (w:World),S w→wpAnyS P ops Q S m tail fuel listed a→
 wpAny P .any ops Q (fuel+tail) listed a w
 | 0,listed,a,w,hS,h=>by rw[Nat.zero_add];exact h.2 w hS
 | fuel+1,listed,a,w,hS,h=>by
   rw[show fuel+1+tail=(fuel+tail)+1 by omega];exact⟨fun h0=>absurd h0 h.1,fun i hi=>wpOp_mono (fun a' w' h'=>zoZ fuel _ a' w' h'.1 h'.2) (h.2.2 i hi w hS)⟩
def zeT(ops:Array Oper)(m:Nat):Bool:=
 (List.range ops.size).all fun k=>decide (k<m)||(List.range m).all fun j=>match ops[k]? with
   | some o=>o.after.any (fun e=>Region.binds .any e&&e.on==j)
   | none=>true
theorem zeN{m:Nat}(h:zeT ops m=true){k j:Nat}{listed:Array Bool}(hk:k∈Region.ready .any ops listed)(hkm:m≤k)(hj:j<m) :
 listed.getD j false=true:=by
 obtain⟨_,o,ho,hall⟩:=mem_ready.1 hk;have hks:=(Array.getElem?_eq_some_iff.1 ho).1;simp only[zeT,List.all_eq_true,List.mem_range,Bool.or_eq_true,decide_eq_true_eq]at h;have h1:=(h k hks).resolve_left (by omega) j hj;simp only[ho]at h1;obtain⟨e,he,hb⟩:=Array.any_eq_true'.1 h1;simp only[Bool.and_eq_true,beq_iff_eq]at hb;have:=hall e he hb.1;rwa[hb.2]at this
theorem wpAnyS_first{m tail i:Nat}{oi:Oper}{v:Value}(hbar:zeT ops m=true)(him:i<m)(hi:ops[i]? = some oi)(hsel:∀(j:Nat) (o:Oper) cs b,ops[j]? = some o→o.op≠ .select cs b)
 (hQ:∀c a w,Q (.panic c) (a.put oi.dst v) w→Q (.panic c) a w) :
 ∀(fuel:Nat) (listed:Array Bool) (a:Act),
  (∀j oj,ops[j]? = some oj→j≠i→listed.getD j true=false→(∀e∈oj.after,Region.binds .any e=true→e.on≠i)→oi.apart ops oj=true)→
  i∈Region.ready .any ops listed→Steady P ops S oi v a→
  wpAnyS P ops Q S m tail fuel (listed.setIfInBounds i true) (a.put oi.dst v)→wpAnyS P ops Q S m tail (fuel+1) listed a:=by
 intro fuel;induction fuel with
 | zero=>
   intro listed a _ hr hy H
   have hlt:∀j∈Region.ready .any ops listed,j<m:=fun j hj=>by
    rcases Nat.lt_or_ge j m with h|h
    ·exact h
    ·have h1:=zeN hbar hj h him;have h0:=(mem_ready.1 hr).1;rcases Nat.lt_or_ge i listed.size with h'|h'
     ·simp[h']at h0 h1;rw[h0]at h1;cases h1
     ·simp[Array.getElem?_eq_none h']at h1
   refine⟨fun h=>(by rw[h]at hr;cases hr),hlt,fun j hj w hS=> ?_⟩;by_cases hji:j=i
   ·subst hji;exact hy.wpOp hi hS fun w' hS'=>⟨hS',H⟩
   ·have h1:=H.1 j (ready_mono hj hji);have h2:=hlt j hj;omega
 | succ fuel ih=>
   intro listed a hfree hr hy H
   have hlt:∀j∈Region.ready .any ops listed,j<m:=fun j hj=>by
    rcases Nat.lt_or_ge j m with h|h
    ·exact h
    ·have h1:=zeN hbar hj h him;have h0:=(mem_ready.1 hr).1;rcases Nat.lt_or_ge i listed.size with h'|h'
     ·simp[h']at h0 h1;rw[h0]at h1;cases h1
     ·simp[Array.getElem?_eq_none h']at h1
   refine⟨fun h=>(by rw[h]at hr;cases hr),hlt,fun j hj w hS=> ?_⟩;by_cases hji:j=i
   ·subst hji;exact hy.wpOp hi hS fun w' hS'=>⟨hS',H⟩
   ·have h1:=H.2.2 j (ready_mono hj hji) w hS;obtain⟨hjun,oj,hoj,hall⟩:=mem_ready.1 hj
    have hnot:∀e∈oj.after,Region.binds .any e=true→e.on≠i:=fun e he hb heq=>by
     have h1:=hall e he hb;have h0:=(mem_ready.1 hr).1;rw[heq]at h1;rcases Nat.lt_or_ge i listed.size with h'|h'
     ·simp[h']at h0 h1;rw[h0]at h1;cases h1
     ·simp[Array.getElem?_eq_none h']at h1
    have h2:=wpOp_putS hoj (hfree j oj hoj hji hjun hnot) (fun cs b=>hsel i oi cs b hi) (fun cs b=>hsel j oj cs b hoj) hQ hy h1
    have hfree':∀k ok,ops[k]? = some ok→k≠i→(listed.setIfInBounds j true).getD k true=false→
     (∀e∈ok.after,Region.binds .any e=true→e.on≠i)→oi.apart ops ok=true:=fun k ok hk hki hun hno=>by
     refine hfree k ok hk hki ?_ hno;by_cases hjk:j=k
     ·subst hjk;exact hjun
     ·rw[getD_set_ne true hjk]at hun;exact hun
    refine wpOp_mono (fun a' w' h3=>⟨h3.2.1,ih (listed.setIfInBounds j true) a' hfree' (ready_mono hr (Ne.symm hji)) h3.1 ?_⟩) h2;rw[Array.setIfInBounds_comm _ _ hji];exact h3.2.2
def zcU(P:Program)(Y:Array Value→Nat→Option Bool)(S:World→Prop)(F:Act→Prop):List Oper→Act→Prop
 | [],a=>F a
 | o::rest,a=>∃v,SteadyY P Y S o v a∧zcU P Y S F rest (a.put o.dst v)
def zhS(ops:Array Oper):Nat→Nat→Array Bool→Bool
 | _,0,_=>true
 | k,n+1,listed=>(Region.ready .any ops listed).contains k&&Region.free .any ops listed k&&zhS ops (k+1) n (listed.setIfInBounds k true)
def forced(ops:Array Oper):Nat→Nat→Array Bool→Bool
 | _,0,listed=>(Region.ready .any ops listed).isEmpty
 | k,n+1,listed=>(Region.ready .any ops listed == [k])&&forced ops (k+1) n (listed.setIfInBounds k true)
def zeL:Nat→Nat→Array Bool→Array Bool
 | _,0,l=>l
 | k,n+1,l=>zeL (k+1) n (l.setIfInBounds k true)
theorem zcD:∀(n k:Nat) (listed:Array Bool) (l:List Oper),l.length=n→(∀j,l[j]? = if j<n then ops[k+j]? else none)→k+n≤ops.size→
 forced ops k n listed=true→∀(a:Act) (w:World),wpList P ops Q l a w→wpAny P .any ops Q n listed a w
 | 0,k,listed,l,hl,hop,hsz,hf,a,w,h=>by
   have:l = []:=List.length_eq_zero_iff.1 hl;subst this;simp only[forced,List.isEmpty_iff]at hf;exact⟨hf,h⟩
 | n+1,k,listed,l,hl,hop,hsz,hf,a,w,h=>by
   cases l with
   | nil=>simp at hl
   | cons o rest=>
     simp only[forced,Bool.and_eq_true,beq_iff_eq]at hf;have ho:ops[k]? = some o:=by simpa using (hop 0).symm
     have hrest:=zcD n (k+1) (listed.setIfInBounds k true) rest (by simpa using hl)
      (fun j=>by
        have h1:=hop (j+1);simp only[lgs,Nat.add_lt_add_iff_right]at h1;rw[h1,show k+(j+1)=k+1+j by omega]) (by omega) hf.2
     refine⟨(fun h0=>by rw[hf.1]at h0;cases h0),fun i hi=> ?_⟩;rw[hf.1,List.mem_singleton]at hi;subst hi;unfold Go.wpOp;simp only[ho];unfold wpList at h;split
     ·rename_i hw
      rw[if_pos hw]at h;exact h.imp (Oper.wp_mono fun a' w'=>hrest a' w') id
     ·rename_i hw
      rw[if_neg hw]at h;exact hrest _ _ h
theorem zfS{m tail:Nat}(hbar:zeT ops m=true)(hsel:Region.noSelect ops=true)
 (hQ:∀c a d v w,Q (.panic c) (Act.put a d v) w→Q (.panic c) a w) (lt:List Oper) :
 ∀(n k:Nat) (listed:Array Bool) (l:List Oper),l.length=n→(∀j,l[j]? = if j<n then ops[k+j]? else none)→k+n=m→
 zhS ops k n listed=true→(∀i∈Region.ready .any ops (zeL k n listed),m≤i)→∀(a:Act),
 zcU P (yielded ops) S (fun a'=>∀w,S w→wpAny P .any ops Q tail (zeL k n listed) a' w) l a→wpAnyS P ops Q S m tail n listed a
 | 0,k,listed,l,hl,hop,hsz,hio,hend,a,h=>by
   have:l = []:=List.length_eq_zero_iff.1 hl;subst this;exact⟨hend,h⟩
 | n+1,k,listed,l,hl,hop,hsz,hio,hend,a,h=>by
   cases l with
   | nil=>simp at hl
   | cons o rest=>
     simp only[zhS,Bool.and_eq_true]at hio;have ho:ops[k]? = some o:=by simpa using (hop 0).symm
     obtain⟨v,hy,hrest⟩:=h;refine wpAnyS_first hbar (by omega) ho (Region.noSelect_spec hsel) (fun c a w=>hQ c a _ _ w) n listed a (Region.free_spec ho hio.1.2) (by simpa using hio.1.1) hy ?_
     exact zfS hbar hsel hQ lt n (k+1) _ rest (by simpa using hl)
      (fun j=>by
        have h1:=hop (j+1);simp only[lgs,Nat.add_lt_add_iff_right]at h1;rw[h1,show k+(j+1)=k+1+j by omega]) (by omega) hio.2 hend _ hrest
def ziP(ops:Array Oper)(m n:Nat):Bool:=
 Region.noSelect ops&&zeT ops m&&decide (m+n=ops.size)&&zhS ops 0 m (Array.replicate ops.size false) &&
  (Region.ready .any ops (zeL 0 m (Array.replicate ops.size false))).all (fun i=>decide (m≤i))&&forced ops m n (zeL 0 m (Array.replicate ops.size false))
theorem zdN{id:Nat}{a:Act}{w:World}(m n:Nat)(l t:List Oper)(S:World→Prop)(hm:P.follows .mixedOrders=true)(hops:ops.toList=l++t)(hl:l.length=m)(ht:t.length=n)
 (ho:ziP ops m n=true) (hQ:∀c a d v w,Q (.panic c) (Act.put a d v) w→Q (.panic c) a w) (hS:S w.drew)
 (h:zcU P (yielded ops) S (fun a'=>∀w',S w'→wpList P ops Q t a' w') l a):(Code.region id ops true).wp P Q a w:=by
 simp only[ziP,Bool.and_eq_true,decide_eq_true_eq,List.all_eq_true]at ho;obtain⟨⟨⟨⟨⟨hsel,hbar⟩,hsz⟩,hin⟩,hend⟩,hforce⟩:=ho;refine wp_region_any hm ?_
 have hop1:∀j,l[j]? = if j<m then ops[0+j]? else none:=fun j=>by
  have h1:ops[j]? = (l++t)[j]? :=by rw[←hops];simp
  rw[Nat.zero_add,h1];split
  ·rw[List.getElem?_append_left (by omega)]
  ·rw[List.getElem?_eq_none (by omega)]
 have hop2:∀j,t[j]? = if j<n then ops[m+j]? else none:=fun j=>by
  have h1:ops[m+j]? = (l++t)[m+j]? :=by rw[←hops];simp
  rw[h1];split
  ·rw[List.getElem?_append_right (by omega),hl,Nat.add_sub_cancel_left]
  ·rw[List.getElem?_eq_none (by omega)]
 have hmono:∀(l:List Oper) (a:Act),zcU P (yielded ops) S (fun a'=>∀w',S w'→wpList P ops Q t a' w') l a→
  zcU P (yielded ops) S (fun a'=>∀w',S w'→wpAny P .any ops Q n (zeL 0 m (Array.replicate ops.size false)) a' w') l a:=by
  intro l;induction l with
  | nil=>exact fun a h w' hS'=>zcD n m _ t ht hop2 (by omega) hforce a w' (h w' hS')
  | cons o rest ih=>rintro a ⟨v,hy,hr⟩;exact⟨v,hy,ih _ hr⟩
 have h1:=zfS (tail:=n) hbar hsel hQ t m 0 _ l hl hop1 (by omega) hin hend a (hmono l a h);have h2:=zoZ m _ a _ hS h1;rwa[hsz]at h2
def Shut'(p:Prop):Prop:=p
theorem Shut'.out{p:Prop}(h:Shut' p):p:=h
def OnlyK(K:Act→World→Prop):Exit→Act→World→Prop
 | .normal,a,w=>K a w
 | _,_,_=>False
theorem OnlyK.mk{K:Act→World→Prop}{a:Act}{w:World}(h:K a w):OnlyK K .normal a w:=h
theorem OnlyK.imp{K:Act→World→Prop}(hK:∀a w,K a w→Q .normal a w):∀(e:Exit) (a:Act) (w:World),OnlyK K e a w→Q e a w:=fun e a w h=>by
 cases e<;>first|exact hK _ _ h|exact(h:False).elim
theorem zlP{id:Nat}{a:Act}{w:World}(m n:Nat)(l t:List Oper)(S:World→Prop)(hm:P.follows .mixedOrders=true)(hops:ops.toList=l++t)(hl:l.length=m)(ht:t.length=n)
 (ho:ziP ops m n=true) (hS:S w.drew)
 (h:∀(Y:Array Value→Nat→Option Bool) (F:Act→Prop),(∀t,Y t=yielded ops t)→
   Shut' (∀a',(∀(K:Act→World→Prop) w',Shut' (∀a w,Q .normal a w→K a w)→S w'→wpList P ops (OnlyK K) t a' w')→F a')→zcU P Y S F l a):(Code.region id ops true).wp P Q a w:=
 Code.wp_mono (OnlyK.imp (fun _ _ h=>h)) (zdN m n l t S hm hops hl ht ho (fun _ _ _ _ _ h=>h) hS
  (h _ _ (fun _=>rfl) (fun _ h w' hS'=>h (fun a w=>Q .normal a w) w' (fun _ _ h=>h) hS')))
theorem ziD{id:Nat}{a:Act}{w:World}(m:Nat)(S:World→Prop)(hm:P.follows .mixedOrders=true)(hsz:ops.toList.length=m)
 (ho:ziP ops m 0=true) (hS:S w.drew)
 (h:∀(Y:Array Value→Nat→Option Bool) (F:Act→Prop),(∀t,Y t=yielded ops t)→
   Shut' (∀a',(∀w',S w'→Q .normal a' w')→F a')→zcU P Y S F ops.toList a):(Code.region id ops true).wp P Q a w:=
 Code.wp_mono (OnlyK.imp (fun _ _ h=>h)) (zdN m 0 ops.toList [] S hm (by simp) hsz rfl ho (fun _ _ _ _ _ h=>h) hS (h _ _ (fun _=>rfl) (fun _ h=>h)))
theorem zbY{Y:Array Value→Nat→Option Bool}{F:Act→Prop}{o:Oper}{rest:List Oper}{a:Act}{v:Value}(hw:Region.wanted o (Y a.tmps)=true)
 (h:∀w,S w→(execOp a.eval o).run P w = .ok (.value v) w) (h2:zcU P Y S F rest (a.put o.dst v)):zcU P Y S F (o::rest) a:=
 ⟨v,.inl ⟨hw,fun w hS=>by rw[h w hS];exact⟨rfl,hS⟩⟩,h2⟩
theorem zfC{Y:Array Value→Nat→Option Bool}{F:Act→Prop}{o:Oper}{rest:List Oper}{a:Act}{v:Value}{f:FuncId}{args:Array Value}(hw:Region.wanted o (Y a.tmps)=true)
 (hr:∀w,S w→(execOp a.eval o).run P w = .ok (.enter f args) w)
 (h:∀w,S w→Calls P f args w fun e w'=>e = .returned v∧S w') (h2:zcU P Y S F rest (a.put o.dst v)):zcU P Y S F (o::rest) a:=
 ⟨v,.inl ⟨hw,fun w hS=>by rw[hr w hS];exact h w hS⟩,h2⟩
end
theorem zbU{P:Program}{ops:Array Oper}{Q:Exit→Act→World→Prop}{o:Oper}{rest:List Oper}{a:Act}{w w':World}{v:Value}(hg:o.guard=none)
 (hr:(execOp a.eval o).run P w = .ok (.value v) w') (h:wpList P ops Q rest (a.put o.dst v) w'):wpList P ops Q (o::rest) a w:=
 wpList_plain hg fun K hK=>by unfold Oper.wp;rw[hr];exact hK _ _ h
theorem yU{P:Program}{ops:Array Oper}{Q:Exit→Act→World→Prop}{o:Oper}{rest:List Oper}{a:Act}{w:World}(T:TypeId)(Z:Array Value)
 (hal:∀w,(Instr.alloc T true (.tuple #[])).run P w = .ok (.pointer (some ⟨w.heap.size,0,none⟩)) (w.alloc (.cells Z T)))
 (hg:o.guard=none) (ho:o.op = .alloc T) (h:wpList P ops Q rest (a.put o.dst (.pointer (some ⟨w.heap.size,0,none⟩))) (w.alloc (.cells Z T))):wpList P ops Q (o::rest) a w:=
 zbU hg (by simp[execOp,ho,hal]) h
@[go_sem] theorem zkL (w:World) (b i c j:Nat) (v:Value) (h:¬b=c):(w.setCell ⟨b,i,none⟩ v).cell? ⟨c,j,none⟩=w.cell? ⟨c,j,none⟩:=
  World.cell?_setCell_other w ⟨b,i,none⟩ ⟨c,j,none⟩ v (fun e=>h (by cases e;rfl))
open Go.RowKit in
theorem bcell{W w1:World}(hb:Below W.heap.size W w1):(∀b o,b<W.heap.size→w1.cell? ⟨b,o,none⟩=W.cell? ⟨b,o,none⟩)∧(∀b o,b<W.heap.size→w1.frozen? ⟨b,o,none⟩=W.frozen? ⟨b,o,none⟩):=
 ⟨fun b o h=>hb.cell (p:=⟨b,o,none⟩) h,fun b o h=>hb.frozen (p:=⟨b,o,none⟩) h⟩
open Go.RowKit in
theorem zcA{B b:Nat}(hb:B≤b):∀(vs:List Value) (o:Nat) (w:World),Below B w (w.setCells b o vs)
 | [],_,w=>Below.refl _ _
 | v::vs,o,w=>((Below.refl B w).setCell (p:=⟨b,o,none⟩) hb v).trans (zcA hb vs (o+1) _)
def Cells(w:World):List (Addr×Value)→Prop
 | []=>True
 | (a,v)::l=>w.cell? a=some v∧Cells w l
open Go.RowKit in
theorem Cells.step{w1 w2:World}(hb:Below w1.heap.size w1 w2):∀{l:List (Addr×Value)},Cells w1 l→Cells w2 l
 | [],h=>h
 | (a,v)::l,⟨h1,h2⟩=>⟨by rw[hb.cell (block_lt_of_cell h1)];exact h1,Cells.step hb h2⟩
open Go.RowKit in
def Keeps(W:World)(l:List (Addr×Value))(w:World):Prop:=Below W.heap.size W w∧Cells w l
open Go.RowKit in
theorem Keeps.step{W w1 w2:World}{l:List (Addr×Value)}(h:Keeps W l w1)(hb:Below w1.heap.size w1 w2):Keeps W l w2:=
 ⟨h.1.trans (hb.mono h.1.size),h.2.step hb⟩
open Go.RowKit in
theorem Keeps.start{W:World}{l:List (Addr×Value)}(h:Cells W l):Keeps W l W.drew:=
 ⟨(Below.refl _ _).drew,h.step (Below.refl _ _).drew⟩
