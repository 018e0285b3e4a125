/- A part of the proof of L15. No condition. -/
import Derived.Below
import Derived.Deep.MidRow
import Derived.Orders
import Derived.OrdersHeld
import Derived.Tactics
set_option linter.all false
set_option maxRecDepth 100000
set_option maxHeartbeats 200000
namespace Go.Proofs.YtahaacfikalheaaGreat
open Go.RowKit
theorem zB:∀{p:Prop} (h:p),RowKit.Hid p:=fun h=>h
theorem zD:∀(n:Nat),n≤n:=@Nat.le_refl
theorem zE.{u_1}:∀{α:Type u_1} {l:List α} {i:Nat} (h:i<l.length),l[i]? = some l[i]:=@List.getElem?_eq_getElem
theorem zF:∀(B:Nat) (w:World),Below B w w:=@Below.refl
theorem zG.{u}:∀{c:Prop} {h:Decidable c},¬c→∀{α:Sort u} {t e:α},(if c then t else e)=e:=@if_neg
theorem zI.{u_1}:∀{α:Type u_1} {l:List α} {i:Nat} {a:α},l.getD i a=l[i]?.getD a:=@List.getD_eq_getElem?_getD
theorem zK.{u}:∀{α:Type u} {val val_1:α},some val=some val_1→val=val_1:=@Option.some.inj
theorem zL:∀{w:World} {a:Addr} {v:Value},w.cell? a=some v→a.block<w.heap.size:=@block_lt_of_cell
theorem zO.{u}:∀{c:Prop} {h:Decidable c},c→∀{α:Sort u} {t e:α},(if c then t else e)=t:=@if_pos
theorem zQ:∀{p:Prop} [inst:Decidable p],p→decide p=true:=@decide_eq_true
theorem zS:∀(a b:Bool),((a&&b)=true)=(a=true∧b=true):=@Bool.and_eq_true
theorem zV:∀(w:World) (o:Obj),(w.alloc o).heap.size=w.heap.size+1:=@World.size_alloc
theorem zY:∀{p:Prop} [inst:Decidable p],(decide p=true)=p:=@decide_eq_true_eq
theorem yB.{u_1}:∀{α:Type u_1} (i:Nat) (l:List α),List.take i l++List.drop i l=l:=@List.take_append_drop
theorem yC:∀{n m k:Nat},n≤m→m≤k→n≤k:=@Nat.le_trans
theorem yD:∀{p:Prop} [inst:Decidable p],¬p→decide p=false:=@decide_eq_false
theorem yF:True:=@trivial
theorem yI.{u_1}:∀{α:Type u_1} {i:Nat} {xs:Array α},xs.size≤i→xs[i]? = none:=@Array.getElem?_eq_none
theorem yJ.{u_1}:∀{α:Type u_1} {i:Nat} {l:List α},(List.take i l).length=min i l.length:=@List.length_take
theorem yK:∀(n:Nat),0+n=n:=@Nat.zero_add
theorem yN.{u}:∀{α:Type u} {as bs:List α},(as++bs).length=as.length+bs.length:=@List.length_append
theorem yO.{u}:∀{α:Type u} {a:α} {as:List α},(a::as).length=as.length+1:=@List.length_cons
theorem yP.{u_1}:∀{α:Type u_1} {l:List α} {i:Nat},l.length≤i→l[i]? = none:=@List.getElem?_eq_none
theorem yQ.{u_1}:∀{α:Type u_1} {l₁ l₂:List α} {i:Nat},l₁.length≤i→(l₁++l₂)[i]? = l₂[i-l₁.length]? :=@List.getElem?_append_right
theorem yS.{u,v}:∀{α:Sort u} {β:Sort v} {a₁ a₂:α} (f:α→β),a₁=a₂→f a₁=f a₂:=@congrArg
theorem yT.{u}:∀{α:Type u} {as:List α} {i:Nat} {a:α},(as.set i a).length=as.length:=@List.length_set
theorem yW:∀{n m:Nat} (k:Nat),n≤m→n*k≤m*k:=@Nat.mul_le_mul_right
theorem zaC:∀{a b:Prop},a→b→a∧b:=@And.intro
theorem zaE:∀(n m:Nat),n<m∨n≥m:=@Nat.lt_or_ge
theorem zaF:∀{n m k:Nat},n<m→m≤k→n<k:=@Nat.lt_of_lt_of_le
theorem zaG.{u_1,u_2}:∀{α:Type u_1} {β:Type u_2} {f:α→β} {l:List α} {i:Nat},(List.map f l)[i]? = Option.map f l[i]? :=@List.getElem?_map
theorem zaH.{u_1,u_2}:∀{α:Type u_1} {β:Type u_2} {as:List α} (f:α→β),(List.map f as).length=as.length:=@List.length_map
theorem zaN.{u_1}:∀{α:Type u_1} {l₁ l₂:List α} {i:Nat},i<l₁.length→(l₁++l₂)[i]? = l₁[i]? :=@List.getElem?_append_left
theorem zaO:∀(n:Nat),n*1=n:=@Nat.mul_one
theorem zaS.{u_1}:∀{α:Type u_1} {a b:α},a∈ [b]↔a=b:=@List.mem_singleton
theorem zaV:∀{p:Prop} [inst:Decidable p],decide p=true→p:=@of_decide_eq_true
theorem zaW.{u}:∀{α:Type u} {n:Nat} {a:α},(List.replicate n a).length=n:=@List.length_replicate
theorem zaZ:∀(n m k:Nat),n*m*k=n*(m*k):=@Nat.mul_assoc
theorem zbC.{u_1}:∀{α:Type u_1} {l:List α} {n:Nat} (h:n<l.length),l[n]∈l:=@List.getElem_mem
theorem zbF:∀{a b:Nat},a≤b→min a b=a:=@Nat.min_eq_left
theorem zbG.{u_1}:∀{α:Type u_1} {l:List α} {i j:Nat},(List.take i l)[j]? = if j<i then l[j]? else none:=@List.getElem?_take
theorem zbR:∀(n m k:Nat),n+m+k=n+(m+k):=@Nat.add_assoc
theorem zcA:∀(n:Nat),0≤n:=@Nat.zero_le
theorem zcB:∀(w:Nat),0<2^w:=@Nat.two_pow_pos
theorem zcF.{u}:∀{α:Type u} {a:α},[a].length=1:=@List.length_singleton
theorem zcI:∀(n m:Nat),n^m.succ=n^m*n:=@Nat.pow_succ
theorem zcL:∀(n:Nat),n^0=1:=@Nat.pow_zero
theorem zcM:∀(n m:Nat),n+m-n=m:=@Nat.add_sub_cancel_left
theorem zcN:∀(b:Bool),(true&&b)=b:=@Bool.true_and
theorem zcT:∀{a b:Nat},a<b→a%b=a:=@Nat.mod_eq_of_lt
theorem zcU.{u}:∀{α:Type u} (as bs cs:List α),as++bs++cs=as++(bs++cs):=@List.append_assoc
theorem zdA:∀{n:Nat},n>0→∀{i j:Nat},i≤j→n^i≤n^j:=@Nat.pow_le_pow_right
theorem zdB.{u_1}:∀{α:Type u_1} {l:List α} {i:Nat} {a:α},l[i]? = some a→a∈l:=@List.mem_of_getElem?
theorem zdH:∀(w n:Nat),BitVec.ofInt w ↑n=BitVec.ofNat w n:=@BitVec.ofInt_natCast
theorem zdJ.{u_1}:∀{α:Type u_1} {a:α},¬a∈ []:=@List.not_mem_nil
theorem zdL:∀(n m:Nat),n*m=m*n:=@Nat.mul_comm
theorem zdT.{u_1}:∀{α:Type u_1} {l:List α},List.take l.length l=l:=@List.take_length
theorem zeC:∀(n:Nat),n=0∨n>0:=@Nat.eq_zero_or_pos
theorem zeK.{u_1}:∀{α:Type u_1} {a b:α},(some a).getD b=a:=@Option.getD_some
theorem zeM.{u_1}:∀{α:Type u_1} {i:Nat} {l:List α},l.length≤i→List.take i l=l:=@List.take_of_length_le
theorem zfA:∀(x w:Nat),(BitVec.ofNat w x).toNat=x%2^w:=@BitVec.toNat_ofNat
theorem zfQ:∀{m n:Nat},m∈List.range n↔m<n:=@List.mem_range
theorem zgA:∀(n:Nat),n+0=n:=@Nat.add_zero
theorem zgM:∀{a b:Int},0≤a→a.tdiv b=a/b:=@Int.tdiv_eq_ediv_of_nonneg
theorem zgS.{u_1}:∀{α:Type u_1} {i:Nat} {l:List α},(List.drop i l).length=l.length-i:=@List.length_drop
theorem sIB{α:Type}(xs:List α)(i:Nat)(a:α):xs.toArray.setIfInBounds i a=(xs.set i a).toArray:=List.setIfInBounds_toArray ..
theorem sC0{α:Type}(x y:α)(xs:List α):(x::xs).set 0 y=y::xs:=rfl
theorem sCs{α:Type}(x y:α)(n:Nat)(xs:List α):(x::xs).set (n+1) y=x::xs.set n y:=rfl
theorem lfc{α β:Type}(f:α→List β)(x:α)(xs:List α):(x::xs).flatMap f=f x++xs.flatMap f:=rfl
theorem lfn{α β:Type}(f:α→List β):([]:List α).flatMap f = []:=rfl
theorem ltc{α:Type}(n:Nat)(x:α)(xs:List α):(x::xs).take (n+1)=x::xs.take n:=rfl
theorem ltz{α:Type}(xs:List α):xs.take 0 = []:=rfl
theorem ldc{α:Type}(n:Nat)(x:α)(xs:List α):(x::xs).drop (n+1)=xs.drop n:=rfl
theorem ldz{α:Type}(xs:List α):xs.drop 0=xs:=rfl
theorem lmc{α β:Type}(f:α→β)(x:α)(xs:List α):(x::xs).map f=f x::xs.map f:=rfl
theorem lmn{α β:Type}(f:α→β):([]:List α).map f = []:=rfl
theorem lca{α:Type}(x:α)(xs ys:List α):(x::xs)++ys=x::(xs++ys):=rfl
theorem lna{α:Type}(xs:List α) : []++xs=xs:=rfl
theorem lan{α:Type}(xs:List α):xs ++ []=xs:=List.append_nil xs
theorem lgz{α:Type}(x:α)(xs:List α):(x::xs)[0]? = some x:=rfl
theorem lgs{α:Type}(x:α)(n:Nat)(xs:List α):(x::xs)[n+1]? = xs[n]? :=rfl
theorem zuI:(∀(a:Act) (d:Tmp) (v:Value),a.put (some d) v = {a with tmps:=a.tmps.setIfInBounds d v})∧(∀(a:Act) (v:Value),a.put none v=a)∧(∀{α:Type} (xs:List α) (i:Nat) (a:α),xs.toArray.setIfInBounds i a=(xs.set i a).toArray)∧(∀{α:Type} (x y:α) (xs:List α),(x::xs).set 0 y=y::xs)∧(∀{α:Type} (x y:α) (n:Nat) (xs:List α),(x::xs).set (n+1) y=x::xs.set n y):=⟨fun _ _ _=>rfl,fun _ _=>rfl,sIB,sC0,sCs⟩
theorem zuK:(∀{α:Type} (x:α) (xs:List α),(x::xs)[0]? = some x)∧(∀{α:Type} (x:α) (n:Nat) (xs:List α),(x::xs)[n+1]? = xs[n]?):=⟨lgz,lgs⟩
def U:Bool:=true
def zuH:Bool:=false
end Go.Proofs.YtahaacfikalheaaGreat
namespace Go.Proofs.YtahaacfikalheaaGreat
section
variable {P:Program} {ops:Array Oper} {Q:Exit→Act→World→Prop} {S:World→Prop}
def Gives(P:Program)(S:World→Prop)(v:Value):Result Next→Prop
 | .ok (.value u) w'=>u=v∧S w'
 | .ok .skip w'=>undef=v∧S w'
 | .ok (.enter f args) w'=>Calls P f args w' fun e w''=>e = .returned v∧S w''
 | _=>False
def zuD(P:Program)(Y:Array Value→Nat→Option Bool)(S:World→Prop)(o:Oper)(v:Value)(a:Act):Prop:=
 (Region.wanted o (Y a.tmps)=true∧∀w,S w→Gives P S v ((execOp a.eval o).run P w))∨
 (Region.wanted o (Y a.tmps)=false∧v=undef)
def Steady(P:Program)(ops:Array Oper)(S:World→Prop)(o:Oper)(v:Value)(a:Act):Prop:=zuD P (yielded ops) S o v a
theorem Gives.upon{o:Oper}{a:Act}{v:Value}{K:Act→World→Prop}{r:Result Next}(h:Gives P S v r)
 (hK:∀w',S w'→K (a.put o.dst v) w'):o.upon P a K Q r:=by
 cases r with
 | ok n w'=>
   cases n<;>simp only[Gives]at h;case value u=>obtain⟨rfl,hS⟩:=h;exact hK _ hS
   case skip=>obtain⟨rfl,hS⟩:=h;exact hK _ hS
   case enter f args=>
    refine Calls.mono h ?_;rintro e w'' ⟨rfl,hS⟩;exact hK _ hS
 | halt x w'=>simp[Gives]at h
theorem Steady.wpOp{i:Nat}{o:Oper}{v:Value}{a:Act}(hi:ops[i]? = some o)(hy:Steady P ops S o v a)
 {K:Act→World→Prop} {w:World} (hS:S w) (h:∀w',S w'→K (a.put o.dst v) w'):wpOp P ops Q i K a w:=by
 unfold Go.wpOp;simp only[hi];rcases hy with⟨hw,hv⟩|⟨hw,rfl⟩
 ·simp only[hw,if_true,Oper.wp];exact .inl ((hv w hS).upon h)
 ·simp only[hw,Bool.false_eq_true,if_false];exact h w hS
theorem Steady.of_same{o:Oper}{v:Value}{a a':Act}(hy:Steady P ops S o v a)(he:execOp a'.eval o=execOp a.eval o)
 (hw:Region.wanted o (yielded ops a'.tmps)=Region.wanted o (yielded ops a.tmps)):Steady P ops S o v a':=by
 unfold Steady zuD at *;rw[he,hw];exact hy
theorem wpOp_putS{j:Nat}{oi oj:Oper}{v:Value}(hj:ops[j]? = some oj)(hap:oi.apart ops oj=true)
 (hsi:∀cs b,oi.op≠ .select cs b) (hsj:∀cs b,oj.op≠ .select cs b)
 (hQ:∀c a w,Q (.panic c) (a.put oi.dst v) w→Q (.panic c) a w) {K:Act→World→Prop} {a:Act} {w:World}
 (hy:Steady P ops S oi v a) (h:wpOp P ops Q j K (a.put oi.dst v) w) :
 wpOp P ops Q j (fun a' w'=>Steady P ops S oi v a'∧K (a'.put oi.dst v) w') a w:=by
 obtain⟨h1,h2,h3⟩:=Oper.apart_spec hap
 have keep:∀(a:Act),Steady P ops S oi v a→∀u,Steady P ops S oi v (a.put oj.dst u):=fun a hy u=>
  hy.of_same (execOp_put oi hsi a oj.dst u h3) (wanted_put oi a oj.dst u h3)
 have keepD:∀d,Steady P ops S oi v {a with defers:=d::a.defers}:=fun d=>hy.of_same rfl rfl;unfold Go.wpOp at *;simp only[hj]at *;rw[wanted_put oj a oi.dst v h1]at h;split
 ·rename_i hw
  simp only[hw,if_true]at h;rcases h with h|⟨hasks,hlets⟩;case inr=>exact .inr ⟨by unfold Oper.asks at *;rw[execOp_put oj hsj a oi.dst v h1]at hasks;exact hasks,hlets⟩
  refine .inl ?_;unfold Oper.wp at *;rw[execOp_put oj hsj a oi.dst v h1]at h;generalize (execOp a.eval oj).run P w=r at *;cases r with
  | ok n w'=>
    cases n<;>simp only[Oper.upon]at h⊢;case value u=>exact⟨keep a hy u,by rw[←Act.put_comm a v u h2];exact h⟩
    case skip=>exact⟨keep a hy _,by rw[←Act.put_comm a v undef h2];exact h⟩
    case defer d=>
     refine⟨keep _ (keepD d) _,?_⟩;rw[←Act.put_comm _ v undef h2,←Act.put_defers];exact h
    case enter f args=>
     refine Calls.mono h fun e w'' he=> ?_;cases e with
     | returned u=>exact⟨keep a hy u,by rw[←Act.put_comm a v u h2];exact he⟩
     | panicked c=>exact hQ _ _ _ he
     | outgrown=>exact he
    case row row args=>exact Rows.mono h fun u w'' he=>⟨keep a hy u,by rw[←Act.put_comm a v u h2];exact he⟩
  | halt x w'=>
    cases x<;>simp only[Oper.upon]at h⊢;case panic u=>exact hQ _ _ _ h
 ·rename_i hw
  simp only[hw]at h;exact⟨keep a hy _,by rw[←Act.put_comm a v undef h2];exact h⟩
def wpAnyS(P:Program)(ops:Array Oper)(Q:Exit→Act→World→Prop)(S:World→Prop)(m:Nat)(tail:Nat):Nat→Array Bool→Act→Prop
 | 0,listed,a=>(∀i∈Region.ready .any ops listed,m≤i)∧∀w,S w→wpAny P .any ops Q tail listed a w
 | fuel+1,listed,a=>(Region.ready .any ops listed≠ [])∧(∀i∈Region.ready .any ops listed,i<m)∧
   ∀i∈Region.ready .any ops listed,∀w,S w→wpOp P ops Q i (fun a' w'=>S w'∧wpAnyS P ops Q S m tail fuel (listed.setIfInBounds i true) a') a w
theorem zrR{m tail:Nat}:∀(fuel:Nat) (listed:Array Bool) (a:Act) (w:World),S w→wpAnyS P ops Q S m tail fuel listed a→
 wpAny P .any ops Q (fuel+tail) listed a w
 | 0,listed,a,w,hS,h=>by rw[Nat.zero_add];exact h.2 w hS
 | fuel+1,listed,a,w,hS,h=>by
   rw[show fuel+1+tail=(fuel+tail)+1 by omega];exact⟨fun h0=>absurd h0 h.1,fun i hi=>wpOp_mono (fun a' w' h'=>zrR fuel _ a' w' h'.1 h'.2) (h.2.2 i hi w hS)⟩
def zeX(ops:Array Oper)(m:Nat):Bool:=
 (List.range ops.size).all fun k=>decide (k<m)||(List.range m).all fun j=>match ops[k]? with
   | some o=>o.after.any (fun e=>Region.binds .any e&&e.on==j)
   | none=>true
theorem zeB{m:Nat}(h:zeX ops m=true){k j:Nat}{listed:Array Bool}(hk:k∈Region.ready .any ops listed)(hkm:m≤k)(hj:j<m) :
 listed.getD j false=true:=by
 obtain⟨_,o,ho,hall⟩:=mem_ready.1 hk;have hks:=(Array.getElem?_eq_some_iff.1 ho).1;simp only[zeX,List.all_eq_true,List.mem_range,Bool.or_eq_true,decide_eq_true_eq]at h;have h1:=(h k hks).resolve_left (by omega) j hj;simp only[ho]at h1;obtain⟨e,he,hb⟩:=Array.any_eq_true'.1 h1;simp only[Bool.and_eq_true,beq_iff_eq]at hb;have:=hall e he hb.1;rwa[hb.2]at this
theorem wpAnyS_first{m tail i:Nat}{oi:Oper}{v:Value}(hbar:zeX ops m=true)(him:i<m)(hi:ops[i]? = some oi)(hsel:∀(j:Nat) (o:Oper) cs b,ops[j]? = some o→o.op≠ .select cs b)
 (hQ:∀c a w,Q (.panic c) (a.put oi.dst v) w→Q (.panic c) a w) :
 ∀(fuel:Nat) (listed:Array Bool) (a:Act),
  (∀j oj,ops[j]? = some oj→j≠i→listed.getD j true=false→(∀e∈oj.after,Region.binds .any e=true→e.on≠i)→oi.apart ops oj=true)→
  i∈Region.ready .any ops listed→Steady P ops S oi v a→
  wpAnyS P ops Q S m tail fuel (listed.setIfInBounds i true) (a.put oi.dst v)→wpAnyS P ops Q S m tail (fuel+1) listed a:=by
 intro fuel;induction fuel with
 | zero=>
   intro listed a _ hr hy H
   have hlt:∀j∈Region.ready .any ops listed,j<m:=fun j hj=>by
    rcases Nat.lt_or_ge j m with h|h
    ·exact h
    ·have h1:=zeB hbar hj h him;have h0:=(mem_ready.1 hr).1;rcases Nat.lt_or_ge i listed.size with h'|h'
     ·simp[h']at h0 h1;rw[h0]at h1;cases h1
     ·simp[Array.getElem?_eq_none h']at h1
   refine⟨fun h=>(by rw[h]at hr;cases hr),hlt,fun j hj w hS=> ?_⟩;by_cases hji:j=i
   ·subst hji;exact hy.wpOp hi hS fun w' hS'=>⟨hS',H⟩
   ·have h1:=H.1 j (ready_mono hj hji);have h2:=hlt j hj;omega
 | succ fuel ih=>
   intro listed a hfree hr hy H
   have hlt:∀j∈Region.ready .any ops listed,j<m:=fun j hj=>by
    rcases Nat.lt_or_ge j m with h|h
    ·exact h
    ·have h1:=zeB hbar hj h him;have h0:=(mem_ready.1 hr).1;rcases Nat.lt_or_ge i listed.size with h'|h'
     ·simp[h']at h0 h1;rw[h0]at h1;cases h1
     ·simp[Array.getElem?_eq_none h']at h1
   refine⟨fun h=>(by rw[h]at hr;cases hr),hlt,fun j hj w hS=> ?_⟩;by_cases hji:j=i
   ·subst hji;exact hy.wpOp hi hS fun w' hS'=>⟨hS',H⟩
   ·have h1:=H.2.2 j (ready_mono hj hji) w hS;obtain⟨hjun,oj,hoj,hall⟩:=mem_ready.1 hj
    have hnot:∀e∈oj.after,Region.binds .any e=true→e.on≠i:=fun e he hb heq=>by
     have h1:=hall e he hb;have h0:=(mem_ready.1 hr).1;rw[heq]at h1;rcases Nat.lt_or_ge i listed.size with h'|h'
     ·simp[h']at h0 h1;rw[h0]at h1;cases h1
     ·simp[Array.getElem?_eq_none h']at h1
    have h2:=wpOp_putS hoj (hfree j oj hoj hji hjun hnot) (fun cs b=>hsel i oi cs b hi) (fun cs b=>hsel j oj cs b hoj) hQ hy h1
    have hfree':∀k ok,ops[k]? = some ok→k≠i→(listed.setIfInBounds j true).getD k true=false→
     (∀e∈ok.after,Region.binds .any e=true→e.on≠i)→oi.apart ops ok=true:=fun k ok hk hki hun hno=>by
     refine hfree k ok hk hki ?_ hno;by_cases hjk:j=k
     ·subst hjk;exact hjun
     ·rw[getD_set_ne true hjk]at hun;exact hun
    refine wpOp_mono (fun a' w' h3=>⟨h3.2.1,ih (listed.setIfInBounds j true) a' hfree' (ready_mono hr (Ne.symm hji)) h3.1 ?_⟩) h2;rw[Array.setIfInBounds_comm _ _ hji];exact h3.2.2
def zeD(P:Program)(Y:Array Value→Nat→Option Bool)(S:World→Prop)(F:Act→Prop):List Oper→Act→Prop
 | [],a=>F a
 | o::rest,a=>∃v,zuD P Y S o v a∧zeD P Y S F rest (a.put o.dst v)
def zjH(ops:Array Oper):Nat→Nat→Array Bool→Bool
 | _,0,_=>true
 | k,n+1,listed=>(Region.ready .any ops listed).contains k&&Region.free .any ops listed k&&zjH ops (k+1) n (listed.setIfInBounds k true)
def forced(ops:Array Oper):Nat→Nat→Array Bool→Bool
 | _,0,listed=>(Region.ready .any ops listed).isEmpty
 | k,n+1,listed=>(Region.ready .any ops listed == [k])&&forced ops (k+1) n (listed.setIfInBounds k true)
def zgG:Nat→Nat→Array Bool→Array Bool
 | _,0,l=>l
 | k,n+1,l=>zgG (k+1) n (l.setIfInBounds k true)
theorem zcC:∀(n k:Nat) (listed:Array Bool) (l:List Oper),l.length=n→(∀j,l[j]? = if j<n then ops[k+j]? else none)→k+n≤ops.size→
 forced ops k n listed=true→∀(a:Act) (w:World),wpList P ops Q l a w→wpAny P .any ops Q n listed a w
 | 0,k,listed,l,hl,hop,hsz,hf,a,w,h=>by
   have:l = []:=List.length_eq_zero_iff.1 hl;subst this;simp only[forced,List.isEmpty_iff]at hf;exact⟨hf,h⟩
 | n+1,k,listed,l,hl,hop,hsz,hf,a,w,h=>by
   cases l with
   | nil=>simp at hl
   | cons o rest=>
     simp only[forced,Bool.and_eq_true,beq_iff_eq]at hf;have ho:ops[k]? = some o:=by simpa using (hop 0).symm
     have hrest:=zcC n (k+1) (listed.setIfInBounds k true) rest (by simpa using hl)
      (fun j=>by
        have h1:=hop (j+1);simp only[lgs,Nat.add_lt_add_iff_right]at h1;rw[h1,show k+(j+1)=k+1+j by omega]) (by omega) hf.2
     refine⟨(fun h0=>by rw[hf.1]at h0;cases h0),fun i hi=> ?_⟩;rw[hf.1,List.mem_singleton]at hi;subst hi;unfold Go.wpOp;simp only[ho];unfold wpList at h;split
     ·rename_i hw
      rw[if_pos hw]at h;exact h.imp (Oper.wp_mono fun a' w'=>hrest a' w') id
     ·rename_i hw
      rw[if_neg hw]at h;exact hrest _ _ h
theorem zhF{m tail:Nat}(hbar:zeX ops m=true)(hsel:Region.noSelect ops=true)
 (hQ:∀c a d v w,Q (.panic c) (Act.put a d v) w→Q (.panic c) a w) (lt:List Oper) :
 ∀(n k:Nat) (listed:Array Bool) (l:List Oper),l.length=n→(∀j,l[j]? = if j<n then ops[k+j]? else none)→k+n=m→
 zjH ops k n listed=true→(∀i∈Region.ready .any ops (zgG k n listed),m≤i)→∀(a:Act),
 zeD P (yielded ops) S (fun a'=>∀w,S w→wpAny P .any ops Q tail (zgG k n listed) a' w) l a→wpAnyS P ops Q S m tail n listed a
 | 0,k,listed,l,hl,hop,hsz,hio,hend,a,h=>by
   have:l = []:=List.length_eq_zero_iff.1 hl;subst this;exact⟨hend,h⟩
 | n+1,k,listed,l,hl,hop,hsz,hio,hend,a,h=>by
   cases l with
   | nil=>simp at hl
   | cons o rest=>
     simp only[zjH,Bool.and_eq_true]at hio;have ho:ops[k]? = some o:=by simpa using (hop 0).symm
     obtain⟨v,hy,hrest⟩:=h;refine wpAnyS_first hbar (by omega) ho (Region.noSelect_spec hsel) (fun c a w=>hQ c a _ _ w) n listed a (Region.free_spec ho hio.1.2) (by simpa using hio.1.1) hy ?_
     exact zhF hbar hsel hQ lt n (k+1) _ rest (by simpa using hl)
      (fun j=>by
        have h1:=hop (j+1);simp only[lgs,Nat.add_lt_add_iff_right]at h1;rw[h1,show k+(j+1)=k+1+j by omega]) (by omega) hio.2 hend _ hrest
def zkF(ops:Array Oper)(m n:Nat):Bool:=
 Region.noSelect ops&&zeX ops m&&decide (m+n=ops.size)&&zjH ops 0 m (Array.replicate ops.size false) &&
  (Region.ready .any ops (zgG 0 m (Array.replicate ops.size false))).all (fun i=>decide (m≤i))&&forced ops m n (zgG 0 m (Array.replicate ops.size false))
theorem zfB{id:Nat}{a:Act}{w:World}(m n:Nat)(l t:List Oper)(S:World→Prop)(hm:P.follows .mixedOrders=true)(hops:ops.toList=l++t)(hl:l.length=m)(ht:t.length=n)
 (ho:zkF ops m n=true) (hQ:∀c a d v w,Q (.panic c) (Act.put a d v) w→Q (.panic c) a w) (hS:S w.drew)
 (h:zeD P (yielded ops) S (fun a'=>∀w',S w'→wpList P ops Q t a' w') l a):(Code.region id ops true).wp P Q a w:=by
 simp only[zkF,Bool.and_eq_true,decide_eq_true_eq,List.all_eq_true]at ho;obtain⟨⟨⟨⟨⟨hsel,hbar⟩,hsz⟩,hin⟩,hend⟩,hforce⟩:=ho;refine wp_region_any hm ?_
 have hop1:∀j,l[j]? = if j<m then ops[0+j]? else none:=fun j=>by
  have h1:ops[j]? = (l++t)[j]? :=by rw[←hops];simp
  rw[Nat.zero_add,h1];split
  ·rw[List.getElem?_append_left (by omega)]
  ·rw[List.getElem?_eq_none (by omega)]
 have hop2:∀j,t[j]? = if j<n then ops[m+j]? else none:=fun j=>by
  have h1:ops[m+j]? = (l++t)[m+j]? :=by rw[←hops];simp
  rw[h1];split
  ·rw[List.getElem?_append_right (by omega),hl,Nat.add_sub_cancel_left]
  ·rw[List.getElem?_eq_none (by omega)]
 have hmono:∀(l:List Oper) (a:Act),zeD P (yielded ops) S (fun a'=>∀w',S w'→wpList P ops Q t a' w') l a→
  zeD P (yielded ops) S (fun a'=>∀w',S w'→wpAny P .any ops Q n (zgG 0 m (Array.replicate ops.size false)) a' w') l a:=by
  intro l;induction l with
  | nil=>exact fun a h w' hS'=>zcC n m _ t ht hop2 (by omega) hforce a w' (h w' hS')
  | cons o rest ih=>rintro a ⟨v,hy,hr⟩;exact⟨v,hy,ih _ hr⟩
 have h1:=zhF (tail:=n) hbar hsel hQ t m 0 _ l hl hop1 (by omega) hin hend a (hmono l a h);have h2:=zrR m _ a _ hS h1;rwa[hsz]at h2
def Shut'(p:Prop):Prop:=p
theorem Shut'.out{p:Prop}(h:Shut' p):p:=h
def OnlyK(K:Act→World→Prop):Exit→Act→World→Prop
 | .normal,a,w=>K a w
 | _,_,_=>False
theorem OnlyK.mk{K:Act→World→Prop}{a:Act}{w:World}(h:K a w):OnlyK K .normal a w:=h
theorem OnlyK.imp{K:Act→World→Prop}(hK:∀a w,K a w→Q .normal a w):∀(e:Exit) (a:Act) (w:World),OnlyK K e a w→Q e a w:=fun e a w h=>by
 cases e<;>first|exact hK _ _ h|exact(h:False).elim
theorem zfG{id:Nat}{a:Act}{w:World}(m n:Nat)(l t:List Oper)(S:World→Prop)(hm:P.follows .mixedOrders=true)(hops:ops.toList=l++t)(hl:l.length=m)(ht:t.length=n)
 (ho:zkF ops m n=true) (hS:S w.drew)
 (h:∀(Y:Array Value→Nat→Option Bool) (F:Act→Prop),(∀t,Y t=yielded ops t)→
   Shut' (∀a',(∀(K:Act→World→Prop) w',Shut' (∀a w,Q .normal a w→K a w)→S w'→wpList P ops (OnlyK K) t a' w')→F a')→zeD P Y S F l a):(Code.region id ops true).wp P Q a w:=
 Code.wp_mono (OnlyK.imp (fun _ _ h=>h)) (zfB m n l t S hm hops hl ht ho (fun _ _ _ _ _ h=>h) hS
  (h _ _ (fun _=>rfl) (fun _ h w' hS'=>h (fun a w=>Q .normal a w) w' (fun _ _ h=>h) hS')))
theorem zjU{id:Nat}{a:Act}{w:World}(m:Nat)(S:World→Prop)(hm:P.follows .mixedOrders=true)(hsz:ops.toList.length=m)
 (ho:zkF ops m 0=true) (hS:S w.drew)
 (h:∀(Y:Array Value→Nat→Option Bool) (F:Act→Prop),(∀t,Y t=yielded ops t)→
   Shut' (∀a',(∀w',S w'→Q .normal a' w')→F a')→zeD P Y S F ops.toList a):(Code.region id ops true).wp P Q a w:=
 Code.wp_mono (OnlyK.imp (fun _ _ h=>h)) (zfB m 0 ops.toList [] S hm (by simp) hsz rfl ho (fun _ _ _ _ _ h=>h) hS (h _ _ (fun _=>rfl) (fun _ h=>h)))
theorem zbV{Y:Array Value→Nat→Option Bool}{F:Act→Prop}{o:Oper}{rest:List Oper}{a:Act}{v:Value}(hw:Region.wanted o (Y a.tmps)=true)
 (h:∀w,S w→(execOp a.eval o).run P w = .ok (.value v) w) (h2:zeD P Y S F rest (a.put o.dst v)):zeD P Y S F (o::rest) a:=
 ⟨v,.inl ⟨hw,fun w hS=>by rw[h w hS];exact⟨rfl,hS⟩⟩,h2⟩
theorem zgT{Y:Array Value→Nat→Option Bool}{F:Act→Prop}{o:Oper}{rest:List Oper}{a:Act}{v:Value}{f:FuncId}{args:Array Value}(hw:Region.wanted o (Y a.tmps)=true)
 (hr:∀w,S w→(execOp a.eval o).run P w = .ok (.enter f args) w)
 (h:∀w,S w→Calls P f args w fun e w'=>e = .returned v∧S w') (h2:zeD P Y S F rest (a.put o.dst v)):zeD P Y S F (o::rest) a:=
 ⟨v,.inl ⟨hw,fun w hS=>by rw[hr w hS];exact h w hS⟩,h2⟩
end
theorem zdV{P:Program}{ops:Array Oper}{Q:Exit→Act→World→Prop}{o:Oper}{rest:List Oper}{a:Act}{w w':World}{v:Value}(hg:o.guard=none)
 (hr:(execOp a.eval o).run P w = .ok (.value v) w') (h:wpList P ops Q rest (a.put o.dst v) w'):wpList P ops Q (o::rest) a w:=
 wpList_plain hg fun K hK=>by unfold Oper.wp;rw[hr];exact hK _ _ h
theorem zaB{P:Program}{ops:Array Oper}{Q:Exit→Act→World→Prop}{o:Oper}{rest:List Oper}{a:Act}{w:World}(T:TypeId)(Z:Array Value)
 (hal:∀w,(Instr.alloc T true (.tuple #[])).run P w = .ok (.pointer (some ⟨w.heap.size,0,none⟩)) (w.alloc (.cells Z T)))
 (hg:o.guard=none) (ho:o.op = .alloc T) (h:wpList P ops Q rest (a.put o.dst (.pointer (some ⟨w.heap.size,0,none⟩))) (w.alloc (.cells Z T))):wpList P ops Q (o::rest) a w:=
 zdV hg (by simp[execOp,ho,hal]) h
@[go_sem] theorem zaU (w:World) (b i c j:Nat) (v:Value) (h:¬b=c):(w.setCell ⟨b,i,none⟩ v).cell? ⟨c,j,none⟩=w.cell? ⟨c,j,none⟩:=
  World.cell?_setCell_other w ⟨b,i,none⟩ ⟨c,j,none⟩ v (fun e=>h (by cases e;rfl))
open Go.RowKit in
theorem bcell{W w1:World}(hb:Below W.heap.size W w1):(∀b o,b<W.heap.size→w1.cell? ⟨b,o,none⟩=W.cell? ⟨b,o,none⟩)∧(∀b o,b<W.heap.size→w1.frozen? ⟨b,o,none⟩=W.frozen? ⟨b,o,none⟩):=
 ⟨fun b o h=>hb.cell (p:=⟨b,o,none⟩) h,fun b o h=>hb.frozen (p:=⟨b,o,none⟩) h⟩
open Go.RowKit in
theorem zcW{B b:Nat}(hb:B≤b):∀(vs:List Value) (o:Nat) (w:World),Below B w (w.setCells b o vs)
 | [],_,w=>Below.refl _ _
 | v::vs,o,w=>((Below.refl B w).setCell (p:=⟨b,o,none⟩) hb v).trans (zcW hb vs (o+1) _)
def Cells(w:World):List (Addr×Value)→Prop
 | []=>True
 | (a,v)::l=>w.cell? a=some v∧Cells w l
open Go.RowKit in
theorem Cells.step{w1 w2:World}(hb:Below w1.heap.size w1 w2):∀{l:List (Addr×Value)},Cells w1 l→Cells w2 l
 | [],h=>h
 | (a,v)::l,⟨h1,h2⟩=>⟨by rw[hb.cell (block_lt_of_cell h1)];exact h1,Cells.step hb h2⟩
open Go.RowKit in
def Keeps(W:World)(l:List (Addr×Value))(w:World):Prop:=Below W.heap.size W w∧Cells w l
open Go.RowKit in
theorem Keeps.step{W w1 w2:World}{l:List (Addr×Value)}(h:Keeps W l w1)(hb:Below w1.heap.size w1 w2):Keeps W l w2:=
 ⟨h.1.trans (hb.mono h.1.size),h.2.step hb⟩
open Go.RowKit in
theorem Keeps.start{W:World}{l:List (Addr×Value)}(h:Cells W l):Keeps W l W.drew:=
 ⟨(Below.refl _ _).drew,h.step (Below.refl _ _).drew⟩
end Go.Proofs.YtahaacfikalheaaGreat
set_option maxRecDepth 100000
namespace Go.Proofs.YtahaacfikalheaaGreat
structure S15.E where
 low:Nat
 width:Nat
 out:List Nat
structure S15.D where
 width:Nat
 code:Nat
 inp:List Nat
def S15.bound(w p:Nat):Nat:=w/4096*p
def S15.bump(l:List Nat):Nat→List Nat
 | 0=>l
 | n+1=>if l.getD n 0=255 then S15.bump (l.set n 0) n else l.set n (l.getD n 0+1)
def S15.norm:Nat→S15.E→S15.E
 | 0,e=>e
 | f+1,e=>if e.width<16777216 then S15.norm f ⟨e.low*256%4294967296,e.width*256,e.out ++ [e.low/16777216]⟩else e
def S15.off(w b p:Nat):Nat:=if b=1 then 0 else S15.bound w p
def S15.wid(w b p:Nat):Nat:=if b=1 then S15.bound w p else w-S15.bound w p
def S15.enc0(e:S15.E)(b p:Nat):S15.E:=
 ⟨(e.low+S15.off e.width b p)%4294967296,S15.wid e.width b p,if 4294967296≤e.low+S15.off e.width b p then S15.bump e.out e.out.length else e.out⟩
def S15.enc1(e:S15.E)(b p:Nat):S15.E:=S15.norm 4 (S15.enc0 e b p)
def S15.trimN(l:List Nat):Nat→List Nat
 | 0=>[]
 | n+1=>if l.getD n 0=0 then S15.trimN l n else l.take (n+1)
def S15.fin0(e:S15.E):List Nat:=if e.low=0 then e.out else if 4294967296<e.low+e.width then S15.bump e.out e.out.length else e.out ++ [(e.low+16777215)/16777216]
def S15.fin(e:S15.E):List Nat:=S15.trimN (S15.fin0 e) (S15.fin0 e).length
def S15.normD:Nat→S15.D→S15.D
 | 0,d=>d
 | f+1,d=>if d.width<16777216 then S15.normD f ⟨d.width*256,d.code*256%4294967296+d.inp.headD 0,d.inp.drop 1⟩else d
def S15.bitD(d:S15.D)(p:Nat):Nat:=if d.code<S15.bound d.width p then 1 else 0
def S15.dec1(d:S15.D)(p:Nat):S15.D:=S15.normD 4 ⟨S15.wid d.width (S15.bitD d p) p,d.code-S15.off d.width (S15.bitD d p) p,d.inp⟩
def S15.shift(d:S15.D):S15.D:=⟨d.width,d.code*256%4294967296+d.inp.headD 0,d.inp.drop 1⟩
def S15.opn(c:List Nat):S15.D:=S15.shift (S15.shift (S15.shift (S15.shift ⟨4294967295,0,c⟩)))
def S15.E0:S15.E:=⟨0,4294967295,[]⟩
def S15.encR(P:List Nat→Nat):List Nat→S15.E→List Nat→S15.E
 | _,e,[]=>e
 | h,e,b::bs=>S15.encR P (h ++ [b]) (S15.enc1 e b (P h)) bs
def S15.decR(P:List Nat→Nat):List Nat→S15.D→Nat→List Nat
 | _,_,0=>[]
 | h,d,n+1=>S15.bitD d (P h)::S15.decR P (h ++ [S15.bitD d (P h)]) (S15.dec1 d (P h)) n
def S15.pos(c:List Nat):Nat→Nat
 | 0=>0
 | n+1=>S15.pos c n*256+c.getD n 0
def S15.By(c:List Nat):Prop:=∀x∈c,x<256
theorem zeJ{c:List Nat}(h:S15.By c)(n:Nat):c.getD n 0<256:=by
 rw[zI];by_cases hn:n<c.length
 ·rw[zE hn];exact h _ (zbC hn)
 ·rw[yP (by omega)];decide
theorem zhS{c d:List Nat}:∀{n:Nat},(∀i,i<n→c.getD i 0=d.getD i 0)→S15.pos c n=S15.pos d n
 | 0,_=>rfl
 | n+1,h=>by rw[S15.pos,S15.pos,zhS (n:=n) (fun i hi=>h i (by omega)),h n (by omega)]
theorem zpE(c:List Nat):∀j,S15.pos c (c.length+j)=S15.pos c c.length*256^j
 | 0=>by rw[zcL,zaO];rfl
 | j+1=>by
   rw[←zbR,S15.pos,zpE c j,zI,yP (by omega),Option.getD_none,zgA,zcI,zaZ]
theorem zoE{c:List Nat}(h:S15.By c)(n:Nat):∀j,S15.pos c n*256^j≤S15.pos c (n+j)∧S15.pos c (n+j)<(S15.pos c n+1)*256^j
 | 0=>by rw[zcL,zaO,zaO];exact⟨zD _,Nat.lt_succ_self _⟩
 | j+1=>by
   have ih:=zoE h n j;have hb:=zeJ h (n+j);rw[←zbR,S15.pos,zcI,←zaZ,←zaZ];omega
theorem pos_set{x:Nat}:∀{c:List Nat} {i n:Nat},i<c.length→S15.pos (c.set i x) (i+1+n)+c.getD i 0*256^n=S15.pos c (i+1+n)+x*256^n
 | c,i,0,hi=>by
   rw[zgA,S15.pos,S15.pos,zhS (c:=c.set i x) (d:=c) (fun j hj=>by rw[zI,zI,List.getElem?_set_ne (by omega)]),zI (l:=c.set i x),List.getElem?_set_self hi];simp only[zeK,zcL,zaO];omega
 | c,i,n+1,hi=>by
   have ih:=pos_set (x:=x) (c:=c) (i:=i) (n:=n) hi;rw[←zbR,S15.pos,S15.pos,zI (l:=c.set i x),List.getElem?_set_ne (by omega),←zI,zcI,←zaZ,←zaZ];omega
theorem zeW(n:Nat):∀l:List Nat,(S15.bump l n).length=l.length:=by
 induction n with
 | zero=>intro l;rfl
 | succ n ih=>
   intro l;rw[S15.bump];split
   ·rw[ih,yT]
   ·rw[yT]
theorem By_set{c:List Nat}(h:S15.By c)(i:Nat){x:Nat}(hx:x<256):S15.By (c.set i x):=fun y hy=>by
 rcases List.mem_or_eq_of_mem_set hy with h1|h1
 ·exact h y h1
 ·omega
theorem bump_by(n:Nat):∀{l:List Nat},S15.By l→S15.By (S15.bump l n):=by
 induction n with
 | zero=>intro l h;exact h
 | succ n ih=>
   intro l h;rw[S15.bump];split
   ·exact ih (By_set h n (by omega))
   ·have:=zeJ h n;exact By_set h n (by omega)
theorem pos_lt{c:List Nat}(h:S15.By c)(n:Nat):S15.pos c n<256^n:=by
 have:=(zoE h 0 n).2;simpa[S15.pos] using this
theorem ztZ(n:Nat):∀{l:List Nat} {j:Nat},S15.By l→n+j=l.length→S15.pos l n+1<256^n→S15.pos (S15.bump l n) l.length=S15.pos l l.length+256^j:=by
 induction n with
 | zero=>intro l j _ _ h;simp[S15.pos]at h
 | succ n ih=>
   intro l j h hl hp;have hn:n<l.length:=by omega
   have hs:=pos_set (x:=0) (c:=l) (i:=n) (n:=j) hn;rw[hl]at hs;rw[S15.bump];split
   ·rename_i h5
    rw[h5]at hs;have hc:S15.pos (l.set n 0) n=S15.pos l n:=zhS (fun i hi=>by rw[zI,zI,List.getElem?_set_ne (by omega)])
    have h2:=ih (l:=l.set n 0) (j:=j+1) (By_set h n (by omega)) (by rw[yT];omega) (by
     rw[hc];rw[S15.pos,h5,zcI]at hp;omega)
    rw[yT]at h2;rw[h2,zcI];omega
   ·have hs2:=pos_set (x:=l.getD n 0+1) (c:=l) (i:=n) (n:=j) hn;rw[hl,Nat.add_mul]at hs2;omega
def S15.T(e:S15.E):Nat:=S15.pos e.out e.out.length*4294967296+e.low
structure S15.Ok(e:S15.E):Prop where
 low:e.low<4294967296
 by_:S15.By e.out
 w1:1≤e.width
 wt:e.width<4294967296
 top:S15.T e+e.width≤4294967296*256^e.out.length
theorem zmP:S15.Ok S15.E0:=⟨by decide,(fun x hx=>(by cases hx)),by decide,by decide,by decide⟩
structure S15.Mv(e e':S15.E)(k v j:Nat):Prop where
 len:e'.out.length=e.out.length+j
 t:S15.T e'=(S15.T e+k)*256^j
 w:e'.width=v*256^j
theorem pos_snoc(l:List Nat)(x:Nat):S15.pos (l ++ [x]) (l.length+1)=S15.pos l l.length*256+x:=by
 rw[S15.pos,zhS (c:=l ++ [x]) (d:=l) (fun i hi=>by rw[zI,zI,zaN hi])];simp
def S15.sh(e:S15.E):S15.E:=⟨e.low*256%4294967296,e.width*256,e.out ++ [e.low/16777216]⟩
theorem S15.norm_succ(f:Nat)(e:S15.E):S15.norm (f+1) e=if e.width<16777216 then S15.norm f (S15.sh e)else e:=rfl
theorem sh_len(e:S15.E):(S15.sh e).out.length=e.out.length+1:=by unfold S15.sh;simp
theorem sh_T(e:S15.E)(h:e.low<4294967296):S15.T (S15.sh e)=S15.T e*256:=by
 have e1:S15.T (S15.sh e)=S15.pos (e.out ++ [e.low/16777216]) (e.out.length+1)*4294967296+e.low*256%4294967296:=by
  unfold S15.T;rw[sh_len];rfl
 rw[e1,pos_snoc];unfold S15.T;omega
theorem sh_ok{e:S15.E}(h:S15.Ok e)(hw:e.width<16777216):S15.Ok (S15.sh e):=by
 have h1:=h.low;have h2:=h.w1;have h5:=h.top;have hW:(S15.sh e).width=e.width*256:=rfl;refine⟨Nat.mod_lt _ (by decide),fun x hx=> ?_,?_,?_,?_⟩
 ·rcases List.mem_append.1 hx with h3|h3
  ·exact h.by_ x h3
  ·rw[List.mem_singleton.1 h3];omega
 ·rw[hW];omega
 ·rw[hW];omega
 ·rw[sh_T e h1,hW,sh_len,zcI];generalize 256^e.out.length=Z at *;omega
theorem norm_mv:∀(f:Nat) {e:S15.E},S15.Ok e→∃j,S15.Mv e (S15.norm f e) 0 e.width j∧S15.Ok (S15.norm f e)∧j≤f∧(16777216≤e.width*256^f→16777216≤(S15.norm f e).width)
 | 0,e,h=>⟨0,⟨rfl,by rw[zcL,zaO,zgA,S15.norm],by rw[zcL,zaO,S15.norm]⟩,h,zD _,fun h=>by rw[zcL,zaO]at h;exact h⟩
 | f+1,e,h=>by
   rw[S15.norm_succ];split
   ·rename_i hw
    obtain⟨j,hm,ho,hj,hw2⟩:=norm_mv f (sh_ok h hw);have hW:(S15.sh e).width=e.width*256:=rfl;rw[hW,zaZ,zdL 256,←zcI]at hw2;refine⟨j+1,⟨?_,?_,?_⟩,ho,by omega,hw2⟩
    ·rw[hm.len,sh_len];omega
    ·rw[hm.t,sh_T e h.low,zgA,zgA,zcI,zaZ,zdL 256]
    ·rw[hm.w,hW,zcI,zaZ,zdL 256]
   ·rename_i hw
    exact⟨0,⟨rfl,by rw[zcL,zaO,zgA],by rw[zcL,zaO]⟩,h,zcA _,fun _=>by omega⟩
theorem zuA{w p:Nat}(hw:16777216≤w)(hp:1≤p∧p≤4095):1≤S15.bound w p∧S15.bound w p<w:=by
 unfold S15.bound;have h1:w/4096*p≤w/4096*4095:=Nat.mul_le_mul_left _ hp.2;have h2:w/4096*1≤w/4096*p:=Nat.mul_le_mul_left _ hp.1;omega
theorem zjX{w b p:Nat}(hw:16777216≤w)(hp:1≤p∧p≤4095):1≤S15.wid w b p∧S15.off w b p+S15.wid w b p≤w:=by
 have:=zuA hw hp;unfold S15.wid S15.off;split<;>omega
theorem zkO(e:S15.E)(b p:Nat):(S15.enc0 e b p).out.length=e.out.length:=by
 show(if _ then _ else _:List Nat).length=_;split
 ·exact zeW _ _
 ·rfl
theorem enc0_T{e:S15.E}(h:S15.Ok e)(b p:Nat)(ho:S15.off e.width b p<e.width):S15.T (S15.enc0 e b p)=S15.T e+S15.off e.width b p:=by
 have e1:S15.T (S15.enc0 e b p)=S15.pos (if 4294967296≤e.low+S15.off e.width b p then S15.bump e.out e.out.length else e.out) e.out.length*4294967296+(e.low+S15.off e.width b p)%4294967296:=by
  unfold S15.T;rw[zkO];rfl
 have h1:=h.low;have h5:=h.top;have h6:=h.wt;have hlt:=pos_lt h.by_ e.out.length;rw[e1];generalize S15.off e.width b p=o at *;unfold S15.T at h5⊢;split
 ·rename_i hc
  rw[ztZ e.out.length (j:=0) h.by_ rfl (by
   generalize 256^e.out.length=Z at *;omega),zcL]
  omega
 ·omega
theorem enc0_mv{e:S15.E}(h:S15.Ok e)(hw:16777216≤e.width){b p:Nat}(hp:1≤p∧p≤4095):S15.Mv e (S15.enc0 e b p) (S15.off e.width b p) (S15.wid e.width b p) 0∧S15.Ok (S15.enc0 e b p):=by
 have hd:=zjX (b:=b) hw hp;have hT:=enc0_T h b p (by omega);have h6:=h.wt;refine⟨⟨zkO e b p,by rw[hT,zcL,zaO],by rw[zcL,zaO];rfl⟩,Nat.mod_lt _ (by decide),?_,hd.1,?_,?_⟩
 ·show S15.By (if _ then _ else _);split
  ·exact bump_by _ h.by_
  ·exact h.by_
 ·show S15.wid e.width b p<_;omega
 ·rw[hT,zkO];have h5:=h.top;show _+S15.wid e.width b p≤_;generalize 256^e.out.length=Z at *;omega
theorem zhY{e:S15.E}(h:S15.Ok e)(hw:16777216≤e.width){b p:Nat}(hp:1≤p∧p≤4095) :
 ∃j,S15.Mv e (S15.enc1 e b p) (S15.off e.width b p) (S15.wid e.width b p) j∧S15.Ok (S15.enc1 e b p)∧j≤4∧16777216≤(S15.enc1 e b p).width:=by
 obtain⟨m0,k0⟩:=enc0_mv h hw (b:=b) hp;obtain⟨j,m1,k1,hj,h4⟩:=norm_mv 4 k0;refine⟨j,⟨?_,?_,?_⟩,k1,hj,h4 ?_⟩
 ·exact m1.len.trans (by rw[m0.len,zgA])
 ·exact m1.t.trans (by rw[m0.t,zcL,zaO,zgA])
 ·exact m1.w.trans (by rw[m0.w,zcL,zaO])
 ·have:=k0.w1;have e4:256^4=4294967296:=by decide
  rw[e4];omega
def S15.In(e:S15.E)(c:List Nat):Prop:=S15.T e≤S15.pos c (e.out.length+4)∧S15.pos c (e.out.length+4)<S15.T e+e.width
theorem in_back{e e':S15.E}{k v j:Nat}{c:List Nat}(hm:S15.Mv e e' k v j)(hc:S15.By c)(h:S15.In e' c):S15.T e+k≤S15.pos c (e.out.length+4)∧S15.pos c (e.out.length+4)<S15.T e+k+v:=by
 obtain⟨h1,h2⟩:=h;have hp:=zoE hc (e.out.length+4) j;rw[hm.t,hm.len,show e.out.length+j+4=e.out.length+4+j by omega]at h1 h2;rw[hm.w,←Nat.add_mul]at h2;have hpos:0<256^j:=Nat.pow_pos (by decide);have a1:=Nat.lt_of_mul_lt_mul_right (Nat.lt_of_le_of_lt h1 hp.2);have a2:=Nat.lt_of_mul_lt_mul_right (Nat.lt_of_le_of_lt hp.1 h2);omega
theorem in_fore{e e':S15.E}{k v j:Nat}{c:List Nat}(hm:S15.Mv e e' k v j)(hc:S15.By c)(h1:S15.T e+k≤S15.pos c (e.out.length+4))(h2:S15.pos c (e.out.length+4)<S15.T e+k+v):S15.In e' c:=by
 have hp:=zoE hc (e.out.length+4) j;unfold S15.In;rw[hm.t,hm.len,hm.w,show e.out.length+j+4=e.out.length+4+j by omega,←Nat.add_mul];exact⟨yC (yW _ h1) hp.1,zaF hp.2 (yW _ h2)⟩
structure S15.Dm(d:S15.D)(e:S15.E)(c:List Nat):Prop where
 w:d.width=e.width
 v:S15.T e+d.code=S15.pos c (e.out.length+4)
 i:d.inp=c.drop (e.out.length+4)
theorem zsG(c:List Nat)(n:Nat):(c.drop n).headD 0=c.getD n 0:=by
 rw[List.headD_eq_head?_getD,List.head?_drop,zI]
theorem normD_dm:∀(f:Nat) {d:S15.D} {e:S15.E} {c:List Nat},S15.By c→S15.Dm d e c→S15.Ok e→d.code<d.width→S15.Dm (S15.normD f d) (S15.norm f e) c∧(S15.normD f d).code<(S15.normD f d).width
 | 0,d,e,c,_,h,_,hl=>⟨h,hl⟩
 | f+1,d,e,c,hB,h,ho,hlt=>by
   have hw:=h.w;rw[S15.norm_succ,S15.normD];by_cases hs:e.width<16777216
   ·rw[zO hs,zO (by omega)];have hc:=h.v;have hi:=h.i;have hb:=zeJ hB (e.out.length+4);have hh:d.inp.headD 0=c.getD (e.out.length+4) 0:=by rw[hi,zsG]
    have hm:d.code*256%4294967296=d.code*256:=zcT (by omega);refine normD_dm f hB (d:=⟨d.width*256,d.code*256%4294967296+d.inp.headD 0,d.inp.drop 1⟩) ⟨?_,?_,?_⟩ (sh_ok ho hs) ?_
    ·show d.width*256=e.width*256;rw[hw]
    ·show S15.T (S15.sh e)+(d.code*256%4294967296+d.inp.headD 0)=_;rw[sh_T e ho.low,hh,hm,sh_len,show e.out.length+1+4=e.out.length+4+1 by omega,S15.pos,←hc];omega
    ·show d.inp.drop 1=c.drop ((S15.sh e).out.length+4);rw[hi,List.drop_drop,sh_len]
    ·show d.code*256%4294967296+d.inp.headD 0<d.width*256;rw[hh,hm];omega
   ·rw[zG hs,zG (by omega)];exact⟨h,hlt⟩
theorem step_dm{d:S15.D}{e:S15.E}{c:List Nat}{b p:Nat}(hB:S15.By c)(h:S15.Dm d e c)(ho:S15.Ok e)(hw:16777216≤e.width)(hp:1≤p∧p≤4095)(hb:b=0∨b=1)
 (h1:S15.T e+S15.off e.width b p≤S15.pos c (e.out.length+4)) (h2:S15.pos c (e.out.length+4)<S15.T e+S15.off e.width b p+S15.wid e.width b p) :
 S15.bitD d p=b∧S15.Dm (S15.dec1 d p) (S15.enc1 e b p) c∧S15.In (S15.enc1 e b p) c:=by
 have hc:=h.v;have hW:=h.w;have hbd:=zuA hw hp;have hbit:S15.bitD d p=b:=by
  unfold S15.bitD;rw[hW];rcases hb with rfl|rfl
  ·unfold S15.off at h1;rw[zG (by decide)]at h1;rw[zG (by omega)]
  ·unfold S15.off S15.wid at h2;rw[zO rfl,zO rfl]at h2;rw[zO (by omega)]
 obtain⟨m0,k0⟩:=enc0_mv ho hw (b:=b) hp;obtain⟨j,m1,k1,hj,h4⟩:=zhY ho hw (b:=b) hp;refine⟨hbit,?_,in_fore m1 hB h1 h2⟩;unfold S15.dec1 S15.enc1;rw[hbit];refine(normD_dm 4 hB ⟨?_,?_,?_⟩ k0 ?_).1
 ·show S15.wid d.width b p=S15.wid e.width b p;rw[hW]
 ·show S15.T (S15.enc0 e b p)+(d.code-S15.off d.width b p)=_;rw[enc0_T ho b p (by have:=zjX (b:=b) hw hp;omega),zkO,hW,←hc];omega
 ·show d.inp=_;rw[zkO];exact h.i
 ·show d.code-S15.off d.width b p<S15.wid d.width b p;rw[hW];have:=zjX (b:=b) hw hp;omega
theorem opn_dm(c:List Nat)(hB:S15.By c):S15.Dm (S15.opn c) S15.E0 c:=by
 have b0:=zeJ hB 0;have b1:=zeJ hB 1;have b2:=zeJ hB 2;have b3:=zeJ hB 3;have hd:∀n,(c.drop n).headD 0=c.getD n 0:=zsG c;refine⟨rfl,?_,?_⟩
 ·show 0+(S15.opn c).code=S15.pos c 4;unfold S15.opn S15.shift;simp only[List.drop_drop,hd];have h0:c.headD 0=c.getD 0 0:=hd 0;rw[h0];show _=(((0*256+c.getD 0 0)*256+c.getD 1 0)*256+c.getD 2 0)*256+c.getD 3 0;simp only[show 1+1=2 from rfl,show 2+1=3 from rfl];omega
 ·show(S15.opn c).inp=c.drop 4;unfold S15.opn S15.shift;simp only[List.drop_drop]
def S15.Pr(P:List Nat→Nat):Prop:=∀h,1≤P h∧P h≤4095
theorem zjJ{P:List Nat→Nat}(hP:S15.Pr P):∀(bs:List Nat) (h:List Nat) (e:S15.E),S15.Ok e→16777216≤e.width→S15.Ok (S15.encR P h e bs)∧16777216≤(S15.encR P h e bs).width
 | [],_,e,h1,h2=>⟨h1,h2⟩
 | b::bs,h,e,h1,h2=>by
   obtain⟨j,m,k,_,hw⟩:=zhY h1 h2 (b:=b) (hP h);exact zjJ hP bs _ _ k hw
theorem ztT(P:List Nat→Nat):∀(n:Nat) (h:List Nat) (d:S15.D),(S15.decR P h d n).length=n
 | 0,_,_=>rfl
 | n+1,h,d=>by rw[S15.decR,yO,ztT P n]
theorem ziM(P:List Nat→Nat):∀(n:Nat) (h:List Nat) (d:S15.D),∀b∈S15.decR P h d n,b=0∨b=1
 | 0,_,_,b,hb=>by cases hb
 | n+1,h,d,b,hb=>by
   rw[S15.decR]at hb;rcases List.mem_cons.1 hb with rfl|hb
   ·unfold S15.bitD;split
    ·exact .inr rfl
    ·exact .inl rfl
   ·exact ziM P n _ _ b hb
theorem return_main{P:List Nat→Nat}(hP:S15.Pr P){c:List Nat}(hB:S15.By c):∀(bs:List Nat) (h:List Nat) (e:S15.E) (d:S15.D),(∀b∈bs,b=0∨b=1)→S15.Ok e→16777216≤e.width→S15.Dm d e c→S15.In (S15.encR P h e bs) c→S15.In e c∧S15.decR P h d bs.length=bs:=by
 intro bs;induction bs with
 | nil=>intro _ _ _ _ _ _ _ hi;exact⟨hi,rfl⟩
 | cons b bs ih=>
   intro h e d hb ho hw hd hi;obtain⟨j,m,k,_,hw1⟩:=zhY ho hw (b:=b) (hP h);have hb0:=hb b List.mem_cons_self;have hI:S15.In (S15.enc1 e b (P h)) c:=by
    have hx:∀(bs:List Nat) (h:List Nat) (e:S15.E),S15.Ok e→16777216≤e.width→S15.In (S15.encR P h e bs) c→S15.In e c:=by
     intro bs;induction bs with
     | nil=>intro _ _ _ _ hi;exact hi
     | cons b bs ih2=>
       intro h e ho hw hi;obtain⟨j,m,k,_,hw1⟩:=zhY ho hw (b:=b) (hP h);have:=in_back m hB (ih2 _ _ k hw1 hi);have hwd:=zjX (b:=b) hw (hP h);exact⟨by omega,by omega⟩
    exact hx bs _ _ k hw1 hi
   obtain⟨q1,q2⟩:=in_back m hB hI;obtain⟨s1,s2,s3⟩:=step_dm hB hd ho hw (hP h) hb0 q1 q2;have hwd:=zjX (b:=b) hw (hP h);refine⟨⟨by omega,by omega⟩,?_⟩;rw[yO,S15.decR,s1];rw[(ih (h ++ [b]) _ _ (fun x hx=>hb x (List.mem_cons_of_mem _ hx)) k hw1 s2 hi).2]
theorem total_main{P:List Nat→Nat}(hP:S15.Pr P){c:List Nat}(hB:S15.By c):∀(n:Nat) (h:List Nat) (e:S15.E) (d:S15.D),S15.Ok e→16777216≤e.width→S15.Dm d e c→S15.In e c→S15.In (S15.encR P h e (S15.decR P h d n)) c:=by
 intro n;induction n with
 | zero=>intro _ _ _ _ _ _ hi;exact hi
 | succ n ih=>
   intro h e d ho hw hd hi;have hc:=hd.v;have hW:=hd.w;have hbd:=zuA hw (hP h);obtain⟨b,hb⟩:∃b,S15.bitD d (P h)=b:=⟨_,rfl⟩;rw[S15.decR,hb];have hb2:b=0∨b=1:=by rw[←hb];unfold S15.bitD;split<;>simp
   obtain⟨hi1,hi2⟩:=hi;have q:S15.T e+S15.off e.width b (P h)≤S15.pos c (e.out.length+4)∧S15.pos c (e.out.length+4)<S15.T e+S15.off e.width b (P h)+S15.wid e.width b (P h):=by
    unfold S15.bitD at hb;unfold S15.off S15.wid;rw[hW]at hb;split at hb
    ·subst hb;rw[zO rfl,zO rfl];omega
    ·subst hb;rw[zG (by decide),zG (by decide)];omega
   obtain⟨s1,s2,s3⟩:=step_dm hB hd ho hw (hP h) hb2 q.1 q.2;obtain⟨j,m,k,_,hw1⟩:=zhY ho hw (b:=b) (hP h);exact ih _ _ _ k hw1 s2 s3
theorem trimN_get(l:List Nat):∀(n:Nat),n≤l.length→(∀i,n≤i→l.getD i 0=0)→∀i,(S15.trimN l n).getD i 0=l.getD i 0
 | 0,_,h,i=>by rw[S15.trimN,h i (zcA _)];rfl
 | n+1,hn,h,i=>by
   rw[S15.trimN];split
   ·rename_i h0
    exact trimN_get l n (by omega) (fun i hi=>by
     by_cases h2:i=n
     ·rw[h2];exact h0
     ·exact h i (by omega)) i
   ·by_cases hi:i<n+1
    ·rw[zI,List.getElem?_take_of_lt hi,←zI]
    ·rw[h i (by omega),zI,yP (by rw[yJ];omega)];rfl
theorem trim_get(l:List Nat)(i:Nat):(S15.trimN l l.length).getD i 0=l.getD i 0:=trimN_get l _ (zD _) (fun i hi=>by rw[zI,yP hi];rfl) i
theorem trim_pos(l:List Nat)(n:Nat):S15.pos (S15.trimN l l.length) n=S15.pos l n:=zhS (fun i _=>trim_get l i)
theorem trimN_len(l:List Nat):∀n,(S15.trimN l n).length≤n
 | 0=>zD _
 | n+1=>by
   rw[S15.trimN];split
   ·exact Nat.le_succ_of_le (trimN_len l n)
   ·rw[yJ];omega
theorem zjF(l:List Nat)(m:Nat):∀n,(∀i,m≤i→i<n→l.getD i 0=0)→(S15.trimN l n).length≤m
 | 0,_=>zcA _
 | n+1,h=>by
   rw[S15.trimN];split
   ·exact zjF l m n (fun i h1 h2=>h i h1 (by omega))
   ·rename_i h0
    by_cases hm:m≤n
    ·exact absurd (h n hm (by omega)) h0
    ·rw[yJ];omega
theorem trimN_by{l:List Nat}(h:S15.By l):∀n,S15.By (S15.trimN l n)
 | 0=>fun x hx=>by cases hx
 | n+1=>by
   rw[S15.trimN];split
   ·exact trimN_by h n
   ·exact fun x hx=>h x (List.mem_of_mem_take hx)
theorem zpD{l:List Nat}(h:S15.By l){m x:Nat}:∀k,S15.pos l (m+k)=x*256^k→∀i,m≤i→i<m+k→l.getD i 0=0
 | 0,_,i,h1,h2=>by omega
 | k+1,he,i,h1,h2=>by
   rw[←zbR,S15.pos,zcI,←zaZ]at he;have hb:=zeJ h (m+k);by_cases hi:i=m+k
   ·rw[hi];omega
   ·exact zpD h (m:=m) (x:=x) k (by omega) i h1 (by omega)
theorem fin0_by{e:S15.E}(h:S15.Ok e)(hw:16777216≤e.width):S15.By (S15.fin0 e):=by
 have h1:=h.low;unfold S15.fin0;split
 ·exact h.by_
 ·split
  ·exact bump_by _ h.by_
  ·intro x hx;rcases List.mem_append.1 hx with h3|h3
   ·exact h.by_ x h3
   ·rw[List.mem_singleton.1 h3];omega
theorem fin_by{e:S15.E}(h:S15.Ok e)(hw:16777216≤e.width):S15.By (S15.fin e):=trimN_by (fin0_by h hw) _
theorem fin_len(e:S15.E):(S15.fin e).length≤e.out.length+1:=by
 refine yC (trimN_len _ _) ?_;unfold S15.fin0;split
 ·omega
 ·split
  ·rw[zeW];omega
  ·simp
theorem bump_room{e:S15.E}(h:S15.Ok e)(hc:4294967296<e.low+e.width):S15.pos e.out e.out.length+1<256^e.out.length:=by
 have h5:=h.top;unfold S15.T at h5;generalize 256^e.out.length=Z at *;omega
theorem fin_in{e:S15.E}(h:S15.Ok e)(hw:16777216≤e.width):S15.In e (S15.fin e):=by
 have h1:=h.low;have e4:(256:Nat)^4=4294967296:=by decide
 unfold S15.In S15.fin;rw[trim_pos];unfold S15.T S15.fin0;split
 ·rw[zpE,e4];omega
 ·split
  ·rename_i hc
   have hp:=ztZ e.out.length (j:=0) h.by_ rfl (bump_room h hc);have hl:=zeW e.out.length e.out;have he:=zpE (S15.bump e.out e.out.length) 4;rw[hl]at he;rw[he,hp,e4];omega
  ·have he:=zpE (e.out ++ [(e.low+16777215)/16777216]) 3;rw[yN,zcF,pos_snoc,show(256:Nat)^3=16777216 from by decide]at he;rw[show e.out.length+4=e.out.length+1+3 by omega,he];omega
theorem fin_short{e:S15.E}(h:S15.Ok e)(hw:16777216≤e.width){c:List Nat}(hi:S15.In e c):(S15.fin e).length≤c.length:=by
 have h1:=h.low;have h6:=h.wt;by_cases hm:e.out.length+1≤c.length
 ·exact yC (fin_len e) hm
 obtain⟨k,hk⟩:∃k,e.out.length=c.length+k:=⟨e.out.length-c.length,by omega⟩;have hp:=zpE c (k+4);rw[Nat.pow_add,show(256:Nat)^4=4294967296 from by decide,←zaZ]at hp;obtain⟨i1,i2⟩:=hi;rw[hk,zbR,hp]at i1 i2;unfold S15.T at i1 i2;rw[hk]at i1 i2;unfold S15.fin S15.fin0;split
 ·rename_i h0
  refine zjF _ _ _ ?_;rw[hk];exact zpD h.by_ (x:=S15.pos c c.length) k (by omega)
 ·split
  ·rename_i hc
   refine zjF _ _ _ ?_;have hb:=ztZ e.out.length (j:=0) h.by_ rfl (bump_room h hc);rw[zeW,hk];rw[hk]at hb;exact zpD (bump_by _ h.by_) (x:=S15.pos c c.length) k (by omega)
  ·exfalso;omega
theorem E0_in{c:List Nat}(hB:S15.By c)(h:c.take 4≠ [255,255,255,255]):S15.In S15.E0 c:=by
 have b0:=zeJ hB 0;have b1:=zeJ hB 1;have b2:=zeJ hB 2;have b3:=zeJ hB 3;refine⟨zcA _,?_⟩;show(((0*256+c.getD 0 0)*256+c.getD 1 0)*256+c.getD 2 0)*256+c.getD 3 0<0+4294967295;by_cases hx:c.getD 0 0=255∧c.getD 1 0=255∧c.getD 2 0=255∧c.getD 3 0=255
 ·exfalso;obtain⟨x0,x1,x2,x3⟩:=hx
  match c,h,x0,x1,x2,x3 with
  | a0::a1::a2::a3::r,h,x0,x1,x2,x3=>
    simp at x0 x1 x2 x3;subst x0;subst x1;subst x2;subst x3;exact h rfl
  | [],_,x0,_,_,_=>simp at x0
  | [_],_,_,x1,_,_=>simp at x1
  | [_,_],_,_,_,x2,_=>simp at x2
  | [_,_,_],_,_,_,_,x3=>simp at x3
 ·omega
theorem codes_return{P:List Nat→Nat}(hP:S15.Pr P)(bs:List Nat)(hb:∀b∈bs,b=0∨b=1):S15.decR P [] (S15.opn (S15.fin (S15.encR P [] S15.E0 bs))) bs.length=bs:=by
 obtain⟨h1,h2⟩:=zjJ hP bs [] S15.E0 zmP (by decide);have hB:=fin_by h1 h2;exact(return_main hP hB bs [] _ _ hb zmP (by decide) (opn_dm _ hB) (fin_in h1 h2)).2
theorem codes_total{P:List Nat→Nat}(hP:S15.Pr P){c:List Nat}(hB:S15.By c)(hc:c.take 4≠ [255,255,255,255])(n:Nat):(S15.fin (S15.encR P [] S15.E0 (S15.decR P [] (S15.opn c) n))).length≤c.length:=by
 obtain⟨h1,h2⟩:=zjJ hP (S15.decR P [] (S15.opn c) n) [] S15.E0 zmP (by decide);exact fin_short h1 h2 (total_main hP hB n [] _ _ zmP (by decide) (opn_dm _ hB) (E0_in hB hc))
def S15.lg(n:Nat):Nat:=256*n.log2+n*256/2^n.log2-256
def S15.cost(p b:Nat):Nat:=3072-S15.lg (if b=1 then p else 4096-p)
def S15.chk:Nat→Bool
 | 0=>true
 | n+1=>Nat.ble (4096^256) ((n+1)^256*2^(3072-S15.lg (n+1)))&&S15.chk n
theorem chk_all:S15.chk 4095=true:=by decide +kernel
theorem chk_at:∀{m n:Nat},S15.chk m=true→1≤n→n≤m→4096^256≤n^256*2^(3072-S15.lg n)
 | 0,n,_,h1,h2=>by omega
 | m+1,n,h,h1,h2=>by
   rw[S15.chk,zS]at h;by_cases hn:n=m+1
   ·subst hn;exact Nat.le_of_ble_eq_true h.1
   ·exact chk_at h.2 h1 (by omega)
theorem two_half:4096^2048≤2*4095^2048:=by decide +kernel
theorem two_half_m{m:Nat}(hm:m=2048):4096^m≤2*4095^m:=hm▸two_half
theorem cost_pow{q c m:Nat}(hm:m=256*8)(h:4096^256≤q^256*2^c):4096^m≤q^m*2^(8*c):=by
 have h8:=Nat.pow_le_pow_left h 8;rw[Nat.mul_pow,←Nat.pow_mul,←Nat.pow_mul,←Nat.pow_mul,zdL c 8,←hm]at h8;exact h8
theorem wid_cost{w p b m:Nat}(hm:m=2048)(hw:16777216≤w)(hp:1≤p∧p≤4095)(hb:b=0∨b=1):w^m≤S15.wid w b p^m*2^(8*S15.cost p b+1):=by
 have h4:0<4096^m:=Nat.pow_pos (by decide);have h2:=two_half_m hm;rcases hb with rfl|rfl
 ·have hq:=cost_pow (m:=m) hm (chk_at chk_all (n:=4096-p) (by omega) (by omega));have hc:S15.cost p 0=3072-S15.lg (4096-p):=rfl;rw[←hc]at hq;have hv:w*(4096-p)≤S15.wid w 0 p*4096:=by
   unfold S15.wid S15.bound;rw[zG (by decide),Nat.mul_sub,Nat.sub_mul,Nat.mul_right_comm];have:w/4096*4096*p≤w*p:=yW _ (Nat.div_mul_le_self _ _);omega
  have hv2:=Nat.pow_le_pow_left hv m;rw[Nat.mul_pow,Nat.mul_pow]at hv2;clear hm;refine Nat.le_of_mul_le_mul_right (c:=4096^m) ?_ h4
  calc w^m*4096^m≤w^m*((4096-p)^m*2^(8*S15.cost p 0)):=Nat.mul_le_mul_left _ hq
   _=w^m*(4096-p)^m*2^(8*S15.cost p 0):=(zaZ _ _ _).symm
   _≤S15.wid w 0 p^m*4096^m*2^(8*S15.cost p 0):=yW _ hv2
   _=S15.wid w 0 p^m*2^(8*S15.cost p 0)*4096^m:=Nat.mul_right_comm _ _ _
   _≤S15.wid w 0 p^m*2^(8*S15.cost p 0+1)*4096^m:=yW _ (Nat.mul_le_mul_left _ (zdA (by decide) (Nat.le_succ _)))
 ·have hq:=cost_pow (m:=m) hm (chk_at chk_all (n:=p) (by omega) (by omega));have hc:S15.cost p 1=3072-S15.lg p:=rfl;rw[←hc]at hq;have hv:w*4095≤w/4096*4096*4096:=by omega
  have hv2:=Nat.pow_le_pow_left hv m;rw[Nat.mul_pow,Nat.mul_pow,Nat.mul_pow]at hv2;have hwd:S15.wid w 1 p=w/4096*p:=rfl;rw[hwd,Nat.mul_pow,zcI 2];clear hm;generalize hA:(w/4096)^m=A at *;refine Nat.le_of_mul_le_mul_right (c:=4096^m) ?_ h4
  calc w^m*4096^m≤w^m*(2*4095^m):=Nat.mul_le_mul_left _ h2
   _=w^m*4095^m*2:=by rw[zdL 2,zaZ]
   _≤A*4096^m*4096^m*2:=yW _ hv2
   _≤A*(p^m*2^(8*S15.cost p 1))*4096^m*2:=yW _ (yW _ (Nat.mul_le_mul_left _ hq))
   _=A*p^m*(2^(8*S15.cost p 1)*2)*4096^m:=by
    rw[←zaZ A,Nat.mul_right_comm _ _ 2,zaZ _ _ 2]
def S15.costR(P:List Nat→Nat):List Nat→List Nat→Nat
 | _,[]=>0
 | h,b::bs=>S15.cost (P h) b+S15.costR P (h ++ [b]) bs
theorem run_cost{P:List Nat→Nat}{q:Nat}(hq:q=2048)(hP:S15.Pr P):∀(bs h:List Nat) (e:S15.E),(∀b∈bs,b=0∨b=1)→S15.Ok e→16777216≤e.width→
 ∃j,(S15.encR P h e bs).out.length=e.out.length+j∧(e.width*256^j)^q≤(S15.encR P h e bs).width^q*2^(8*S15.costR P h bs+bs.length):=by
 intro bs;induction bs with
 | nil=>intro h e _ _ _;exact⟨0,rfl,by simp[S15.encR,S15.costR]⟩
 | cons b bs ih=>
   intro h e hb ho hw;obtain⟨j,m,k,_,hw1⟩:=zhY ho hw (b:=b) (hP h);obtain⟨j2,hl,hp⟩:=ih (h ++ [b]) _ (fun x hx=>hb x (List.mem_cons_of_mem _ hx)) k hw1;have h1:=wid_cost hq hw (hP h) (hb b List.mem_cons_self);clear hq;refine⟨j+j2,by rw[S15.encR,hl,m.len,zbR],?_⟩;rw[S15.encR,S15.costR,yO];rw[m.w]at hp;generalize (S15.encR P (h ++ [b]) (S15.enc1 e b (P h)) bs).width=W at *;generalize S15.wid e.width b (P h)=v at *;generalize S15.cost (P h) b=c at *;generalize S15.costR P (h ++ [b]) bs=C at *
   calc (e.width*256^(j+j2))^q=e.width^q*(256^(j+j2))^q:=Nat.mul_pow _ _ _
    _≤v^q*2^(8*c+1)*(256^(j+j2))^q:=yW _ h1
    _=(v*256^j*256^j2)^q*2^(8*c+1):=by
     rw[zaZ v,←Nat.pow_add,Nat.mul_pow v,Nat.mul_right_comm]
    _≤W^q*2^(8*C+bs.length)*2^(8*c+1):=yW _ hp
    _=W^q*2^(8*(c+C)+(bs.length+1)):=by
     rw[zaZ,←Nat.pow_add]
     congr 2;omega
theorem top_pow:2^(32*2048-1)≤4294967295^2048:=by decide +kernel
theorem top_pow_m{m:Nat}(hm:m=2048):2^(32*m-1)≤4294967295^m:=hm▸top_pow
theorem cost_lin{q j C W:Nat}(hq:q=2048)(h6:W<4294967296)(hp:(4294967295*256^j)^q≤W^q*2^C):32*q-1+8*q*j<32*q+C:=by
 have e256:(256:Nat)=2^8:=by decide
 have e32:(2:Nat)^32=4294967296:=by decide
 have hq0:q≠0:=by omega
 have ht:=top_pow_m hq;clear hq;have hA:2^(32*q-1+8*q*j)≤(4294967295*256^j)^q:=by
  rw[Nat.mul_pow,Nat.pow_add];refine Nat.mul_le_mul ht ?_;rw[e256,←Nat.pow_mul,←Nat.pow_mul,Nat.mul_right_comm,zaZ 8 j q];exact zD _
 have hB:W^q*2^C<2^(32*q+C):=by
  rw[Nat.pow_add];refine Nat.mul_lt_mul_of_pos_right ?_ (Nat.pow_pos (by decide));rw[Nat.pow_mul,e32];exact Nat.pow_lt_pow_left h6 hq0
 exact(Nat.pow_lt_pow_iff_right (a:=2) (by decide)).1 (Nat.lt_of_le_of_lt (yC hA hp) hB)
theorem codes_cost{P:List Nat→Nat}(hP:S15.Pr P)(bs:List Nat)(hb:∀b∈bs,b=0∨b=1):2048*8*(S15.fin (S15.encR P [] S15.E0 bs)).length≤8*S15.costR P [] bs+bs.length+2048*8:=by
 obtain⟨q,hq⟩:∃q:Nat,q=2048:=⟨_,rfl⟩;obtain⟨j,hl,hp⟩:=run_cost hq hP bs [] S15.E0 hb zmP (by decide);obtain⟨h1,h2⟩:=zjJ hP bs [] S15.E0 zmP (by decide);have hf:=fin_len (S15.encR P [] S15.E0 bs);have hl0:S15.E0.out.length=0:=rfl;rw[hl,hl0,yK]at hf;have hw0:S15.E0.width=4294967295:=rfl;rw[hw0]at hp;have hc:=cost_lin hq h1.wt hp;clear hp h1 h2 hl hl0 hw0;generalize 8*S15.costR P [] bs+bs.length=C at *;generalize (S15.fin (S15.encR P [] S15.E0 bs)).length=n at *;have hj:8*2048*j≤C:=by
  subst hq;omega
 have:2048*8*n≤2048*8*(j+1):=Nat.mul_le_mul_left _ hf;omega
end Go.Proofs.YtahaacfikalheaaGreat
namespace Go.Proofs.YtahaacfikalheaaGreat
theorem encR_snoc(P:List Nat→Nat):∀(bs h:List Nat) (e:S15.E) (b:Nat),S15.encR P h e (bs ++ [b])=S15.enc1 (S15.encR P h e bs) b (P (h++bs))
 | [],h,e,b=>by simp[S15.encR]
 | x::bs,h,e,b=>by
   rw[List.cons_append,S15.encR,encR_snoc P bs,S15.encR,zcU];rfl
theorem zsO(P:List Nat→Nat):∀(bs h:List Nat) (b:Nat),S15.costR P h (bs ++ [b])=S15.costR P h bs+S15.cost (P (h++bs)) b
 | [],h,b=>by simp[S15.costR]
 | x::bs,h,b=>by
   rw[List.cons_append,S15.costR,zsO P bs,S15.costR,zcU,zbR];rfl
def S15.decS(P:List Nat→Nat):List Nat→S15.D→Nat→S15.D
 | _,d,0=>d
 | h,d,n+1=>S15.decS P (h ++ [S15.bitD d (P h)]) (S15.dec1 d (P h)) n
theorem zqI(P:List Nat→Nat):∀(n:Nat) (h:List Nat) (d:S15.D),S15.decS P h d (n+1)=S15.dec1 (S15.decS P h d n) (P (h++S15.decR P h d n))∧S15.decR P h d (n+1)=S15.decR P h d n ++ [S15.bitD (S15.decS P h d n) (P (h++S15.decR P h d n))]
 | 0,h,d=>by simp[S15.decS,S15.decR]
 | n+1,h,d=>by
   obtain⟨h1,h2⟩:=zqI P n (h ++ [S15.bitD d (P h)]) (S15.dec1 d (P h));refine⟨?_,?_⟩
   ·rw[S15.decS,h1,S15.decS,S15.decR,zcU];rfl
   ·rw[S15.decR,h2,S15.decS,S15.decR,zcU];rfl
theorem decR_take(P:List Nat→Nat)(d:S15.D)(h:List Nat):∀n,(S15.decR P h d n).length=n
 | 0=>rfl
 | n+1=>by rw[(zqI P n h d).2,yN,decR_take P d h n];rfl
def S15.bitsK(x:Nat):Nat→List Nat
 | 0=>[]
 | k+1=>S15.bitsK x k ++ [x/2^(7-k)%2]
def S15.bits:List Nat→List Nat
 | []=>[]
 | x::xs=>S15.bitsK x 8++S15.bits xs
theorem ziD(x:Nat):∀k,(S15.bitsK x k).length=k
 | 0=>rfl
 | k+1=>by rw[S15.bitsK,yN,ziD x k];rfl
theorem ziN:∀l:List Nat,(S15.bits l).length=8*l.length
 | []=>rfl
 | x::xs=>by rw[S15.bits,yN,ziD,ziN xs,yO];omega
theorem zqR(x:Nat):∀k,∀b∈S15.bitsK x k,b=0∨b=1
 | 0,b,h=>by cases h
 | k+1,b,h=>by
   rw[S15.bitsK]at h;rcases List.mem_append.1 h with h|h
   ·exact zqR x k b h
   ·rw[List.mem_singleton.1 h];omega
theorem zoG:∀l:List Nat,∀b∈S15.bits l,b=0∨b=1
 | [],b,h=>by cases h
 | x::xs,b,h=>by
   rw[S15.bits]at h;rcases List.mem_append.1 h with h|h
   ·exact zqR x 8 b h
   ·exact zoG xs b h
theorem bits_snoc:∀(l:List Nat) (x:Nat),S15.bits (l ++ [x])=S15.bits l++S15.bitsK x 8
 | [],x=>by simp[S15.bits]
 | y::l,x=>by rw[List.cons_append,S15.bits,bits_snoc l x,S15.bits,zcU]
def S15.num:Nat→List Nat→Nat
 | x,[]=>x
 | x,b::bs=>S15.num (2*x+b) bs
theorem zsB:∀(l m:List Nat) (x:Nat),S15.num x (l++m)=S15.num (S15.num x l) m
 | [],_,_=>rfl
 | b::l,m,x=>by rw[List.cons_append,S15.num,zsB l m,S15.num]
theorem num_bits8:∀x<256,S15.num 0 (S15.bitsK x 8)=x:=by decide +kernel
theorem bitsK_num(a b c d e f g h:Nat)(ha:a<2)(hb:b<2)(hc:c<2)(hd:d<2)(he:e<2)(hf:f<2)(hg:g<2)(hh:h<2):S15.bitsK (S15.num 0 [a,b,c,d,e,f,g,h]) 8 = [a,b,c,d,e,f,g,h]∧S15.num 0 [a,b,c,d,e,f,g,h]<256:=by
 simp only[S15.num,S15.bitsK,lna,lca,List.cons.injEq,and_true];refine⟨⟨?_,?_,?_,?_,?_,?_,?_,?_⟩,?_⟩<;>omega
theorem bitsK_num8{l:List Nat}(hl:l.length=8)(hb:∀b∈l,b=0∨b=1):S15.bitsK (S15.num 0 l) 8=l∧S15.num 0 l<256:=by
 match l,hl with
 | [a,b,c,d,e,f,g,h],_=>
   have q:∀x∈ [a,b,c,d,e,f,g,h],x<2:=fun x hx=>by rcases hb x hx with h|h<;>omega
   exact bitsK_num a b c d e f g h (q a (by simp)) (q b (by simp)) (q c (by simp)) (q d (by simp)) (q e (by simp)) (q f (by simp)) (q g (by simp)) (q h (by simp))
theorem bits_take{l:List Nat}{i:Nat}(h:i<l.length):S15.bits (l.take (i+1))=S15.bits (l.take i)++S15.bitsK (l.getD i 0) 8:=by
 rw[List.take_add_one,zI,zE h];exact bits_snoc _ _
end Go.Proofs.YtahaacfikalheaaGreat
namespace Go.Proofs.YtahaacfikalheaaGreat
theorem zkN{P:List Nat→Nat}(hP:S15.Pr P):∀(bs h:List Nat) (e:S15.E),S15.Ok e→16777216≤e.width→(S15.encR P h e bs).out.length≤e.out.length+4*bs.length
 | [],_,e,_,_=>zD _
 | b::bs,h,e,h1,h2=>by
   obtain⟨j,m,k,hj,hw⟩:=zhY h1 h2 (b:=b) (hP h);have ih:=zkN hP bs (h ++ [b]) _ k hw;have hl:=m.len;rw[S15.encR,yO];omega
structure S15.Dk(d:S15.D):Prop where
 co:d.code<4294967296
 w1:16777216≤d.width
 w2:d.width<4294967296
 by_:S15.By d.inp
theorem hd15{l:List Nat}(h:S15.By l):l.headD 0<256:=by
 cases l with
 | nil=>decide
 | cons x xs=>exact h x (by simp)
theorem by_drop15{l:List Nat}(h:S15.By l)(n:Nat):S15.By (l.drop n):=fun x hx=>h x (List.mem_of_mem_drop hx)
theorem normD_ok:∀(f:Nat) (d:S15.D),d.code<4294967296→1≤d.width→d.width<4294967296→16777216≤d.width*256^f→S15.By d.inp→S15.Dk (S15.normD f d)∧(S15.normD f d).inp.length≤d.inp.length
 | 0,d,h1,h2,h3,h4,h5=>⟨⟨h1,by rw[zcL,zaO]at h4;exact h4,h3,h5⟩,zD _⟩
 | f+1,d,h1,h2,h3,h4,h5=>by
   rw[S15.normD];split
   ·rename_i hs
    have hh:=hd15 h5
    obtain⟨k1,k2⟩:=normD_ok f ⟨d.width*256,d.code*256%4294967296+d.inp.headD 0,d.inp.drop 1⟩ (by show d.code*256%4294967296+d.inp.headD 0<_;omega) (by show 1≤d.width*256;omega) (by show d.width*256<_;omega)
     (by show 16777216≤d.width*256*256^f;rw[zcI,zdL (256^f) 256,←zaZ]at h4;exact h4) (by_drop15 h5 1)
    exact⟨k1,yC k2 (by show(d.inp.drop 1).length≤_;rw[zgS];omega)⟩
   ·exact⟨⟨h1,by omega,h3,h5⟩,zD _⟩
theorem dec1_ok{d:S15.D}(h:S15.Dk d){p:Nat}(hp:1≤p∧p≤4095):S15.Dk (S15.dec1 d p)∧(S15.dec1 d p).inp.length≤d.inp.length:=by
 have hw:=zjX (b:=S15.bitD d p) h.w1 hp;have:=h.w2;have:=h.co;exact normD_ok 4 ⟨S15.wid d.width (S15.bitD d p) p,d.code-S15.off d.width (S15.bitD d p) p,d.inp⟩ (by show d.code-_<_;omega) hw.1 (by show S15.wid d.width (S15.bitD d p) p<_;omega) (by show 16777216≤S15.wid d.width (S15.bitD d p) p*256^4;have:=hw.1;omega) h.by_
theorem decS_ok{P:List Nat→Nat}(hP:S15.Pr P):∀(n:Nat) (h:List Nat) (d:S15.D),S15.Dk d→S15.Dk (S15.decS P h d n)∧(S15.decS P h d n).inp.length≤d.inp.length
 | 0,h,d,hd=>⟨hd,zD _⟩
 | n+1,h,d,hd=>by
   obtain⟨k1,k2⟩:=dec1_ok hd (hP h);obtain⟨k3,k4⟩:=decS_ok hP n (h ++ [S15.bitD d (P h)]) _ k1;exact⟨k3,yC k4 k2⟩
theorem zkA(d:S15.D)(h:d.code<4294967296)(hb:S15.By d.inp):(S15.shift d).code<4294967296∧(S15.shift d).width=d.width∧S15.By (S15.shift d).inp∧(S15.shift d).inp.length≤d.inp.length:=by
 have hh:=hd15 hb;refine⟨by show d.code*256%4294967296+d.inp.headD 0<_;omega,rfl,by_drop15 hb 1,?_⟩;show(d.inp.drop 1).length≤_;rw[zgS];omega
theorem opn_ok{c:List Nat}(h:S15.By c):S15.Dk (S15.opn c)∧(S15.opn c).inp.length≤c.length:=by
 obtain⟨a1,a2,a3,a4⟩:=zkA ⟨4294967295,0,c⟩ (by show(0:Nat)<_;decide) h;obtain⟨b1,b2,b3,b4⟩:=zkA _ a1 a3;obtain⟨c1,c2,c3,c4⟩:=zkA _ b1 b3;obtain⟨d1,d2,d3,d4⟩:=zkA _ c1 c3;have hw:(S15.opn c).width=4294967295:=rfl;exact⟨⟨d1,by rw[hw];decide,by rw[hw];decide,d3⟩,yC d4 (yC c4 (yC b4 a4))⟩
