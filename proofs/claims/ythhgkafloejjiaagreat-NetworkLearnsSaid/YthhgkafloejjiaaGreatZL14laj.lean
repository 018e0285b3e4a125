/- A part of the proof of L14l. No condition. -/
import Derived.Laws.CopyOwn
import Derived.Maps.AppendAt
import Derived.Test.YthhgkafloejjiaaGreatZL14lae
set_option linter.all false
set_option maxRecDepth 100000
set_option maxHeartbeats 200000
namespace Go.Proofs.YthhgkafloejjiaaGreat
open Go.RowKit
theorem Rd.new(w:World)(a:List Value)(t:TypeId):Rd (w.alloc (.cells a.toArray t)) (some ⟨w,0,none⟩) a:=fun _=>⟨_,0,rfl,(Blk.new w a t).cells⟩
section
variable {P:Program} {ops:Array Oper} {Q:Exit→Act→World→Prop}
def zpH(P:Program)(Y:Array Value→Nat→Option Bool)(F:Act→Prop):List Oper→Act→Prop
 | [],a=>F a
 | o::rest,a=>∃v,((Region.wanted o (Y a.tmps)=true∧∀w,(execOp a.eval o).run P w = .ok (.value v) w)∨(Region.wanted o (Y a.tmps)=false∧v=undef))∧zpH P Y F rest (a.put o.dst v)
theorem wpPure_value{Y:Array Value→Nat→Option Bool}{F:Act→Prop}{o:Oper}{b:List Oper}{a:Act}{v:Value}(d:Region.wanted o (Y a.tmps)=true)
 (h:∀w,(execOp a.eval o).run P w = .ok (.value v) w) (c:zpH P Y F b (a.put o.dst v)):zpH P Y F (o::b) a:=⟨v,.inl ⟨d,h⟩,c⟩
theorem zkO(f:Region.noSelect ops=true)(e:∀c a d v w,Q (.panic c) (Act.put a d v) w→Q (.panic c) a w)(tail:Nat) :
 ∀(n k:Nat) (b:Array Bool) (l:List Oper),l.length=n→(∀j,l[j]? = if j<n then ops[k+j]? else none)→
 zjZ ops k n b=true→∀(a:Act) (w:World),
 zpH P (yielded ops) (fun i=>wpAny P .any ops Q tail (zgC k n b) i w) l a→wpAny P .any ops Q (n+tail) b a w
 | 0,k,b,l,hl,hop,hio,a,w,h=>by
   have:l = []:=List.length_eq_zero_iff.1 hl;subst this;rw[yE];exact h
 | n+1,k,b,l,hl,hop,hio,a,w,h=>by
   cases l with
   | nil=>simp at hl
   | cons o r=>
     simp only[zjZ,zS]at hio;have p:ops[k]? = some o:=by simpa using (hop 0).symm
     obtain⟨v,m,q⟩:=h;rw[show n+1+tail=(n+tail)+1 by omega];refine wpAny_take p f hio.1.2 hio.1.1 (fun c a w=>e c a _ _ w) m ?_
     exact zkO f e tail n (k+1) _ r (by simpa using hl)
      (fun j=>by
        have g:=hop (j+1);simp only[lgs,Nat.add_lt_add_iff_right]at g;rw[g,show k+(j+1)=k+1+j by omega]) hio.2 _ w q
def pureOrder(ops:Array Oper)(m n:Nat):Bool:=
 Region.noSelect ops&&decide (m+n=ops.size)&&zjZ ops 0 m (Array.replicate ops.size false)&&forced ops m n (zgC 0 m (Array.replicate ops.size false))
theorem zpG{Y:Array Value→Nat→Option Bool}{F b:Act→Prop}(c:∀a,F a→b a):∀(l:List Oper) (a:Act),zpH P Y F l a→zpH P Y b l a
 | [],a,h=>c a h
 | _::rest,_,⟨v,hy,hr⟩=>⟨v,hy,zpG c rest _ hr⟩
theorem zrM{q:Nat}{a:Act}{w:World}(m n:Nat)(l t:List Oper)(v:P.follows .mixedOrders=true)(d:ops.toList=l++t)(f:l.length=m)(s:t.length=n)
 (e:pureOrder ops m n=true)
 (h:∀(Y:Array Value→Nat→Option Bool) (F:Act→Prop),(∀t,Y t=yielded ops t)→
   Shut' (∀b,(∀(K:Act→World→Prop),Shut' (∀a w,Q .normal a w→K a w)→wpList P ops (OnlyK K) t b w.drew)→F b)→zpH P Y F l a):(Code.region q ops true).wp P Q a w:=by
 refine Code.wp_mono (OnlyK.imp (K:=fun a w=>Q .normal a w) (fun _ _ h=>h)) ?_;simp only[pureOrder,zS,yC]at e;obtain⟨⟨⟨r,k⟩,i⟩,x⟩:=e;refine wp_region_any v ?_
 have o:∀j,l[j]? = if j<m then ops[0+j]? else none:=fun j=>by
  have c:ops[j]? = (l++t)[j]? :=by rw[←d];simp
  rw[yE,c];split
  ·rw[zbH om]
  ·rw[yY om]
 have u:∀j,t[j]? = if j<n then ops[m+j]? else none:=fun j=>by
  have c:ops[m+j]? = (l++t)[m+j]? :=by rw[←d];simp
  rw[c];split
  ·rw[yK om,f,zdW]
  ·rw[yY om]
 have g:=zkO (P:=P) (Q:=OnlyK fun a w=>Q .normal a w) r (fun _ _ _ _ _ h=>h) n m 0 (Array.replicate ops.size false) l f o i a w.drew
  (zpG (fun b p=>zcD n m _ t s u om x b _ p) l a
    (h _ _ (fun _=>rfl) (fun _ h=>h (fun a w=>Q .normal a w) (fun _ _ h=>h))))
 rwa[k]at g
end
theorem there_blk{w:World}{b:Nat}{c:List Value}{t:TypeId}(h:Blk w b c t)(a n:Nat)(e:a+n≤c.length):w.there b a n:=fun j d=>by
 rw[h.cell,zD om];exact⟨rfl,h.free _⟩
theorem Blk.setCells{b:Nat}{t:TypeId}:∀(d:List Value) (a:Nat) {w:World} {c:List Value},Blk w b c t→a+d.length≤c.length→Blk (w.setCells b a d) b (splice c a d) t
 | [],a,w,c,h,_=>by simpa[splice,World.setCells] using h
 | v::d,a,w,c,h,hf=>by
   simp only[zbL]at hf;have f:=(h.set a v).setCells d (a+1) by7;have e:splice (c.set a v) (a+1) d=splice c a (v::d):=by
    unfold splice;rw[List.take_set,List.drop_set_of_lt om,List.take_succ_eq_append_getElem (by omega:a<c.length)];rw[List.set_append_right _ _ by7];simp only[yJ,Nat.min_eq_left (by omega:a≤c.length),Nat.sub_self,List.set_cons_zero,List.append_assoc,List.singleton_append,zbL,List.cons_append,List.nil_append];rw[show a+1+d.length=a+(d.length+1) by omega]
   rw[e]at f;exact f
theorem zjK{P:Program}(w:World)(A G C h:TypeId)(l:Nat)(t:P.underlying A=some (.slice h))(s:(P.info? h).map (·.size)=some l)
 (g c q L:Nat) (k:Option Addr) (p D n:Nat) (F:n=min p q) (a:List Value) (I:a.length=n*l) (x:Rd w k a) (u:w.there g c a.length) (K:∀v∈a,v.oneCell'=true) :
 (Builtin.copy_ #[A,G] C #[.slice (some ⟨g,c,none⟩) q L,.slice k p D]).run P w = .ok (goInt n) (w.setCells g c a):=by
 cases hq:P.info? h with
 | none=>simp[hq]at s
 | some i=>
   have E:i.size=l:=by simpa[hq] using s
   have d:=run_storeCells_cells (P:=P) g c a 0 w (fun j m=>by simpa using (u j m).1) (fun j m=>by simpa using (u j m).2) K;simp only[Nat.add_zero]at d;have z:Nat.min p q=n:=F.symm;cases k with
   | none=>
     have H:a = []:=by
      cases hc:a with
      | nil=>rfl
      | cons y M=>obtain⟨b,o,e,_⟩:=x (by rw[hc];simp);simp at e
     subst H;simp[Builtin.copy_,run_underlying t,sizeOf,typeInfo,hq,Builtin.lenOf,Builtin.firstCells,z,d]
   | some r=>
     have B:(loadCells r (n*i.size)).run P w = .ok a.toArray w:=by
      rw[E,←I];refine run_loadCells_list (P:=P) w r a (fun j v f=> ?_);obtain⟨b,o,e,J⟩:=x (fun e=>by rw[e]at f;simp at f);cases e;rw[Addr.add_mid];exact J j v f
     simp[Builtin.copy_,run_underlying t,sizeOf,typeInfo,hq,Builtin.lenOf,Builtin.firstCells,z,B,d]
