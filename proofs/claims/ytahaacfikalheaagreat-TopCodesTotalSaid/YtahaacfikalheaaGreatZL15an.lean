/- A part of the proof of L15. No condition. -/
import Derived.Laws.CopyOwn
import Derived.Test.YtahaacfikalheaaGreatZL15aj
set_option linter.all false
set_option maxRecDepth 100000
set_option maxHeartbeats 200000
namespace Go.Proofs.YtahaacfikalheaaGreat
open Go.RowKit
section
variable {P:Program} {ops:Array Oper} {Q:Exit→Act→World→Prop}
def zoI(P:Program)(Y:Array Value→Nat→Option Bool)(F:Act→Prop):List Oper→Act→Prop
 | [],a=>F a
 | o::rest,a=>∃v,((Region.wanted o (Y a.tmps)=true∧∀w,(execOp a.eval o).run P w = .ok (.value v) w)∨(Region.wanted o (Y a.tmps)=false∧v=undef))∧zoI P Y F rest (a.put o.dst v)
theorem zmR{Y:Array Value→Nat→Option Bool}{F:Act→Prop}{o:Oper}{rest:List Oper}{a:Act}{v:Value}(hw:Region.wanted o (Y a.tmps)=true)
 (h:∀w,(execOp a.eval o).run P w = .ok (.value v) w) (h2:zoI P Y F rest (a.put o.dst v)):zoI P Y F (o::rest) a:=⟨v,.inl ⟨hw,h⟩,h2⟩
theorem zjW(hsel:Region.noSelect ops=true)(hQ:∀c a d v w,Q (.panic c) (Act.put a d v) w→Q (.panic c) a w)(tail:Nat) :
 ∀(n k:Nat) (listed:Array Bool) (l:List Oper),l.length=n→(∀j,l[j]? = if j<n then ops[k+j]? else none)→
 zjH ops k n listed=true→∀(a:Act) (w:World),
 zoI P (yielded ops) (fun a'=>wpAny P .any ops Q tail (zgG k n listed) a' w) l a→wpAny P .any ops Q (n+tail) listed a w
 | 0,k,listed,l,hl,hop,hio,a,w,h=>by
   have:l = []:=List.length_eq_zero_iff.1 hl;subst this;rw[yK];exact h
 | n+1,k,listed,l,hl,hop,hio,a,w,h=>by
   cases l with
   | nil=>simp at hl
   | cons o rest=>
     simp only[zjH,zS]at hio;have ho:ops[k]? = some o:=by simpa using (hop 0).symm
     obtain⟨v,hy,hrest⟩:=h;rw[show n+1+tail=(n+tail)+1 by omega];refine wpAny_take ho hsel hio.1.2 hio.1.1 (fun c a w=>hQ c a _ _ w) hy ?_
     exact zjW hsel hQ tail n (k+1) _ rest (by simpa using hl)
      (fun j=>by
        have h1:=hop (j+1);simp only[lgs,Nat.add_lt_add_iff_right]at h1;rw[h1,show k+(j+1)=k+1+j by omega]) hio.2 _ w hrest
def pureOrder(ops:Array Oper)(m n:Nat):Bool:=
 Region.noSelect ops&&decide (m+n=ops.size)&&zjH ops 0 m (Array.replicate ops.size false)&&forced ops m n (zgG 0 m (Array.replicate ops.size false))
theorem zoH{Y:Array Value→Nat→Option Bool}{F F':Act→Prop}(hF:∀a,F a→F' a):∀(l:List Oper) (a:Act),zoI P Y F l a→zoI P Y F' l a
 | [],a,h=>hF a h
 | _::rest,_,⟨v,hy,hr⟩=>⟨v,hy,zoH hF rest _ hr⟩
theorem ziR{id:Nat}{a:Act}{w:World}(m n:Nat)(l t:List Oper)(hm:P.follows .mixedOrders=true)(hops:ops.toList=l++t)(hl:l.length=m)(ht:t.length=n)
 (ho:pureOrder ops m n=true)
 (h:∀(Y:Array Value→Nat→Option Bool) (F:Act→Prop),(∀t,Y t=yielded ops t)→
   Shut' (∀a',(∀(K:Act→World→Prop),Shut' (∀a w,Q .normal a w→K a w)→wpList P ops (OnlyK K) t a' w.drew)→F a')→zoI P Y F l a):(Code.region id ops true).wp P Q a w:=by
 refine Code.wp_mono (OnlyK.imp (K:=fun a w=>Q .normal a w) (fun _ _ h=>h)) ?_;simp only[pureOrder,zS,zY]at ho;obtain⟨⟨⟨hsel,hsz⟩,hin⟩,hforce⟩:=ho;refine wp_region_any hm ?_
 have hop1:∀j,l[j]? = if j<m then ops[0+j]? else none:=fun j=>by
  have h1:ops[j]? = (l++t)[j]? :=by rw[←hops];simp
  rw[yK,h1];split
  ·rw[zaN (by omega)]
  ·rw[yP (by omega)]
 have hop2:∀j,t[j]? = if j<n then ops[m+j]? else none:=fun j=>by
  have h1:ops[m+j]? = (l++t)[m+j]? :=by rw[←hops];simp
  rw[h1];split
  ·rw[yQ (by omega),hl,zcM]
  ·rw[yP (by omega)]
 have h2:=zjW (P:=P) (Q:=OnlyK fun a w=>Q .normal a w) hsel (fun _ _ _ _ _ h=>h) n m 0 (Array.replicate ops.size false) l hl hop1 hin a w.drew
  (zoH (fun a' ha'=>zcC n m _ t ht hop2 (by omega) hforce a' _ ha') l a
    (h _ _ (fun _=>rfl) (fun _ h=>h (fun a w=>Q .normal a w) (fun _ _ h=>h))))
 rwa[hsz]at h2
end
theorem zjZ{w:World}{b:Nat}{cs:List Value}{t:TypeId}(h:Blk w b cs t)(off n:Nat)(hf:off+n≤cs.length):w.there b off n:=fun j hj=>by
 rw[h.cell,zE (by omega)];exact⟨rfl,h.free _⟩
theorem Blk.setCells{b:Nat}{t:TypeId}:∀(vs:List Value) (off:Nat) {w:World} {cs:List Value},Blk w b cs t→off+vs.length≤cs.length→Blk (w.setCells b off vs) b (splice cs off vs) t
 | [],off,w,cs,h,_=>by simpa[splice,World.setCells] using h
 | v::vs,off,w,cs,h,hf=>by
   simp only[yO]at hf;have h1:=(h.set off v).setCells vs (off+1) (by simp;omega);have e:splice (cs.set off v) (off+1) vs=splice cs off (v::vs):=by
    unfold splice;rw[List.take_set,List.drop_set_of_lt (by omega),List.take_succ_eq_append_getElem (by omega:off<cs.length)];rw[List.set_append_right _ _ (by simp;omega)];simp only[yJ,zbF (by omega:off≤cs.length),Nat.sub_self,List.set_cons_zero,zcU,List.singleton_append,yO,List.cons_append,List.nil_append];rw[show off+1+vs.length=off+(vs.length+1) by omega]
   rw[e]at h1;exact h1
theorem zeZ{P:Program}(w:World)(dT sT ty elem:TypeId)(size:Nat)(hu:P.underlying dT=some (.slice elem))(hsz:(P.info? elem).map (·.size)=some size)
 (g off dLen dCap:Nat) (sp:Option Addr) (sLen sCap n:Nat) (hn:n=min sLen dLen) (cs:List Value) (hl:cs.length=n*size) (hrd:Rd w sp cs) (hth:w.there g off cs.length) (h1:∀v∈cs,v.oneCell'=true) :
 (Builtin.copy_ #[dT,sT] ty #[.slice (some ⟨g,off,none⟩) dLen dCap,.slice sp sLen sCap]).run P w = .ok (goInt n) (w.setCells g off cs):=by
 cases hq:P.info? elem with
 | none=>simp[hq]at hsz
 | some i=>
   have hs:i.size=size:=by simpa[hq] using hsz
   have hst:=run_storeCells_cells (P:=P) g off cs 0 w (fun j hj=>by simpa using (hth j hj).1) (fun j hj=>by simpa using (hth j hj).2) h1;simp only[zgA]at hst;have hnm:Nat.min sLen dLen=n:=hn.symm;cases sp with
   | none=>
     have hcs:cs = []:=by
      cases hc:cs with
      | nil=>rfl
      | cons y ys=>obtain⟨b,o,e,_⟩:=hrd (by rw[hc];simp);simp at e
     subst hcs;simp[Builtin.copy_,run_underlying hu,sizeOf,typeInfo,hq,Builtin.lenOf,Builtin.firstCells,hnm,hst]
   | some ad=>
     have hld:(loadCells ad (n*i.size)).run P w = .ok cs.toArray w:=by
      rw[hs,←hl];refine run_loadCells_list (P:=P) w ad cs (fun j v hv=> ?_);obtain⟨b,o,e,hr⟩:=hrd (fun e=>by rw[e]at hv;simp at hv);cases e;rw[Addr.add_mid];exact hr j v hv
     simp[Builtin.copy_,run_underlying hu,sizeOf,typeInfo,hq,Builtin.lenOf,Builtin.firstCells,hnm,hld,hst]
