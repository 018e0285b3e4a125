/- A part of the proof of L15. No condition. -/
import Derived.StillTail
import Derived.Test.YtahaacfikalheaaGreatZL15ao
set_option linter.all false
set_option maxRecDepth 100000
set_option maxHeartbeats 200000
namespace Go.Proofs.YtahaacfikalheaaGreat
open Go.RowKit
section
variable {P:Program} {ops:Array Oper} {Q:Exit→Act→World→Prop} {S:World→Prop}
def zgC(ops:Array Oper)(j:Nat):Option Tmp:=(ops[j]?).bind (·.dst)
structure AtL(ops:Array Oper)(m:Nat)(V:Nat→Value)(a0 a:Act)(L:Array Bool):Prop where
 defers:a.defers=a0.defers
 size:a.tmps.size=a0.tmps.size
 put:∀j t,j<m→L.getD j false=true→zgC ops j=some t→t<a0.tmps.size→a.tmps[t]? = some (V j)
 old:∀t,(∀j,j<m→L.getD j false=true→zgC ops j≠some t)→a.tmps[t]? = a0.tmps[t]?
theorem AtL.eq{m:Nat}{V:Nat→Value}{a0 a a':Act}{L:Array Bool}(h:AtL ops m V a0 a L)(h':AtL ops m V a0 a' L):a=a':=by
 have e1:a.tmps=a'.tmps:=by
  refine Array.ext_getElem? fun t=> ?_;by_cases hj:∃j,j<m∧L.getD j false=true∧zgC ops j=some t
  ·obtain⟨j,hj1,hj2,hj3⟩:=hj;by_cases ht:t<a0.tmps.size
   ·rw[h.put j t hj1 hj2 hj3 ht,h'.put j t hj1 hj2 hj3 ht]
   ·rw[yI (by rw[h.size];omega),yI (by rw[h'.size];omega)]
  ·have hn:∀j,j<m→L.getD j false=true→zgC ops j≠some t:=fun j h1 h2 h3=>hj ⟨j,h1,h2,h3⟩;rw[h.old t hn,h'.old t hn]
 have e2:a.defers=a'.defers:=by rw[h.defers,h'.defers]
 cases a;cases a';simp only at e1 e2;subst e1 e2;rfl
theorem AtL.step{m i:Nat}{V:Nat→Value}{a0 a:Act}{L:Array Bool}(h:AtL ops m V a0 a L)(him:i<m)(hL:L.getD i true=false)
 (hd:∀j,j<m→j≠i→∀t,zgC ops i=some t→zgC ops j≠some t):AtL ops m V a0 (a.put (zgC ops i) (V i)) (L.setIfInBounds i true):=by
 have hiL:i<L.size:=by
  rcases zaE i L.size with h'|h'
  ·exact h'
  ·simp[yI h']at hL
 cases hdi:zgC ops i with
 | none=>
   refine⟨h.defers,h.size,fun j t hj hl hjt ht=> ?_,fun t hn=>h.old t fun j hj hl=>hn j hj (getD_set_true hl)⟩;by_cases hji:j=i
   ·subst hji;rw[hdi]at hjt;cases hjt
   ·rw[getD_set_ne false (Ne.symm hji)]at hl;exact h.put j t hj hl hjt ht
 | some d=>
   have hput:(a.put (some d) (V i)).tmps=a.tmps.setIfInBounds d (V i):=rfl;refine⟨h.defers,by rw[hput,Array.size_setIfInBounds,h.size],fun j t hj hl hjt ht=> ?_,fun t hn=> ?_⟩
   ·by_cases hji:j=i
    ·subst hji;rw[hdi]at hjt;cases hjt;rw[hput,Array.getElem?_setIfInBounds_self_of_lt (by rw[h.size];exact ht)]
    ·rw[getD_set_ne false (Ne.symm hji)]at hl;have hne:d≠t:=fun e=>hd j hj hji d hdi (by rw[hjt,e]);rw[hput,Array.getElem?_setIfInBounds_ne hne];exact h.put j t hj hl hjt ht
   ·have hne:d≠t:=fun e=>hn i him (by simp[hiL]) (by rw[hdi,e]);rw[hput,Array.getElem?_setIfInBounds_ne hne];refine h.old t fun j hj hl=>hn j hj (getD_set_true hl)
def cntU:Nat→Array Bool→Nat
 | 0,_=>0
 | m+1,L=>cntU m L+(if L.getD m true then 0 else 1)
theorem cntU_ge:∀(m:Nat) {i:Nat} (L:Array Bool),m≤i→cntU m (L.setIfInBounds i true)=cntU m L
 | 0,_,_,_=>rfl
 | m+1,i,L,h=>by
   simp only[cntU];rw[cntU_ge m L (by omega),getD_set_ne true (by omega)]
theorem cntU_set:∀(m:Nat) {i:Nat} (L:Array Bool),i<m→L.getD i true=false→cntU m (L.setIfInBounds i true)+1=cntU m L
 | 0,_,_,h,_=>by omega
 | m+1,i,L,h,hL=>by
   simp only[cntU];by_cases hi:i=m
   ·subst hi;rw[cntU_ge i L (zD _)];have hiL:i<L.size:=by
     rcases zaE i L.size with h'|h'
     ·exact h'
     ·simp[yI h']at hL
    simp[hL,hiL]
   ·have:=cntU_set m L (show i<m by omega) hL;rw[getD_set_ne true hi];omega
theorem cntU_zero:∀(m:Nat) (L:Array Bool),cntU m L=0→∀i,i<m→L.getD i true=true
 | 0,_,_,i,h=>by omega
 | m+1,L,h,i,hi=>by
   simp only[cntU]at h;by_cases him:i=m
   ·subst him;by_cases hx:L.getD i true=true
    ·exact hx
    ·simp[hx]at h
   ·exact cntU_zero m L (by omega) i (by omega)
theorem cntU_pos:∀(m:Nat) (L:Array Bool),cntU m L≠0→∃i,i<m∧L.getD i true=false
 | 0,_,h=>absurd rfl h
 | m+1,L,h=>by
   by_cases hx:L.getD m true=true
   ·simp only[cntU,hx,if_true,zgA]at h;obtain⟨i,hi,hL⟩:=cntU_pos m L h;exact⟨i,by omega,hL⟩
   ·exact⟨m,by omega,by simpa using hx⟩
theorem cntU_least{m:Nat}{L:Array Bool}(h:cntU m L≠0):∃i,i<m∧L.getD i true=false∧∀j,j<i→L.getD j true=true:=by
 obtain⟨i,hi,hL⟩:=cntU_pos m L h;induction i using Nat.strongRecOn with
 | _ i ih=>
   by_cases hx:∃j,j<i∧L.getD j true=false
   ·obtain⟨j,hj,hjL⟩:=hx;exact ih j hj (by omega) hjL
   ·refine⟨i,hi,hL,fun j hj=> ?_⟩;by_cases hy:L.getD j true=true
    ·exact hy
    ·exact absurd ⟨j,hj,by simpa using hy⟩ hx
def zrA(P:Program)(Y:Array Value→Nat→Option Bool)(S:World→Prop)(fl:List Nat)(F:Act→Prop):Nat→List Oper→Act→Prop
 | _,[],a=>F a
 | k,o::rest,a=>∃v,(if fl.contains k then((Region.wanted o (Y a.tmps)=true∧∀w,(execOp a.eval o).run P w = .ok (.value v) w)∨(Region.wanted o (Y a.tmps)=false∧v=undef))else zuD P Y S o v a)∧
    zrA P Y S fl F (k+1) rest (a.put o.dst v)
def zfF(n m:Nat):Array Bool:=(Array.range n).map fun i=>decide (i<m)
theorem zdY(n m i:Nat)(d:Bool):(zfF n m).getD i d=if i<n then decide (i<m)else d:=by
 unfold zfF;by_cases h:i<n
 ·simp[h]
 ·simp[h,yI]
def mixB(ops:Array Oper)(m n:Nat)(fl:List Nat):Bool:=
 Region.noSelect ops&&decide (m+n=ops.size) &&
 ((List.range m).all fun i=>(List.range m).all fun j=>decide (i=j)||(match zgC ops i with|some t=>zgC ops j != some t|none=>true)) &&
 ((List.range m).all fun i=>(List.range m).all fun j=>match zgC ops j,ops[i]? with|some t,some o=> !(o.looksAt ops).contains t||Region.waitsFor .any ops i j|_,_=>true) &&
 ((List.range ops.size).all fun i=>match ops[i]? with|some o=>o.after.all fun e=> !Region.binds .any e||decide (e.on<i)|none=>true) &&
 (fl.all fun i=>(List.range ops.size).all fun j=>decide (j=i)||Region.waitsFor .any ops j i||Region.waitsFor .any ops i j||(match ops[i]?,ops[j]? with|some x,some y=>x.apart ops y|_,_=>true)) &&
 (decide (n=0)||((List.range m).all fun i=>fl.contains i||(List.range (m+1)).any fun j=>decide (i<j)&&Region.waitsFor .any ops j i && !fl.contains j)) &&
 ((List.range ops.size).all fun t=>decide (t≤m)||Region.waitsFor .any ops t (t-1)) &&
 forced ops m n (zfF ops.size m)
theorem zjS{id:Nat}{a:Act}{w:World}(m n:Nat)(l t:List Oper)(S:World→Prop)(fl:List Nat)(hm:P.follows .mixedOrders=true)(hops:ops.toList=l++t)(hl:l.length=m)(ht:t.length=n)
 (ho:mixB ops m n fl=true) (hQ:∀c a d v w,Q (.panic c) (Act.put a d v) w→Q (.panic c) a w) (hS:S w.drew)
 (h:zrA P (yielded ops) S fl (fun a'=>∀w',S w'→wpList P ops Q t a' w') 0 l a):(Code.region id ops true).wp P Q a w:=by
 simp only[mixB,zS,zY,List.all_eq_true,zfQ,Bool.or_eq_true]at ho;obtain⟨⟨⟨⟨⟨⟨⟨⟨hsel,hsz⟩,hdist⟩,hdep⟩,hback⟩,hfl⟩,hsink⟩,hchain⟩,hforce⟩:=ho
 have hopl:∀j,j<m→ops[j]? = l[j]? :=fun j hj=>by
  have h1:ops[j]? = (l++t)[j]? :=by rw[←hops];simp
  rw[h1,zaN (by omega)]
 have hop2:∀j,t[j]? = if j<n then ops[m+j]? else none:=fun j=>by
  have h1:ops[m+j]? = (l++t)[m+j]? :=by rw[←hops];simp
  rw[h1];split
  ·rw[yQ (by omega),hl,zcM]
  ·rw[yP (by omega)]
 have hback':∀{i:Nat} {o:Oper},ops[i]? = some o→∀e∈o.after,Region.binds .any e=true→e.on<i:=fun {i o} hi e he hb=>by
  have:=hback i (Array.getElem?_eq_some_iff.1 hi).1;simp only[hi]at this;have:=Array.all_eq_true_iff_forall_mem.1 this e he;simpa[hb] using this
 have hdist':∀i,i<m→∀j,j<m→j≠i→∀t,zgC ops i=some t→zgC ops j≠some t:=fun i hi j hj hne t ht e=>by
  have:=(hdist i hi j hj).resolve_left (Ne.symm hne);simp[ht,e]at this
 obtain⟨V,pre,hpre,hobl,hfin⟩:∃(V:Nat→Value) (pre:Nat→Act),(∀k,k≤m→AtL ops m V a (pre k) (zfF ops.size k))∧
  (∀i o,i<m→ops[i]? = some o→(if fl.contains i then Yields P ops o (V i) (pre i)else Steady P ops S o (V i) (pre i)))∧(∀w',S w'→wpList P ops Q t (pre m) w'):=by
  have key:∀(rest:List Oper) (k:Nat) (V0:Nat→Value) (pre0:Nat→Act),k+rest.length=m→(∀j,rest[j]? = if j<rest.length then l[k+j]? else none)→
   (∀j,j≤k→AtL ops m V0 a (pre0 j) (zfF ops.size j))→
   (∀i o,i<k→ops[i]? = some o→(if fl.contains i then Yields P ops o (V0 i) (pre0 i)else Steady P ops S o (V0 i) (pre0 i)))→
   zrA P (yielded ops) S fl (fun a'=>∀w',S w'→wpList P ops Q t a' w') k rest (pre0 k)→
   ∃(V:Nat→Value) (pre:Nat→Act),(∀k,k≤m→AtL ops m V a (pre k) (zfF ops.size k))∧
    (∀i o,i<m→ops[i]? = some o→(if fl.contains i then Yields P ops o (V i) (pre i)else Steady P ops S o (V i) (pre i)))∧(∀w',S w'→wpList P ops Q t (pre m) w'):=by
   intro rest;induction rest with
   | nil=>
     intro k V0 pre0 hk _ hat hob hw;simp only[List.length_nil,zgA]at hk;subst hk;exact⟨V0,pre0,hat,hob,hw⟩
   | cons o rest ih=>
     intro k V0 pre0 hk hr hat hob hw;simp only[yO]at hk;obtain⟨v,hv,hw⟩:=hw;have hok:ops[k]? = some o:=by
      rw[hopl k (by omega)];have:=hr 0;simpa using this.symm
     have hkd:zgC ops k=o.dst:=by simp[zgC,hok]
     refine ih (k+1) (fun j=>if j=k then v else V0 j) (fun j=>if j=k+1 then(pre0 k).put o.dst v else pre0 j) (by omega) (fun j=> ?_) (fun j hj=> ?_) (fun i o' hi hio=> ?_) ?_
     ·have:=hr (j+1);simp only[lgs,yO,Nat.add_lt_add_iff_right]at this;rw[this,show k+(j+1)=k+1+j by omega]
     ·have hagree:∀(b:Act) (j':Nat),j'≤k→AtL ops m V0 a b (zfF ops.size j')→AtL ops m (fun j=>if j=k then v else V0 j) a b (zfF ops.size j'):=fun b j' hj' hb=>
       ⟨hb.defers,hb.size,fun i t hi hL hd ht=>by
         have hik:i≠k:=fun e=>by
          subst e;rw[zdY]at hL;split at hL
          ·simp at hL;omega
          ·cases hL
         simp only[hik,if_false];exact hb.put i t hi hL hd ht,hb.old⟩
      by_cases hjk:j=k+1
      ·subst hjk;simp only[if_true];have h1:=(hagree (pre0 k) k (zD _) (hat k (zD _))).step (i:=k) (by omega) (by rw[zdY];simp;omega) (fun j hj hne t ht=>hdist' k (by omega) j hj hne t ht);rw[hkd]at h1;simp only[if_true]at h1;have e:(zfF ops.size k).setIfInBounds k true=zfF ops.size (k+1):=by
        refine Array.ext_getElem? fun i=> ?_;by_cases hi:i<ops.size
        ·by_cases hik:k=i
         ·subst hik;simp[zfF,hi]
         ·rw[Array.getElem?_setIfInBounds_ne hik];simp[zfF,hi];omega
        ·rw[yI (by simp[zfF];omega),yI (by simp[zfF];omega)]
       rwa[e]at h1
      ·simp only[hjk,if_false];exact hagree (pre0 j) j (by omega) (hat j (by omega))
     ·have hik1:i≠k+1:=by omega
      simp only[hik1,if_false];by_cases hik:i=k
      ·subst hik;have:o'=o:=zK (hio.symm.trans hok);subst this;simp only[if_true];exact hv
      ·simp only[hik,if_false];exact hob i o' (by omega) hio
     ·simp only[if_true];exact hw
  refine key l 0 (fun _=>undef) (fun _=>a) (by omega) (fun j=> ?_) (fun j hj=> ?_) (fun i o hi _=>by omega) h
  ·split
   ·rw[yK]
   ·rw[yP (by omega)]
  ·obtain rfl:j=0:=by omega
   refine⟨rfl,rfl,fun i t _ hL _ _=> ?_,fun t _=>rfl⟩;rw[zdY]at hL;split at hL<;>simp at hL
 have same:∀(i:Nat) (o:Oper) (L:Array Bool) (b:Act),i<m→ops[i]? = some o→AtL ops m V a b L→HeadInv .any ops m L→i∈Region.ready .any ops L→
  execOp b.eval o=execOp (pre i).eval o∧Region.wanted o (yielded ops b.tmps)=Region.wanted o (yielded ops (pre i).tmps):=by
  intro i o L b him hio hat hinv hr;obtain⟨hun,o',ho',hall⟩:=mem_ready.1 hr;have:o'=o:=zK (ho'.symm.trans hio);subst this;have hat':=hpre i (by omega)
  have htmp:∀d,d∈o'.looksAt ops→b.tmps[d]? = (pre i).tmps[d]? :=fun d hd=>by
   by_cases hj:∃j,j<m∧zgC ops j=some d
   ·obtain⟨j,hj,hjd⟩:=hj;have hw:Region.waitsFor .any ops i j=true:=by
     have:=hdep i him j hj;simp only[hjd,hio]at this;simpa[hd] using this
    obtain⟨o2,ho2,e,he,hb,hon⟩:=Region.waitsFor_spec hw;have:o2=o':=zK (ho2.symm.trans hio);subst this;have hjL:=hall e he hb;have hji:=hback' hio e he hb;rw[hon]at hjL hji;by_cases ht:d<a.tmps.size
    ·rw[hat.put j d hj hjL hjd ht,hat'.put j d hj (by rw[zdY,zO (by omega)];simpa using hji) hjd ht]
    ·have s1:b.tmps.size≤d:=by rw[hat.size];exact Nat.le_of_not_lt ht
     have s2:(pre i).tmps.size≤d:=by rw[hat'.size];exact Nat.le_of_not_lt ht
     rw[yI s1,yI s2]
   ·have hn:∀j,j<m→zgC ops j≠some d:=fun j h1 h2=>hj ⟨j,h1,h2⟩;rw[hat.old d (fun j hj _=>hn j hj),hat'.old d (fun j hj _=>hn j hj)]
  refine⟨execOp_congr o' (fun cs c=>Region.noSelect_spec hsel i o' cs c hio) fun x hx=> ?_,?_⟩
  ·cases x with
   | tmp d=>
     have:=htmp d (List.mem_append_left _ (List.mem_filterMap.2 ⟨.tmp d,by simpa using hx,rfl⟩));simp only[Act.eval,Array.getD_eq_getD_getElem?,this]
   | const v=>rfl
   | global g=>rfl
   | func f=>rfl
  ·unfold Region.wanted;cases hg:o'.guard with
   | none=>rfl
   | some gw=>
     obtain⟨g,gb⟩:=gw;have hy:yielded ops b.tmps g=yielded ops (pre i).tmps g:=by
      unfold yielded;cases hgd:(ops[g]?).bind (·.dst)with
      | none=>rfl
      | some d=>
        have:=htmp d (List.mem_append_right _ (by simp[hg,hgd]));simp only[Option.bind_some,this]
     simp only[hy]
 have hcore:∀(c:Nat) (L:Array Bool) (b:Act) (w':World),cntU m L=c→HeadInv .any ops m L→AtL ops m V a b L→S w'→wpAny P .any ops Q (c+n) L b w':=by
  intro c;induction c with
  | zero=>
    intro L b w' hc hinv hat hS';have hall:=cntU_zero m L hc;have eL:L=zfF ops.size m:=by
     refine Array.ext_getElem? fun i=> ?_;by_cases hi:i<ops.size
     ·have h1:L.getD i true=decide (i<m):=by
       by_cases him:i<m
       ·rw[hall i him];simpa using him
       ·rw[hinv.tail i (by omega) hi];simp[him]
      have h2:i<L.size:=by rw[hinv.size];exact hi
      simp[h2]at h1;simp[zfF,hi,h2,h1]
     ·rw[yI (by rw[hinv.size];omega),yI (by simp[zfF];omega)]
    subst eL;have eb:=hat.eq (hpre m (zD _));subst eb;rw[yK];exact zcC n m _ t ht hop2 (by omega) hforce _ w' (hfin w' hS')
  | succ c ih=>
    intro L b w' hc hinv hat hS';rw[show c+1+n=(c+n)+1 by omega]
    have stepL:∀i,i<m→i∈Region.ready .any ops L→∀w2,S w2→wpAny P .any ops Q (c+n) (L.setIfInBounds i true) (b.put (zgC ops i) (V i)) w2:=fun i him hr w2 hS2=>by
     have hun:=(mem_ready.1 hr).1;exact ih _ _ w2 (by have:=cntU_set m L him hun;omega) (hinv.set hr him) (hat.step him hun (hdist' i him)) hS2
    by_cases hf:∃i,i<m∧fl.contains i=true∧i∈Region.ready .any ops L
    ·obtain⟨i,him,hfi,hr⟩:=hf;obtain⟨hun,o,hio,hall⟩:=mem_ready.1 hr;have hid:zgC ops i=o.dst:=by simp[zgC,hio]
     have hy:=hobl i o him hio;rw[zO hfi]at hy;have hs:=same i o L b him hio hat hinv hr;have hy':Yields P ops o (V i) b:=by
      unfold Yields at *;rw[hs.1,hs.2];exact hy
     refine wpAny_first hio (Region.noSelect_spec hsel) (fun c a w=>hQ c a _ _ w) _ L b w' (fun j oj hoj hji hjun hno=> ?_) hr hy' (by have:=stepL i him hr w' hS';rwa[hid]at this);have h1:=hfl i (by simpa using hfi) j (Array.getElem?_eq_some_iff.1 hoj).1;simp only[hio,hoj]at h1;rcases h1 with((h1|h1)|h1)|h1
     ·exact absurd h1 hji
     ·obtain⟨o2,ho2,e,he,hb,hon⟩:=Region.waitsFor_spec h1;have:o2=oj:=zK (ho2.symm.trans hoj);subst this;exact absurd hon (hno e he hb)
     ·obtain⟨o2,ho2,e,he,hb,hon⟩:=Region.waitsFor_spec h1;have:o2=o:=zK (ho2.symm.trans hio);subst this;have:=hall e he hb;rw[hon,getD_both hjun]at this;cases this
     ·exact h1
    ·have hfr:∀i,i<m→fl.contains i=true→i∉Region.ready .any ops L:=fun i h1 h2 h3=>hf ⟨i,h1,h2,h3⟩;have hone:cntU m L≠0:=by omega
     obtain⟨i0,hi0,hun0,hless⟩:=cntU_least hone;have hi0s:i0<ops.size:=by omega
     have hr0:i0∈Region.ready .any ops L:=mem_ready.2 ⟨hun0,ops[i0],by simp[hi0s],fun e he hb=>by
      have h1:=hback' (i:=i0) (o:=ops[i0]) (by simp[hi0s]) e he hb;have h2:=hless e.on h1;have h3:e.on<L.size:=by rw[hinv.size];omega
      simp[h3]at h2⊢;exact h2⟩
     have hnf0:fl.contains i0=false:=by
      cases hx:fl.contains i0 with
      | false=>rfl
      | true=>exact absurd hr0 (hfr i0 hi0 hx)
     have hlt:∀k∈Region.ready .any ops L,k<m:=fun k hk=>by
      rcases zaE k m with h|hkm
      ·exact h
      obtain⟨hkun,ok,hok,hkall⟩:=mem_ready.1 hk;have hks:=(Array.getElem?_eq_some_iff.1 hok).1;have hn0:n≠0:=by omega
      have hsink':=hsink.resolve_left hn0
      have hmno:∀i,i≤m→fl.contains i=false→L.getD i true=false→i<m→False∨∃j,j≤m∧i<j∧fl.contains j=false∧L.getD j true=false∧j∉Region.ready .any ops L:=fun i him hfi hiun hilt=>by
       have:=(hsink' i hilt).resolve_left (by simpa using hfi);obtain⟨j,hj,hj2⟩:=List.any_eq_true.1 this;simp only[zfQ,zS,zY,Bool.not_eq_true']at hj hj2;obtain⟨⟨hij,hw⟩,hfj⟩:=hj2;obtain⟨oj,hoj,e,he,hb,hon⟩:=Region.waitsFor_spec hw;have hjs:=(Array.getElem?_eq_some_iff.1 hoj).1;have hjun:L.getD j true=false:=by
        cases hx:L.getD j true with
        | false=>rfl
        | true=>
          have hx':L.getD j false=true:=by
           have h3:j<L.size:=by rw[hinv.size];omega
           simp[h3]at hx⊢;exact hx
          have:=hinv.closed j oj hoj hx' e he hb;rw[hon,getD_both hiun]at this;cases this
       refine .inr ⟨j,by omega,hij,hfj,hjun,fun hjr=> ?_⟩;obtain⟨_,oj2,hoj2,hjall⟩:=mem_ready.1 hjr;have:oj2=oj:=zK (hoj2.symm.trans hoj);subst this;have:=hjall e he hb;rw[hon,getD_both hiun]at this;cases this
      have hmnr:m∉Region.ready .any ops L:=by
       have climb:∀d i,m-i≤d→i<m→fl.contains i=false→L.getD i true=false→m∉Region.ready .any ops L:=by
        intro d;induction d with
        | zero=>intro i h1 h2;omega
        | succ d ihd=>
          intro i h1 h2 h3 h4;rcases hmno i (by omega) h3 h4 h2 with h|⟨j,hjm,hij,hfj,hjun,hjr⟩
          ·exact h.elim
          ·rcases zaE j m with hj|hj
           ·exact ihd j (by omega) hj hfj hjun
           ·obtain rfl:j=m:=by omega
            exact hjr
       exact climb (m-i0) i0 (zD _) hi0 hnf0 hun0
      rcases zaE m k with hmk|hmk
      ·have hw:=(hchain k hks).resolve_left (by omega);obtain⟨o2,ho2,e,he,hb,hon⟩:=Region.waitsFor_spec hw;have:o2=ok:=zK (ho2.symm.trans hok);subst this;have h1:=hkall e he hb;have h2:=hinv.tail (k-1) (by omega) (by omega);rw[hon,getD_both h2]at h1;cases h1
      ·obtain rfl:k=m:=by omega
       exact absurd hk hmnr
     refine⟨fun h0=>(by rw[h0]at hr0;cases hr0),fun i hi=> ?_⟩;have him:=hlt i hi;obtain⟨hun,o,hio,hall⟩:=mem_ready.1 hi;have hid:zgC ops i=o.dst:=by simp[zgC,hio]
     have hy:=hobl i o him hio;have hfi:fl.contains i=false:=by
      cases hx:fl.contains i with
      | false=>rfl
      | true=>exact absurd hi (hfr i him hx)
     rw[zG (by rw[hfi];simp)]at hy;have hs:=same i o L b him hio hat hinv hi
     exact Steady.wpOp hio (hy.of_same hs.1 hs.2) hS' fun w2 hS2=>by
      have:=stepL i him hi w2 hS2;rwa[hid]at this
 refine wp_region_any hm ?_;have hL0:Array.replicate ops.size false=zfF ops.size 0:=by
  refine Array.ext_getElem? fun i=> ?_;by_cases hi:i<ops.size<;>simp[zfF,hi]
 have hcnt:cntU m (zfF ops.size 0)=m:=by
  have:∀k,k≤ops.size→cntU k (zfF ops.size 0)=k:=by
   intro k;induction k with
   | zero=>intro _;rfl
   | succ k ih=>
     intro hk;have e:(zfF ops.size 0).getD k true=false:=by rw[zdY,zO (show k<ops.size by omega)];simp
     simp only[cntU];rw[ih (by omega),e];simp
  exact this m (by omega)
 have hinv0:HeadInv .any ops m (zfF ops.size 0):=⟨by simp[zfF],fun j oj hj hL=>by(rw[zdY]at hL;split at hL<;>simp at hL),fun t _ ht=>by rw[zdY,zO ht];simp⟩;have h2:=hcore m (zfF ops.size 0) (pre 0) w.drew hcnt hinv0 (hpre 0 (by omega)) hS;have hp0:pre 0=a:=by
  have hz:AtL ops m V a a (zfF ops.size 0):=⟨rfl,rfl,fun i t _ hL _ _=>by(rw[zdY]at hL;split at hL<;>simp at hL),fun t _=>rfl⟩;exact(hpre 0 (by omega)).eq hz
 rw[hp0,←hL0,hsz]at h2;exact h2
theorem zjT{id:Nat}{a:Act}{w:World}(m n:Nat)(l t:List Oper)(S:World→Prop)(fl:List Nat)(hm:P.follows .mixedOrders=true)(hops:ops.toList=l++t)(hl:l.length=m)(ht:t.length=n)
 (ho:mixB ops m n fl=true) (hS:S w.drew)
 (h:∀(Y:Array Value→Nat→Option Bool) (F:Act→Prop),(∀t,Y t=yielded ops t)→
   Shut' (∀a',(∀(K:Act→World→Prop) w',Shut' (∀a w,Q .normal a w→K a w)→S w'→wpList P ops (OnlyK K) t a' w')→F a')→zrA P Y S fl F 0 l a):(Code.region id ops true).wp P Q a w:=
 Code.wp_mono (OnlyK.imp (fun _ _ h=>h)) (zjS m n l t S fl hm hops hl ht ho (fun _ _ _ _ _ h=>h) hS
  (h _ _ (fun _=>rfl) (fun _ h w' hS'=>h (fun a w=>Q .normal a w) w' (fun _ _ h=>h) hS')))
theorem zgV{Y:Array Value→Nat→Option Bool}{fl:List Nat}{F:Act→Prop}{k:Nat}{o:Oper}{rest:List Oper}{a:Act}{v:Value}(hf:fl.contains k=false)(hw:Region.wanted o (Y a.tmps)=true)
 (h:∀w,S w→(execOp a.eval o).run P w = .ok (.value v) w) (h2:zrA P Y S fl F (k+1) rest (a.put o.dst v)):zrA P Y S fl F k (o::rest) a:=
 ⟨v,by rw[zG (by rw[hf];simp)];exact .inl ⟨hw,fun w hS=>by rw[h w hS];exact⟨rfl,hS⟩⟩,h2⟩
theorem zgW{Y:Array Value→Nat→Option Bool}{fl:List Nat}{F:Act→Prop}{k:Nat}{o:Oper}{rest:List Oper}{a:Act}{v:Value}(hf:fl.contains k=true)(hw:Region.wanted o (Y a.tmps)=true)
 (h:∀w,(execOp a.eval o).run P w = .ok (.value v) w) (h2:zrA P Y S fl F (k+1) rest (a.put o.dst v)):zrA P Y S fl F k (o::rest) a:=
 ⟨v,by rw[zO hf];exact .inl ⟨hw,h⟩,h2⟩
theorem zrO{Y:Array Value→Nat→Option Bool}{fl:List Nat}{F:Act→Prop}{k:Nat}{o:Oper}{rest:List Oper}{a:Act}{v:Value}{f:FuncId}{args:Array Value}(hf:fl.contains k=false)(hw:Region.wanted o (Y a.tmps)=true)
 (hr:∀w,S w→(execOp a.eval o).run P w = .ok (.enter f args) w)
 (h:∀w,S w→Calls P f args w fun e w'=>e = .returned v∧S w') (h2:zrA P Y S fl F (k+1) rest (a.put o.dst v)):zrA P Y S fl F k (o::rest) a:=
 ⟨v,by rw[zG (by rw[hf];simp)];exact .inl ⟨hw,fun w hS=>by rw[hr w hS];exact h w hS⟩,h2⟩
end
end Go.Proofs.YtahaacfikalheaaGreat
namespace Go.Proofs.YtahaacfikalheaaGreat
open Go.RowKit
section
variable {P:Program} {ops:Array Oper} {Q:Exit→Act→World→Prop} {S:World→Prop}
structure Fresh where
 nd:List Nat
 dv:List Nat
 Sh:Nat→Value→Prop
 R:Nat→Value→World→Prop
 D:Nat→List Nat
 ex:Nat→List Nat
 lat:Nat→List Nat
 fin:List Nat
end
end Go.Proofs.YtahaacfikalheaaGreat
namespace Go.Proofs.YtahaacfikalheaaGreat
open Go.RowKit
section
variable {P:Program} {ops:Array Oper} {Q:Exit→Act→World→Prop} {S:World→Prop}
variable {Y:Array Value→Nat→Option Bool} {Z:Fresh} {k:Nat} {o:Oper} {rest:List Oper} {a:Act} {v:Value} {f:FuncId} {args:Array Value} {c:Nat→Value} {F:Act→Prop}
end
end Go.Proofs.YtahaacfikalheaaGreat
namespace Go.Proofs.YtahaacfikalheaaGreat
open Go.RowKit
theorem zhW{P:Program}{w:World}{o:Oper}{a:Act}(s x:Operand)(t e:TypeId)(size bytes:Nat)(zc:List Value)(base:Nat)
 (he:Elems P t e size bytes zc) (ho:o.op = .call {callee:=.builtin .append,args:=#[s,x],argTypes:=#[t,t]})
 (v:Value) (n:Nat) (xs:List Value) (hs:a.eval s=v) (hown:w.ownsRow base e size v n xs)
 (ad:Option Addr) (m c:Nat) (news:List Value) (hx:a.eval x = .slice ad m c) (hl:news.length=m*size) (hnews:Rd w ad news) (h1:∀u∈news,u.oneCell'=true)
 (h63:n+m≤maxLen) (hbytes:(n+m)*bytes≤140737488355328) (hbase:base≤w.heap.size) :
 ∃a' cap' w',(execOp a.eval o).run P w = .ok (.value (.slice a' (n+m) cap')) w'∧w'.ownsRow base e size (.slice a' (n+m) cap') (n+m) (xs++news)∧w.grownBy w' v.ownBlock:=by
 obtain⟨i,z,hi,hz,hsz,hby,hzs,hzc⟩:=he.open;cases ad with
 | some ad=>
   have hnews':∀j u,news[j]? = some u→w.cell? (ad.add j)=some u:=by
    intro j u hu;obtain⟨b,off,e1,hr⟩:=hnews (fun e=>by rw[e]at hu;simp at hu);cases e1;rw[Addr.add_mid];exact hr j u hu
   obtain⟨v',w',hr,h2,h3,h4,h5⟩:=run_append_own_at (P:=P) w base t o.type e i z size bytes he.1 hi hz hsz hby hzs he.2.2.2 v n xs hown ad m c news hl hnews' h1 h63 hbytes hbase;obtain⟨a',cap',rfl,_⟩:=zaX h2;refine⟨a',cap',w',?_,h2,h3⟩;unfold execOp;simp only[ho,resolve,invoke,builtin,Sem.run_bind,Sem.run_pure,Result.andThen_ok,List.map_toArray,lmc,lmn,hs,hx,hr]
 | none=>
   have hn:news = []:=by
    cases hnn:news with
    | nil=>rfl
    | cons y ys=>obtain⟨b,off,e1,_⟩:=hnews (by rw[hnn];simp);simp at e1
   subst hn;have hm:m=0:=by
    have h0:m*size=0:=by simpa using hl.symm
    rcases Nat.mul_eq_zero.1 h0 with h|h
    ·exact h
    ·have:=he.2.2.2;omega
   subst hm;obtain⟨a0,cap0,rfl,hnc,_⟩:=zaX hown;refine⟨a0,cap0,w,?_,by simpa using hown,⟨rfl,rfl,rfl,zD _,fun _ _ _=>rfl⟩⟩;cases a0 with
   | none=>simp[execOp,ho,resolve,invoke,builtin,hs,hx,Builtin.append_,run_underlying he.1,sizeOf,typeInfo,hi,Builtin.lenOf,Builtin.firstCells,hnc,Result.andThen]
   | some a0=>simp[execOp,ho,resolve,invoke,builtin,hs,hx,Builtin.append_,run_underlying he.1,sizeOf,typeInfo,hi,Builtin.lenOf,Builtin.firstCells,hnc,storeCells,Result.andThen]
theorem Blk.grown{w w':World}{row:Option Nat}{b:Nat}{cs:List Value}{t:TypeId}(h:Blk w b cs t)(hg:w.grownBy w' row)(hne:some b≠row):Blk w' b cs t:=by
 unfold Blk at *;rw[hg.block b (Array.getElem?_eq_some_iff.1 h).1 hne];exact h
theorem zbX{w:World}{base:Nat}{e:TypeId}{size n:Nat}{v:Value}{xs:List Value}(h:w.ownsRow base e size v n xs){g:Nat}(hg:v.ownBlock=some g):base≤g∧∃cur,w.heap[g]? = some (.cells cur e (0,0)):=by
 rcases h.2 with⟨rfl,_⟩|⟨g',cap,cur,rfl,hb,hh,_⟩
 ·simp[Value.ownBlock]at hg
 ·simp[Value.ownBlock]at hg;subst hg;exact⟨hb,cur,hh⟩
end Go.Proofs.YtahaacfikalheaaGreat
namespace Go.Proofs.YtahaacfikalheaaGreat
open Go.RowKit
section
variable {P:Program} {ops:Array Oper} {Q:Exit→Act→World→Prop} {S:World→Prop}
def zmZ(P:Program)(ops:Array Oper)(Q:Exit→Act→World→Prop)(S:World→Prop)(m tail:Nat):Nat→Array Bool→Act→World→Prop
 | 0,listed,a,w=>(∀i∈Region.ready .any ops listed,m≤i)∧wpAny P .any ops Q tail listed a w
 | fuel+1,listed,a,w=>Region.ready .any ops listed≠ []∧(∀i∈Region.ready .any ops listed,i<m)∧
   ∀i∈Region.ready .any ops listed,wpOp P ops Q i (fun a' w'=>S w'∧zmZ P ops Q S m tail fuel (listed.setIfInBounds i true) a' w') a w
theorem ziI{m tail:Nat}:∀(fuel:Nat) (listed:Array Bool) (a:Act) (w:World),zmZ P ops Q S m tail fuel listed a w→wpAny P .any ops Q (fuel+tail) listed a w
 | 0,listed,a,w,h=>by rw[yK];exact h.2
 | fuel+1,listed,a,w,h=>by
   rw[show fuel+1+tail=(fuel+tail)+1 by omega];exact⟨fun h0=>absurd h0 h.1,fun i hi=>wpOp_mono (fun a' w' h'=>ziI fuel _ a' w' h'.2) (h.2.2 i hi)⟩
theorem zmY{m tail i:Nat}{oi:Oper}{v:Value}(hbar:zeX ops m=true)(him:i<m)(hi:ops[i]? = some oi)(hsel:∀(j:Nat) (o:Oper) cs b,ops[j]? = some o→o.op≠ .select cs b)
 (hQ:∀c a w,Q (.panic c) (a.put oi.dst v) w→Q (.panic c) a w) :
 ∀(fuel:Nat) (listed:Array Bool) (a:Act) (w:World),
  (∀j oj,ops[j]? = some oj→j≠i→listed.getD j true=false→(∀e∈oj.after,Region.binds .any e=true→e.on≠i)→oi.apart ops oj=true)→
  i∈Region.ready .any ops listed→YieldsIf P ops S oi v a→S w→
  zmZ P ops Q S m tail fuel (listed.setIfInBounds i true) (a.put oi.dst v) w→zmZ P ops Q S m tail (fuel+1) listed a w:=by
 intro fuel;induction fuel with
 | zero=>
   intro listed a w _ hr hy hS H
   have hlt:∀j∈Region.ready .any ops listed,j<m:=fun j hj=>by
    rcases zaE j m with h|h
    ·exact h
    ·have h1:=zeB hbar hj h him;have h0:=(mem_ready.1 hr).1;rcases zaE i listed.size with h'|h'
     ·simp[h']at h0 h1;rw[h0]at h1;cases h1
     ·simp[yI h']at h1
   refine⟨fun h=>(by rw[h]at hr;cases hr),hlt,fun j hj=> ?_⟩;by_cases hji:j=i
   ·subst hji;exact hy.wpOp hi hS ⟨hS,H⟩
   ·have h1:=H.1 j (ready_mono hj hji);have h2:=hlt j hj;omega
 | succ fuel ih=>
   intro listed a w hfree hr hy hS H
   have hlt:∀j∈Region.ready .any ops listed,j<m:=fun j hj=>by
    rcases zaE j m with h|h
    ·exact h
    ·have h1:=zeB hbar hj h him;have h0:=(mem_ready.1 hr).1;rcases zaE i listed.size with h'|h'
     ·simp[h']at h0 h1;rw[h0]at h1;cases h1
     ·simp[yI h']at h1
   refine⟨fun h=>(by rw[h]at hr;cases hr),hlt,fun j hj=> ?_⟩;by_cases hji:j=i
   ·subst hji;exact hy.wpOp hi hS ⟨hS,H⟩
   ·have h1:=H.2.2 j (ready_mono hj hji);obtain⟨hjun,oj,hoj,hall⟩:=mem_ready.1 hj
    have hnot:∀e∈oj.after,Region.binds .any e=true→e.on≠i:=fun e he hb heq=>by
     have h1:=hall e he hb;have h0:=(mem_ready.1 hr).1;rw[heq]at h1;rcases zaE i listed.size with h'|h'
     ·simp[h']at h0 h1;rw[h0]at h1;cases h1
     ·simp[yI h']at h1
    have h2:=wpOp_putIf hoj (hfree j oj hoj hji hjun hnot) (fun cs b=>hsel i oi cs b hi) (fun cs b=>hsel j oj cs b hoj) hQ hy h1
    have hfree':∀k ok,ops[k]? = some ok→k≠i→(listed.setIfInBounds j true).getD k true=false→
     (∀e∈ok.after,Region.binds .any e=true→e.on≠i)→oi.apart ops ok=true:=fun k ok hk hki hun hno=>by
     refine hfree k ok hk hki ?_ hno;by_cases hjk:j=k
     ·subst hjk;exact hjun
     ·rw[getD_set_ne true hjk]at hun;exact hun
    refine wpOp_mono (fun a' w' h3=>⟨h3.2.1,ih (listed.setIfInBounds j true) a' w' hfree' (ready_mono hr (Ne.symm hji)) h3.1 h3.2.1 ?_⟩) h2;rw[Array.setIfInBounds_comm _ _ hji];exact h3.2.2
def zgJ(P:Program)(Y:Array Value→Nat→Option Bool)(S:World→Prop)(F:Act→Prop):List Oper→Act→Prop
 | [],a=>F a
 | o::rest,a=>∃v,((Region.wanted o (Y a.tmps)=true∧∀w,S w→(execOp a.eval o).run P w = .ok (.value v) w)∨(Region.wanted o (Y a.tmps)=false∧v=undef))∧zgJ P Y S F rest (a.put o.dst v)
def zcX(P:Program)(Y:Array Value→Nat→Option Bool)(Q:Exit→Act→World→Prop)(S:World→Prop)(F:Act→World→Prop):List Oper→Act→World→Prop
 | [],a,w=>F a w
 | o::rest,a,w=>if Region.wanted o (Y a.tmps)=true then o.wp P a w (fun a' w'=>S w'∧zcX P Y Q S F rest a' w') Q∨(o.asks P a w∧LetsOut Q)else S w∧zcX P Y Q S F rest (a.put o.dst undef) w
def zdK:List Nat→Array Bool→Array Bool
 | [],l=>l
 | k::r,l=>zdK r (l.setIfInBounds k true)
def takesB(ops:Array Oper)(m:Nat):List Nat→Array Bool→Bool
 | [],_=>true
 | k::r,l=>(Region.ready .any ops l).contains k&&Region.free .any ops l k&&decide (k<m)&&takesB ops m r (l.setIfInBounds k true)
def ztY(ops:Array Oper)(m:Nat):List Nat→Array Bool→Bool
 | [],_=>true
 | k::r,l=>(Region.ready .any ops l == [k])&&decide (k<m)&&ztY ops m r (l.setIfInBounds k true)
theorem zmX{m tail fuel:Nat}(hbar:zeX ops m=true)(hsel:Region.noSelect ops=true)(hQ:∀c a d v w,Q (.panic c) (Act.put a d v) w→Q (.panic c) a w){w:World}(hS:S w) :
 ∀(st:List Nat) (ls:List Oper) (listed:Array Bool) (a:Act),st.map (fun k=>ops[k]?)=ls.map some→takesB ops m st listed=true→
 zgJ P (yielded ops) S (fun a'=>zmZ P ops Q S m tail fuel (zdK st listed) a' w) ls a→zmZ P ops Q S m tail (st.length+fuel) listed a w
 | [],ls,listed,a,hl,_,h=>by
   cases ls with
   | nil=>simpa[zgJ,zdK] using h
   | cons o r=>simp at hl
 | k::st,ls,listed,a,hl,ht,h=>by
   cases ls with
   | nil=>simp at hl
   | cons o r=>
     simp only[lmc,List.cons.injEq]at hl;simp only[takesB,zS,zY]at ht;obtain⟨v,hy,hrest⟩:=h;rw[show(k::st).length+fuel=(st.length+fuel)+1 by simp;omega]
     exact zmY hbar ht.1.2 hl.1 (Region.noSelect_spec hsel) (fun c a w=>hQ c a _ _ w) _ listed a w (Region.free_spec hl.1 ht.1.1.2) (by simpa using ht.1.1.1) hy hS
      (zmX hbar hsel hQ hS st r _ _ hl.2 ht.2 hrest)
theorem zgY{m tail:Nat}:∀(ch:List Nat) (lc:List Oper) (listed:Array Bool) (a:Act) (w:World),ch.map (fun k=>ops[k]?)=lc.map some→ztY ops m ch listed=true→
 (∀i∈Region.ready .any ops (zdK ch listed),m≤i)→
 zcX P (yielded ops) Q S (fun a' w'=>wpAny P .any ops Q tail (zdK ch listed) a' w') lc a w→zmZ P ops Q S m tail ch.length listed a w
 | [],lc,listed,a,w,hl,_,hend,h=>by
   cases lc with
   | nil=>exact⟨hend,h⟩
   | cons o r=>simp at hl
 | k::ch,lc,listed,a,w,hl,hc,hend,h=>by
   cases lc with
   | nil=>simp at hl
   | cons o r=>
     simp only[lmc,List.cons.injEq]at hl;simp only[ztY,zS,beq_iff_eq,zY]at hc;refine⟨by rw[hc.1.1];simp,fun i hi=> ?_,fun i hi=> ?_⟩
     ·rw[hc.1.1,zaS]at hi;rw[hi];exact hc.1.2
     ·rw[hc.1.1,zaS]at hi;subst hi;unfold Go.wpOp;simp only[hl.1];unfold zcX at h;split
      ·rename_i hw
       rw[zO hw]at h;exact h.imp (Oper.wp_mono fun a' w' h'=>⟨h'.1,zgY ch r _ a' w' hl.2 hc.2 hend h'.2⟩) id
      ·rename_i hw
       rw[zG hw]at h;exact⟨h.1,zgY ch r _ _ w hl.2 hc.2 hend h.2⟩
def zmH(ops:Array Oper)(m n:Nat)(st ch:List Nat):Bool:=
 Region.noSelect ops&&zeX ops m&&decide (m+n=ops.size)&&decide (st.length+ch.length=m)&&takesB ops m st (Array.replicate ops.size false)&&ztY ops m ch (zdK st (Array.replicate ops.size false)) &&
  (Region.ready .any ops (zdK ch (zdK st (Array.replicate ops.size false)))).all (fun i=>decide (m≤i))&&forced ops m n (zdK ch (zdK st (Array.replicate ops.size false)))
theorem ziO{id:Nat}{a:Act}{w:World}(m n:Nat)(st ch:List Nat)(l t ls lc:List Oper)(S:World→Prop)(hm:P.follows .mixedOrders=true)(hops:ops.toList=l++t)(hl:l.length=m)(ht:t.length=n)
 (hls:st.map (fun k=>ops[k]?)=ls.map some) (hlc:ch.map (fun k=>ops[k]?)=lc.map some)
 (ho:zmH ops m n st ch=true) (hQ:∀c a d v w,Q (.panic c) (Act.put a d v) w→Q (.panic c) a w) (hS:S w.drew)
 (h:zgJ P (yielded ops) S (fun a'=>zcX P (yielded ops) Q S (fun a2 w2=>wpList P ops Q t a2 w2) lc a' w.drew) ls a):(Code.region id ops true).wp P Q a w:=by
 simp only[zmH,zS,zY,List.all_eq_true]at ho;obtain⟨⟨⟨⟨⟨⟨⟨hsel,hbar⟩,hsz⟩,hlen⟩,htk⟩,hch⟩,hend⟩,hforce⟩:=ho;refine wp_region_any hm ?_;have hgen:∀(K K':Act→World→Prop),(∀a w,K a w→K' a w)→∀(lc:List Oper) (a:Act) (w:World),zcX P (yielded ops) Q S K lc a w→zcX P (yielded ops) Q S K' lc a w:=by
  intro K K' hK lc;induction lc with
  | nil=>exact fun a w h=>hK a w h
  | cons o r ih=>
    intro a w h;unfold zcX at h⊢;split
    ·rename_i hw
     rw[zO hw]at h;exact h.imp (Oper.wp_mono fun a' w' h'=>⟨h'.1,ih a' w' h'.2⟩) (fun h=>h)
    ·rename_i hw
     rw[zG hw]at h;exact⟨h.1,ih _ _ h.2⟩
 have hgen2:∀(K K':Act→Prop),(∀a,K a→K' a)→∀(ls:List Oper) (a:Act),zgJ P (yielded ops) S K ls a→zgJ P (yielded ops) S K' ls a:=by
  intro K K' hK ls;induction ls with
  | nil=>exact fun a h=>hK a h
  | cons o r ih=>
    intro a h;obtain⟨v,hv,h⟩:=h;exact⟨v,hv,ih _ h⟩
 have H:=zmX (tail:=n) (fuel:=ch.length) hbar hsel hQ hS st ls (Array.replicate ops.size false) a hls htk
  (hgen2 _ _ (fun a' h'=>zgY ch lc _ a' _ hlc hch hend (hgen _ _ (fun a2 w2 h2=>zcC n m _ t ht (fun j=>by
    have hj:=yS (fun x=>x[m+j]?) hops;simp only[Array.getElem?_toList]at hj;rw[hj,yQ (by omega),hl,zcM];split
    ·rfl
    ·exact yP (by omega)) (by omega) hforce a2 w2 h2) lc a' _ h')) ls a h)
 have:=ziI _ _ _ _ H;rw[hlen,hsz]at this;exact this
def sel{α:Type}:List Bool→List α→List α
 | true::m,x::xs=>x::sel m xs
 | false::m,_::xs=>sel m xs
 | _,_=>[]
theorem zeE{α:Type}(m:List Bool)(x:α)(xs:List α):sel (true::m) (x::xs)=x::sel m xs:=rfl
theorem zdE{α:Type}(m:List Bool)(x:α)(xs:List α):sel (false::m) (x::xs)=sel m xs:=rfl
theorem zfU{α:Type}(xs:List α):sel [] xs = []:=by cases xs<;>rfl
theorem zhM{id:Nat}{a:Act}{w:World}(m n:Nat)(mask nask:List Bool)(l t:List Oper)(S:World→Prop)(hm:P.follows .mixedOrders=true)(hops:ops.toList=l++t)(hl:l.length=m)(ht:t.length=n)
 (hls:(sel mask (List.range m)).map (fun k=>ops[k]?)=(sel mask l).map some) (hlc:(sel nask (List.range m)).map (fun k=>ops[k]?)=(sel nask l).map some)
 (ho:zmH ops m n (sel mask (List.range m)) (sel nask (List.range m))=true) (hS:S w.drew)
 (h:∀(Y:Array Value→Nat→Option Bool) (Q':Exit→Act→World→Prop) (F:Act→World→Prop),(∀t,Y t=yielded ops t)→
   Shut' (∀a' w',(∀(K:Act→World→Prop),Shut' (∀a w,Q .normal a w→K a w)→wpList P ops (OnlyK K) t a' w')→F a' w')→
   zgJ P Y S (fun a'=>zcX P Y Q' S F (sel nask l) a' w.drew) (sel mask l) a):(Code.region id ops true).wp P Q a w:=
 Code.wp_mono (OnlyK.imp (fun _ _ h=>h)) (ziO m n _ _ l t _ _ S hm hops hl ht hls hlc ho (fun _ _ _ _ _ h=>h) hS
  (h _ (OnlyK fun a w=>Q .normal a w) (fun a2 w2=>wpList P ops (OnlyK fun a w=>Q .normal a w) t a2 w2) (fun _=>rfl) (fun _ _ h=>h (fun a w=>Q .normal a w) (fun _ _ h=>h))))
variable {Y:Array Value→Nat→Option Bool} {o:Oper} {rest:List Oper} {a:Act} {v:Value} {f:FuncId} {args:Array Value} {F:Act→Prop} {G:Act→World→Prop} {w w':World}
theorem zjV(hw:Region.wanted o (Y a.tmps)=true)(h:∀w,S w→(execOp a.eval o).run P w = .ok (.value v) w)(h2:zgJ P Y S F rest (a.put o.dst v)):zgJ P Y S F (o::rest) a:=⟨v,.inl ⟨hw,h⟩,h2⟩
theorem zmQ(h:F a):zgJ P Y S F [] a:=h
theorem zfK(hw:Region.wanted o (Y a.tmps)=true)(hr:(execOp a.eval o).run P w = .ok (.value v) w')(hS:S w')(h:zcX P Y Q S G rest (a.put o.dst v) w'):zcX P Y Q S G (o::rest) a w:=by
 unfold zcX;rw[zO hw];exact .inl (by unfold Oper.wp;rw[hr];exact⟨hS,h⟩)
theorem zmU(hw:Region.wanted o (Y a.tmps)=true)(hr:(execOp a.eval o).run P w = .ok (.enter f args) w)
 (h:Calls P f args w fun e w'=>∃v,e = .returned v∧S w'∧zcX P Y Q S G rest (a.put o.dst v) w'):zcX P Y Q S G (o::rest) a w:=by
 unfold zcX;rw[zO hw];refine .inl ?_;unfold Oper.wp;rw[hr];refine Calls.mono h ?_;rintro e w' ⟨v,rfl,hS,h⟩;exact⟨hS,h⟩
theorem zmT(h:G a w):zcX P Y Q S G [] a w:=h
theorem ziS(s x:Operand)(t e:TypeId)(size bytes:Nat)(zc:List Value)(base:Nat)(he:Elems P t e size bytes zc)
 (v:Value) (n:Nat) (xs:List Value) (ad:Option Addr) (m cap:Nat) (news:List Value) (hw:Region.wanted o (Y a.tmps)=true)
 (ho:o.op = .call {callee:=.builtin .append,args:=#[s,x],argTypes:=#[t,t]}) (hs:a.eval s=v) (hx:a.eval x = .slice ad m cap)
 (hl:news.length=m*size) (h1:∀u∈news,u.oneCell'=true) (h63:n+m≤maxLen) (hbytes:(n+m)*bytes≤140737488355328)
 (hown:w.ownsRow base e size v n xs) (hnews:Rd w ad news) (hbase:base≤w.heap.size)
 (h:∀a' cap' w',w'.ownsRow base e size (.slice a' (n+m) cap') (n+m) (xs++news)→w.grownBy w' v.ownBlock→S w'∧zcX P Y Q S G rest (a.put o.dst (.slice a' (n+m) cap')) w'):zcX P Y Q S G (o::rest) a w:=by
 obtain⟨a',cap',w',r1,r2,r3⟩:=zhW (P:=P) (w:=w) s x t e size bytes zc base he ho v n xs hs hown ad m cap news hx hl hnews h1 h63 hbytes hbase;obtain⟨h4,h5⟩:=h a' cap' w' r2 r3;exact zfK hw r1 h4 h5
end
end Go.Proofs.YtahaacfikalheaaGreat
namespace Go.Proofs.YtahaacfikalheaaGreat
open Go.RowKit
section
variable {P:Program} {ops:Array Oper} {Q:Exit→Act→World→Prop} {S:World→Prop}
def zdD(P:Program)(Y:Array Value→Nat→Option Bool)(Q:Exit→Act→World→Prop)(S:World→Prop)(F:Act→World→Prop):List (Bool×Oper)→Act→World→Prop
 | [],a,w=>F a w
 | (true,o)::rest,a,w=>∃v,((Region.wanted o (Y a.tmps)=true∧∀w,S w→(execOp a.eval o).run P w = .ok (.value v) w)∨(Region.wanted o (Y a.tmps)=false∧v=undef))∧zdD P Y Q S F rest (a.put o.dst v) w
 | (false,o)::rest,a,w=>if Region.wanted o (Y a.tmps)=true then o.wp P a w (fun a' w'=>S w'∧zdD P Y Q S F rest a' w') Q∨(o.asks P a w∧LetsOut Q)else S w∧zdD P Y Q S F rest (a.put o.dst undef) w
def seqB(ops:Array Oper)(m:Nat):List (Bool×Nat)→Array Bool→Bool
 | [],_=>true
 | (true,k)::r,l=>(Region.ready .any ops l).contains k&&Region.free .any ops l k&&decide (k<m)&&seqB ops m r (l.setIfInBounds k true)
 | (false,k)::r,l=>(Region.ready .any ops l == [k])&&decide (k<m)&&seqB ops m r (l.setIfInBounds k true)
theorem zgN{m tail:Nat}(hbar:zeX ops m=true)(hsel:Region.noSelect ops=true)(hQ:∀c a d v w,Q (.panic c) (Act.put a d v) w→Q (.panic c) a w) :
 ∀(ks:List (Bool×Nat)) (ls:List (Bool×Oper)) (listed:Array Bool) (a:Act) (w:World),S w→ks.map (fun p=>(p.1,ops[p.2]?))=ls.map (fun p=>(p.1,some p.2))→seqB ops m ks listed=true→
 (∀i∈Region.ready .any ops (zdK (ks.map Prod.snd) listed),m≤i)→
 zdD P (yielded ops) Q S (fun a' w'=>wpAny P .any ops Q tail (zdK (ks.map Prod.snd) listed) a' w') ls a w→zmZ P ops Q S m tail ks.length listed a w
 | [],ls,listed,a,w,hS,hl,_,hend,h=>by
   cases ls with
   | nil=>exact⟨hend,h⟩
   | cons o r=>simp at hl
 | (true,k)::ks,ls,listed,a,w,hS,hl,hb,hend,h=>by
   cases ls with
   | nil=>simp at hl
   | cons p r=>
     obtain⟨b,o⟩:=p;simp only[lmc,List.cons.injEq,Prod.mk.injEq]at hl;obtain⟨⟨rfl,hk⟩,hl⟩:=hl;simp only[seqB,zS,zY]at hb;obtain⟨v,hy,hrest⟩:=h
     exact zmY hbar hb.1.2 hk (Region.noSelect_spec hsel) (fun c a w=>hQ c a _ _ w) _ listed a w (Region.free_spec hk hb.1.1.2) (by simpa using hb.1.1.1) hy hS
      (zgN hbar hsel hQ ks r _ _ w hS hl hb.2 hend hrest)
 | (false,k)::ks,ls,listed,a,w,hS,hl,hb,hend,h=>by
   cases ls with
   | nil=>simp at hl
   | cons p r=>
     obtain⟨b,o⟩:=p;simp only[lmc,List.cons.injEq,Prod.mk.injEq]at hl;obtain⟨⟨rfl,hk⟩,hl⟩:=hl;simp only[seqB,zS,beq_iff_eq,zY]at hb;refine⟨by rw[hb.1.1];simp,fun i hi=> ?_,fun i hi=> ?_⟩
     ·rw[hb.1.1,zaS]at hi;rw[hi];exact hb.1.2
     ·rw[hb.1.1,zaS]at hi;subst hi;unfold Go.wpOp;simp only[hk];unfold zdD at h;split
      ·rename_i hw
       rw[zO hw]at h;exact h.imp (Oper.wp_mono fun a' w' h'=>⟨h'.1,zgN hbar hsel hQ ks r _ a' w' h'.1 hl hb.2 hend h'.2⟩) (fun h=>h)
      ·rename_i hw
       rw[zG hw]at h;exact⟨h.1,zgN hbar hsel hQ ks r _ _ w hS hl hb.2 hend h.2⟩
theorem zfM{Y:Array Value→Nat→Option Bool}{F F':Act→World→Prop}(hF:∀a w,F a w→F' a w):∀(l:List (Bool×Oper)) (a:Act) (w:World),zdD P Y Q S F l a w→zdD P Y Q S F' l a w
 | [],a,w,h=>hF a w h
 | (true,o)::r,a,w,⟨v,hv,h⟩=>⟨v,hv,zfM hF r _ w h⟩
 | (false,o)::r,a,w,h=>by
   unfold zdD at h⊢;split
   ·rename_i hw
    rw[zO hw]at h;exact h.imp (Oper.wp_mono fun a' w' h'=>⟨h'.1,zfM hF r a' w' h'.2⟩) (fun h=>h)
   ·rename_i hw
    rw[zG hw]at h;exact⟨h.1,zfM hF r _ w h.2⟩
def zkB(ops:Array Oper)(m n:Nat)(ks:List (Bool×Nat)):Bool:=
 Region.noSelect ops&&zeX ops m&&decide (m+n=ops.size)&&decide (ks.length=m)&&seqB ops m ks (Array.replicate ops.size false) &&
  (Region.ready .any ops (zdK (ks.map Prod.snd) (Array.replicate ops.size false))).all (fun i=>decide (m≤i))&&forced ops m n (zdK (ks.map Prod.snd) (Array.replicate ops.size false))
theorem zjR{id:Nat}{a:Act}{w:World}(m n:Nat)(ks:List (Bool×Nat))(l t:List Oper)(ls:List (Bool×Oper))(S:World→Prop)(hm:P.follows .mixedOrders=true)(hops:ops.toList=l++t)(hl:l.length=m)(ht:t.length=n)
 (hls:ks.map (fun p=>(p.1,ops[p.2]?))=ls.map (fun p=>(p.1,some p.2)))
 (ho:zkB ops m n ks=true) (hQ:∀c a d v w,Q (.panic c) (Act.put a d v) w→Q (.panic c) a w) (hS:S w.drew)
 (h:zdD P (yielded ops) Q S (fun a2 w2=>wpList P ops Q t a2 w2) ls a w.drew):(Code.region id ops true).wp P Q a w:=by
 simp only[zkB,zS,zY,List.all_eq_true]at ho;obtain⟨⟨⟨⟨⟨⟨hsel,hbar⟩,hsz⟩,hlen⟩,hsq⟩,hend⟩,hforce⟩:=ho;refine wp_region_any hm ?_
 have H:=zgN (tail:=n) hbar hsel hQ ks ls (Array.replicate ops.size false) a _ hS hls hsq hend
  (zfM (fun a2 w2 h2=>zcC n m _ t ht (fun j=>by
    have hj:=yS (fun x=>x[m+j]?) hops;simp only[Array.getElem?_toList]at hj;rw[hj,yQ (by omega),hl,zcM];split
    ·rfl
    ·exact yP (by omega)) (by omega) hforce a2 w2 h2) ls a _ h)
 have:=ziI _ _ _ _ H;rw[hlen,hsz]at this;exact this
def zeL{α:Type}(ph:List (Bool×List Bool))(l:List α):List (Bool×α):=ph.flatMap fun p=>(sel p.2 l).map fun o=>(p.1,o)
theorem wp_region_seq{id:Nat}{a:Act}{w:World}(m n:Nat)(ph:List (Bool×List Bool))(l t:List Oper)(S:World→Prop)(hm:P.follows .mixedOrders=true)(hops:ops.toList=l++t)(hl:l.length=m)(ht:t.length=n)
 (hls:(zeL ph (List.range m)).map (fun p=>(p.1,ops[p.2]?))=(zeL ph l).map (fun p=>(p.1,some p.2)))
 (ho:zkB ops m n (zeL ph (List.range m))=true) (hS:S w.drew)
 (h:∀(Y:Array Value→Nat→Option Bool) (Q':Exit→Act→World→Prop) (F:Act→World→Prop),(∀t,Y t=yielded ops t)→
   Shut' (∀a' w',(∀(K:Act→World→Prop),Shut' (∀a w,Q .normal a w→K a w)→wpList P ops (OnlyK K) t a' w')→F a' w')→
   zdD P Y Q' S F (zeL ph l) a w.drew):(Code.region id ops true).wp P Q a w:=
 Code.wp_mono (OnlyK.imp (fun _ _ h=>h)) (zjR m n _ l t _ S hm hops hl ht hls ho (fun _ _ _ _ _ h=>h) hS
  (h _ (OnlyK fun a w=>Q .normal a w) (fun a2 w2=>wpList P ops (OnlyK fun a w=>Q .normal a w) t a2 w2) (fun _=>rfl) (fun _ _ h=>h (fun a w=>Q .normal a w) (fun _ _ h=>h))))
variable {Y:Array Value→Nat→Option Bool} {o:Oper} {rest:List (Bool×Oper)} {a:Act} {v:Value} {f:FuncId} {args:Array Value} {F:Act→Prop} {G:Act→World→Prop} {w w':World}
theorem zJ(hw:Region.wanted o (Y a.tmps)=true)(h:∀w,S w→(execOp a.eval o).run P w = .ok (.value v) w)(h2:zdD P Y Q S G rest (a.put o.dst v) w):zdD P Y Q S G ((true,o)::rest) a w:=⟨v,.inl ⟨hw,h⟩,h2⟩
theorem yV(hw:Region.wanted o (Y a.tmps)=false)(h2:zdD P Y Q S G rest (a.put o.dst undef) w):zdD P Y Q S G ((true,o)::rest) a w:=⟨undef,.inr ⟨hw,rfl⟩,h2⟩
theorem zbZ(hw:Region.wanted o (Y a.tmps)=true)(hr:(execOp a.eval o).run P w = .ok (.value v) w')(hS:S w')(h:zdD P Y Q S G rest (a.put o.dst v) w'):zdD P Y Q S G ((false,o)::rest) a w:=by
 unfold zdD;rw[zO hw];exact .inl (by unfold Oper.wp;rw[hr];exact⟨hS,h⟩)
theorem zaD(hw:Region.wanted o (Y a.tmps)=false)(hS:S w)(h:zdD P Y Q S G rest (a.put o.dst undef) w):zdD P Y Q S G ((false,o)::rest) a w:=by
 unfold zdD;rw[zG (by rw[hw];simp)];exact⟨hS,h⟩
theorem zR(hw:Region.wanted o (Y a.tmps)=true)(hr:(execOp a.eval o).run P w = .ok (.enter f args) w)
 (h:Calls P f args w fun e w'=>∃v,e = .returned v∧S w'∧zdD P Y Q S G rest (a.put o.dst v) w'):zdD P Y Q S G ((false,o)::rest) a w:=by
 unfold zdD;rw[zO hw];refine .inl ?_;unfold Oper.wp;rw[hr];refine Calls.mono h ?_;rintro e w' ⟨v,rfl,hS,h⟩;exact⟨hS,h⟩
theorem yE(h:G a w):zdD P Y Q S G [] a w:=h
theorem wpSeq_append(s x:Operand)(t e:TypeId)(size bytes:Nat)(zc:List Value)(base:Nat)(he:Elems P t e size bytes zc)
 (v:Value) (n:Nat) (xs:List Value) (ad:Option Addr) (m cap:Nat) (news:List Value) (hw:Region.wanted o (Y a.tmps)=true)
 (ho:o.op = .call {callee:=.builtin .append,args:=#[s,x],argTypes:=#[t,t]}) (hs:a.eval s=v) (hx:a.eval x = .slice ad m cap)
 (hl:news.length=m*size) (h1:∀u∈news,u.oneCell'=true) (h63:n+m≤maxLen) (hbytes:(n+m)*bytes≤140737488355328)
 (hown:w.ownsRow base e size v n xs) (hnews:Rd w ad news) (hbase:base≤w.heap.size)
 (h:∀a' cap' w',w'.ownsRow base e size (.slice a' (n+m) cap') (n+m) (xs++news)→w.grownBy w' v.ownBlock→S w'∧zdD P Y Q S G rest (a.put o.dst (.slice a' (n+m) cap')) w'):zdD P Y Q S G ((false,o)::rest) a w:=by
 obtain⟨a',cap',w',r1,r2,r3⟩:=zhW (P:=P) (w:=w) s x t e size bytes zc base he ho v n xs hs hown ad m cap news hx hl hnews h1 h63 hbytes hbase;obtain⟨h4,h5⟩:=h a' cap' w' r2 r3;exact zbZ hw r1 h4 h5
end
theorem zuJ:(∀{α:Type} (ph:List (Bool×List Bool)) (l:List α),zeL ph l=ph.flatMap fun p=>(sel p.2 l).map fun o=>(p.1,o))∧U=true∧zuH=false∧(∀{α β:Type} (f:α→List β) (x:α) (xs:List α),(x::xs).flatMap f=f x++xs.flatMap f)∧(∀{α β:Type} (f:α→List β),([]:List α).flatMap f = [])∧(∀{α:Type} (n:Nat) (x:α) (xs:List α),(x::xs).take (n+1)=x::xs.take n)∧(∀{α:Type} (xs:List α),xs.take 0 = [])∧(∀{α:Type} (n:Nat) (x:α) (xs:List α),(x::xs).drop (n+1)=xs.drop n)∧(∀{α:Type} (xs:List α),xs.drop 0=xs)∧(∀{α:Type} (m:List Bool) (x:α) (xs:List α),sel (true::m) (x::xs)=x::sel m xs)∧(∀{α:Type} (m:List Bool) (x:α) (xs:List α),sel (false::m) (x::xs)=sel m xs)∧(∀{α:Type} (xs:List α),sel [] xs = [])∧(∀{α β:Type} (f:α→β) (x:α) (xs:List α),(x::xs).map f=f x::xs.map f)∧(∀{α β:Type} (f:α→β),([]:List α).map f = [])∧(∀{α:Type} (x:α) (xs ys:List α),(x::xs)++ys=x::(xs++ys))∧(∀{α:Type} (xs:List α),[]++xs=xs)∧(∀{α:Type} (xs:List α),xs ++ []=xs):=⟨fun _ _=>rfl,rfl,rfl,lfc,lfn,ltc,ltz,ldc,ldz,zeE,zdE,zfU,lmc,lmn,lca,lna,lan⟩
theorem sel_map14{α β:Type}(f:α→β):∀(m:List Bool) (l:List α),sel m (l.map f)=(sel m l).map f
 | [],l=>by rw[zfU,zfU];rfl
 | true::m,[]=>rfl
 | false::m,[]=>rfl
 | true::m,x::l=>by rw[List.map_cons,zeE,zeE,List.map_cons,sel_map14 f m l]
 | false::m,x::l=>by rw[List.map_cons,zdE,zdE,sel_map14 f m l]
theorem phased_map14{α β:Type}(f:α→β)(l:List α):∀ph:List (Bool×List Bool),zeL ph (l.map f)=(zeL ph l).map fun p=>(p.1,f p.2)
 | []=>rfl
 | p::ph=>by
   have h:=phased_map14 f l ph;unfold zeL at h⊢;rw[List.flatMap_cons,List.flatMap_cons,List.map_append,h,sel_map14,List.map_map,List.map_map];rfl
theorem zuL{P:Program}{ops:Array Oper}{Q:Exit→Act→World→Prop}{id:Nat}{a:Act}{w:World}(m n:Nat)(ph:List (Bool×List Bool))(S:World→Prop)(hk:(P.follows .mixedOrders&&zkB ops m n (zeL ph (List.range m)))=true)(hS:S w.drew)
 (h:∀(Y:Array Value→Nat→Option Bool) (Q':Exit→Act→World→Prop) (F:Act→World→Prop),(∀t,Y t=yielded ops t)→
   Shut' (∀a' w',(∀(K:Act→World→Prop),Shut' (∀a w,Q .normal a w→K a w)→wpList P ops (OnlyK K) (ops.toList.drop m) a' w')→F a' w')→
   zdD P Y Q' S F (zeL ph (ops.toList.take m)) a w.drew):(Code.region id ops true).wp P Q a w:=by
 rw[Bool.and_eq_true]at hk;have hsz:m+n=ops.size:=by
  have h2:=hk.2;simp only[zkB,Bool.and_eq_true,decide_eq_true_eq]at h2;exact h2.1.1.1.1.2
 have e:(List.range m).map (fun k=>ops[k]?)=(ops.toList.take m).map some:=by
  apply List.ext_getElem?;intro i;rw[List.getElem?_map,List.getElem?_map,List.getElem?_take];by_cases hi:i<m
  ·rw[List.getElem?_range hi,if_pos hi,Array.getElem?_toList];have:i<ops.size:=by omega
   simp[this]
  ·rw[if_neg hi,List.getElem?_eq_none (by simp;omega)];rfl
 refine wp_region_seq m n ph _ _ S hk.1 (List.take_append_drop m _).symm (by simp;omega) (by simp;omega) ?_ hk.2 hS h;rw[←phased_map14 (fun k=>ops[k]?),←phased_map14 some,e]
