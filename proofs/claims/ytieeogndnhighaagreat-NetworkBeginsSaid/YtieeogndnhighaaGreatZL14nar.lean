/- A part of the proof of L14n. No condition. -/
import Derived.StillTail
import Derived.Test.YtieeogndnhighaaGreatZL14nap
set_option linter.all false
set_option maxRecDepth 100000
set_option maxHeartbeats 200000
namespace Go.Proofs.YtieeogndnhighaaGreat
open Go.RowKit
section
variable {P:Program} {ops:Array Oper} {Q:Exit→Act→World→Prop} {S:World→Prop}
structure Fresh where
 nd:List Nat
 dv:List Nat
 Sh:Nat→Value→Prop
 R:Nat→Value→World→Prop
 D:Nat→List Nat
 ex:Nat→List Nat
 lat:Nat→List Nat
 fin:List Nat
end
end Go.Proofs.YtieeogndnhighaaGreat
namespace Go.Proofs.YtieeogndnhighaaGreat
open Go.RowKit
section
variable {P:Program} {ops:Array Oper} {Q:Exit→Act→World→Prop} {S:World→Prop}
variable {Y:Array Value→Nat→Option Bool} {Z:Fresh} {k:Nat} {o:Oper} {rest:List Oper} {a:Act} {v:Value} {f:FuncId} {args:Array Value} {c:Nat→Value} {F:Act→Prop}
end
end Go.Proofs.YtieeogndnhighaaGreat
namespace Go.Proofs.YtieeogndnhighaaGreat
open Go.RowKit
theorem zgJ{P:Program}{w:World}{o:Oper}{a:Act}(s x:Operand)(t e:TypeId)(size bytes:Nat)(zc:List Value)(base:Nat)
 (he:Elems P t e size bytes zc) (ho:o.op = .call {callee:=.builtin .append,args:=#[s,x],argTypes:=#[t,t]})
 (v:Value) (n:Nat) (xs:List Value) (hs:a.eval s=v) (hown:w.ownsRow base e size v n xs)
 (ad:Option Addr) (m c:Nat) (news:List Value) (hx:a.eval x = .slice ad m c) (hl:news.length=m*size) (hnews:Rd w ad news) (h1:∀u∈news,u.oneCell'=true)
 (h63:n+m≤maxLen) (hbytes:(n+m)*bytes≤140737488355328) (hbase:base≤w.heap.size) :
 ∃a' cap' w',(execOp a.eval o).run P w = .ok (.value (.slice a' (n+m) cap')) w'∧w'.ownsRow base e size (.slice a' (n+m) cap') (n+m) (xs++news)∧w.grownBy w' v.ownBlock:=by
 obtain⟨i,z,hi,hz,hsz,hby,hzs,hzc⟩:=he.open;cases ad with
 | some ad=>
   have hnews':∀j u,news[j]? = some u→w.cell? (ad.add j)=some u:=by
    intro j u hu;obtain⟨b,off,e1,hr⟩:=hnews (fun e=>by rw[e]at hu;simp at hu);cases e1;rw[Addr.add_mid];exact hr j u hu
   obtain⟨v',w',hr,h2,h3,h4,h5⟩:=run_append_own_at (P:=P) w base t o.type e i z size bytes he.1 hi hz hsz hby hzs he.2.2.2 v n xs hown ad m c news hl hnews' h1 h63 hbytes hbase;obtain⟨a',cap',rfl,_⟩:=zaU h2;refine⟨a',cap',w',?_,h2,h3⟩;unfold execOp;simp only[ho,resolve,invoke,builtin,Sem.run_bind,Sem.run_pure,Result.andThen_ok,List.map_toArray,lmc,lmn,hs,hx,hr]
 | none=>
   have hn:news = []:=by
    cases hnn:news with
    | nil=>rfl
    | cons y ys=>obtain⟨b,off,e1,_⟩:=hnews (by rw[hnn];simp);simp at e1
   subst hn;have hm:m=0:=by
    have h0:m*size=0:=by simpa using hl.symm
    rcases Nat.mul_eq_zero.1 h0 with h|h
    ·exact h
    ·have:=he.2.2.2;omega
   subst hm;obtain⟨a0,cap0,rfl,hnc,_⟩:=zaU hown;refine⟨a0,cap0,w,?_,by simpa using hown,⟨rfl,rfl,rfl,zE _,fun _ _ _=>rfl⟩⟩;cases a0 with
   | none=>simp[execOp,ho,resolve,invoke,builtin,hs,hx,Builtin.append_,run_underlying he.1,sizeOf,typeInfo,hi,Builtin.lenOf,Builtin.firstCells,hnc,Result.andThen]
   | some a0=>simp[execOp,ho,resolve,invoke,builtin,hs,hx,Builtin.append_,run_underlying he.1,sizeOf,typeInfo,hi,Builtin.lenOf,Builtin.firstCells,hnc,storeCells,Result.andThen]
theorem Blk.grown{w w':World}{row:Option Nat}{b:Nat}{cs:List Value}{t:TypeId}(h:Blk w b cs t)(hg:w.grownBy w' row)(hne:some b≠row):Blk w' b cs t:=by
 unfold Blk at *;rw[hg.block b (Array.getElem?_eq_some_iff.1 h).1 hne];exact h
theorem zaQ{w:World}{base:Nat}{e:TypeId}{size n:Nat}{v:Value}{xs:List Value}(h:w.ownsRow base e size v n xs){g:Nat}(hg:v.ownBlock=some g):base≤g∧∃cur,w.heap[g]? = some (.cells cur e (0,0)):=by
 rcases h.2 with⟨rfl,_⟩|⟨g',cap,cur,rfl,hb,hh,_⟩
 ·simp[Value.ownBlock]at hg
 ·simp[Value.ownBlock]at hg;subst hg;exact⟨hb,cur,hh⟩
end Go.Proofs.YtieeogndnhighaaGreat
namespace Go.Proofs.YtieeogndnhighaaGreat
open Go.RowKit
section
variable {P:Program} {ops:Array Oper} {Q:Exit→Act→World→Prop} {S:World→Prop}
def zkY(P:Program)(ops:Array Oper)(Q:Exit→Act→World→Prop)(S:World→Prop)(m tail:Nat):Nat→Array Bool→Act→World→Prop
 | 0,listed,a,w=>(∀i∈Region.ready .any ops listed,m≤i)∧wpAny P .any ops Q tail listed a w
 | fuel+1,listed,a,w=>Region.ready .any ops listed≠ []∧(∀i∈Region.ready .any ops listed,i<m)∧
   ∀i∈Region.ready .any ops listed,wpOp P ops Q i (fun a' w'=>S w'∧zkY P ops Q S m tail fuel (listed.setIfInBounds i true) a' w') a w
theorem zgS{m tail:Nat}:∀(fuel:Nat) (listed:Array Bool) (a:Act) (w:World),zkY P ops Q S m tail fuel listed a w→wpAny P .any ops Q (fuel+tail) listed a w
 | 0,listed,a,w,h=>by rw[yV];exact h.2
 | fuel+1,listed,a,w,h=>by
   rw[show fuel+1+tail=(fuel+tail)+1 by omega];exact⟨fun h0=>absurd h0 h.1,fun i hi=>wpOp_mono (fun a' w' h'=>zgS fuel _ a' w' h'.2) (h.2.2 i hi)⟩
theorem zkX{m tail i:Nat}{oi:Oper}{v:Value}(hbar:zeT ops m=true)(him:i<m)(hi:ops[i]? = some oi)(hsel:∀(j:Nat) (o:Oper) cs b,ops[j]? = some o→o.op≠ .select cs b)
 (hQ:∀c a w,Q (.panic c) (a.put oi.dst v) w→Q (.panic c) a w) :
 ∀(fuel:Nat) (listed:Array Bool) (a:Act) (w:World),
  (∀j oj,ops[j]? = some oj→j≠i→listed.getD j true=false→(∀e∈oj.after,Region.binds .any e=true→e.on≠i)→oi.apart ops oj=true)→
  i∈Region.ready .any ops listed→YieldsIf P ops S oi v a→S w→
  zkY P ops Q S m tail fuel (listed.setIfInBounds i true) (a.put oi.dst v) w→zkY P ops Q S m tail (fuel+1) listed a w:=by
 intro fuel;induction fuel with
 | zero=>
   intro listed a w _ hr hy hS H
   have hlt:∀j∈Region.ready .any ops listed,j<m:=fun j hj=>by
    rcases zaR j m with h|h
    ·exact h
    ·have h1:=zeN hbar hj h him;have h0:=(mem_ready.1 hr).1;rcases zaR i listed.size with h'|h'
     ·simp[h']at h0 h1;rw[h0]at h1;cases h1
     ·simp[zcY h']at h1
   refine⟨fun h=>(by rw[h]at hr;cases hr),hlt,fun j hj=> ?_⟩;by_cases hji:j=i
   ·subst hji;exact hy.wpOp hi hS ⟨hS,H⟩
   ·have h1:=H.1 j (ready_mono hj hji);have h2:=hlt j hj;omega
 | succ fuel ih=>
   intro listed a w hfree hr hy hS H
   have hlt:∀j∈Region.ready .any ops listed,j<m:=fun j hj=>by
    rcases zaR j m with h|h
    ·exact h
    ·have h1:=zeN hbar hj h him;have h0:=(mem_ready.1 hr).1;rcases zaR i listed.size with h'|h'
     ·simp[h']at h0 h1;rw[h0]at h1;cases h1
     ·simp[zcY h']at h1
   refine⟨fun h=>(by rw[h]at hr;cases hr),hlt,fun j hj=> ?_⟩;by_cases hji:j=i
   ·subst hji;exact hy.wpOp hi hS ⟨hS,H⟩
   ·have h1:=H.2.2 j (ready_mono hj hji);obtain⟨hjun,oj,hoj,hall⟩:=mem_ready.1 hj
    have hnot:∀e∈oj.after,Region.binds .any e=true→e.on≠i:=fun e he hb heq=>by
     have h1:=hall e he hb;have h0:=(mem_ready.1 hr).1;rw[heq]at h1;rcases zaR i listed.size with h'|h'
     ·simp[h']at h0 h1;rw[h0]at h1;cases h1
     ·simp[zcY h']at h1
    have h2:=wpOp_putIf hoj (hfree j oj hoj hji hjun hnot) (fun cs b=>hsel i oi cs b hi) (fun cs b=>hsel j oj cs b hoj) hQ hy h1
    have hfree':∀k ok,ops[k]? = some ok→k≠i→(listed.setIfInBounds j true).getD k true=false→
     (∀e∈ok.after,Region.binds .any e=true→e.on≠i)→oi.apart ops ok=true:=fun k ok hk hki hun hno=>by
     refine hfree k ok hk hki ?_ hno;by_cases hjk:j=k
     ·subst hjk;exact hjun
     ·rw[getD_set_ne true hjk]at hun;exact hun
    refine wpOp_mono (fun a' w' h3=>⟨h3.2.1,ih (listed.setIfInBounds j true) a' w' hfree' (ready_mono hr (Ne.symm hji)) h3.1 h3.2.1 ?_⟩) h2;rw[Array.setIfInBounds_comm _ _ hji];exact h3.2.2
def zeO(P:Program)(Y:Array Value→Nat→Option Bool)(S:World→Prop)(F:Act→Prop):List Oper→Act→Prop
 | [],a=>F a
 | o::rest,a=>∃v,((Region.wanted o (Y a.tmps)=true∧∀w,S w→(execOp a.eval o).run P w = .ok (.value v) w)∨(Region.wanted o (Y a.tmps)=false∧v=undef))∧zeO P Y S F rest (a.put o.dst v)
def zcC(P:Program)(Y:Array Value→Nat→Option Bool)(Q:Exit→Act→World→Prop)(S:World→Prop)(F:Act→World→Prop):List Oper→Act→World→Prop
 | [],a,w=>F a w
 | o::rest,a,w=>if Region.wanted o (Y a.tmps)=true then o.wp P a w (fun a' w'=>S w'∧zcC P Y Q S F rest a' w') Q∨(o.asks P a w∧LetsOut Q)else S w∧zcC P Y Q S F rest (a.put o.dst undef) w
def zcZ:List Nat→Array Bool→Array Bool
 | [],l=>l
 | k::r,l=>zcZ r (l.setIfInBounds k true)
def takesB(ops:Array Oper)(m:Nat):List Nat→Array Bool→Bool
 | [],_=>true
 | k::r,l=>(Region.ready .any ops l).contains k&&Region.free .any ops l k&&decide (k<m)&&takesB ops m r (l.setIfInBounds k true)
def zqT(ops:Array Oper)(m:Nat):List Nat→Array Bool→Bool
 | [],_=>true
 | k::r,l=>(Region.ready .any ops l == [k])&&decide (k<m)&&zqT ops m r (l.setIfInBounds k true)
theorem zkW{m tail fuel:Nat}(hbar:zeT ops m=true)(hsel:Region.noSelect ops=true)(hQ:∀c a d v w,Q (.panic c) (Act.put a d v) w→Q (.panic c) a w){w:World}(hS:S w) :
 ∀(st:List Nat) (ls:List Oper) (listed:Array Bool) (a:Act),st.map (fun k=>ops[k]?)=ls.map some→takesB ops m st listed=true→
 zeO P (yielded ops) S (fun a'=>zkY P ops Q S m tail fuel (zcZ st listed) a' w) ls a→zkY P ops Q S m tail (st.length+fuel) listed a w
 | [],ls,listed,a,hl,_,h=>by
   cases ls with
   | nil=>simpa[zeO,zcZ] using h
   | cons o r=>simp at hl
 | k::st,ls,listed,a,hl,ht,h=>by
   cases ls with
   | nil=>simp at hl
   | cons o r=>
     simp only[lmc,List.cons.injEq]at hl;simp only[takesB,yF,yK]at ht;obtain⟨v,hy,hrest⟩:=h;rw[show(k::st).length+fuel=(st.length+fuel)+1 by simp;omega]
     exact zkX hbar ht.1.2 hl.1 (Region.noSelect_spec hsel) (fun c a w=>hQ c a _ _ w) _ listed a w (Region.free_spec hl.1 ht.1.1.2) (by simpa using ht.1.1.1) hy hS
      (zkW hbar hsel hQ hS st r _ _ hl.2 ht.2 hrest)
theorem zfF{m tail:Nat}:∀(ch:List Nat) (lc:List Oper) (listed:Array Bool) (a:Act) (w:World),ch.map (fun k=>ops[k]?)=lc.map some→zqT ops m ch listed=true→
 (∀i∈Region.ready .any ops (zcZ ch listed),m≤i)→
 zcC P (yielded ops) Q S (fun a' w'=>wpAny P .any ops Q tail (zcZ ch listed) a' w') lc a w→zkY P ops Q S m tail ch.length listed a w
 | [],lc,listed,a,w,hl,_,hend,h=>by
   cases lc with
   | nil=>exact⟨hend,h⟩
   | cons o r=>simp at hl
 | k::ch,lc,listed,a,w,hl,hc,hend,h=>by
   cases lc with
   | nil=>simp at hl
   | cons o r=>
     simp only[lmc,List.cons.injEq]at hl;simp only[zqT,yF,beq_iff_eq,yK]at hc;refine⟨by rw[hc.1.1];simp,fun i hi=> ?_,fun i hi=> ?_⟩
     ·rw[hc.1.1,zdW]at hi;rw[hi];exact hc.1.2
     ·rw[hc.1.1,zdW]at hi;subst hi;unfold Go.wpOp;simp only[hl.1];unfold zcC at h;split
      ·rename_i hw
       rw[zU hw]at h;exact h.imp (Oper.wp_mono fun a' w' h'=>⟨h'.1,zfF ch r _ a' w' hl.2 hc.2 hend h'.2⟩) id
      ·rename_i hw
       rw[zK hw]at h;exact⟨h.1,zfF ch r _ _ w hl.2 hc.2 hend h.2⟩
def zkK(ops:Array Oper)(m n:Nat)(st ch:List Nat):Bool:=
 Region.noSelect ops&&zeT ops m&&decide (m+n=ops.size)&&decide (st.length+ch.length=m)&&takesB ops m st (Array.replicate ops.size false)&&zqT ops m ch (zcZ st (Array.replicate ops.size false)) &&
  (Region.ready .any ops (zcZ ch (zcZ st (Array.replicate ops.size false)))).all (fun i=>decide (m≤i))&&forced ops m n (zcZ ch (zcZ st (Array.replicate ops.size false)))
theorem zgZ{id:Nat}{a:Act}{w:World}(m n:Nat)(st ch:List Nat)(l t ls lc:List Oper)(S:World→Prop)(hm:P.follows .mixedOrders=true)(hops:ops.toList=l++t)(hl:l.length=m)(ht:t.length=n)
 (hls:st.map (fun k=>ops[k]?)=ls.map some) (hlc:ch.map (fun k=>ops[k]?)=lc.map some)
 (ho:zkK ops m n st ch=true) (hQ:∀c a d v w,Q (.panic c) (Act.put a d v) w→Q (.panic c) a w) (hS:S w.drew)
 (h:zeO P (yielded ops) S (fun a'=>zcC P (yielded ops) Q S (fun a2 w2=>wpList P ops Q t a2 w2) lc a' w.drew) ls a):(Code.region id ops true).wp P Q a w:=by
 simp only[zkK,yF,yK,List.all_eq_true]at ho;obtain⟨⟨⟨⟨⟨⟨⟨hsel,hbar⟩,hsz⟩,hlen⟩,htk⟩,hch⟩,hend⟩,hforce⟩:=ho;refine wp_region_any hm ?_;have hgen:∀(K K':Act→World→Prop),(∀a w,K a w→K' a w)→∀(lc:List Oper) (a:Act) (w:World),zcC P (yielded ops) Q S K lc a w→zcC P (yielded ops) Q S K' lc a w:=by
  intro K K' hK lc;induction lc with
  | nil=>exact fun a w h=>hK a w h
  | cons o r ih=>
    intro a w h;unfold zcC at h⊢;split
    ·rename_i hw
     rw[zU hw]at h;exact h.imp (Oper.wp_mono fun a' w' h'=>⟨h'.1,ih a' w' h'.2⟩) (fun h=>h)
    ·rename_i hw
     rw[zK hw]at h;exact⟨h.1,ih _ _ h.2⟩
 have hgen2:∀(K K':Act→Prop),(∀a,K a→K' a)→∀(ls:List Oper) (a:Act),zeO P (yielded ops) S K ls a→zeO P (yielded ops) S K' ls a:=by
  intro K K' hK ls;induction ls with
  | nil=>exact fun a h=>hK a h
  | cons o r ih=>
    intro a h;obtain⟨v,hv,h⟩:=h;exact⟨v,hv,ih _ h⟩
 have H:=zkW (tail:=n) (fuel:=ch.length) hbar hsel hQ hS st ls (Array.replicate ops.size false) a hls htk
  (hgen2 _ _ (fun a' h'=>zfF ch lc _ a' _ hlc hch hend (hgen _ _ (fun a2 w2 h2=>zcD n m _ t ht (fun j=>by
    have hj:=yQ (fun x=>x[m+j]?) hops;simp only[Array.getElem?_toList]at hj;rw[hj,yP (by omega),hl,zeW];split
    ·rfl
    ·exact yY (by omega)) (by omega) hforce a2 w2 h2) lc a' _ h')) ls a h)
 have:=zgS _ _ _ _ H;rw[hlen,hsz]at this;exact this
def sel{α:Type}:List Bool→List α→List α
 | true::m,x::xs=>x::sel m xs
 | false::m,_::xs=>sel m xs
 | _,_=>[]
theorem sel_true{α:Type}(m:List Bool)(x:α)(xs:List α):sel (true::m) (x::xs)=x::sel m xs:=rfl
theorem sel_false{α:Type}(m:List Bool)(x:α)(xs:List α):sel (false::m) (x::xs)=sel m xs:=rfl
theorem sel_nil{α:Type}(xs:List α):sel [] xs = []:=by cases xs<;>rfl
theorem zmJ{id:Nat}{a:Act}{w:World}(m n:Nat)(mask nask:List Bool)(l t:List Oper)(S:World→Prop)(hm:P.follows .mixedOrders=true)(hops:ops.toList=l++t)(hl:l.length=m)(ht:t.length=n)
 (hls:(sel mask (List.range m)).map (fun k=>ops[k]?)=(sel mask l).map some) (hlc:(sel nask (List.range m)).map (fun k=>ops[k]?)=(sel nask l).map some)
 (ho:zkK ops m n (sel mask (List.range m)) (sel nask (List.range m))=true) (hS:S w.drew)
 (h:∀(Y:Array Value→Nat→Option Bool) (Q':Exit→Act→World→Prop) (F:Act→World→Prop),(∀t,Y t=yielded ops t)→
   Shut' (∀a' w',(∀(K:Act→World→Prop),Shut' (∀a w,Q .normal a w→K a w)→wpList P ops (OnlyK K) t a' w')→F a' w')→
   zeO P Y S (fun a'=>zcC P Y Q' S F (sel nask l) a' w.drew) (sel mask l) a):(Code.region id ops true).wp P Q a w:=
 Code.wp_mono (OnlyK.imp (fun _ _ h=>h)) (zgZ m n _ _ l t _ _ S hm hops hl ht hls hlc ho (fun _ _ _ _ _ h=>h) hS
  (h _ (OnlyK fun a w=>Q .normal a w) (fun a2 w2=>wpList P ops (OnlyK fun a w=>Q .normal a w) t a2 w2) (fun _=>rfl) (fun _ _ h=>h (fun a w=>Q .normal a w) (fun _ _ h=>h))))
variable {Y:Array Value→Nat→Option Bool} {o:Oper} {rest:List Oper} {a:Act} {v:Value} {f:FuncId} {args:Array Value} {F:Act→Prop} {G:Act→World→Prop} {w w':World}
theorem zpZ(hw:Region.wanted o (Y a.tmps)=true)(h:∀w,S w→(execOp a.eval o).run P w = .ok (.value v) w)(h2:zeO P Y S F rest (a.put o.dst v)):zeO P Y S F (o::rest) a:=⟨v,.inl ⟨hw,h⟩,h2⟩
theorem wpReads_done(h:F a):zeO P Y S F [] a:=h
theorem zfD(hw:Region.wanted o (Y a.tmps)=true)(hr:(execOp a.eval o).run P w = .ok (.value v) w')(hS:S w')(h:zcC P Y Q S G rest (a.put o.dst v) w'):zcC P Y Q S G (o::rest) a w:=by
 unfold zcC;rw[zU hw];exact .inl (by unfold Oper.wp;rw[hr];exact⟨hS,h⟩)
theorem wpChain_call(hw:Region.wanted o (Y a.tmps)=true)(hr:(execOp a.eval o).run P w = .ok (.enter f args) w)
 (h:Calls P f args w fun e w'=>∃v,e = .returned v∧S w'∧zcC P Y Q S G rest (a.put o.dst v) w'):zcC P Y Q S G (o::rest) a w:=by
 unfold zcC;rw[zU hw];refine .inl ?_;unfold Oper.wp;rw[hr];refine Calls.mono h ?_;rintro e w' ⟨v,rfl,hS,h⟩;exact⟨hS,h⟩
theorem wpChain_done(h:G a w):zcC P Y Q S G [] a w:=h
theorem zoE(s x:Operand)(t e:TypeId)(size bytes:Nat)(zc:List Value)(base:Nat)(he:Elems P t e size bytes zc)
 (v:Value) (n:Nat) (xs:List Value) (ad:Option Addr) (m cap:Nat) (news:List Value) (hw:Region.wanted o (Y a.tmps)=true)
 (ho:o.op = .call {callee:=.builtin .append,args:=#[s,x],argTypes:=#[t,t]}) (hs:a.eval s=v) (hx:a.eval x = .slice ad m cap)
 (hl:news.length=m*size) (h1:∀u∈news,u.oneCell'=true) (h63:n+m≤maxLen) (hbytes:(n+m)*bytes≤140737488355328)
 (hown:w.ownsRow base e size v n xs) (hnews:Rd w ad news) (hbase:base≤w.heap.size)
 (h:∀a' cap' w',w'.ownsRow base e size (.slice a' (n+m) cap') (n+m) (xs++news)→w.grownBy w' v.ownBlock→S w'∧zcC P Y Q S G rest (a.put o.dst (.slice a' (n+m) cap')) w'):zcC P Y Q S G (o::rest) a w:=by
 obtain⟨a',cap',w',r1,r2,r3⟩:=zgJ (P:=P) (w:=w) s x t e size bytes zc base he ho v n xs hs hown ad m cap news hx hl hnews h1 h63 hbytes hbase;obtain⟨h4,h5⟩:=h a' cap' w' r2 r3;exact zfD hw r1 h4 h5
end
end Go.Proofs.YtieeogndnhighaaGreat
namespace Go.Proofs.YtieeogndnhighaaGreat
open Go.RowKit
section
variable {P:Program} {ops:Array Oper} {Q:Exit→Act→World→Prop} {S:World→Prop}
def zcL(P:Program)(Y:Array Value→Nat→Option Bool)(Q:Exit→Act→World→Prop)(S:World→Prop)(F:Act→World→Prop):List (Bool×Oper)→Act→World→Prop
 | [],a,w=>F a w
 | (true,o)::rest,a,w=>∃v,((Region.wanted o (Y a.tmps)=true∧∀w,S w→(execOp a.eval o).run P w = .ok (.value v) w)∨(Region.wanted o (Y a.tmps)=false∧v=undef))∧zcL P Y Q S F rest (a.put o.dst v) w
 | (false,o)::rest,a,w=>if Region.wanted o (Y a.tmps)=true then o.wp P a w (fun a' w'=>S w'∧zcL P Y Q S F rest a' w') Q∨(o.asks P a w∧LetsOut Q)else S w∧zcL P Y Q S F rest (a.put o.dst undef) w
def seqB(ops:Array Oper)(m:Nat):List (Bool×Nat)→Array Bool→Bool
 | [],_=>true
 | (true,k)::r,l=>(Region.ready .any ops l).contains k&&Region.free .any ops l k&&decide (k<m)&&seqB ops m r (l.setIfInBounds k true)
 | (false,k)::r,l=>(Region.ready .any ops l == [k])&&decide (k<m)&&seqB ops m r (l.setIfInBounds k true)
theorem zeX{m tail:Nat}(hbar:zeT ops m=true)(hsel:Region.noSelect ops=true)(hQ:∀c a d v w,Q (.panic c) (Act.put a d v) w→Q (.panic c) a w) :
 ∀(ks:List (Bool×Nat)) (ls:List (Bool×Oper)) (listed:Array Bool) (a:Act) (w:World),S w→ks.map (fun p=>(p.1,ops[p.2]?))=ls.map (fun p=>(p.1,some p.2))→seqB ops m ks listed=true→
 (∀i∈Region.ready .any ops (zcZ (ks.map Prod.snd) listed),m≤i)→
 zcL P (yielded ops) Q S (fun a' w'=>wpAny P .any ops Q tail (zcZ (ks.map Prod.snd) listed) a' w') ls a w→zkY P ops Q S m tail ks.length listed a w
 | [],ls,listed,a,w,hS,hl,_,hend,h=>by
   cases ls with
   | nil=>exact⟨hend,h⟩
   | cons o r=>simp at hl
 | (true,k)::ks,ls,listed,a,w,hS,hl,hb,hend,h=>by
   cases ls with
   | nil=>simp at hl
   | cons p r=>
     obtain⟨b,o⟩:=p;simp only[lmc,List.cons.injEq,Prod.mk.injEq]at hl;obtain⟨⟨rfl,hk⟩,hl⟩:=hl;simp only[seqB,yF,yK]at hb;obtain⟨v,hy,hrest⟩:=h
     exact zkX hbar hb.1.2 hk (Region.noSelect_spec hsel) (fun c a w=>hQ c a _ _ w) _ listed a w (Region.free_spec hk hb.1.1.2) (by simpa using hb.1.1.1) hy hS
      (zeX hbar hsel hQ ks r _ _ w hS hl hb.2 hend hrest)
 | (false,k)::ks,ls,listed,a,w,hS,hl,hb,hend,h=>by
   cases ls with
   | nil=>simp at hl
   | cons p r=>
     obtain⟨b,o⟩:=p;simp only[lmc,List.cons.injEq,Prod.mk.injEq]at hl;obtain⟨⟨rfl,hk⟩,hl⟩:=hl;simp only[seqB,yF,beq_iff_eq,yK]at hb;refine⟨by rw[hb.1.1];simp,fun i hi=> ?_,fun i hi=> ?_⟩
     ·rw[hb.1.1,zdW]at hi;rw[hi];exact hb.1.2
     ·rw[hb.1.1,zdW]at hi;subst hi;unfold Go.wpOp;simp only[hk];unfold zcL at h;split
      ·rename_i hw
       rw[zU hw]at h;exact h.imp (Oper.wp_mono fun a' w' h'=>⟨h'.1,zeX hbar hsel hQ ks r _ a' w' h'.1 hl hb.2 hend h'.2⟩) (fun h=>h)
      ·rename_i hw
       rw[zK hw]at h;exact⟨h.1,zeX hbar hsel hQ ks r _ _ w hS hl hb.2 hend h.2⟩
theorem zdX{Y:Array Value→Nat→Option Bool}{F F':Act→World→Prop}(hF:∀a w,F a w→F' a w):∀(l:List (Bool×Oper)) (a:Act) (w:World),zcL P Y Q S F l a w→zcL P Y Q S F' l a w
 | [],a,w,h=>hF a w h
 | (true,o)::r,a,w,⟨v,hv,h⟩=>⟨v,hv,zdX hF r _ w h⟩
 | (false,o)::r,a,w,h=>by
   unfold zcL at h⊢;split
   ·rename_i hw
    rw[zU hw]at h;exact h.imp (Oper.wp_mono fun a' w' h'=>⟨h'.1,zdX hF r a' w' h'.2⟩) (fun h=>h)
   ·rename_i hw
    rw[zK hw]at h;exact⟨h.1,zdX hF r _ w h.2⟩
def ziJ(ops:Array Oper)(m n:Nat)(ks:List (Bool×Nat)):Bool:=
 Region.noSelect ops&&zeT ops m&&decide (m+n=ops.size)&&decide (ks.length=m)&&seqB ops m ks (Array.replicate ops.size false) &&
  (Region.ready .any ops (zcZ (ks.map Prod.snd) (Array.replicate ops.size false))).all (fun i=>decide (m≤i))&&forced ops m n (zcZ (ks.map Prod.snd) (Array.replicate ops.size false))
theorem ziC{id:Nat}{a:Act}{w:World}(m n:Nat)(ks:List (Bool×Nat))(l t:List Oper)(ls:List (Bool×Oper))(S:World→Prop)(hm:P.follows .mixedOrders=true)(hops:ops.toList=l++t)(hl:l.length=m)(ht:t.length=n)
 (hls:ks.map (fun p=>(p.1,ops[p.2]?))=ls.map (fun p=>(p.1,some p.2)))
 (ho:ziJ ops m n ks=true) (hQ:∀c a d v w,Q (.panic c) (Act.put a d v) w→Q (.panic c) a w) (hS:S w.drew)
 (h:zcL P (yielded ops) Q S (fun a2 w2=>wpList P ops Q t a2 w2) ls a w.drew):(Code.region id ops true).wp P Q a w:=by
 simp only[ziJ,yF,yK,List.all_eq_true]at ho;obtain⟨⟨⟨⟨⟨⟨hsel,hbar⟩,hsz⟩,hlen⟩,hsq⟩,hend⟩,hforce⟩:=ho;refine wp_region_any hm ?_
 have H:=zeX (tail:=n) hbar hsel hQ ks ls (Array.replicate ops.size false) a _ hS hls hsq hend
  (zdX (fun a2 w2 h2=>zcD n m _ t ht (fun j=>by
    have hj:=yQ (fun x=>x[m+j]?) hops;simp only[Array.getElem?_toList]at hj;rw[hj,yP (by omega),hl,zeW];split
    ·rfl
    ·exact yY (by omega)) (by omega) hforce a2 w2 h2) ls a _ h)
 have:=zgS _ _ _ _ H;rw[hlen,hsz]at this;exact this
def zdA{α:Type}(ph:List (Bool×List Bool))(l:List α):List (Bool×α):=ph.flatMap fun p=>(sel p.2 l).map fun o=>(p.1,o)
theorem wp_region_seq{id:Nat}{a:Act}{w:World}(m n:Nat)(ph:List (Bool×List Bool))(l t:List Oper)(S:World→Prop)(hm:P.follows .mixedOrders=true)(hops:ops.toList=l++t)(hl:l.length=m)(ht:t.length=n)
 (hls:(zdA ph (List.range m)).map (fun p=>(p.1,ops[p.2]?))=(zdA ph l).map (fun p=>(p.1,some p.2)))
 (ho:ziJ ops m n (zdA ph (List.range m))=true) (hS:S w.drew)
 (h:∀(Y:Array Value→Nat→Option Bool) (Q':Exit→Act→World→Prop) (F:Act→World→Prop),(∀t,Y t=yielded ops t)→
   Shut' (∀a' w',(∀(K:Act→World→Prop),Shut' (∀a w,Q .normal a w→K a w)→wpList P ops (OnlyK K) t a' w')→F a' w')→
   zcL P Y Q' S F (zdA ph l) a w.drew):(Code.region id ops true).wp P Q a w:=
 Code.wp_mono (OnlyK.imp (fun _ _ h=>h)) (ziC m n _ l t _ S hm hops hl ht hls ho (fun _ _ _ _ _ h=>h) hS
  (h _ (OnlyK fun a w=>Q .normal a w) (fun a2 w2=>wpList P ops (OnlyK fun a w=>Q .normal a w) t a2 w2) (fun _=>rfl) (fun _ _ h=>h (fun a w=>Q .normal a w) (fun _ _ h=>h))))
variable {Y:Array Value→Nat→Option Bool} {o:Oper} {rest:List (Bool×Oper)} {a:Act} {v:Value} {f:FuncId} {args:Array Value} {F:Act→Prop} {G:Act→World→Prop} {w w':World}
theorem zF(hw:Region.wanted o (Y a.tmps)=true)(h:∀w,S w→(execOp a.eval o).run P w = .ok (.value v) w)(h2:zcL P Y Q S G rest (a.put o.dst v) w):zcL P Y Q S G ((true,o)::rest) a w:=⟨v,.inl ⟨hw,h⟩,h2⟩
theorem zR(hw:Region.wanted o (Y a.tmps)=false)(h2:zcL P Y Q S G rest (a.put o.dst undef) w):zcL P Y Q S G ((true,o)::rest) a w:=⟨undef,.inr ⟨hw,rfl⟩,h2⟩
theorem zbN(hw:Region.wanted o (Y a.tmps)=true)(hr:(execOp a.eval o).run P w = .ok (.value v) w')(hS:S w')(h:zcL P Y Q S G rest (a.put o.dst v) w'):zcL P Y Q S G ((false,o)::rest) a w:=by
 unfold zcL;rw[zU hw];exact .inl (by unfold Oper.wp;rw[hr];exact⟨hS,h⟩)
theorem yM(hw:Region.wanted o (Y a.tmps)=false)(hS:S w)(h:zcL P Y Q S G rest (a.put o.dst undef) w):zcL P Y Q S G ((false,o)::rest) a w:=by
 unfold zcL;rw[zK (by rw[hw];simp)];exact⟨hS,h⟩
theorem zS(hw:Region.wanted o (Y a.tmps)=true)(hr:(execOp a.eval o).run P w = .ok (.enter f args) w)
 (h:Calls P f args w fun e w'=>∃v,e = .returned v∧S w'∧zcL P Y Q S G rest (a.put o.dst v) w'):zcL P Y Q S G ((false,o)::rest) a w:=by
 unfold zcL;rw[zU hw];refine .inl ?_;unfold Oper.wp;rw[hr];refine Calls.mono h ?_;rintro e w' ⟨v,rfl,hS,h⟩;exact⟨hS,h⟩
theorem zZ(h:G a w):zcL P Y Q S G [] a w:=h
theorem zkS(s x:Operand)(t e:TypeId)(size bytes:Nat)(zc:List Value)(base:Nat)(he:Elems P t e size bytes zc)
 (v:Value) (n:Nat) (xs:List Value) (ad:Option Addr) (m cap:Nat) (news:List Value) (hw:Region.wanted o (Y a.tmps)=true)
 (ho:o.op = .call {callee:=.builtin .append,args:=#[s,x],argTypes:=#[t,t]}) (hs:a.eval s=v) (hx:a.eval x = .slice ad m cap)
 (hl:news.length=m*size) (h1:∀u∈news,u.oneCell'=true) (h63:n+m≤maxLen) (hbytes:(n+m)*bytes≤140737488355328)
 (hown:w.ownsRow base e size v n xs) (hnews:Rd w ad news) (hbase:base≤w.heap.size)
 (h:∀a' cap' w',w'.ownsRow base e size (.slice a' (n+m) cap') (n+m) (xs++news)→w.grownBy w' v.ownBlock→S w'∧zcL P Y Q S G rest (a.put o.dst (.slice a' (n+m) cap')) w'):zcL P Y Q S G ((false,o)::rest) a w:=by
 obtain⟨a',cap',w',r1,r2,r3⟩:=zgJ (P:=P) (w:=w) s x t e size bytes zc base he ho v n xs hs hown ad m cap news hx hl hnews h1 h63 hbytes hbase;obtain⟨h4,h5⟩:=h a' cap' w' r2 r3;exact zbN hw r1 h4 h5
end
theorem zrC:(∀{α:Type} (ph:List (Bool×List Bool)) (l:List α),zdA ph l=ph.flatMap fun p=>(sel p.2 l).map fun o=>(p.1,o))∧U=true∧zrA=false∧(∀{α β:Type} (f:α→List β) (x:α) (xs:List α),(x::xs).flatMap f=f x++xs.flatMap f)∧(∀{α β:Type} (f:α→List β),([]:List α).flatMap f = [])∧(∀{α:Type} (n:Nat) (x:α) (xs:List α),(x::xs).take (n+1)=x::xs.take n)∧(∀{α:Type} (xs:List α),xs.take 0 = [])∧(∀{α:Type} (n:Nat) (x:α) (xs:List α),(x::xs).drop (n+1)=xs.drop n)∧(∀{α:Type} (xs:List α),xs.drop 0=xs)∧(∀{α:Type} (m:List Bool) (x:α) (xs:List α),sel (true::m) (x::xs)=x::sel m xs)∧(∀{α:Type} (m:List Bool) (x:α) (xs:List α),sel (false::m) (x::xs)=sel m xs)∧(∀{α:Type} (xs:List α),sel [] xs = [])∧(∀{α β:Type} (f:α→β) (x:α) (xs:List α),(x::xs).map f=f x::xs.map f)∧(∀{α β:Type} (f:α→β),([]:List α).map f = [])∧(∀{α:Type} (x:α) (xs ys:List α),(x::xs)++ys=x::(xs++ys))∧(∀{α:Type} (xs:List α),[]++xs=xs)∧(∀{α:Type} (xs:List α),xs ++ []=xs):=⟨fun _ _=>rfl,rfl,rfl,lfc,lfn,ltc,ltz,ldc,ldz,sel_true,sel_false,sel_nil,lmc,lmn,lca,lna,lan⟩
theorem sel_map14{α β:Type}(f:α→β):∀(m:List Bool) (l:List α),sel m (l.map f)=(sel m l).map f
 | [],l=>by rw[sel_nil,sel_nil];rfl
 | true::m,[]=>rfl
 | false::m,[]=>rfl
 | true::m,x::l=>by rw[List.map_cons,sel_true,sel_true,List.map_cons,sel_map14 f m l]
 | false::m,x::l=>by rw[List.map_cons,sel_false,sel_false,sel_map14 f m l]
theorem phased_map14{α β:Type}(f:α→β)(l:List α):∀ph:List (Bool×List Bool),zdA ph (l.map f)=(zdA ph l).map fun p=>(p.1,f p.2)
 | []=>rfl
 | p::ph=>by
   have h:=phased_map14 f l ph;unfold zdA at h⊢;rw[List.flatMap_cons,List.flatMap_cons,List.map_append,h,sel_map14,List.map_map,List.map_map];rfl
theorem zrE{P:Program}{ops:Array Oper}{Q:Exit→Act→World→Prop}{id:Nat}{a:Act}{w:World}(m n:Nat)(ph:List (Bool×List Bool))(S:World→Prop)(hk:(P.follows .mixedOrders&&ziJ ops m n (zdA ph (List.range m)))=true)(hS:S w.drew)
 (h:∀(Y:Array Value→Nat→Option Bool) (Q':Exit→Act→World→Prop) (F:Act→World→Prop),(∀t,Y t=yielded ops t)→
   Shut' (∀a' w',(∀(K:Act→World→Prop),Shut' (∀a w,Q .normal a w→K a w)→wpList P ops (OnlyK K) (ops.toList.drop m) a' w')→F a' w')→
   zcL P Y Q' S F (zdA ph (ops.toList.take m)) a w.drew):(Code.region id ops true).wp P Q a w:=by
 rw[Bool.and_eq_true]at hk;have hsz:m+n=ops.size:=by
  have h2:=hk.2;simp only[ziJ,Bool.and_eq_true,decide_eq_true_eq]at h2;exact h2.1.1.1.1.2
 have e:(List.range m).map (fun k=>ops[k]?)=(ops.toList.take m).map some:=by
  apply List.ext_getElem?;intro i;rw[List.getElem?_map,List.getElem?_map,List.getElem?_take];by_cases hi:i<m
  ·rw[List.getElem?_range hi,if_pos hi,Array.getElem?_toList];have:i<ops.size:=by omega
   simp[this]
  ·rw[if_neg hi,List.getElem?_eq_none (by simp;omega)];rfl
 refine wp_region_seq m n ph _ _ S hk.1 (List.take_append_drop m _).symm (by simp;omega) (by simp;omega) ?_ hk.2 hS h;rw[←phased_map14 (fun k=>ops[k]?),←phased_map14 some,e]
