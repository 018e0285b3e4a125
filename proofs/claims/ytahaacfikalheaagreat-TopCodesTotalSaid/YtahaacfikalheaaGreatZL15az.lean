/- A part of the proof of L15. No condition. -/
import Derived.RangeFuncWrites
import Derived.Test.YtahaacfikalheaaGreatZL15ax
set_option linter.all false
set_option maxRecDepth 100000
set_option maxHeartbeats 200000
namespace Go.Proofs.YtahaacfikalheaaGreat
open Go.RowKit Go.Shelf
section
variable {F:Fence} {n:Nat} {P:Program} {α:Type}
structure SameFrom(B:Nat)(W W':World):Prop where
 size:W.heap.size≤W'.heap.size
 same:∀k,B≤k→k<W.heap.size→W'.heap[k]? = W.heap[k]?
theorem SameFrom.at{B:Nat}{W W':World}(h:SameFrom B W W')(k:Nat)(o:Obj)(hB:B≤k)(hk:W.heap[k]? = some o):W'.heap[k]? = some o:=
 (h.same k hB (Array.getElem?_eq_some_iff.1 hk).1).trans hk
theorem SameFrom.trans{B:Nat}{X Y Z:World}(h:SameFrom B X Y)(k:SameFrom B Y Z):SameFrom B X Z:=
 ⟨yC h.size k.size,fun i hB hi=>(k.same i hB (zaF hi h.size)).trans (h.same i hB hi)⟩
theorem SameFrom.up{B B':Nat}{W W':World}(h:SameFrom B W W')(hb:B≤B'):SameFrom B' W W':=⟨h.size,fun k hk=>h.same k (by omega)⟩
theorem SameFrom.put{B l:Nat}(W:World)(o:Obj)(h:l<B):SameFrom B W (W.putObj l o):=by
 have hg:=grownBy_putObj' W l o;exact⟨hg.size,fun k hB hk=>hg.block k hk (fun e=>by cases e;omega)⟩
theorem SameFrom.refl(B:Nat)(W:World):SameFrom B W W:=⟨zD _,fun _ _ _=>rfl⟩
theorem SameFrom.setCell{B b i:Nat}(W:World)(v:Value)(h:b<B):SameFrom B W (W.setCell ⟨b,i,none⟩ v):=
 ⟨by simp,fun k hB _=>heap_setCell_other W ⟨b,i,none⟩ k v (fun e=>by simp at e;omega)⟩
def KpO(c:Nat)(A B:World):Prop:=A.heap.size≤B.heap.size∧∀(k:Nat) (o:Obj),¬k=c→A.heap[k]? = some o→o.isCells=true→B.heap[k]? = some o
theorem KpO.trans{c:Nat}{A B C:World}(h:KpO c A B)(k:KpO c B C):KpO c A C:=⟨yC h.1 k.1,fun i o hi ha ho=>k.2 i o hi (h.2 i o hi ha ho) ho⟩
theorem KpO.refl(c:Nat)(A:World):KpO c A A:=⟨zD _,fun _ _ _ h _=>h⟩
theorem KpO.put{c l:Nat}{W:World}{o:Obj}(o':Obj)(hl:W.heap[l]? = some o)(hc:o.isCells=false):KpO c W (W.putObj l o'):=by
 have hg:=grownBy_putObj' W l o';refine⟨hg.size,fun k x _ hk hx=> ?_⟩;rw[hg.block k (Array.getElem?_eq_some_iff.1 hk).1 (fun e=>by cases e;rw[hl]at hk;cases hk;rw[hc]at hx;cases hx)];exact hk
theorem KpO.setCell{c i:Nat}(W:World)(v:Value):KpO c W (W.setCell ⟨c,i,none⟩ v):=
 ⟨by simp,fun k o hk ho _=>(heap_setCell_other W ⟨c,i,none⟩ k v (fun e=>hk (by simp at e;omega))).trans ho⟩
theorem KpO.cell{c:Nat}{W W':World}(h:KpO c W W'){p:Addr}{v:Value}(hc:W.cell? p=some v)(h1:¬p.block=c):W'.cell? p=some v:=by
 unfold World.cell? at hc⊢;cases ho:W.heap[p.block]? with
 | none=>rw[ho]at hc;simp at hc
 | some o=>
   rw[ho]at hc;have hcc:o.isCells=true:=by cases o<;>simp_all [Obj.isCells]
   rw[h.2 _ _ h1 ho hcc];exact hc
theorem Rd.kpo{w w':World}{c:Nat}{a:Option Addr}{vals:List Value}(h:Rd w a vals)(hk:KpO c w w')(hb:∀b o,a=some ⟨b,o,none⟩→vals≠ []→¬b=c):Rd w' a vals:=fun hne=>by
 obtain⟨b,o,rfl,hcs⟩:=h hne;exact⟨b,o,rfl,fun j v hv=>hk.cell (hcs j v hv) (hb b o rfl hne)⟩
def SeqW(F:Fence)(n:Nat)(P:Program)(g:Nat)(lb:Array Value)(encs:α→Array Value)(c₀:Nat)(S Sp:List α→Prop)(N:Nat)(w:World):Prop:=
 ∀(l:Nat) (J Jx:List α→World→Prop) (W:World),Below w.heap.size w W→OwnFrom W.heap.size J→OwnFrom W.heap.size Jx→
  (∀m pre x W1,J pre W1→pre.length<N→YieldAt F m P l (encs x) W1 fun e W'=>
    (e = .returned (.bool true)∧J (pre ++ [x]) W'∧SameFrom W.heap.size W1 W'∧KpO c₀ W1 W')∨(e = .returned (.bool false)∧Jx (pre ++ [x]) W'∧SameFrom W.heap.size W1 W'))→
  J [] W→
  CallsIn F n P g (#[.func (.yield l) #[] #[]]++lb) W fun e W'=>(∃v,e = .returned v)∧((∃xs,S xs∧J xs W')∨(∃pre,Sp pre∧Jx pre W'))
def postW(B c₀:Nat)(I:List α→World→Prop)(Ix:Code→List α→World→Prop)(xs:List α)(W:World):Exit→Act→World→Prop
 | .normal,_,W'=>SameFrom B W W'∧KpO c₀ W W'∧I xs W'
 | .ret,_,W'=>SameFrom B W W'∧Ix .ret xs W'
 | .exit id,_,W'=>SameFrom B W W'∧Ix (.exit id) xs W'
 | .goto t,_,W'=>SameFrom B W W'∧Ix (.goto t) xs W'
 | .panic _,_,_=>False
 | .outgrown,_,_=>False
theorem znO{g:Operand}{ps:Array Tmp}{assign body:Code}{Q:Exit→Act→World→Prop}{a:Act}{w w0:World}{gf:Nat}{lb:Array Value}{encs:α→Array Value}{c₀:Nat}{S Sp:List α→Prop}{N:Nat}
 (hro:F.round=none) (h1:1≤n) (hg:a.eval g = .func (.func gf) #[] lb) (hFg:F.fn gf) (eg:∀args w,(callFunc gf args).run P w = .ok (.enter gf args) w)
 (hseq:SeqW F (n-1) P gf lb encs c₀ S Sp N w0) (hb0:Below w0.heap.size w0 w) (hps:∀x,(encs x).size=ps.size)
 (I:List α→World→Prop) (Ix:Code→List α→World→Prop) (hI:OwnFrom w.heap.size I) (hIx:∀c,OwnFrom w.heap.size (Ix c)) (h0:I [] w) (a₁:α→Act)
 (hassign:∀(m l:Nat) (x:α) (W:World) (K:Act→World→Prop),K (a₁ x) W→
   assign.wpIn (F.inRound l) m P (Exit.then K (fun _ _ _=>False)) {tmps:=(ps.zip (encs x)).foldl (fun t (p,v)=>t.setIfInBounds p v) a.tmps,defers:=[]} W)
 (hbody:∀(m l:Nat) (pre:List α) (x:α) (W:World),I pre W→pre.length<N→body.wpIn (F.inRound l) m P (postW w.heap.size c₀ I Ix (pre ++ [x]) W) (a₁ x) W)
 (hdone:∀(D:Nat) (xs:List α) (W:World),w.heap.size≤D→S xs→I xs W→W.heap[D]? = some (.deferred (some []))→Q .normal {a with defers:={target:=.collected D,args:=#[]}::a.defers} W)
 (hstop:∀(D:Nat) (c:Code) (pre:List α) (W:World),w.heap.size≤D→Sp pre→Ix c pre W→W.heap[D]? = some (.deferred (some []))→c.wpIn F n P Q {a with defers:={target:=.collected D,args:=#[]}::a.defers} W) :
 (Code.rangeFunc g ps assign body).wpIn F n P Q a w:=by
 obtain⟨B,hB⟩:∃B,w.heap.size=B:=⟨_,rfl⟩;rw[hB]at hI hIx hbody hdone hstop;refine wpIn_rangeFunc fun fn hfn=> ?_;rw[hro]
 let rec_:LoopState→Option Code→Loop:=fun st pe=>{state:=st,pending:=pe,fn,tmps:=a.tmps,params:=ps,assign,body,defers:=B}
 obtain⟨V,hV⟩:∃V,(w.alloc (.deferred (some []))).alloc (.loop (rec_ .ready none))=V:=⟨_,rfl⟩;have vs:V.heap.size=B+2:=by rw[←hV,←hB];simp
 have vL:V.heap[B+1]? = some (.loop (rec_ .ready none)):=by
  have:=World.alloc_heap_new (w.alloc (.deferred (some []))) (.loop (rec_ .ready none));rw[zV,hB,hV]at this;exact this
 have vD:V.heap[B]? = some (.deferred (some [])):=by
  rw[←hV,←hB];exact(Below.heap_alloc _ _ _ (by simp)).trans (World.alloc_heap_new w _)
 have vI:I [] V:=by rw[←hV];exact hI.alloc _ (hI.alloc _ h0)
 have vB:Below w0.heap.size w0 V:=by
  rw[←hV];exact hb0.trans ((((zF _ w).alloc (zD _) _).alloc (by simp) _).mono hb0.size)
 have hrun:=run_enterLoop_outer (P:=P) (w:=w) fn a.tmps ps assign body;rw[hB]at hrun
 let Own2:LoopState→Option Code→World→Prop:=fun st pe W=>W.heap[B+1]? = some (.loop (rec_ st pe))∧W.heap[B]? = some (.deferred (some []))
 have own2:∀(st:LoopState) (pe:Option Code) (X Y:World) (row:Option Nat),Own2 st pe X→X.grownBy Y row→(∀r,row=some r→B+2≤r)→Own2 st pe Y:=fun st pe X Y row h hg hr=>
  ⟨(hg.block _ (Array.getElem?_eq_some_iff.1 h.1).1 (fun e=>by have:=hr _ e.symm;omega)).trans h.1,(hg.block _ (Array.getElem?_eq_some_iff.1 h.2).1 (fun e=>by have:=hr _ e.symm;omega)).trans h.2⟩
 have putR:∀(st:LoopState) (pe:Option Code) (st':LoopState) (pe':Option Code) (X:World),Own2 st pe X→Own2 st' pe' (X.putObj (B+1) (.loop (rec_ st' pe'))):=fun st pe st' pe' X h=>
  ⟨World.putObj_heap_same (Array.getElem?_eq_some_iff.1 h.1).1,(World.putObj_heap_other (by omega)).trans h.2⟩
 refine⟨B+1,[{target:=.collected B,args:=#[]}],V,{target:=.fn (.func gf) lb,args:=#[.func (.yield (B+1)) #[] #[]]},V,gf,#[.func (.yield (B+1)) #[] #[]]++lb,V,
  by rw[←hV];exact hrun,by simp only[resolve,hg];simp[go_sem],fun f' hf'=>by simp[Target.leads]at hf';subst hf';exact hFg,by simp[invoke,go_sem,eg],fun _=>h1,?_⟩
 refine(hseq (B+1) (fun pre W=>I pre W∧Own2 .ready none W) (fun pre W=>∃c,Ix c pre W∧Own2 .done (some c) W) V vB
  (fun s X Y row hs hg' hr=>⟨hI s X Y row hs.1 hg' (fun r e=>⟨by have:=(hr r e).1;omega,(hr r e).2⟩),own2 _ _ _ _ _ hs.2 hg' (fun r e=>by have:=(hr r e).1;omega)⟩)
  (fun s X Y row hs hg' hr=>by
    obtain⟨c,hc,ho⟩:=hs;exact⟨c,hIx c s X Y row hc hg' (fun r e=>⟨by have:=(hr r e).1;omega,(hr r e).2⟩),own2 _ _ _ _ _ ho hg' (fun r e=>by have:=(hr r e).1;omega)⟩)
  ?_ ⟨vI,vL,vD⟩).mono ?_
 ·rintro m pre x W ⟨hi,ho⟩ hlen;have hy:=run_yield (P:=P) (args:=encs x) ho.1 (hps x);refine⟨fn,_,assign,body,hy,roundIn_of_wpIn hfn (hassign _ _ x W _ ⟨_,run_beginRound ho.1 rfl,?_⟩)⟩;have ho2:=putR .ready none .busy none W ho;have s1:=(Array.getElem?_eq_some_iff.1 ho.1).1;refine wpIn_mono (hbody _ _ pre x _ (hI.putObj _ hi (by omega) ho.1 rfl) hlen) ?_
  have fin:∀(jump:Option Code) (X:World),SameFrom B (W.putObj (B+1) (.loop (rec_ .busy none))) X→
   (Instr.endRound (B+1) jump).run P X = .ok (.bool jump.isNone) (X.putObj (B+1) (.loop (rec_ (if jump.isNone then .ready else .done) jump)))∧Own2 .busy none X:=fun jump X hk=>by
   have hx:Own2 .busy none X:=⟨hk.at _ _ (by omega) ho2.1,hk.at _ _ (zD _) ho2.2⟩;exact⟨run_endRound (P:=P) jump hx.1,hx⟩
  have kf:∀(jump:Option Code) (X:World),SameFrom B (W.putObj (B+1) (.loop (rec_ .busy none))) X→SameFrom V.heap.size W (X.putObj (B+1) (.loop (rec_ (if jump.isNone then .ready else .done) jump))):=fun jump X hk=>
   ((SameFrom.put W _ (by omega)).trans (hk.up (by omega))).trans (SameFrom.put X _ (by omega))
  have stop:∀(c:Code) (X:World),SameFrom B (W.putObj (B+1) (.loop (rec_ .busy none))) X→Ix c (pre ++ [x]) X→
   ∃d,Ix d (pre ++ [x]) (X.putObj (B+1) (.loop (rec_ .done (some c))))∧Own2 .done (some d) (X.putObj (B+1) (.loop (rec_ .done (some c)))):=fun c X hk hi3=>
   ⟨c,(hIx c).putObj _ hi3 (by omega) (fin (some c) X hk).2.1 rfl,putR _ _ _ _ X (fin (some c) X hk).2⟩
  rintro e a3 X hp;cases e with
  | normal=>
    obtain⟨hk,hb,hi3⟩:=hp;obtain⟨hr,hx⟩:=fin none X hk;refine⟨_,_,hr,.inl ⟨rfl,⟨hI.putObj _ hi3 (by omega) hx.1 rfl,putR _ _ _ _ X hx⟩,kf none X hk,?_⟩⟩;exact((KpO.put _ ho.1 rfl).trans hb).trans (KpO.put _ hx.1 rfl)
  | ret=>exact⟨_,_,(fin (some .ret) X hp.1).1,.inr ⟨rfl,stop _ X hp.1 hp.2,kf (some .ret) X hp.1⟩⟩
  | exit id=>exact⟨_,_,(fin (some (.exit id)) X hp.1).1,.inr ⟨rfl,stop _ X hp.1 hp.2,kf (some (.exit id)) X hp.1⟩⟩
  | goto t=>exact⟨_,_,(fin (some (.goto t)) X hp.1).1,.inr ⟨rfl,stop _ X hp.1 hp.2,kf (some (.goto t)) X hp.1⟩⟩
  | panic ch=>exact hp.elim
  | outgrown=>exact hp.elim
 ·rintro e X ⟨⟨v,rfl⟩,⟨xs,hS,hi,ho⟩|⟨pre,hSp,c,hi,ho⟩⟩
  ·exact⟨none,_,run_endLoop (P:=P) ho.1 (by simp[rec_]),hdone _ xs _ (zD _) hS (hI.putObj _ hi (by omega) ho.1 rfl) ((World.putObj_heap_other (by omega)).trans ho.2)⟩
  ·exact⟨some c,_,run_endLoop (P:=P) ho.1 (by simp[rec_]),hstop _ c pre _ (zD _) hSp ((hIx c).putObj _ hi (by omega) ho.1 rfl) ((World.putObj_heap_other (by omega)).trans ho.2)⟩
end
end Go.Proofs.YtahaacfikalheaaGreat
namespace Go.Proofs.YtahaacfikalheaaGreat
open Go.RowKit Go.Shelf
section
variable {P:Program} {ops:Array Oper} {Q:Exit→Act→World→Prop} {S:World→Prop}
def anc(ops:Array Oper):Nat→Nat→List Nat
 | 0,_=>[]
 | f+1,j=>match ops[j]? with
   | none=>[]
   | some o=>(o.after.toList.filter fun e=>Region.binds .any e).flatMap fun e=>e.on::anc ops f e.on
def zqF(ops:Array Oper)(listed:Array Bool):Prop:=∀j o,ops[j]? = some o→listed.getD j false=true→∀e∈o.after,Region.binds .any e=true→listed.getD e.on false=true
theorem zmI{listed:Array Bool}(hd:zqF ops listed):∀(f j:Nat),(∀o,ops[j]? = some o→∀e∈o.after,Region.binds .any e=true→listed.getD e.on false=true)→∀i∈anc ops f j,listed.getD i false=true
 | 0,j,h,i,hi=>by simp[anc]at hi
 | f+1,j,h,i,hi=>by
   unfold anc at hi;cases ho:ops[j]? with
   | none=>simp[ho]at hi
   | some o=>
     simp only[ho,List.mem_flatMap,List.mem_filter,List.mem_cons]at hi;obtain⟨e,⟨he,hb⟩,hi⟩:=hi;have he':=h o ho e (by simpa using he) hb;rcases hi with rfl|hi
     ·exact he'
     ·exact zmI hd f e.on (fun o' ho' e' h1 h2=>hd e.on o' ho' he' e' h1 h2) i hi
def zhD(ops:Array Oper)(m:Nat):Bool:=(List.range ops.size).all fun k=>decide (k<m)||(List.range m).all fun j=>(anc ops ops.size k).contains j
theorem zkR{m:Nat}(h:zhD ops m=true){k j:Nat}{listed:Array Bool}(hd:zqF ops listed)(hk:k∈Region.ready .any ops listed)(hkm:m≤k)(hj:j<m):listed.getD j false=true:=by
 obtain⟨_,o,ho,hall⟩:=mem_ready.1 hk;have hks:=(Array.getElem?_eq_some_iff.1 ho).1;simp only[zhD,List.all_eq_true,zfQ,Bool.or_eq_true,zY]at h;have h1:=(h k hks).resolve_left (by omega) j hj;exact zmI hd _ k (fun o' ho' e h1 h2=>by rw[ho]at ho';cases ho';exact hall e h1 h2) j (by simpa using h1)
theorem zcE{k:Nat}{listed:Array Bool}(hd:zqF ops listed)(hk:k∈Region.ready .any ops listed):zqF ops (listed.setIfInBounds k true):=fun j o ho hj e he hb=>by
 obtain⟨_,o',ho',hall⟩:=mem_ready.1 hk
 have mono:∀x,listed.getD x false=true→(listed.setIfInBounds k true).getD x false=true:=fun x hx=>by
  by_cases hxk:k=x
  ·subst hxk;rcases zaE k listed.size with h|h
   ·simp[h]
   ·simp[yI h]at hx
  ·rw[getD_set_ne false hxk];exact hx
 by_cases hjk:k=j
 ·subst hjk;rw[ho']at ho;cases ho;exact mono _ (hall e he hb)
 ·rw[getD_set_ne false hjk]at hj;exact mono _ (hd j o ho hj e he hb)
theorem zjK(n:Nat):zqF ops (Array.replicate n false):=fun j o _ hj=>by
 rw[Array.getD_eq_getD_getElem?,Array.getElem?_replicate]at hj;split at hj<;>simp at hj
def freeM(ops:Array Oper)(m:Nat)(listed:Array Bool)(i:Nat):Bool:=
 match ops[i]? with
 | none=>false
 | some oi=>(List.range m).all fun j=>j==i||listed.getD j true||match ops[j]? with
    | some oj=>oj.after.any (fun e=>Region.binds .any e&&e.on==i)||oi.apart ops oj
    | none=>true
theorem zsI{m i:Nat}{oi:Oper}{listed:Array Bool}(hi:ops[i]? = some oi)(h:freeM ops m listed i=true)(j:Nat)(hjm:j<m)(oj:Oper)
 (hj:ops[j]? = some oj) (hne:j≠i) (hun:listed.getD j true=false) (hno:∀e∈oj.after,Region.binds .any e=true→e.on≠i):oi.apart ops oj=true:=by
 simp only[freeM,hi,List.all_eq_true,zfQ]at h;have h1:=h j hjm;simp only[hj,Bool.or_eq_true,beq_iff_eq,hne,false_or,hun,Bool.false_eq_true]at h1;rcases h1 with h1|h1
 ·obtain⟨e,he,hb⟩:=Array.any_eq_true'.1 h1;simp only[zS,beq_iff_eq]at hb;exact absurd hb.2 (hno e he hb.1)
 ·exact h1
def seqX(ops:Array Oper)(m:Nat):List (Bool×Nat)→Array Bool→Bool
 | [],_=>true
 | (true,k)::r,l=>(Region.ready .any ops l).contains k&&freeM ops m l k&&decide (k<m)&&seqX ops m r (l.setIfInBounds k true)
 | (false,k)::r,l=>(Region.ready .any ops l == [k])&&decide (k<m)&&seqX ops m r (l.setIfInBounds k true)
def seqOrderX(ops:Array Oper)(m n:Nat)(ks:List (Bool×Nat)):Bool:=
 Region.noSelect ops&&zhD ops m&&decide (m+n=ops.size)&&decide (ks.length=m)&&seqX ops m ks (Array.replicate ops.size false) &&
  (Region.ready .any ops (zdK (ks.map Prod.snd) (Array.replicate ops.size false))).all (fun i=>decide (m≤i))&&forced ops m n (zdK (ks.map Prod.snd) (Array.replicate ops.size false))
def ziT(P:Program)(ops:Array Oper)(Q:Exit→Act→World→Prop)(S:World→Prop)(m:Nat)(X:Array Bool→Act→World→Prop):Nat→Array Bool→Act→World→Prop
 | 0,listed,a,w=>(∀i∈Region.ready .any ops listed,m≤i)∧X listed a w
 | fuel+1,listed,a,w=>Region.ready .any ops listed≠ []∧(∀i∈Region.ready .any ops listed,i<m)∧
   ∀i∈Region.ready .any ops listed,wpOp P ops Q i (fun a' w'=>S w'∧ziT P ops Q S m X fuel (listed.setIfInBounds i true) a' w') a w
theorem zmV{m i:Nat}{X:Array Bool→Act→World→Prop}{oi:Oper}{v:Value}(hbar:zhD ops m=true)(him:i<m)(hi:ops[i]? = some oi)(hsel:∀(j:Nat) (o:Oper) cs b,ops[j]? = some o→o.op≠ .select cs b)
 (hQ:∀c a w,Q (.panic c) (a.put oi.dst v) w→Q (.panic c) a w) :
 ∀(fuel:Nat) (listed:Array Bool) (a:Act) (w:World),
  zqF ops listed→(∀j oj,j<m→ops[j]? = some oj→j≠i→listed.getD j true=false→(∀e∈oj.after,Region.binds .any e=true→e.on≠i)→oi.apart ops oj=true)→
  i∈Region.ready .any ops listed→YieldsIf P ops S oi v a→S w→
  ziT P ops Q S m X fuel (listed.setIfInBounds i true) (a.put oi.dst v) w→ziT P ops Q S m X (fuel+1) listed a w:=by
 intro fuel;induction fuel with
 | zero=>
   intro listed a w hd _ hr hy hS H
   have hlt:∀j∈Region.ready .any ops listed,j<m:=fun j hj=>by
    rcases zaE j m with h|h
    ·exact h
    ·have h1:=zkR hbar hd hj h him;have h0:=(mem_ready.1 hr).1;rcases zaE i listed.size with h'|h'
     ·simp[h']at h0 h1;rw[h0]at h1;cases h1
     ·simp[yI h']at h1
   refine⟨fun h=>(by rw[h]at hr;cases hr),hlt,fun j hj=> ?_⟩;by_cases hji:j=i
   ·subst hji;exact hy.wpOp hi hS ⟨hS,H⟩
   ·have h1:=H.1 j (ready_mono hj hji);have h2:=hlt j hj;omega
 | succ fuel ih=>
   intro listed a w hd hfree hr hy hS H
   have hlt:∀j∈Region.ready .any ops listed,j<m:=fun j hj=>by
    rcases zaE j m with h|h
    ·exact h
    ·have h1:=zkR hbar hd hj h him;have h0:=(mem_ready.1 hr).1;rcases zaE i listed.size with h'|h'
     ·simp[h']at h0 h1;rw[h0]at h1;cases h1
     ·simp[yI h']at h1
   refine⟨fun h=>(by rw[h]at hr;cases hr),hlt,fun j hj=> ?_⟩;by_cases hji:j=i
   ·subst hji;exact hy.wpOp hi hS ⟨hS,H⟩
   ·have h1:=H.2.2 j (ready_mono hj hji);obtain⟨hjun,oj,hoj,hall⟩:=mem_ready.1 hj
    have hnot:∀e∈oj.after,Region.binds .any e=true→e.on≠i:=fun e he hb heq=>by
     have h1:=hall e he hb;have h0:=(mem_ready.1 hr).1;rw[heq]at h1;rcases zaE i listed.size with h'|h'
     ·simp[h']at h0 h1;rw[h0]at h1;cases h1
     ·simp[yI h']at h1
    have h2:=wpOp_putIf hoj (hfree j oj (hlt j hj) hoj hji hjun hnot) (fun cs b=>hsel i oi cs b hi) (fun cs b=>hsel j oj cs b hoj) hQ hy h1
    have hfree':∀k ok,k<m→ops[k]? = some ok→k≠i→(listed.setIfInBounds j true).getD k true=false→
     (∀e∈ok.after,Region.binds .any e=true→e.on≠i)→oi.apart ops ok=true:=fun k ok hkm hk hki hun hno=>by
     refine hfree k ok hkm hk hki ?_ hno;by_cases hjk:j=k
     ·subst hjk;exact hjun
     ·rw[getD_set_ne true hjk]at hun;exact hun
    refine wpOp_mono (fun a' w' h3=>⟨h3.2.1,ih (listed.setIfInBounds j true) a' w' (zcE hd hj) hfree' (ready_mono hr (Ne.symm hji)) h3.1 h3.2.1 ?_⟩) h2;rw[Array.setIfInBounds_comm _ _ hji];exact h3.2.2
theorem ziJ{m:Nat}{X:Array Bool→Act→World→Prop}(hbar:zhD ops m=true)(hsel:Region.noSelect ops=true)(hQ:∀c a d v w,Q (.panic c) (Act.put a d v) w→Q (.panic c) a w) :
 ∀(ks:List (Bool×Nat)) (ls:List (Bool×Oper)) (listed:Array Bool) (a:Act) (w:World),zqF ops listed→S w→ks.map (fun p=>(p.1,ops[p.2]?))=ls.map (fun p=>(p.1,some p.2))→seqX ops m ks listed=true→
 (∀i∈Region.ready .any ops (zdK (ks.map Prod.snd) listed),m≤i)→
 zdD P (yielded ops) Q S (fun a' w'=>X (zdK (ks.map Prod.snd) listed) a' w') ls a w→ziT P ops Q S m X ks.length listed a w
 | [],ls,listed,a,w,hd,hS,hl,_,hend,h=>by
   cases ls with
   | nil=>exact⟨hend,h⟩
   | cons o r=>simp at hl
 | (true,k)::ks,ls,listed,a,w,hd,hS,hl,hb,hend,h=>by
   cases ls with
   | nil=>simp at hl
   | cons p r=>
     obtain⟨b,o⟩:=p;simp only[lmc,List.cons.injEq,Prod.mk.injEq]at hl;obtain⟨⟨rfl,hk⟩,hl⟩:=hl;simp only[seqX,zS,zY]at hb;obtain⟨v,hy,hrest⟩:=h
     exact zmV hbar hb.1.2 hk (Region.noSelect_spec hsel) (fun c a w=>hQ c a _ _ w) _ listed a w hd (fun j oj hjm=>zsI hk hb.1.1.2 j hjm oj) (by simpa using hb.1.1.1) hy hS
      (ziJ hbar hsel hQ ks r _ _ w (zcE hd (by simpa using hb.1.1.1)) hS hl hb.2 hend hrest)
 | (false,k)::ks,ls,listed,a,w,hd,hS,hl,hb,hend,h=>by
   cases ls with
   | nil=>simp at hl
   | cons p r=>
     obtain⟨b,o⟩:=p;simp only[lmc,List.cons.injEq,Prod.mk.injEq]at hl;obtain⟨⟨rfl,hk⟩,hl⟩:=hl;simp only[seqX,zS,beq_iff_eq,zY]at hb;refine⟨by rw[hb.1.1];simp,fun i hi=> ?_,fun i hi=> ?_⟩
     ·rw[hb.1.1,zaS]at hi;rw[hi];exact hb.1.2
     ·rw[hb.1.1,zaS]at hi;subst hi;unfold Go.wpOp;simp only[hk];unfold zdD at h;split
      ·rename_i hw
       rw[zO hw]at h;exact h.imp (Oper.wp_mono fun a' w' h'=>⟨h'.1,ziJ hbar hsel hQ ks r _ a' w' (zcE hd (by rw[hb.1.1];simp)) h'.1 hl hb.2 hend h'.2⟩) (fun h=>h)
      ·rename_i hw
       rw[zG hw]at h;exact⟨h.1,ziJ hbar hsel hQ ks r _ _ w (zcE hd (by rw[hb.1.1];simp)) hS hl hb.2 hend h.2⟩
theorem zgF{n l m tail:Nat}(hnd:zlO ops=true)(hQ:¬LetsOut Q):∀(fuel:Nat) (listed:Array Bool) (a:Act) (w:World),
 ziT P ops Q S m (fun listed a w=>wpAnyIn (Fence.wide.inRound l) n P .any ops Q tail listed a w) fuel listed a w→wpAnyIn (Fence.wide.inRound l) n P .any ops Q (fuel+tail) listed a w
 | 0,listed,a,w,h=>by rw[yK];exact h.2
 | fuel+1,listed,a,w,h=>by
   rw[show fuel+1+tail=(fuel+tail)+1 by omega];refine⟨fun h0=>absurd h0 h.1,fun i hi=> ?_⟩;have hi':=h.2.2 i hi;unfold Go.wpOp at hi';unfold wpOpIn;cases ho:ops[i]? with
   | none=>
     simp only[ho]at hi'⊢;exact zgF hnd hQ fuel _ _ _ hi'.2
   | some o=>
     simp only[ho]at hi'⊢;split
     ·rename_i hw
      rw[zO hw]at hi';rcases hi' with hi'|⟨_,hl⟩
      ·exact zmS (zsD hnd ho) (fun a w h=>zgF hnd hQ fuel _ a w h.2) hi'
      ·exact absurd hl hQ
     ·rename_i hw
      rw[zG hw]at hi';exact⟨fun _ _=>yF,zgF hnd hQ fuel _ _ _ hi'.2⟩
theorem ziU{F:Fence}{nn:Nat}:∀(n k:Nat) (listed:Array Bool) (l:List Oper),l.length=n→(∀j,l[j]? = if j<n then ops[k+j]? else none)→k+n≤ops.size→
 forced ops k n listed=true→∀(a:Act) (w:World),wpListIn F nn P ops Q l a w→wpAnyIn F nn P .any ops Q n listed a w
 | 0,k,listed,l,hl,hop,hsz,hf,a,w,h=>by
   have:l = []:=List.length_eq_zero_iff.1 hl;subst this;simp only[forced,List.isEmpty_iff]at hf;exact⟨hf,h⟩
 | n+1,k,listed,l,hl,hop,hsz,hf,a,w,h=>by
   cases l with
   | nil=>simp at hl
   | cons o rest=>
     simp only[forced,zS,beq_iff_eq]at hf;have ho:ops[k]? = some o:=by simpa using (hop 0).symm
     have hrest:=ziU (F:=F) (nn:=nn) n (k+1) (listed.setIfInBounds k true) rest (by simpa using hl)
      (fun j=>by
        have h1:=hop (j+1);simp only[lgs,Nat.add_lt_add_iff_right]at h1;rw[h1,show k+(j+1)=k+1+j by omega]) (by omega) hf.2
     refine⟨(fun h0=>by rw[hf.1]at h0;cases h0),fun i hi=> ?_⟩;rw[hf.1,zaS]at hi;subst hi;unfold wpOpIn;simp only[ho];unfold wpListIn at h;split
     ·rename_i hw
      rw[zO hw]at h;exact Oper.wpIn_mono (fun a' w'=>hrest a' w') h
     ·rename_i hw
      rw[zG hw]at h;exact⟨h.1,hrest _ _ h.2⟩
theorem zqZ{n l id:Nat}{a:Act}{w:World}(m k:Nat)(ph:List (Bool×List Bool))(r t:List Oper)(S:World→Prop)(hm:P.follows .mixedOrders=true)(hops:ops.toList=r++t)(hl:r.length=m)(ht:t.length=k)
 (hls:(zeL ph (List.range m)).map (fun p=>(p.1,ops[p.2]?))=(zeL ph r).map (fun p=>(p.1,some p.2)))
 (ho:(seqOrderX ops m k (zeL ph (List.range m))&&zlO ops)=true) (hS:S w.drew)
 (h:∀(Y:Array Value→Nat→Option Bool) (Q':Exit→Act→World→Prop) (F:Act→World→Prop),(∀t,Y t=yielded ops t)→
   Shut' (∀a' w',(∀(K:Act→World→Prop),Shut' (∀a w,Q .normal a w→K a w)→wpListIn (Fence.wide.inRound l) n P ops (OnlyK K) t a' w')→F a' w')→
   zdD P Y Q' S F (zeL ph r) a w.drew):(Code.region id ops true).wpIn (Fence.wide.inRound l) n P Q a w:=by
 simp only[zS]at ho;refine wpIn_mono (Q:=OnlyK fun a w=>Q .normal a w) ?_ (OnlyK.imp (fun _ _ h=>h));refine wpIn_region_any hm ?_;have ho1:=ho.1;simp only[seqOrderX,zS,zY,List.all_eq_true]at ho1;obtain⟨⟨⟨⟨⟨⟨hsel,hbar⟩,hsz⟩,hlen⟩,hsq⟩,hend⟩,hforce⟩:=ho1
 have H:=ziJ (P:=P) (Q:=OnlyK fun a w=>Q .normal a w) (S:=S) (X:=fun listed a w=>wpAnyIn (Fence.wide.inRound l) n P .any ops (OnlyK fun a w=>Q .normal a w) k listed a w) hbar hsel (fun _ _ _ _ _ h=>h) (zeL ph (List.range m)) (zeL ph r) (Array.replicate ops.size false) a _ (zjK _) hS hls hsq hend
  (zfM (fun a2 w2 h2=>ziU k m _ t ht (fun j=>by
    have hj:=yS (fun x=>x[m+j]?) hops;simp only[Array.getElem?_toList]at hj;rw[hj,yQ (by omega),hl,zcM];split
    ·rfl
    ·exact yP (by omega)) (by omega) hforce a2 w2 h2) (zeL ph r) a _
    (h _ (OnlyK fun a w=>Q .normal a w) (fun a2 w2=>wpListIn (Fence.wide.inRound l) n P ops (OnlyK fun a w=>Q .normal a w) t a2 w2) (fun _=>rfl) (fun _ _ h=>h (fun a w=>Q .normal a w) (fun _ _ h=>h))))
 have:=zgF ho.2 onlyK_in _ _ _ _ H;rw[hlen,hsz]at this;exact this
end
end Go.Proofs.YtahaacfikalheaaGreat
namespace Go.Proofs.YtahaacfikalheaaGreat
open Go.RowKit
inductive KU where
 | e|r|p|l
section
variable {P:Program} {ops:Array Oper} {Q:Exit→Act→World→Prop} {S:World→Prop}
def zbT(l:List (Addr×Value))(w:World):Prop:=Cells w l
def CU(S:World→Prop)(q:Nat)(L:Array Bool)(w:World):Prop:=L.getD q false=false→S w
theorem CU.set{q i:Nat}{L:Array Bool}{w:World}(h:CU S q L w)(hne:i≠q):CU S q (L.setIfInBounds i true) w:=fun hL=>h (by rwa[getD_set_ne false hne]at hL)
theorem CU.unset{q i:Nat}{L:Array Bool}{w:World}(h:CU S q (L.setIfInBounds i true) w)(hne:i≠q):CU S q L w:=fun hL=>h (by rwa[getD_set_ne false hne])
def wpAnyU(P:Program)(ops:Array Oper)(Q:Exit→Act→World→Prop)(S:World→Prop)(q m tail:Nat):Nat→Array Bool→Act→World→Prop
 | 0,listed,a,w=>(∀i∈Region.ready .any ops listed,m≤i)∧wpAny P .any ops Q tail listed a w
 | fuel+1,listed,a,w=>Region.ready .any ops listed≠ []∧(∀i∈Region.ready .any ops listed,i<m)∧
   ∀i∈Region.ready .any ops listed,wpOp P ops Q i (fun a' w'=>CU S q (listed.setIfInBounds i true) w'∧wpAnyU P ops Q S q m tail fuel (listed.setIfInBounds i true) a' w') a w
theorem zrQ{q m tail:Nat}:∀(fuel:Nat) (listed:Array Bool) (a:Act) (w:World),wpAnyU P ops Q S q m tail fuel listed a w→wpAny P .any ops Q (fuel+tail) listed a w
 | 0,listed,a,w,h=>by rw[yK];exact h.2
 | fuel+1,listed,a,w,h=>by
   rw[show fuel+1+tail=(fuel+tail)+1 by omega];exact⟨fun h0=>absurd h0 h.1,fun i hi=>wpOp_mono (fun a' w' h'=>zrQ fuel _ a' w' h'.2) (h.2.2 i hi)⟩
theorem zkM{L:Array Bool}{i:Nat}(h:L.getD i true=false):L.getD i false=false:=by
 rcases zaE i L.size with h'|h'
 ·simp[h']at h⊢;exact h
 ·simp[yI h']at h⊢
theorem zmW{q m tail i:Nat}{oi:Oper}{v:Value}{T:World→Prop}(hbar:zeX ops m=true)(him:i<m)(hi:ops[i]? = some oi)(hsel:∀(j:Nat) (o:Oper) cs b,ops[j]? = some o→o.op≠ .select cs b)
 (hQ:∀c a w,Q (.panic c) (a.put oi.dst v) w→Q (.panic c) a w) (hiq:i≠q) (hT:∀(L:Array Bool) (w:World),zqF ops L→L.getD i false=false→CU S q L w→T w) :
 ∀(fuel:Nat) (listed:Array Bool) (a:Act) (w:World),
  (∀j oj,ops[j]? = some oj→j≠i→listed.getD j true=false→(∀e∈oj.after,Region.binds .any e=true→e.on≠i)→oi.apart ops oj=true)→
  zqF ops listed→i∈Region.ready .any ops listed→YieldsIf P ops T oi v a→CU S q listed w→
  wpAnyU P ops Q S q m tail fuel (listed.setIfInBounds i true) (a.put oi.dst v) w→wpAnyU P ops Q S q m tail (fuel+1) listed a w:=by
 intro fuel;induction fuel with
 | zero=>
   intro listed a w _ hd hr hy hS H
   have hlt:∀j∈Region.ready .any ops listed,j<m:=fun j hj=>by
    rcases zaE j m with h|h
    ·exact h
    ·have h1:=zeB hbar hj h him;have h0:=(mem_ready.1 hr).1;rcases zaE i listed.size with h'|h'
     ·simp[h']at h0 h1;rw[h0]at h1;cases h1
     ·simp[yI h']at h1
   refine⟨fun h=>(by rw[h]at hr;cases hr),hlt,fun j hj=> ?_⟩;by_cases hji:j=i
   ·subst hji;exact hy.wpOp hi (hT _ _ hd (zkM (mem_ready.1 hr).1) hS) ⟨hS.set hiq,H⟩
   ·have h1:=H.1 j (ready_mono hj hji);have h2:=hlt j hj;omega
 | succ fuel ih=>
   intro listed a w hfree hd hr hy hS H
   have hlt:∀j∈Region.ready .any ops listed,j<m:=fun j hj=>by
    rcases zaE j m with h|h
    ·exact h
    ·have h1:=zeB hbar hj h him;have h0:=(mem_ready.1 hr).1;rcases zaE i listed.size with h'|h'
     ·simp[h']at h0 h1;rw[h0]at h1;cases h1
     ·simp[yI h']at h1
   refine⟨fun h=>(by rw[h]at hr;cases hr),hlt,fun j hj=> ?_⟩;by_cases hji:j=i
   ·subst hji;exact hy.wpOp hi (hT _ _ hd (zkM (mem_ready.1 hr).1) hS) ⟨hS.set hiq,H⟩
   ·have h1:=H.2.2 j (ready_mono hj hji);obtain⟨hjun,oj,hoj,hall⟩:=mem_ready.1 hj
    have hnot:∀e∈oj.after,Region.binds .any e=true→e.on≠i:=fun e he hb heq=>by
     have h1:=hall e he hb;have h0:=(mem_ready.1 hr).1;rw[heq]at h1;rcases zaE i listed.size with h'|h'
     ·simp[h']at h0 h1;rw[h0]at h1;cases h1
     ·simp[yI h']at h1
    have h2:=wpOp_putIf hoj (hfree j oj hoj hji hjun hnot) (fun cs b=>hsel i oi cs b hi) (fun cs b=>hsel j oj cs b hoj) hQ hy h1
    have hfree':∀k ok,ops[k]? = some ok→k≠i→(listed.setIfInBounds j true).getD k true=false→
     (∀e∈ok.after,Region.binds .any e=true→e.on≠i)→oi.apart ops ok=true:=fun k ok hk hki hun hno=>by
     refine hfree k ok hk hki ?_ hno;by_cases hjk:j=k
     ·subst hjk;exact hjun
     ·rw[getD_set_ne true hjk]at hun;exact hun
    refine wpOp_mono (fun a' w' h3=> ?_) h2;obtain⟨h4,h5,h6⟩:=h3;rw[Array.setIfInBounds_comm _ _ (Ne.symm hji)]at h5 h6;exact⟨h5.unset hiq,ih (listed.setIfInBounds j true) a' w' hfree' (zcE hd hj) (ready_mono hr (Ne.symm hji)) h4 (h5.unset hiq) h6⟩
def zbN(P:Program)(Y:Array Value→Nat→Option Bool)(Q:Exit→Act→World→Prop)(S:World→Prop)(F:Act→World→Prop):List (KU×Oper)→Act→World→Prop
 | [],a,w=>F a w
 | (.r,o)::rest,a,w=>∃v,((Region.wanted o (Y a.tmps)=true∧∀w,S w→(execOp a.eval o).run P w = .ok (.value v) w)∨(Region.wanted o (Y a.tmps)=false∧v=undef))∧zbN P Y Q S F rest (a.put o.dst v) w
 | (.p,o)::rest,a,w=>∃v,((Region.wanted o (Y a.tmps)=true∧∀w:World,True→(execOp a.eval o).run P w = .ok (.value v) w)∨(Region.wanted o (Y a.tmps)=false∧v=undef))∧zbN P Y Q S F rest (a.put o.dst v) w
 | (.l,o)::rest,a,w=>if Region.wanted o (Y a.tmps)=true then o.wp P a w (fun a' w'=>zbN P Y Q S F rest a' w') Q∨(o.asks P a w∧LetsOut Q)else zbN P Y Q S F rest (a.put o.dst undef) w
 | (.e,o)::rest,a,w=>if Region.wanted o (Y a.tmps)=true then o.wp P a w (fun a' w'=>S w'∧zbN P Y Q S F rest a' w') Q∨(o.asks P a w∧LetsOut Q)else S w∧zbN P Y Q S F rest (a.put o.dst undef) w
def seqU(ops:Array Oper)(q m:Nat):List (KU×Nat)→Array Bool→Bool
 | [],_=>true
 | (.r,k)::r,l=>(Region.ready .any ops l).contains k&&Region.free .any ops l k&&decide (k<m)&&decide (k≠q)&&(anc ops ops.size q).contains k&&seqU ops q m r (l.setIfInBounds k true)
 | (.p,k)::r,l=>(Region.ready .any ops l).contains k&&Region.free .any ops l k&&decide (k<m)&&decide (k≠q)&&seqU ops q m r (l.setIfInBounds k true)
 | (.l,k)::r,l=>(Region.ready .any ops l == [k])&&decide (k<m)&&decide (k=q)&&r.isEmpty&&seqU ops q m r (l.setIfInBounds k true)
 | (.e,k)::r,l=>(Region.ready .any ops l == [k])&&decide (k<m)&&decide (k≠q)&&seqU ops q m r (l.setIfInBounds k true)
theorem zeN{q m tail:Nat}(hbar:zeX ops m=true)(hsel:Region.noSelect ops=true)(hQ:∀c a d v w,Q (.panic c) (Act.put a d v) w→Q (.panic c) a w) :
 ∀(ks:List (KU×Nat)) (ls:List (KU×Oper)) (listed:Array Bool) (a:Act) (w:World),zqF ops listed→CU S q listed w→ks.map (fun p=>(p.1,ops[p.2]?))=ls.map (fun p=>(p.1,some p.2))→seqU ops q m ks listed=true→
 (∀i∈Region.ready .any ops (zdK (ks.map Prod.snd) listed),m≤i)→
 zbN P (yielded ops) Q S (fun a' w'=>wpAny P .any ops Q tail (zdK (ks.map Prod.snd) listed) a' w') ls a w→wpAnyU P ops Q S q m tail ks.length listed a w
 | [],ls,listed,a,w,_,hS,hl,_,hend,h=>by
   cases ls with
   | nil=>exact⟨hend,h⟩
   | cons o r=>simp at hl
 | (kind,k)::ks,ls,listed,a,w,hd,hS,hl,hb,hend,h=>by
   cases ls with
   | nil=>simp at hl
   | cons p r=>
     obtain⟨b,o⟩:=p;simp only[lmc,List.cons.injEq,Prod.mk.injEq]at hl;obtain⟨⟨rfl,hk⟩,hl⟩:=hl
     match kind,hb,h with
     | .r,hb,h=>
       simp only[seqU,zS,zY]at hb;obtain⟨v,hy,hrest⟩:=h;obtain⟨⟨⟨⟨⟨b1,b2⟩,b3⟩,b4⟩,b5⟩,b6⟩:=hb;have hkr:k∈Region.ready .any ops listed:=by simpa using b1
       exact zmW (T:=S) hbar b3 hk (Region.noSelect_spec hsel) (fun c a w=>hQ c a _ _ w) b4 (fun L w hd hLi hC=>hC (by
        cases hq:L.getD q false with
        | false=>rfl
        | true=>
          have:=zmI hd ops.size q (fun o' ho' e h1 h2=>hd q o' ho' hq e h1 h2) k (by simpa using b5);rw[hLi]at this;cases this)) _ listed a w (Region.free_spec hk b2) hd hkr hy hS
        (zeN hbar hsel hQ ks r _ _ w (zcE hd hkr) (hS.set b4) hl b6 hend hrest)
     | .p,hb,h=>
       simp only[seqU,zS,zY]at hb;obtain⟨v,hy,hrest⟩:=h;obtain⟨⟨⟨⟨b1,b2⟩,b3⟩,b4⟩,b6⟩:=hb;have hkr:k∈Region.ready .any ops listed:=by simpa using b1
       exact zmW (T:=fun _=>True) hbar b3 hk (Region.noSelect_spec hsel) (fun c a w=>hQ c a _ _ w) b4 (fun L w _ _ _=>yF) _ listed a w (Region.free_spec hk b2) hd hkr hy hS
        (zeN hbar hsel hQ ks r _ _ w (zcE hd hkr) (hS.set b4) hl b6 hend hrest)
     | .l,hb,h=>
       simp only[seqU,zS,beq_iff_eq,zY]at hb;obtain⟨⟨⟨⟨b1,b2⟩,b3⟩,b4⟩,b5⟩:=hb;have hkr:k∈Region.ready .any ops listed:=by rw[b1];simp
       subst b3
       have hlk:∀w',CU S k (listed.setIfInBounds k true) w':=fun w' hL=>by
        have hL0:=(mem_ready.1 hkr).1;rcases zaE k listed.size with h'|h'
        ·simp[h']at hL
        ·simp[yI h']at hL0
       refine⟨by rw[b1];simp,fun i hi=> ?_,fun i hi=> ?_⟩
       ·rw[b1,zaS]at hi;rw[hi];exact b2
       ·rw[b1,zaS]at hi;subst hi;unfold Go.wpOp;simp only[hk];unfold zbN at h;split
        ·rename_i hw
         rw[zO hw]at h;exact h.imp (Oper.wp_mono fun a' w' h'=>⟨hlk w',zeN hbar hsel hQ ks r _ a' w' (zcE hd hkr) (hlk w') hl b5 hend h'⟩) (fun h=>h)
        ·rename_i hw
         rw[zG hw]at h;exact⟨hlk w,zeN hbar hsel hQ ks r _ _ w (zcE hd hkr) (hlk w) hl b5 hend h⟩
     | .e,hb,h=>
       simp only[seqU,zS,beq_iff_eq,zY]at hb;obtain⟨⟨⟨b1,b2⟩,b3⟩,b5⟩:=hb;have hkr:k∈Region.ready .any ops listed:=by rw[b1];simp
       refine⟨by rw[b1];simp,fun i hi=> ?_,fun i hi=> ?_⟩
       ·rw[b1,zaS]at hi;rw[hi];exact b2
       ·rw[b1,zaS]at hi;subst hi;unfold Go.wpOp;simp only[hk];unfold zbN at h;split
        ·rename_i hw
         rw[zO hw]at h;exact h.imp (Oper.wp_mono fun a' w' h'=>⟨fun _=>h'.1,zeN hbar hsel hQ ks r _ a' w' (zcE hd hkr) (fun _=>h'.1) hl b5 hend h'.2⟩) (fun h=>h)
        ·rename_i hw
         rw[zG hw]at h;exact⟨fun _=>h.1,zeN hbar hsel hQ ks r _ _ w (zcE hd hkr) (fun _=>h.1) hl b5 hend h.2⟩
theorem zdP{Y:Array Value→Nat→Option Bool}{F F':Act→World→Prop}(hF:∀a w,F a w→F' a w):∀(l:List (KU×Oper)) (a:Act) (w:World),zbN P Y Q S F l a w→zbN P Y Q S F' l a w
 | [],a,w,h=>hF a w h
 | (.r,o)::r,a,w,⟨v,hv,h⟩=>⟨v,hv,zdP hF r _ w h⟩
 | (.p,o)::r,a,w,⟨v,hv,h⟩=>⟨v,hv,zdP hF r _ w h⟩
 | (.l,o)::r,a,w,h=>by
   unfold zbN at h⊢;split
   ·rename_i hw
    rw[zO hw]at h;exact h.imp (Oper.wp_mono fun a' w' h'=>zdP hF r a' w' h') (fun h=>h)
   ·rename_i hw
    rw[zG hw]at h;exact zdP hF r _ w h
 | (.e,o)::r,a,w,h=>by
   unfold zbN at h⊢;split
   ·rename_i hw
    rw[zO hw]at h;exact h.imp (Oper.wp_mono fun a' w' h'=>⟨h'.1,zdP hF r a' w' h'.2⟩) (fun h=>h)
   ·rename_i hw
    rw[zG hw]at h;exact⟨h.1,zdP hF r _ w h.2⟩
def zoT(ops:Array Oper)(q m n:Nat)(ks:List (KU×Nat)):Bool:=
 Region.noSelect ops&&zeX ops m&&decide (m+n=ops.size)&&decide (ks.length=m)&&seqU ops q m ks (Array.replicate ops.size false) &&
  (Region.ready .any ops (zdK (ks.map Prod.snd) (Array.replicate ops.size false))).all (fun i=>decide (m≤i))&&forced ops m n (zdK (ks.map Prod.snd) (Array.replicate ops.size false))
theorem zjC{id:Nat}{a:Act}{w:World}(q m n:Nat)(ks:List (KU×Nat))(l t:List Oper)(ls:List (KU×Oper))(S:World→Prop)(hm:P.follows .mixedOrders=true)(hops:ops.toList=l++t)(hl:l.length=m)(ht:t.length=n)
 (hls:ks.map (fun p=>(p.1,ops[p.2]?))=ls.map (fun p=>(p.1,some p.2)))
 (ho:zoT ops q m n ks=true) (hQ:∀c a d v w,Q (.panic c) (Act.put a d v) w→Q (.panic c) a w) (hS:S w.drew)
 (h:zbN P (yielded ops) Q S (fun a2 w2=>wpList P ops Q t a2 w2) ls a w.drew):(Code.region id ops true).wp P Q a w:=by
 simp only[zoT,zS,zY,List.all_eq_true]at ho;obtain⟨⟨⟨⟨⟨⟨hsel,hbar⟩,hsz⟩,hlen⟩,hsq⟩,hend⟩,hforce⟩:=ho;refine wp_region_any hm ?_
 have H:=zeN (tail:=n) hbar hsel hQ ks ls (Array.replicate ops.size false) a _ (zjK _) (fun _=>hS) hls hsq hend
  (zdP (fun a2 w2 h2=>zcC n m _ t ht (fun j=>by
    have hj:=yS (fun x=>x[m+j]?) hops;simp only[Array.getElem?_toList]at hj;rw[hj,yQ (by omega),hl,zcM];split
    ·rfl
    ·exact yP (by omega)) (by omega) hforce a2 w2 h2) ls a _ h)
 have:=zrQ _ _ _ _ H;rw[hlen,hsz]at this;exact this
def zeR{α:Type}(ph:List (KU×List Bool))(l:List α):List (KU×α):=ph.flatMap fun p=>(sel p.2 l).map fun o=>(p.1,o)
theorem zbL{id:Nat}{a:Act}{w:World}(q m n:Nat)(ph:List (KU×List Bool))(l t:List Oper)(S:World→Prop)(hm:P.follows .mixedOrders=true)(hops:ops.toList=l++t)(hl:l.length=m)(ht:t.length=n)
 (hls:(zeR ph (List.range m)).map (fun p=>(p.1,ops[p.2]?))=(zeR ph l).map (fun p=>(p.1,some p.2)))
 (ho:zoT ops q m n (zeR ph (List.range m))=true) (hS:S w.drew)
 (h:∀(Y:Array Value→Nat→Option Bool) (Q':Exit→Act→World→Prop) (F:Act→World→Prop),(∀t,Y t=yielded ops t)→
   Shut' (∀a' w',(∀(K:Act→World→Prop),Shut' (∀a w,Q .normal a w→K a w)→wpList P ops (OnlyK K) t a' w')→F a' w')→
   zbN P Y Q' S F (zeR ph l) a w.drew):(Code.region id ops true).wp P Q a w:=
 Code.wp_mono (OnlyK.imp (fun _ _ h=>h)) (zjC q m n _ l t _ S hm hops hl ht hls ho (fun _ _ _ _ _ h=>h) hS
  (h _ (OnlyK fun a w=>Q .normal a w) (fun a2 w2=>wpList P ops (OnlyK fun a w=>Q .normal a w) t a2 w2) (fun _=>rfl) (fun _ _ h=>h (fun a w=>Q .normal a w) (fun _ _ h=>h))))
variable {Y:Array Value→Nat→Option Bool} {o:Oper} {rest:List (KU×Oper)} {a:Act} {v:Value} {f:FuncId} {args:Array Value} {G:Act→World→Prop} {w w':World}
theorem zaQ(hw:Region.wanted o (Y a.tmps)=true)(h:∀w,S w→(execOp a.eval o).run P w = .ok (.value v) w)(h2:zbN P Y Q S G rest (a.put o.dst v) w):zbN P Y Q S G ((.r,o)::rest) a w:=⟨v,.inl ⟨hw,h⟩,h2⟩
theorem zaR(hw:Region.wanted o (Y a.tmps)=true)(h:∀w:World,(execOp a.eval o).run P w = .ok (.value v) w)(h2:zbN P Y Q S G rest (a.put o.dst v) w):zbN P Y Q S G ((.p,o)::rest) a w:=⟨v,.inl ⟨hw,fun w _=>h w⟩,h2⟩
theorem zgE(hw:Region.wanted o (Y a.tmps)=true)(hr:(execOp a.eval o).run P w = .ok (.value v) w')(hS:S w')(h:zbN P Y Q S G rest (a.put o.dst v) w'):zbN P Y Q S G ((.e,o)::rest) a w:=by
 unfold zbN;rw[zO hw];exact .inl (by unfold Oper.wp;rw[hr];exact⟨hS,h⟩)
theorem zbD(hw:Region.wanted o (Y a.tmps)=true)(hr:(execOp a.eval o).run P w = .ok .skip w')(h:zbN P Y Q S G rest (a.put o.dst undef) w'):zbN P Y Q S G ((.l,o)::rest) a w:=by
 unfold zbN;rw[zO hw];exact .inl (by unfold Oper.wp;rw[hr];exact h)
theorem zfR(hw:Region.wanted o (Y a.tmps)=true)(hr:(execOp a.eval o).run P w = .ok (.enter f args) w)
 (h:Calls P f args w fun e w'=>∃v,e = .returned v∧S w'∧zbN P Y Q S G rest (a.put o.dst v) w'):zbN P Y Q S G ((.e,o)::rest) a w:=by
 unfold zbN;rw[zO hw];refine .inl ?_;unfold Oper.wp;rw[hr];refine Calls.mono h ?_;rintro e w' ⟨v,rfl,hS,h⟩;exact⟨hS,h⟩
theorem zgU(s x:Operand)(t e:TypeId)(size bytes:Nat)(zc:List Value)(base:Nat)(he:Elems P t e size bytes zc)
 (v:Value) (n:Nat) (xs:List Value) (ad:Option Addr) (m cap:Nat) (news:List Value) (hw:Region.wanted o (Y a.tmps)=true)
 (ho:o.op = .call {callee:=.builtin .append,args:=#[s,x],argTypes:=#[t,t]}) (hs:a.eval s=v) (hx:a.eval x = .slice ad m cap)
 (hl:news.length=m*size) (h1:∀u∈news,u.oneCell'=true) (h63:n+m≤maxLen) (hbytes:(n+m)*bytes≤140737488355328)
 (hown:w.ownsRow base e size v n xs) (hnews:Rd w ad news) (hbase:base≤w.heap.size)
 (h:∀a' cap' w',w'.ownsRow base e size (.slice a' (n+m) cap') (n+m) (xs++news)→w.grownBy w' v.ownBlock→S w'∧zbN P Y Q S G rest (a.put o.dst (.slice a' (n+m) cap')) w'):zbN P Y Q S G ((.e,o)::rest) a w:=by
 obtain⟨a',cap',w',r1,r2,r3⟩:=zhW (P:=P) (w:=w) s x t e size bytes zc base he ho v n xs hs hown ad m cap news hx hl hnews h1 h63 hbytes hbase;obtain⟨h4,h5⟩:=h a' cap' w' r2 r3;exact zgE hw r1 h4 h5
theorem zcR(h:G a w):zbN P Y Q S G [] a w:=h
end
section
variable {P:Program} {ops:Array Oper} {Q:Exit→Act→World→Prop} {S:World→Prop} {Y:Array Value→Nat→Option Bool} {o:Oper} {rest:List (Bool×Oper)} {a:Act} {G:Act→World→Prop} {w w':World}
theorem zdC(hw:Region.wanted o (Y a.tmps)=true)(hr:(execOp a.eval o).run P w = .ok .skip w')(hS:S w')(h:zdD P Y Q S G rest (a.put o.dst undef) w'):zdD P Y Q S G ((false,o)::rest) a w:=by
 unfold zdD;rw[zO hw];exact .inl (by unfold Oper.wp;rw[hr];exact⟨hS,h⟩)
end
end Go.Proofs.YtahaacfikalheaaGreat
namespace Go.Proofs.YtahaacfikalheaaGreat
open Go.RowKit
inductive Plan (α:Type) where
 | done:Plan α
 | read:α→Plan α→Plan α
 | one:α→Plan α→Plan α
 | two:Plan α→Plan α→Plan α
def Plan.map{α β:Type}(f:α→β):Plan α→Plan β
 | .done=>.done
 | .read k p=>.read (f k) (p.map f)
 | .one k p=>.one (f k) (p.map f)
 | .two p q=>.two (p.map f) (q.map f)
section
variable {P:Program} {ops:Array Oper} {Q:Exit→Act→World→Prop} {S:World→Prop}
def zbP(P:Program)(Y:Array Value→Nat→Option Bool)(Q:Exit→Act→World→Prop)(S:World→Prop)(F:Act→World→Prop):Plan Oper→Act→World→Prop
 | .done,a,w=>F a w
 | .read o rest,a,w=>∃v,((Region.wanted o (Y a.tmps)=true∧∀w,S w→(execOp a.eval o).run P w = .ok (.value v) w)∨(Region.wanted o (Y a.tmps)=false∧v=undef))∧zbP P Y Q S F rest (a.put o.dst v) w
 | .one o rest,a,w=>if Region.wanted o (Y a.tmps)=true then o.wp P a w (fun a' w'=>S w'∧zbP P Y Q S F rest a' w') Q∨(o.asks P a w∧LetsOut Q)else S w∧zbP P Y Q S F rest (a.put o.dst undef) w
 | .two p q,a,w=>zbP P Y Q S F p a w∧zbP P Y Q S F q a w
def heads:Plan Nat→List Nat
 | .done=>[]
 | .read _ _=>[]
 | .one k _=>[k]
 | .two p q=>heads p++heads q
def zrF(ops:Array Oper)(m n:Nat):Nat→Plan Nat→Array Bool→Bool
 | f,.done,l=>decide (f=0)&&(Region.ready .any ops l).all (fun i=>decide (m≤i))&&forced ops m n l
 | f,.read k p,l=>decide (0<f)&&(Region.ready .any ops l).contains k&&freeM ops m l k&&decide (k<m)&&zrF ops m n (f-1) p (l.setIfInBounds k true)
 | f,.one k p,l=>decide (0<f)&&(Region.ready .any ops l).contains k&&decide (k<m)&&zrF ops m n (f-1) p (l.setIfInBounds k true)
 | f,.two p q,l=>zrF ops m n f p l&&zrF ops m n f q l
def zkD(ops:Array Oper):Bool→Plan Nat→Array Bool→Bool
 | _,.done,_=>true
 | _,.read k p,l=>zkD ops true p (l.setIfInBounds k true)
 | b,.one k p,l=>(!b||(Region.ready .any ops l == [k]))&&zkD ops true p (l.setIfInBounds k true)
 | b,.two p q,l=>(!b||((Region.ready .any ops l).all (fun i=>(heads p++heads q).contains i) && !(heads p++heads q).isEmpty&&(Region.ready .any ops l != [])))&&zkD ops false p l&&zkD ops false q l
theorem plan_head{Y:Array Value→Nat→Option Bool}{F:Act→World→Prop}{m n:Nat}{X:Array Bool→Act→World→Prop}(hbar:zhD ops m=true)(hsel:Region.noSelect ops=true)(hQ:∀c a d v w,Q (.panic c) (Act.put a d v) w→Q (.panic c) a w)(hY:Y=yielded ops)
 (hF:∀(listed:Array Bool) (a:Act) (w:World),forced ops m n listed=true→F a w→X listed a w) :
 ∀(p:Plan Nat) (pl:Plan Oper) (f:Nat) (listed:Array Bool) (a:Act) (w:World),zqF ops listed→S w→p.map (fun k=>ops[k]?)=pl.map some→zrF ops m n f p listed=true→
 (zkD ops true p listed=true→zbP P Y Q S F pl a w→ziT P ops Q S m X f listed a w)∧
 (zkD ops false p listed=true→zbP P Y Q S F pl a w→∀i∈heads p,∃f',f=f'+1∧i<m∧wpOp P ops Q i (fun a' w'=>S w'∧ziT P ops Q S m X f' (listed.setIfInBounds i true) a' w') a w):=by
 intro p;induction p with
 | done=>
   intro pl f listed a w hd hS hl hb;cases pl with
   | done=>
     simp only[zrF,zS,zY,List.all_eq_true]at hb;obtain⟨⟨rfl,hend⟩,hforce⟩:=hb;exact⟨fun _ h=>⟨hend,hF _ _ _ hforce h⟩,fun _ _ i hi=>(by cases hi)⟩
   | _=>simp[Plan.map]at hl
 | read k p ih=>
   intro pl f listed a w hd hS hl hb;cases pl with
   | read o pl=>
     simp only[Plan.map,Plan.read.injEq]at hl;obtain⟨hk,hl⟩:=hl;simp only[zrF,zS,zY]at hb;obtain⟨⟨⟨⟨hf,hrd⟩,hfr⟩,hkm⟩,hb⟩:=hb;obtain⟨f',rfl⟩:∃f',f=f'+1:=⟨f-1,by omega⟩;refine⟨fun hH h=> ?_,fun _ _ i hi=>(by cases hi)⟩;obtain⟨v,hy,hrest⟩:=h;rw[hY]at hy
     exact zmV hbar hkm hk (Region.noSelect_spec hsel) (fun c a w=>hQ c a _ _ w) _ listed a w hd (fun j oj hjm=>zsI hk hfr j hjm oj) (by simpa using hrd) hy hS
      ((ih pl f' _ _ w (zcE hd (by simpa using hrd)) hS hl hb).1 hH hrest)
   | _=>simp[Plan.map]at hl
 | one k p ih=>
   intro pl f listed a w hd hS hl hb;cases pl with
   | one o pl=>
     simp only[Plan.map,Plan.one.injEq]at hl;obtain⟨hk,hl⟩:=hl;simp only[zrF,zS,zY]at hb;obtain⟨⟨⟨hf,hrd⟩,hkm⟩,hb⟩:=hb;obtain⟨f',rfl⟩:∃f',f=f'+1:=⟨f-1,by omega⟩
     have key:zkD ops true p (listed.setIfInBounds k true)=true→zbP P Y Q S F (.one o pl) a w→wpOp P ops Q k (fun a' w'=>S w'∧ziT P ops Q S m X f' (listed.setIfInBounds k true) a' w') a w:=fun hH h=>by
      unfold Go.wpOp;simp only[hk];unfold zbP at h;rw[hY]at h;split
      ·rename_i hw
       rw[zO hw]at h;exact h.imp (Oper.wp_mono fun a' w' h'=>⟨h'.1,(ih pl f' _ a' w' (zcE hd (by simpa using hrd)) h'.1 hl hb).1 hH (by rw[hY];exact h'.2)⟩) (fun h=>h)
      ·rename_i hw
       rw[zG hw]at h;exact⟨h.1,(ih pl f' _ _ w (zcE hd (by simpa using hrd)) hS hl hb).1 hH (by rw[hY];exact h.2)⟩
     refine⟨fun hH h=> ?_,fun hH h i hi=> ?_⟩
     ·simp only[zkD,zS,Bool.not_true,Bool.false_or,beq_iff_eq]at hH;refine⟨by rw[hH.1];simp,fun i hi=> ?_,fun i hi=> ?_⟩
      ·rw[hH.1,zaS]at hi;rw[hi];exact hkm
      ·rw[hH.1,zaS]at hi;subst hi;exact key hH.2 h
     ·simp only[zkD,Bool.not_false,Bool.true_or,zcN]at hH;rw[heads,zaS]at hi;subst hi;exact⟨f',rfl,hkm,key hH h⟩
   | _=>simp[Plan.map]at hl
 | two p q ihp ihq=>
   intro pl f listed a w hd hS hl hb;cases pl with
   | two pl ql=>
     simp only[Plan.map,Plan.two.injEq]at hl;simp only[zrF,zS]at hb
     have key:zkD ops false p listed=true→zkD ops false q listed=true→zbP P Y Q S F (.two pl ql) a w→∀i∈heads p++heads q,∃f',f=f'+1∧i<m∧wpOp P ops Q i (fun a' w'=>S w'∧ziT P ops Q S m X f' (listed.setIfInBounds i true) a' w') a w:=fun h1 h2 h i hi=>by
      rcases List.mem_append.1 hi with hi|hi
      ·exact(ihp pl f listed a w hd hS hl.1 hb.1).2 h1 h.1 i hi
      ·exact(ihq ql f listed a w hd hS hl.2 hb.2).2 h2 h.2 i hi
     refine⟨fun hH h=> ?_,fun hH h=> ?_⟩
     ·simp only[zkD,zS,Bool.not_true,Bool.false_or,List.all_eq_true,bne_iff_ne]at hH;obtain⟨⟨⟨⟨hall,hne⟩,hne2⟩,h1⟩,h2⟩:=hH;have hk:=key h1 h2 h;obtain⟨f',rfl⟩:∃f',f=f'+1:=by
       cases hh:heads p++heads q with
       | nil=>rw[hh]at hne;simp at hne
       | cons i r=>obtain⟨f',e,_⟩:=hk i (by rw[hh];simp);exact⟨f',e⟩
      refine⟨hne2,fun i hi=> ?_,fun i hi=> ?_⟩
      ·obtain⟨f'',e,h3,_⟩:=hk i (by simpa using hall i hi);exact h3
      ·obtain⟨f'',e,_,h3⟩:=hk i (by simpa using hall i hi);obtain rfl:f''=f':=by omega
       exact h3
     ·simp only[zkD,zS,Bool.not_false,Bool.true_or,true_and]at hH;exact key hH.1 hH.2 h
   | _=>simp[Plan.map]at hl
def zpF(ops:Array Oper)(m n:Nat)(p:Plan Nat):Bool:=
 Region.noSelect ops&&zhD ops m&&decide (m+n=ops.size)&&zrF ops m n m p (Array.replicate ops.size false)&&zkD ops true p (Array.replicate ops.size false)
theorem zrP{m tail:Nat}:∀(fuel:Nat) (listed:Array Bool) (a:Act) (w:World),ziT P ops Q S m (fun listed a w=>wpAny P .any ops Q tail listed a w) fuel listed a w→wpAny P .any ops Q (fuel+tail) listed a w
 | 0,listed,a,w,h=>by rw[yK];exact h.2
 | fuel+1,listed,a,w,h=>by
   rw[show fuel+1+tail=(fuel+tail)+1 by omega];exact⟨fun h0=>absurd h0 h.1,fun i hi=>wpOp_mono (fun a' w' h'=>zrP fuel _ a' w' h'.2) (h.2.2 i hi)⟩
def o0P:Oper:={dst:=none,op:=.move (.const undef),type:=0,pos:= "",after:=#[],guard:=none}
theorem zjD{id:Nat}{a:Act}{w:World}(m n:Nat)(p:Plan Nat)(l t:List Oper)(pl:Plan Oper)(S:World→Prop)(hm:P.follows .mixedOrders=true)(hops:ops.toList=l++t)(hl:l.length=m)(ht:t.length=n)
 (hls:p.map (fun k=>ops[k]?)=pl.map some)
 (ho:zpF ops m n p=true) (hQ:∀c a d v w,Q (.panic c) (Act.put a d v) w→Q (.panic c) a w) (hS:S w.drew)
 (h:zbP P (yielded ops) Q S (fun a2 w2=>wpList P ops Q t a2 w2) pl a w.drew):(Code.region id ops true).wp P Q a w:=by
 simp only[zpF,zS,zY]at ho;obtain⟨⟨⟨⟨hsel,hbar⟩,hsz⟩,hpb⟩,hph⟩:=ho;refine wp_region_any hm ?_
 have H:=(plan_head (X:=fun listed a w=>wpAny P .any ops Q n listed a w) hbar hsel hQ rfl (fun listed a2 w2 hforce h2=>zcC n m _ t ht (fun j=>by
  have hj:=yS (fun x=>x[m+j]?) hops;simp only[Array.getElem?_toList]at hj;rw[hj,yQ (by omega),hl,zcM];split
  ·rfl
  ·exact yP (by omega)) (by omega) hforce a2 w2 h2) p pl m (Array.replicate ops.size false) a _ (zjK _) hS hls hpb).1 hph h
 have:=zrP _ _ _ _ H;rw[hsz]at this;exact this
theorem zbU{id:Nat}{a:Act}{w:World}(m n:Nat)(p:Plan Nat)(l t:List Oper)(o0:Oper)(S:World→Prop)(hm:P.follows .mixedOrders=true)(hops:ops.toList=l++t)(hl:l.length=m)(ht:t.length=n)
 (hls:p.map (fun k=>ops[k]?)=(p.map (fun k=>l.getD k o0)).map some)
 (ho:zpF ops m n p=true) (hS:S w.drew)
 (h:∀(Y:Array Value→Nat→Option Bool) (Q':Exit→Act→World→Prop) (F:Act→World→Prop),(∀t,Y t=yielded ops t)→
   Shut' (∀a' w',(∀(K:Act→World→Prop),Shut' (∀a w,Q .normal a w→K a w)→wpList P ops (OnlyK K) t a' w')→F a' w')→
   zbP P Y Q' S F (p.map (fun k=>l.getD k o0)) a w.drew):(Code.region id ops true).wp P Q a w:=
 Code.wp_mono (OnlyK.imp (fun _ _ h=>h)) (zjD m n p l t _ S hm hops hl ht hls ho (fun _ _ _ _ _ h=>h) hS
  (h _ (OnlyK fun a w=>Q .normal a w) (fun a2 w2=>wpList P ops (OnlyK fun a w=>Q .normal a w) t a2 w2) (fun _=>rfl) (fun _ _ h=>h (fun a w=>Q .normal a w) (fun _ _ h=>h))))
variable {Y:Array Value→Nat→Option Bool} {o:Oper} {rest:Plan Oper} {a:Act} {v:Value} {f:FuncId} {args:Array Value} {G:Act→World→Prop} {w w':World}
theorem zU(hw:Region.wanted o (Y a.tmps)=true)(h:∀w,S w→(execOp a.eval o).run P w = .ok (.value v) w)(h2:zbP P Y Q S G rest (a.put o.dst v) w):zbP P Y Q S G (.read o rest) a w:=⟨v,.inl ⟨hw,h⟩,h2⟩
theorem yR(hw:Region.wanted o (Y a.tmps)=true)(hr:(execOp a.eval o).run P w = .ok (.value v) w')(hS:S w')(h:zbP P Y Q S G rest (a.put o.dst v) w'):zbP P Y Q S G (.one o rest) a w:=by
 unfold zbP;rw[zO hw];exact .inl (by unfold Oper.wp;rw[hr];exact⟨hS,h⟩)
theorem yH(hw:Region.wanted o (Y a.tmps)=true)(hr:(execOp a.eval o).run P w = .ok (.enter f args) w)
 (h:Calls P f args w fun e w'=>∃v,e = .returned v∧S w'∧zbP P Y Q S G rest (a.put o.dst v) w'):zbP P Y Q S G (.one o rest) a w:=by
 unfold zbP;rw[zO hw];refine .inl ?_;unfold Oper.wp;rw[hr];refine Calls.mono h ?_;rintro e w' ⟨v,rfl,hS,h⟩;exact⟨hS,h⟩
theorem yY(h:G a w):zbP P Y Q S G .done a w:=h
theorem zaT{p q:Plan Oper}(h1:zbP P Y Q S G p a w)(h2:zbP P Y Q S G q a w):zbP P Y Q S G (.two p q) a w:=⟨h1,h2⟩
end
