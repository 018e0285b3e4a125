/- A part of the proof of L14n. No condition. -/
import Derived.RangeFuncWrites
import Derived.Test.YtieeogndnhighaaGreatZL14nay
set_option linter.all false
set_option maxRecDepth 100000
set_option maxHeartbeats 200000
namespace Go.Proofs.YtieeogndnhighaaGreat
open Go.RowKit Go.Shelf
section
variable {F:Fence} {n:Nat} {P:Program} {α:Type}
structure SameFrom(B:Nat)(W W':World):Prop where
 size:W.heap.size≤W'.heap.size
 same:∀k,B≤k→k<W.heap.size→W'.heap[k]? = W.heap[k]?
theorem SameFrom.at{B:Nat}{W W':World}(h:SameFrom B W W')(k:Nat)(o:Obj)(hB:B≤k)(hk:W.heap[k]? = some o):W'.heap[k]? = some o:=
 (h.same k hB (Array.getElem?_eq_some_iff.1 hk).1).trans hk
theorem SameFrom.trans{B:Nat}{X Y Z:World}(h:SameFrom B X Y)(k:SameFrom B Y Z):SameFrom B X Z:=
 ⟨yD h.size k.size,fun i hB hi=>(k.same i hB (zbH hi h.size)).trans (h.same i hB hi)⟩
theorem SameFrom.up{B B':Nat}{W W':World}(h:SameFrom B W W')(hb:B≤B'):SameFrom B' W W':=⟨h.size,fun k hk=>h.same k (by omega)⟩
theorem SameFrom.put{B l:Nat}(W:World)(o:Obj)(h:l<B):SameFrom B W (W.putObj l o):=by
 have hg:=grownBy_putObj' W l o;exact⟨hg.size,fun k hB hk=>hg.block k hk (fun e=>by cases e;omega)⟩
theorem SameFrom.refl(B:Nat)(W:World):SameFrom B W W:=⟨zE _,fun _ _ _=>rfl⟩
theorem SameFrom.setCell{B b i:Nat}(W:World)(v:Value)(h:b<B):SameFrom B W (W.setCell ⟨b,i,none⟩ v):=
 ⟨by simp,fun k hB _=>heap_setCell_other W ⟨b,i,none⟩ k v (fun e=>by simp at e;omega)⟩
def KpO(c:Nat)(A B:World):Prop:=A.heap.size≤B.heap.size∧∀(k:Nat) (o:Obj),¬k=c→A.heap[k]? = some o→o.isCells=true→B.heap[k]? = some o
theorem KpO.trans{c:Nat}{A B C:World}(h:KpO c A B)(k:KpO c B C):KpO c A C:=⟨yD h.1 k.1,fun i o hi ha ho=>k.2 i o hi (h.2 i o hi ha ho) ho⟩
theorem KpO.refl(c:Nat)(A:World):KpO c A A:=⟨zE _,fun _ _ _ h _=>h⟩
theorem KpO.put{c l:Nat}{W:World}{o:Obj}(o':Obj)(hl:W.heap[l]? = some o)(hc:o.isCells=false):KpO c W (W.putObj l o'):=by
 have hg:=grownBy_putObj' W l o';refine⟨hg.size,fun k x _ hk hx=> ?_⟩;rw[hg.block k (Array.getElem?_eq_some_iff.1 hk).1 (fun e=>by cases e;rw[hl]at hk;cases hk;rw[hc]at hx;cases hx)];exact hk
theorem KpO.setCell{c i:Nat}(W:World)(v:Value):KpO c W (W.setCell ⟨c,i,none⟩ v):=
 ⟨by simp,fun k o hk ho _=>(heap_setCell_other W ⟨c,i,none⟩ k v (fun e=>hk (by simp at e;omega))).trans ho⟩
theorem KpO.cell{c:Nat}{W W':World}(h:KpO c W W'){p:Addr}{v:Value}(hc:W.cell? p=some v)(h1:¬p.block=c):W'.cell? p=some v:=by
 unfold World.cell? at hc⊢;cases ho:W.heap[p.block]? with
 | none=>rw[ho]at hc;simp at hc
 | some o=>
   rw[ho]at hc;have hcc:o.isCells=true:=by cases o<;>simp_all [Obj.isCells]
   rw[h.2 _ _ h1 ho hcc];exact hc
theorem Rd.kpo{w w':World}{c:Nat}{a:Option Addr}{vals:List Value}(h:Rd w a vals)(hk:KpO c w w')(hb:∀b o,a=some ⟨b,o,none⟩→vals≠ []→¬b=c):Rd w' a vals:=fun hne=>by
 obtain⟨b,o,rfl,hcs⟩:=h hne;exact⟨b,o,rfl,fun j v hv=>hk.cell (hcs j v hv) (hb b o rfl hne)⟩
def SeqW(F:Fence)(n:Nat)(P:Program)(g:Nat)(lb:Array Value)(encs:α→Array Value)(c₀:Nat)(S Sp:List α→Prop)(N:Nat)(w:World):Prop:=
 ∀(l:Nat) (J Jx:List α→World→Prop) (W:World),Below w.heap.size w W→OwnFrom W.heap.size J→OwnFrom W.heap.size Jx→
  (∀m pre x W1,J pre W1→pre.length<N→YieldAt F m P l (encs x) W1 fun e W'=>
    (e = .returned (.bool true)∧J (pre ++ [x]) W'∧SameFrom W.heap.size W1 W'∧KpO c₀ W1 W')∨(e = .returned (.bool false)∧Jx (pre ++ [x]) W'∧SameFrom W.heap.size W1 W'))→
  J [] W→
  CallsIn F n P g (#[.func (.yield l) #[] #[]]++lb) W fun e W'=>(∃v,e = .returned v)∧((∃xs,S xs∧J xs W')∨(∃pre,Sp pre∧Jx pre W'))
def postW(B c₀:Nat)(I:List α→World→Prop)(Ix:Code→List α→World→Prop)(xs:List α)(W:World):Exit→Act→World→Prop
 | .normal,_,W'=>SameFrom B W W'∧KpO c₀ W W'∧I xs W'
 | .ret,_,W'=>SameFrom B W W'∧Ix .ret xs W'
 | .exit id,_,W'=>SameFrom B W W'∧Ix (.exit id) xs W'
 | .goto t,_,W'=>SameFrom B W W'∧Ix (.goto t) xs W'
 | .panic _,_,_=>False
 | .outgrown,_,_=>False
theorem zlQ{g:Operand}{ps:Array Tmp}{assign body:Code}{Q:Exit→Act→World→Prop}{a:Act}{w w0:World}{gf:Nat}{lb:Array Value}{encs:α→Array Value}{c₀:Nat}{S Sp:List α→Prop}{N:Nat}
 (hro:F.round=none) (h1:1≤n) (hg:a.eval g = .func (.func gf) #[] lb) (hFg:F.fn gf) (eg:∀args w,(callFunc gf args).run P w = .ok (.enter gf args) w)
 (hseq:SeqW F (n-1) P gf lb encs c₀ S Sp N w0) (hb0:Below w0.heap.size w0 w) (hps:∀x,(encs x).size=ps.size)
 (I:List α→World→Prop) (Ix:Code→List α→World→Prop) (hI:OwnFrom w.heap.size I) (hIx:∀c,OwnFrom w.heap.size (Ix c)) (h0:I [] w) (a₁:α→Act)
 (hassign:∀(m l:Nat) (x:α) (W:World) (K:Act→World→Prop),K (a₁ x) W→
   assign.wpIn (F.inRound l) m P (Exit.then K (fun _ _ _=>False)) {tmps:=(ps.zip (encs x)).foldl (fun t (p,v)=>t.setIfInBounds p v) a.tmps,defers:=[]} W)
 (hbody:∀(m l:Nat) (pre:List α) (x:α) (W:World),I pre W→pre.length<N→body.wpIn (F.inRound l) m P (postW w.heap.size c₀ I Ix (pre ++ [x]) W) (a₁ x) W)
 (hdone:∀(D:Nat) (xs:List α) (W:World),w.heap.size≤D→S xs→I xs W→W.heap[D]? = some (.deferred (some []))→Q .normal {a with defers:={target:=.collected D,args:=#[]}::a.defers} W)
 (hstop:∀(D:Nat) (c:Code) (pre:List α) (W:World),w.heap.size≤D→Sp pre→Ix c pre W→W.heap[D]? = some (.deferred (some []))→c.wpIn F n P Q {a with defers:={target:=.collected D,args:=#[]}::a.defers} W) :
 (Code.rangeFunc g ps assign body).wpIn F n P Q a w:=by
 obtain⟨B,hB⟩:∃B,w.heap.size=B:=⟨_,rfl⟩;rw[hB]at hI hIx hbody hdone hstop;refine wpIn_rangeFunc fun fn hfn=> ?_;rw[hro]
 let rec_:LoopState→Option Code→Loop:=fun st pe=>{state:=st,pending:=pe,fn,tmps:=a.tmps,params:=ps,assign,body,defers:=B}
 obtain⟨V,hV⟩:∃V,(w.alloc (.deferred (some []))).alloc (.loop (rec_ .ready none))=V:=⟨_,rfl⟩;have vs:V.heap.size=B+2:=by rw[←hV,←hB];simp
 have vL:V.heap[B+1]? = some (.loop (rec_ .ready none)):=by
  have:=World.alloc_heap_new (w.alloc (.deferred (some []))) (.loop (rec_ .ready none));rw[yA,hB,hV]at this;exact this
 have vD:V.heap[B]? = some (.deferred (some [])):=by
  rw[←hV,←hB];exact(Below.heap_alloc _ _ _ (by simp)).trans (World.alloc_heap_new w _)
 have vI:I [] V:=by rw[←hV];exact hI.alloc _ (hI.alloc _ h0)
 have vB:Below w0.heap.size w0 V:=by
  rw[←hV];exact hb0.trans ((((zG _ w).alloc (zE _) _).alloc (by simp) _).mono hb0.size)
 have hrun:=run_enterLoop_outer (P:=P) (w:=w) fn a.tmps ps assign body;rw[hB]at hrun
 let Own2:LoopState→Option Code→World→Prop:=fun st pe W=>W.heap[B+1]? = some (.loop (rec_ st pe))∧W.heap[B]? = some (.deferred (some []))
 have own2:∀(st:LoopState) (pe:Option Code) (X Y:World) (row:Option Nat),Own2 st pe X→X.grownBy Y row→(∀r,row=some r→B+2≤r)→Own2 st pe Y:=fun st pe X Y row h hg hr=>
  ⟨(hg.block _ (Array.getElem?_eq_some_iff.1 h.1).1 (fun e=>by have:=hr _ e.symm;omega)).trans h.1,(hg.block _ (Array.getElem?_eq_some_iff.1 h.2).1 (fun e=>by have:=hr _ e.symm;omega)).trans h.2⟩
 have putR:∀(st:LoopState) (pe:Option Code) (st':LoopState) (pe':Option Code) (X:World),Own2 st pe X→Own2 st' pe' (X.putObj (B+1) (.loop (rec_ st' pe'))):=fun st pe st' pe' X h=>
  ⟨World.putObj_heap_same (Array.getElem?_eq_some_iff.1 h.1).1,(World.putObj_heap_other (by omega)).trans h.2⟩
 refine⟨B+1,[{target:=.collected B,args:=#[]}],V,{target:=.fn (.func gf) lb,args:=#[.func (.yield (B+1)) #[] #[]]},V,gf,#[.func (.yield (B+1)) #[] #[]]++lb,V,
  by rw[←hV];exact hrun,by simp only[resolve,hg];simp[go_sem],fun f' hf'=>by simp[Target.leads]at hf';subst hf';exact hFg,by simp[invoke,go_sem,eg],fun _=>h1,?_⟩
 refine(hseq (B+1) (fun pre W=>I pre W∧Own2 .ready none W) (fun pre W=>∃c,Ix c pre W∧Own2 .done (some c) W) V vB
  (fun s X Y row hs hg' hr=>⟨hI s X Y row hs.1 hg' (fun r e=>⟨by have:=(hr r e).1;omega,(hr r e).2⟩),own2 _ _ _ _ _ hs.2 hg' (fun r e=>by have:=(hr r e).1;omega)⟩)
  (fun s X Y row hs hg' hr=>by
    obtain⟨c,hc,ho⟩:=hs;exact⟨c,hIx c s X Y row hc hg' (fun r e=>⟨by have:=(hr r e).1;omega,(hr r e).2⟩),own2 _ _ _ _ _ ho hg' (fun r e=>by have:=(hr r e).1;omega)⟩)
  ?_ ⟨vI,vL,vD⟩).mono ?_
 ·rintro m pre x W ⟨hi,ho⟩ hlen;have hy:=run_yield (P:=P) (args:=encs x) ho.1 (hps x);refine⟨fn,_,assign,body,hy,roundIn_of_wpIn hfn (hassign _ _ x W _ ⟨_,run_beginRound ho.1 rfl,?_⟩)⟩;have ho2:=putR .ready none .busy none W ho;have s1:=(Array.getElem?_eq_some_iff.1 ho.1).1;refine wpIn_mono (hbody _ _ pre x _ (hI.putObj _ hi (by omega) ho.1 rfl) hlen) ?_
  have fin:∀(jump:Option Code) (X:World),SameFrom B (W.putObj (B+1) (.loop (rec_ .busy none))) X→
   (Instr.endRound (B+1) jump).run P X = .ok (.bool jump.isNone) (X.putObj (B+1) (.loop (rec_ (if jump.isNone then .ready else .done) jump)))∧Own2 .busy none X:=fun jump X hk=>by
   have hx:Own2 .busy none X:=⟨hk.at _ _ (by omega) ho2.1,hk.at _ _ (zE _) ho2.2⟩;exact⟨run_endRound (P:=P) jump hx.1,hx⟩
  have kf:∀(jump:Option Code) (X:World),SameFrom B (W.putObj (B+1) (.loop (rec_ .busy none))) X→SameFrom V.heap.size W (X.putObj (B+1) (.loop (rec_ (if jump.isNone then .ready else .done) jump))):=fun jump X hk=>
   ((SameFrom.put W _ (by omega)).trans (hk.up (by omega))).trans (SameFrom.put X _ (by omega))
  have stop:∀(c:Code) (X:World),SameFrom B (W.putObj (B+1) (.loop (rec_ .busy none))) X→Ix c (pre ++ [x]) X→
   ∃d,Ix d (pre ++ [x]) (X.putObj (B+1) (.loop (rec_ .done (some c))))∧Own2 .done (some d) (X.putObj (B+1) (.loop (rec_ .done (some c)))):=fun c X hk hi3=>
   ⟨c,(hIx c).putObj _ hi3 (by omega) (fin (some c) X hk).2.1 rfl,putR _ _ _ _ X (fin (some c) X hk).2⟩
  rintro e a3 X hp;cases e with
  | normal=>
    obtain⟨hk,hb,hi3⟩:=hp;obtain⟨hr,hx⟩:=fin none X hk;refine⟨_,_,hr,.inl ⟨rfl,⟨hI.putObj _ hi3 (by omega) hx.1 rfl,putR _ _ _ _ X hx⟩,kf none X hk,?_⟩⟩;exact((KpO.put _ ho.1 rfl).trans hb).trans (KpO.put _ hx.1 rfl)
  | ret=>exact⟨_,_,(fin (some .ret) X hp.1).1,.inr ⟨rfl,stop _ X hp.1 hp.2,kf (some .ret) X hp.1⟩⟩
  | exit id=>exact⟨_,_,(fin (some (.exit id)) X hp.1).1,.inr ⟨rfl,stop _ X hp.1 hp.2,kf (some (.exit id)) X hp.1⟩⟩
  | goto t=>exact⟨_,_,(fin (some (.goto t)) X hp.1).1,.inr ⟨rfl,stop _ X hp.1 hp.2,kf (some (.goto t)) X hp.1⟩⟩
  | panic ch=>exact hp.elim
  | outgrown=>exact hp.elim
 ·rintro e X ⟨⟨v,rfl⟩,⟨xs,hS,hi,ho⟩|⟨pre,hSp,c,hi,ho⟩⟩
  ·exact⟨none,_,run_endLoop (P:=P) ho.1 (by simp[rec_]),hdone _ xs _ (zE _) hS (hI.putObj _ hi (by omega) ho.1 rfl) ((World.putObj_heap_other (by omega)).trans ho.2)⟩
  ·exact⟨some c,_,run_endLoop (P:=P) ho.1 (by simp[rec_]),hstop _ c pre _ (zE _) hSp ((hIx c).putObj _ hi (by omega) ho.1 rfl) ((World.putObj_heap_other (by omega)).trans ho.2)⟩
end
end Go.Proofs.YtieeogndnhighaaGreat
namespace Go.Proofs.YtieeogndnhighaaGreat
open Go.RowKit Go.Shelf
section
variable {P:Program} {ops:Array Oper} {Q:Exit→Act→World→Prop} {S:World→Prop}
def anc(ops:Array Oper):Nat→Nat→List Nat
 | 0,_=>[]
 | f+1,j=>match ops[j]? with
   | none=>[]
   | some o=>(o.after.toList.filter fun e=>Region.binds .any e).flatMap fun e=>e.on::anc ops f e.on
def downC(ops:Array Oper)(listed:Array Bool):Prop:=∀j o,ops[j]? = some o→listed.getD j false=true→∀e∈o.after,Region.binds .any e=true→listed.getD e.on false=true
theorem zpU{listed:Array Bool}(hd:downC ops listed):∀(f j:Nat),(∀o,ops[j]? = some o→∀e∈o.after,Region.binds .any e=true→listed.getD e.on false=true)→∀i∈anc ops f j,listed.getD i false=true
 | 0,j,h,i,hi=>by simp[anc]at hi
 | f+1,j,h,i,hi=>by
   unfold anc at hi;cases ho:ops[j]? with
   | none=>simp[ho]at hi
   | some o=>
     simp only[ho,List.mem_flatMap,List.mem_filter,List.mem_cons]at hi;obtain⟨e,⟨he,hb⟩,hi⟩:=hi;have he':=h o ho e (by simpa using he) hb;rcases hi with rfl|hi
     ·exact he'
     ·exact zpU hd f e.on (fun o' ho' e' h1 h2=>hd e.on o' ho' he' e' h1 h2) i hi
def zfP(ops:Array Oper)(m:Nat):Bool:=(List.range ops.size).all fun k=>decide (k<m)||(List.range m).all fun j=>(anc ops ops.size k).contains j
theorem ziZ{m:Nat}(h:zfP ops m=true){k j:Nat}{listed:Array Bool}(hd:downC ops listed)(hk:k∈Region.ready .any ops listed)(hkm:m≤k)(hj:j<m):listed.getD j false=true:=by
 obtain⟨_,o,ho,hall⟩:=mem_ready.1 hk;have hks:=(Array.getElem?_eq_some_iff.1 ho).1;simp only[zfP,List.all_eq_true,List.mem_range,Bool.or_eq_true,yK]at h;have h1:=(h k hks).resolve_left (by omega) j hj;exact zpU hd _ k (fun o' ho' e h1 h2=>by rw[ho]at ho';cases ho';exact hall e h1 h2) j (by simpa using h1)
theorem zeD{k:Nat}{listed:Array Bool}(hd:downC ops listed)(hk:k∈Region.ready .any ops listed):downC ops (listed.setIfInBounds k true):=fun j o ho hj e he hb=>by
 obtain⟨_,o',ho',hall⟩:=mem_ready.1 hk
 have mono:∀x,listed.getD x false=true→(listed.setIfInBounds k true).getD x false=true:=fun x hx=>by
  by_cases hxk:k=x
  ·subst hxk;rcases zaR k listed.size with h|h
   ·simp[h]
   ·simp[zcY h]at hx
  ·rw[getD_set_ne false hxk];exact hx
 by_cases hjk:k=j
 ·subst hjk;rw[ho']at ho;cases ho;exact mono _ (hall e he hb)
 ·rw[getD_set_ne false hjk]at hj;exact mono _ (hd j o ho hj e he hb)
theorem znU(n:Nat):downC ops (Array.replicate n false):=fun j o _ hj=>by
 rw[Array.getD_eq_getD_getElem?,Array.getElem?_replicate]at hj;split at hj<;>simp at hj
def freeM(ops:Array Oper)(m:Nat)(listed:Array Bool)(i:Nat):Bool:=
 match ops[i]? with
 | none=>false
 | some oi=>(List.range m).all fun j=>j==i||listed.getD j true||match ops[j]? with
    | some oj=>oj.after.any (fun e=>Region.binds .any e&&e.on==i)||oi.apart ops oj
    | none=>true
theorem zpJ{m i:Nat}{oi:Oper}{listed:Array Bool}(hi:ops[i]? = some oi)(h:freeM ops m listed i=true)(j:Nat)(hjm:j<m)(oj:Oper)
 (hj:ops[j]? = some oj) (hne:j≠i) (hun:listed.getD j true=false) (hno:∀e∈oj.after,Region.binds .any e=true→e.on≠i):oi.apart ops oj=true:=by
 simp only[freeM,hi,List.all_eq_true,List.mem_range]at h;have h1:=h j hjm;simp only[hj,Bool.or_eq_true,beq_iff_eq,hne,false_or,hun,Bool.false_eq_true]at h1;rcases h1 with h1|h1
 ·obtain⟨e,he,hb⟩:=Array.any_eq_true'.1 h1;simp only[yF,beq_iff_eq]at hb;exact absurd hb.2 (hno e he hb.1)
 ·exact h1
def seqX(ops:Array Oper)(m:Nat):List (Bool×Nat)→Array Bool→Bool
 | [],_=>true
 | (true,k)::r,l=>(Region.ready .any ops l).contains k&&freeM ops m l k&&decide (k<m)&&seqX ops m r (l.setIfInBounds k true)
 | (false,k)::r,l=>(Region.ready .any ops l == [k])&&decide (k<m)&&seqX ops m r (l.setIfInBounds k true)
def seqOrderX(ops:Array Oper)(m n:Nat)(ks:List (Bool×Nat)):Bool:=
 Region.noSelect ops&&zfP ops m&&decide (m+n=ops.size)&&decide (ks.length=m)&&seqX ops m ks (Array.replicate ops.size false) &&
  (Region.ready .any ops (zcZ (ks.map Prod.snd) (Array.replicate ops.size false))).all (fun i=>decide (m≤i))&&forced ops m n (zcZ (ks.map Prod.snd) (Array.replicate ops.size false))
def zhC(P:Program)(ops:Array Oper)(Q:Exit→Act→World→Prop)(S:World→Prop)(m:Nat)(X:Array Bool→Act→World→Prop):Nat→Array Bool→Act→World→Prop
 | 0,listed,a,w=>(∀i∈Region.ready .any ops listed,m≤i)∧X listed a w
 | fuel+1,listed,a,w=>Region.ready .any ops listed≠ []∧(∀i∈Region.ready .any ops listed,i<m)∧
   ∀i∈Region.ready .any ops listed,wpOp P ops Q i (fun a' w'=>S w'∧zhC P ops Q S m X fuel (listed.setIfInBounds i true) a' w') a w
theorem zkV{m i:Nat}{X:Array Bool→Act→World→Prop}{oi:Oper}{v:Value}(hbar:zfP ops m=true)(him:i<m)(hi:ops[i]? = some oi)(hsel:∀(j:Nat) (o:Oper) cs b,ops[j]? = some o→o.op≠ .select cs b)
 (hQ:∀c a w,Q (.panic c) (a.put oi.dst v) w→Q (.panic c) a w) :
 ∀(fuel:Nat) (listed:Array Bool) (a:Act) (w:World),
  downC ops listed→(∀j oj,j<m→ops[j]? = some oj→j≠i→listed.getD j true=false→(∀e∈oj.after,Region.binds .any e=true→e.on≠i)→oi.apart ops oj=true)→
  i∈Region.ready .any ops listed→YieldsIf P ops S oi v a→S w→
  zhC P ops Q S m X fuel (listed.setIfInBounds i true) (a.put oi.dst v) w→zhC P ops Q S m X (fuel+1) listed a w:=by
 intro fuel;induction fuel with
 | zero=>
   intro listed a w hd _ hr hy hS H
   have hlt:∀j∈Region.ready .any ops listed,j<m:=fun j hj=>by
    rcases zaR j m with h|h
    ·exact h
    ·have h1:=ziZ hbar hd hj h him;have h0:=(mem_ready.1 hr).1;rcases zaR i listed.size with h'|h'
     ·simp[h']at h0 h1;rw[h0]at h1;cases h1
     ·simp[zcY h']at h1
   refine⟨fun h=>(by rw[h]at hr;cases hr),hlt,fun j hj=> ?_⟩;by_cases hji:j=i
   ·subst hji;exact hy.wpOp hi hS ⟨hS,H⟩
   ·have h1:=H.1 j (ready_mono hj hji);have h2:=hlt j hj;omega
 | succ fuel ih=>
   intro listed a w hd hfree hr hy hS H
   have hlt:∀j∈Region.ready .any ops listed,j<m:=fun j hj=>by
    rcases zaR j m with h|h
    ·exact h
    ·have h1:=ziZ hbar hd hj h him;have h0:=(mem_ready.1 hr).1;rcases zaR i listed.size with h'|h'
     ·simp[h']at h0 h1;rw[h0]at h1;cases h1
     ·simp[zcY h']at h1
   refine⟨fun h=>(by rw[h]at hr;cases hr),hlt,fun j hj=> ?_⟩;by_cases hji:j=i
   ·subst hji;exact hy.wpOp hi hS ⟨hS,H⟩
   ·have h1:=H.2.2 j (ready_mono hj hji);obtain⟨hjun,oj,hoj,hall⟩:=mem_ready.1 hj
    have hnot:∀e∈oj.after,Region.binds .any e=true→e.on≠i:=fun e he hb heq=>by
     have h1:=hall e he hb;have h0:=(mem_ready.1 hr).1;rw[heq]at h1;rcases zaR i listed.size with h'|h'
     ·simp[h']at h0 h1;rw[h0]at h1;cases h1
     ·simp[zcY h']at h1
    have h2:=wpOp_putIf hoj (hfree j oj (hlt j hj) hoj hji hjun hnot) (fun cs b=>hsel i oi cs b hi) (fun cs b=>hsel j oj cs b hoj) hQ hy h1
    have hfree':∀k ok,k<m→ops[k]? = some ok→k≠i→(listed.setIfInBounds j true).getD k true=false→
     (∀e∈ok.after,Region.binds .any e=true→e.on≠i)→oi.apart ops ok=true:=fun k ok hkm hk hki hun hno=>by
     refine hfree k ok hkm hk hki ?_ hno;by_cases hjk:j=k
     ·subst hjk;exact hjun
     ·rw[getD_set_ne true hjk]at hun;exact hun
    refine wpOp_mono (fun a' w' h3=>⟨h3.2.1,ih (listed.setIfInBounds j true) a' w' (zeD hd hj) hfree' (ready_mono hr (Ne.symm hji)) h3.1 h3.2.1 ?_⟩) h2;rw[Array.setIfInBounds_comm _ _ hji];exact h3.2.2
theorem zgT{m:Nat}{X:Array Bool→Act→World→Prop}(hbar:zfP ops m=true)(hsel:Region.noSelect ops=true)(hQ:∀c a d v w,Q (.panic c) (Act.put a d v) w→Q (.panic c) a w) :
 ∀(ks:List (Bool×Nat)) (ls:List (Bool×Oper)) (listed:Array Bool) (a:Act) (w:World),downC ops listed→S w→ks.map (fun p=>(p.1,ops[p.2]?))=ls.map (fun p=>(p.1,some p.2))→seqX ops m ks listed=true→
 (∀i∈Region.ready .any ops (zcZ (ks.map Prod.snd) listed),m≤i)→
 zcL P (yielded ops) Q S (fun a' w'=>X (zcZ (ks.map Prod.snd) listed) a' w') ls a w→zhC P ops Q S m X ks.length listed a w
 | [],ls,listed,a,w,hd,hS,hl,_,hend,h=>by
   cases ls with
   | nil=>exact⟨hend,h⟩
   | cons o r=>simp at hl
 | (true,k)::ks,ls,listed,a,w,hd,hS,hl,hb,hend,h=>by
   cases ls with
   | nil=>simp at hl
   | cons p r=>
     obtain⟨b,o⟩:=p;simp only[lmc,List.cons.injEq,Prod.mk.injEq]at hl;obtain⟨⟨rfl,hk⟩,hl⟩:=hl;simp only[seqX,yF,yK]at hb;obtain⟨v,hy,hrest⟩:=h
     exact zkV hbar hb.1.2 hk (Region.noSelect_spec hsel) (fun c a w=>hQ c a _ _ w) _ listed a w hd (fun j oj hjm=>zpJ hk hb.1.1.2 j hjm oj) (by simpa using hb.1.1.1) hy hS
      (zgT hbar hsel hQ ks r _ _ w (zeD hd (by simpa using hb.1.1.1)) hS hl hb.2 hend hrest)
 | (false,k)::ks,ls,listed,a,w,hd,hS,hl,hb,hend,h=>by
   cases ls with
   | nil=>simp at hl
   | cons p r=>
     obtain⟨b,o⟩:=p;simp only[lmc,List.cons.injEq,Prod.mk.injEq]at hl;obtain⟨⟨rfl,hk⟩,hl⟩:=hl;simp only[seqX,yF,beq_iff_eq,yK]at hb;refine⟨by rw[hb.1.1];simp,fun i hi=> ?_,fun i hi=> ?_⟩
     ·rw[hb.1.1,zdW]at hi;rw[hi];exact hb.1.2
     ·rw[hb.1.1,zdW]at hi;subst hi;unfold Go.wpOp;simp only[hk];unfold zcL at h;split
      ·rename_i hw
       rw[zU hw]at h;exact h.imp (Oper.wp_mono fun a' w' h'=>⟨h'.1,zgT hbar hsel hQ ks r _ a' w' (zeD hd (by rw[hb.1.1];simp)) h'.1 hl hb.2 hend h'.2⟩) (fun h=>h)
      ·rename_i hw
       rw[zK hw]at h;exact⟨h.1,zgT hbar hsel hQ ks r _ _ w (zeD hd (by rw[hb.1.1];simp)) hS hl hb.2 hend h.2⟩
theorem zeH{n l m tail:Nat}(hnd:zjT ops=true)(hQ:¬LetsOut Q):∀(fuel:Nat) (listed:Array Bool) (a:Act) (w:World),
 zhC P ops Q S m (fun listed a w=>wpAnyIn (Fence.wide.inRound l) n P .any ops Q tail listed a w) fuel listed a w→wpAnyIn (Fence.wide.inRound l) n P .any ops Q (fuel+tail) listed a w
 | 0,listed,a,w,h=>by rw[yV];exact h.2
 | fuel+1,listed,a,w,h=>by
   rw[show fuel+1+tail=(fuel+tail)+1 by omega];refine⟨fun h0=>absurd h0 h.1,fun i hi=> ?_⟩;have hi':=h.2.2 i hi;unfold Go.wpOp at hi';unfold wpOpIn;cases ho:ops[i]? with
   | none=>
     simp only[ho]at hi'⊢;exact zeH hnd hQ fuel _ _ _ hi'.2
   | some o=>
     simp only[ho]at hi'⊢;split
     ·rename_i hw
      rw[zU hw]at hi';rcases hi' with hi'|⟨_,hl⟩
      ·exact zkU (zpE hnd ho) (fun a w h=>zeH hnd hQ fuel _ a w h.2) hi'
      ·exact absurd hl hQ
     ·rename_i hw
      rw[zK hw]at hi';exact⟨fun _ _=>yJ,zeH hnd hQ fuel _ _ _ hi'.2⟩
theorem zhD{F:Fence}{nn:Nat}:∀(n k:Nat) (listed:Array Bool) (l:List Oper),l.length=n→(∀j,l[j]? = if j<n then ops[k+j]? else none)→k+n≤ops.size→
 forced ops k n listed=true→∀(a:Act) (w:World),wpListIn F nn P ops Q l a w→wpAnyIn F nn P .any ops Q n listed a w
 | 0,k,listed,l,hl,hop,hsz,hf,a,w,h=>by
   have:l = []:=List.length_eq_zero_iff.1 hl;subst this;simp only[forced,List.isEmpty_iff]at hf;exact⟨hf,h⟩
 | n+1,k,listed,l,hl,hop,hsz,hf,a,w,h=>by
   cases l with
   | nil=>simp at hl
   | cons o rest=>
     simp only[forced,yF,beq_iff_eq]at hf;have ho:ops[k]? = some o:=by simpa using (hop 0).symm
     have hrest:=zhD (F:=F) (nn:=nn) n (k+1) (listed.setIfInBounds k true) rest (by simpa using hl)
      (fun j=>by
        have h1:=hop (j+1);simp only[lgs,Nat.add_lt_add_iff_right]at h1;rw[h1,show k+(j+1)=k+1+j by omega]) (by omega) hf.2
     refine⟨(fun h0=>by rw[hf.1]at h0;cases h0),fun i hi=> ?_⟩;rw[hf.1,zdW]at hi;subst hi;unfold wpOpIn;simp only[ho];unfold wpListIn at h;split
     ·rename_i hw
      rw[zU hw]at h;exact Oper.wpIn_mono (fun a' w'=>hrest a' w') h
     ·rename_i hw
      rw[zK hw]at h;exact⟨h.1,hrest _ _ h.2⟩
theorem zoD{n l id:Nat}{a:Act}{w:World}(m k:Nat)(ph:List (Bool×List Bool))(r t:List Oper)(S:World→Prop)(hm:P.follows .mixedOrders=true)(hops:ops.toList=r++t)(hl:r.length=m)(ht:t.length=k)
 (hls:(zdA ph (List.range m)).map (fun p=>(p.1,ops[p.2]?))=(zdA ph r).map (fun p=>(p.1,some p.2)))
 (ho:(seqOrderX ops m k (zdA ph (List.range m))&&zjT ops)=true) (hS:S w.drew)
 (h:∀(Y:Array Value→Nat→Option Bool) (Q':Exit→Act→World→Prop) (F:Act→World→Prop),(∀t,Y t=yielded ops t)→
   Shut' (∀a' w',(∀(K:Act→World→Prop),Shut' (∀a w,Q .normal a w→K a w)→wpListIn (Fence.wide.inRound l) n P ops (OnlyK K) t a' w')→F a' w')→
   zcL P Y Q' S F (zdA ph r) a w.drew):(Code.region id ops true).wpIn (Fence.wide.inRound l) n P Q a w:=by
 simp only[yF]at ho;refine wpIn_mono (Q:=OnlyK fun a w=>Q .normal a w) ?_ (OnlyK.imp (fun _ _ h=>h));refine wpIn_region_any hm ?_;have ho1:=ho.1;simp only[seqOrderX,yF,yK,List.all_eq_true]at ho1;obtain⟨⟨⟨⟨⟨⟨hsel,hbar⟩,hsz⟩,hlen⟩,hsq⟩,hend⟩,hforce⟩:=ho1
 have H:=zgT (P:=P) (Q:=OnlyK fun a w=>Q .normal a w) (S:=S) (X:=fun listed a w=>wpAnyIn (Fence.wide.inRound l) n P .any ops (OnlyK fun a w=>Q .normal a w) k listed a w) hbar hsel (fun _ _ _ _ _ h=>h) (zdA ph (List.range m)) (zdA ph r) (Array.replicate ops.size false) a _ (znU _) hS hls hsq hend
  (zdX (fun a2 w2 h2=>zhD k m _ t ht (fun j=>by
    have hj:=yQ (fun x=>x[m+j]?) hops;simp only[Array.getElem?_toList]at hj;rw[hj,yP (by omega),hl,zeW];split
    ·rfl
    ·exact yY (by omega)) (by omega) hforce a2 w2 h2) (zdA ph r) a _
    (h _ (OnlyK fun a w=>Q .normal a w) (fun a2 w2=>wpListIn (Fence.wide.inRound l) n P ops (OnlyK fun a w=>Q .normal a w) t a2 w2) (fun _=>rfl) (fun _ _ h=>h (fun a w=>Q .normal a w) (fun _ _ h=>h))))
 have:=zeH ho.2 onlyK_in _ _ _ _ H;rw[hlen,hsz]at this;exact this
end
end Go.Proofs.YtieeogndnhighaaGreat
namespace Go.Proofs.YtieeogndnhighaaGreat
open Go.RowKit
inductive KU where
 | e|r|p|l
section
variable {P:Program} {ops:Array Oper} {Q:Exit→Act→World→Prop} {S:World→Prop}
def zbF(l:List (Addr×Value))(w:World):Prop:=Cells w l
variable {Y:Array Value→Nat→Option Bool} {o:Oper} {rest:List (KU×Oper)} {a:Act} {v:Value} {f:FuncId} {args:Array Value} {G:Act→World→Prop} {w w':World}
end
section
variable {P:Program} {ops:Array Oper} {Q:Exit→Act→World→Prop} {S:World→Prop} {Y:Array Value→Nat→Option Bool} {o:Oper} {rest:List (Bool×Oper)} {a:Act} {G:Act→World→Prop} {w w':World}
end
end Go.Proofs.YtieeogndnhighaaGreat
namespace Go.Proofs.YtieeogndnhighaaGreat
open Go.RowKit
inductive Plan (α:Type) where
 | done:Plan α
 | read:α→Plan α→Plan α
 | one:α→Plan α→Plan α
 | two:Plan α→Plan α→Plan α
def Plan.map{α β:Type}(f:α→β):Plan α→Plan β
 | .done=>.done
 | .read k p=>.read (f k) (p.map f)
 | .one k p=>.one (f k) (p.map f)
 | .two p q=>.two (p.map f) (q.map f)
section
variable {P:Program} {ops:Array Oper} {Q:Exit→Act→World→Prop} {S:World→Prop}
def zbA(P:Program)(Y:Array Value→Nat→Option Bool)(Q:Exit→Act→World→Prop)(S:World→Prop)(F:Act→World→Prop):Plan Oper→Act→World→Prop
 | .done,a,w=>F a w
 | .read o rest,a,w=>∃v,((Region.wanted o (Y a.tmps)=true∧∀w,S w→(execOp a.eval o).run P w = .ok (.value v) w)∨(Region.wanted o (Y a.tmps)=false∧v=undef))∧zbA P Y Q S F rest (a.put o.dst v) w
 | .one o rest,a,w=>if Region.wanted o (Y a.tmps)=true then o.wp P a w (fun a' w'=>S w'∧zbA P Y Q S F rest a' w') Q∨(o.asks P a w∧LetsOut Q)else S w∧zbA P Y Q S F rest (a.put o.dst undef) w
 | .two p q,a,w=>zbA P Y Q S F p a w∧zbA P Y Q S F q a w
def heads:Plan Nat→List Nat
 | .done=>[]
 | .read _ _=>[]
 | .one k _=>[k]
 | .two p q=>heads p++heads q
def zoP(ops:Array Oper)(m n:Nat):Nat→Plan Nat→Array Bool→Bool
 | f,.done,l=>decide (f=0)&&(Region.ready .any ops l).all (fun i=>decide (m≤i))&&forced ops m n l
 | f,.read k p,l=>decide (0<f)&&(Region.ready .any ops l).contains k&&freeM ops m l k&&decide (k<m)&&zoP ops m n (f-1) p (l.setIfInBounds k true)
 | f,.one k p,l=>decide (0<f)&&(Region.ready .any ops l).contains k&&decide (k<m)&&zoP ops m n (f-1) p (l.setIfInBounds k true)
 | f,.two p q,l=>zoP ops m n f p l&&zoP ops m n f q l
def ziO(ops:Array Oper):Bool→Plan Nat→Array Bool→Bool
 | _,.done,_=>true
 | _,.read k p,l=>ziO ops true p (l.setIfInBounds k true)
 | b,.one k p,l=>(!b||(Region.ready .any ops l == [k]))&&ziO ops true p (l.setIfInBounds k true)
 | b,.two p q,l=>(!b||((Region.ready .any ops l).all (fun i=>(heads p++heads q).contains i) && !(heads p++heads q).isEmpty&&(Region.ready .any ops l != [])))&&ziO ops false p l&&ziO ops false q l
theorem plan_head{Y:Array Value→Nat→Option Bool}{F:Act→World→Prop}{m n:Nat}{X:Array Bool→Act→World→Prop}(hbar:zfP ops m=true)(hsel:Region.noSelect ops=true)(hQ:∀c a d v w,Q (.panic c) (Act.put a d v) w→Q (.panic c) a w)(hY:Y=yielded ops)
 (hF:∀(listed:Array Bool) (a:Act) (w:World),forced ops m n listed=true→F a w→X listed a w) :
 ∀(p:Plan Nat) (pl:Plan Oper) (f:Nat) (listed:Array Bool) (a:Act) (w:World),downC ops listed→S w→p.map (fun k=>ops[k]?)=pl.map some→zoP ops m n f p listed=true→
 (ziO ops true p listed=true→zbA P Y Q S F pl a w→zhC P ops Q S m X f listed a w)∧
 (ziO ops false p listed=true→zbA P Y Q S F pl a w→∀i∈heads p,∃f',f=f'+1∧i<m∧wpOp P ops Q i (fun a' w'=>S w'∧zhC P ops Q S m X f' (listed.setIfInBounds i true) a' w') a w):=by
 intro p;induction p with
 | done=>
   intro pl f listed a w hd hS hl hb;cases pl with
   | done=>
     simp only[zoP,yF,yK,List.all_eq_true]at hb;obtain⟨⟨rfl,hend⟩,hforce⟩:=hb;exact⟨fun _ h=>⟨hend,hF _ _ _ hforce h⟩,fun _ _ i hi=>(by cases hi)⟩
   | _=>simp[Plan.map]at hl
 | read k p ih=>
   intro pl f listed a w hd hS hl hb;cases pl with
   | read o pl=>
     simp only[Plan.map,Plan.read.injEq]at hl;obtain⟨hk,hl⟩:=hl;simp only[zoP,yF,yK]at hb;obtain⟨⟨⟨⟨hf,hrd⟩,hfr⟩,hkm⟩,hb⟩:=hb;obtain⟨f',rfl⟩:∃f',f=f'+1:=⟨f-1,by omega⟩;refine⟨fun hH h=> ?_,fun _ _ i hi=>(by cases hi)⟩;obtain⟨v,hy,hrest⟩:=h;rw[hY]at hy
     exact zkV hbar hkm hk (Region.noSelect_spec hsel) (fun c a w=>hQ c a _ _ w) _ listed a w hd (fun j oj hjm=>zpJ hk hfr j hjm oj) (by simpa using hrd) hy hS
      ((ih pl f' _ _ w (zeD hd (by simpa using hrd)) hS hl hb).1 hH hrest)
   | _=>simp[Plan.map]at hl
 | one k p ih=>
   intro pl f listed a w hd hS hl hb;cases pl with
   | one o pl=>
     simp only[Plan.map,Plan.one.injEq]at hl;obtain⟨hk,hl⟩:=hl;simp only[zoP,yF,yK]at hb;obtain⟨⟨⟨hf,hrd⟩,hkm⟩,hb⟩:=hb;obtain⟨f',rfl⟩:∃f',f=f'+1:=⟨f-1,by omega⟩
     have key:ziO ops true p (listed.setIfInBounds k true)=true→zbA P Y Q S F (.one o pl) a w→wpOp P ops Q k (fun a' w'=>S w'∧zhC P ops Q S m X f' (listed.setIfInBounds k true) a' w') a w:=fun hH h=>by
      unfold Go.wpOp;simp only[hk];unfold zbA at h;rw[hY]at h;split
      ·rename_i hw
       rw[zU hw]at h;exact h.imp (Oper.wp_mono fun a' w' h'=>⟨h'.1,(ih pl f' _ a' w' (zeD hd (by simpa using hrd)) h'.1 hl hb).1 hH (by rw[hY];exact h'.2)⟩) (fun h=>h)
      ·rename_i hw
       rw[zK hw]at h;exact⟨h.1,(ih pl f' _ _ w (zeD hd (by simpa using hrd)) hS hl hb).1 hH (by rw[hY];exact h.2)⟩
     refine⟨fun hH h=> ?_,fun hH h i hi=> ?_⟩
     ·simp only[ziO,yF,Bool.not_true,Bool.false_or,beq_iff_eq]at hH;refine⟨by rw[hH.1];simp,fun i hi=> ?_,fun i hi=> ?_⟩
      ·rw[hH.1,zdW]at hi;rw[hi];exact hkm
      ·rw[hH.1,zdW]at hi;subst hi;exact key hH.2 h
     ·simp only[ziO,Bool.not_false,Bool.true_or,zbE]at hH;rw[heads,zdW]at hi;subst hi;exact⟨f',rfl,hkm,key hH h⟩
   | _=>simp[Plan.map]at hl
 | two p q ihp ihq=>
   intro pl f listed a w hd hS hl hb;cases pl with
   | two pl ql=>
     simp only[Plan.map,Plan.two.injEq]at hl;simp only[zoP,yF]at hb
     have key:ziO ops false p listed=true→ziO ops false q listed=true→zbA P Y Q S F (.two pl ql) a w→∀i∈heads p++heads q,∃f',f=f'+1∧i<m∧wpOp P ops Q i (fun a' w'=>S w'∧zhC P ops Q S m X f' (listed.setIfInBounds i true) a' w') a w:=fun h1 h2 h i hi=>by
      rcases List.mem_append.1 hi with hi|hi
      ·exact(ihp pl f listed a w hd hS hl.1 hb.1).2 h1 h.1 i hi
      ·exact(ihq ql f listed a w hd hS hl.2 hb.2).2 h2 h.2 i hi
     refine⟨fun hH h=> ?_,fun hH h=> ?_⟩
     ·simp only[ziO,yF,Bool.not_true,Bool.false_or,List.all_eq_true,bne_iff_ne]at hH;obtain⟨⟨⟨⟨hall,hne⟩,hne2⟩,h1⟩,h2⟩:=hH;have hk:=key h1 h2 h;obtain⟨f',rfl⟩:∃f',f=f'+1:=by
       cases hh:heads p++heads q with
       | nil=>rw[hh]at hne;simp at hne
       | cons i r=>obtain⟨f',e,_⟩:=hk i (by rw[hh];simp);exact⟨f',e⟩
      refine⟨hne2,fun i hi=> ?_,fun i hi=> ?_⟩
      ·obtain⟨f'',e,h3,_⟩:=hk i (by simpa using hall i hi);exact h3
      ·obtain⟨f'',e,_,h3⟩:=hk i (by simpa using hall i hi);obtain rfl:f''=f':=by omega
       exact h3
     ·simp only[ziO,yF,Bool.not_false,Bool.true_or,true_and]at hH;exact key hH.1 hH.2 h
   | _=>simp[Plan.map]at hl
def znE(ops:Array Oper)(m n:Nat)(p:Plan Nat):Bool:=
 Region.noSelect ops&&zfP ops m&&decide (m+n=ops.size)&&zoP ops m n m p (Array.replicate ops.size false)&&ziO ops true p (Array.replicate ops.size false)
theorem zoY{m tail:Nat}:∀(fuel:Nat) (listed:Array Bool) (a:Act) (w:World),zhC P ops Q S m (fun listed a w=>wpAny P .any ops Q tail listed a w) fuel listed a w→wpAny P .any ops Q (fuel+tail) listed a w
 | 0,listed,a,w,h=>by rw[yV];exact h.2
 | fuel+1,listed,a,w,h=>by
   rw[show fuel+1+tail=(fuel+tail)+1 by omega];exact⟨fun h0=>absurd h0 h.1,fun i hi=>wpOp_mono (fun a' w' h'=>zoY fuel _ a' w' h'.2) (h.2.2 i hi)⟩
def o0P:Oper:={dst:=none,op:=.move (.const undef),type:=0,pos:= "",after:=#[],guard:=none}
theorem zhP{id:Nat}{a:Act}{w:World}(m n:Nat)(p:Plan Nat)(l t:List Oper)(pl:Plan Oper)(S:World→Prop)(hm:P.follows .mixedOrders=true)(hops:ops.toList=l++t)(hl:l.length=m)(ht:t.length=n)
 (hls:p.map (fun k=>ops[k]?)=pl.map some)
 (ho:znE ops m n p=true) (hQ:∀c a d v w,Q (.panic c) (Act.put a d v) w→Q (.panic c) a w) (hS:S w.drew)
 (h:zbA P (yielded ops) Q S (fun a2 w2=>wpList P ops Q t a2 w2) pl a w.drew):(Code.region id ops true).wp P Q a w:=by
 simp only[znE,yF,yK]at ho;obtain⟨⟨⟨⟨hsel,hbar⟩,hsz⟩,hpb⟩,hph⟩:=ho;refine wp_region_any hm ?_
 have H:=(plan_head (X:=fun listed a w=>wpAny P .any ops Q n listed a w) hbar hsel hQ rfl (fun listed a2 w2 hforce h2=>zcD n m _ t ht (fun j=>by
  have hj:=yQ (fun x=>x[m+j]?) hops;simp only[Array.getElem?_toList]at hj;rw[hj,yP (by omega),hl,zeW];split
  ·rfl
  ·exact yY (by omega)) (by omega) hforce a2 w2 h2) p pl m (Array.replicate ops.size false) a _ (znU _) hS hls hpb).1 hph h
 have:=zoY _ _ _ _ H;rw[hsz]at this;exact this
theorem zbM{id:Nat}{a:Act}{w:World}(m n:Nat)(p:Plan Nat)(l t:List Oper)(o0:Oper)(S:World→Prop)(hm:P.follows .mixedOrders=true)(hops:ops.toList=l++t)(hl:l.length=m)(ht:t.length=n)
 (hls:p.map (fun k=>ops[k]?)=(p.map (fun k=>l.getD k o0)).map some)
 (ho:znE ops m n p=true) (hS:S w.drew)
 (h:∀(Y:Array Value→Nat→Option Bool) (Q':Exit→Act→World→Prop) (F:Act→World→Prop),(∀t,Y t=yielded ops t)→
   Shut' (∀a' w',(∀(K:Act→World→Prop),Shut' (∀a w,Q .normal a w→K a w)→wpList P ops (OnlyK K) t a' w')→F a' w')→
   zbA P Y Q' S F (p.map (fun k=>l.getD k o0)) a w.drew):(Code.region id ops true).wp P Q a w:=
 Code.wp_mono (OnlyK.imp (fun _ _ h=>h)) (zhP m n p l t _ S hm hops hl ht hls ho (fun _ _ _ _ _ h=>h) hS
  (h _ (OnlyK fun a w=>Q .normal a w) (fun a2 w2=>wpList P ops (OnlyK fun a w=>Q .normal a w) t a2 w2) (fun _=>rfl) (fun _ _ h=>h (fun a w=>Q .normal a w) (fun _ _ h=>h))))
variable {Y:Array Value→Nat→Option Bool} {o:Oper} {rest:Plan Oper} {a:Act} {v:Value} {f:FuncId} {args:Array Value} {G:Act→World→Prop} {w w':World}
theorem zV(hw:Region.wanted o (Y a.tmps)=true)(h:∀w,S w→(execOp a.eval o).run P w = .ok (.value v) w)(h2:zbA P Y Q S G rest (a.put o.dst v) w):zbA P Y Q S G (.read o rest) a w:=⟨v,.inl ⟨hw,h⟩,h2⟩
theorem yI(hw:Region.wanted o (Y a.tmps)=true)(hr:(execOp a.eval o).run P w = .ok (.value v) w')(hS:S w')(h:zbA P Y Q S G rest (a.put o.dst v) w'):zbA P Y Q S G (.one o rest) a w:=by
 unfold zbA;rw[zU hw];exact .inl (by unfold Oper.wp;rw[hr];exact⟨hS,h⟩)
theorem yH(hw:Region.wanted o (Y a.tmps)=true)(hr:(execOp a.eval o).run P w = .ok (.enter f args) w)
 (h:Calls P f args w fun e w'=>∃v,e = .returned v∧S w'∧zbA P Y Q S G rest (a.put o.dst v) w'):zbA P Y Q S G (.one o rest) a w:=by
 unfold zbA;rw[zU hw];refine .inl ?_;unfold Oper.wp;rw[hr];refine Calls.mono h ?_;rintro e w' ⟨v,rfl,hS,h⟩;exact⟨hS,h⟩
theorem yS(h:G a w):zbA P Y Q S G .done a w:=h
theorem zaG{p q:Plan Oper}(h1:zbA P Y Q S G p a w)(h2:zbA P Y Q S G q a w):zbA P Y Q S G (.two p q) a w:=⟨h1,h2⟩
end
