/- A part of the proof of L14l. No condition. -/
import Derived.Lib.MinMax
import Derived.Sort.BigQuietIn
import Derived.Sort.QuietIn
import Derived.Test.YthhgkafloejjiaaGreatZL14lah
import Derived.Test.YthhgkafloejjiaaGreatZL14lak
import Derived.Test.YthhgkafloejjiaaGreatZL14lav
set_option linter.all false
set_option maxRecDepth 100000
set_option maxHeartbeats 1000000
namespace Go.Proofs.YthhgkafloejjiaaGreat
open Go.RowKit Go.Shelf
attribute [local go_sem] Oper.semAt_some
theorem ziY{w:World}{a:Option Addr}{l:List Int}(h:Rd w a (Bts l)){i:Nat}(e:i<l.length):∃b o,a=some ⟨b,o,none⟩∧∀j,j<l.length→w.cell? ⟨b,o+j,none⟩=some (.int .u8 (l.getD j 0)):=by
 obtain⟨b,o,rfl,d⟩:=h.at (i:=i) (by rw[zaC];exact e);refine⟨b,o,rfl,fun j c=> ?_⟩;rw[d j (by rw[zaC];exact c),S12.getD_in _ _ c];simp[Bts]
theorem back1_in(n:Nat)(l j c:Nat)(a:Option Addr)(cap:Nat)(xs:List Int)(M:xs.length≤1000000)(H:¬j=c)(D:∀b o,a=some ⟨b,o,none⟩→Bts xs≠ []→¬b=c)(J s:List Nat→World→Prop)
 (hY:∀d x W,x<xs.length→J d W→d.length<xs.length→YieldAt Fence.wide (n-1) Tryz.prog l #[.int .i64 ((xs.length:Int)-1-x),.int .u8 (xs.getD (xs.length-1-x) 0)] W fun e f=>
   (e = .returned (.bool true)∧J (d ++ [x]) f∧KpO c W f)∨(e = .returned (.bool false)∧s (d ++ [x]) f))
 (W:World) (I:W.cell? ⟨j,0,none⟩=some (.slice a xs.length cap)) (E:Rd W a (Bts xs)) (z:J [] W) :
 CallsIn Fence.wide n Tryz.prog 225 #[.func (.yield l) #[] #[],.pointer (some ⟨j,0,none⟩)] W fun e f=>(∃v,e = .returned v)∧
  ((∃t,t=List.range xs.length∧J t f)∨(∃d,(∃k,k≤xs.length∧d=List.range k)∧s d f)):=by
 refine callsIn_of_wp Tryz.func225 rfl zT ?_ rfl;simp only[Tryz.ntmps225,zfX,zbL,List.length_nil,Nat.reduceAdd,Nat.reduceSub,Array.replicate_succ,Array.replicate_zero,List.push_toArray,List.append_toArray,lna,lca];gi_wp2
 gi_loopw [3] (fun i wr=>∃k:Nat,k≤xs.length∧i = .int .i64 ((xs.length:Int)-1-k)∧J (List.range k) wr∧KpO c W wr)
  (fun i _=>(intOf i+1).toNat)
 case atStart=>exact⟨0,zfY _,by go_num,z,KpO.refl _ _⟩
 case round=>
  obtain⟨k,S,rfl,r,p⟩:=hrel;have Q:wr.cell? ⟨j,0,none⟩=some (.slice a xs.length cap):=p.cell I H;by_cases m:k<xs.length
  ·obtain⟨g,o,rfl,G⟩:=ziY (E.kpo p D) (i:=k) m;have w:=G (xs.length-1-k) om;obtain⟨i,y⟩:=zvJ (xs.length-1-k);have u:(xs.length:Int)-1-k=(i:Int):=by omega
   rw[u];have q:=hY _ k wr m r (by rw[List.length_range];exact m);rw[u,y]at q;rw[y]at w;obtain⟨N,K⟩:=zvJ (xs.getD i 0);rw[K]at w q;obtain⟨O,T,R,L,P,F⟩:=q;gi_wp2
   refine⟨fun h=>(by cases h),F.mono ?_⟩;rintro e U (⟨rfl,B,C⟩|⟨rfl,A⟩)
   ·gi_wp2
    go_roundw
    case rel=>exact⟨k+1,by omega,by simp;try omega,by rw[List.range_succ];exact B,p.trans C⟩
    case measure=>simp[intOf];try omega
   ·gi_wp2
    refine bodyPost_ret (results_none rfl _ _ _) rfl ?_;exact⟨⟨_,rfl⟩,.inr ⟨_,⟨k+1,by omega,List.range_succ.symm⟩,A⟩⟩
  ·obtain rfl:k=xs.length:=by omega
   gi_wp2
   go_end0
   exact⟨⟨_,rfl⟩,.inl ⟨_,rfl,r⟩⟩
theorem backward_any(a:Option Addr)(n c:Nat)(w:World) :
 Calls Tryz.prog 224 #[.slice a n c] w fun e b=>e = .returned (.func (.func 225) #[] #[.pointer (some ⟨w,0,none⟩)])∧b=w.alloc (.cells #[.slice a n c] 38):=by
 go_enter Tryz.func224,Tryz.ntmps224;go_wp2;go_returns;exact⟨rfl,rfl⟩
theorem pairs_any(a:Option Addr)(n c:Nat)(p:Int)(w:World) :
 Calls Tryz.prog 222 #[.slice a n c,p] w fun e b=>e = .returned (.func (.func 223) #[] #[.pointer (some ⟨w,0,none⟩),.pointer (some ⟨w.heap.size+1,0,none⟩)])∧
  b=(w.alloc (.cells #[.slice a n c] 38)).alloc (.cells #[p] 3):=by
 go_enter Tryz.func222,Tryz.ntmps222;go_wp2;go_returns;exact⟨rfl,rfl⟩
end Go.Proofs.YthhgkafloejjiaaGreat
namespace Go.Proofs.YthhgkafloejjiaaGreat
open Go.RowKit Go.Shelf
attribute [local go_sem] Oper.semAt_some
theorem Rd.keptBy{A B:World}{c:Option Nat}{a:Option Addr}{vals:List Value}(h:Rd A a vals)(g:A.grownBy B c)(f:∀r,c=some r→∃o:Obj,A.heap[r]? = some o∧o.isCells=false):Rd B a vals:=fun e=>by
 obtain⟨b,o,rfl,d⟩:=h e;exact⟨b,o,rfl,fun j v i=>cell_kept (d j v i) g f⟩
abbrev zrJ(m:Nat):={k:Nat // k<m}
theorem back_stops(n:Nat)(i c:Nat)(a:Option Addr)(cap:Nat)(xs:List Int)(j:xs.length≤1000000)(L:¬i=c)(G:∀b o,a=some ⟨b,o,none⟩→Bts xs≠ []→¬b=c)(w:World)
 (v:w.cell? ⟨i,0,none⟩=some (.slice a xs.length cap)) (H:Rd w a (Bts xs)) :
 SeqStopsK Fence.wide n Tryz.prog 225 #[.pointer (some ⟨i,0,none⟩)] (fun k:zrJ xs.length=>#[.int .i64 ((xs.length:Int)-1-k.1),.int .u8 (xs.getD (xs.length-1-k.1) 0)]) (KpO c)
  (fun u=>u.map Subtype.val=List.range xs.length) (fun s=>∃k,k≤xs.length∧s.map Subtype.val=List.range k) xs.length w:=fun l J E W t P O hY B=>by
 refine CallsIn.mono (back1_in n l i c a cap xs j L G (fun p W=>∃q,q.map Subtype.val=p∧J q W) (fun p W=>∃q,q.map Subtype.val=p∧E q W)
  (fun s x y N ⟨p,m,h⟩ j=> ?_) W ((t.cell (p:=⟨i,0,none⟩) (zE v)).trans v) (H.step t) ⟨[],rfl,B⟩) ?_
 ·obtain⟨C,M,K,z,D,I⟩:=hY p ⟨x,N⟩ y h (by rw[←m]at j;simpa using j);refine⟨C,M,K,z,D,I.mono ?_⟩;rintro e A (⟨f,d,g⟩|⟨f,d⟩)
  ·exact .inl ⟨f,⟨_,by simp[m],d⟩,g⟩
  ·exact .inr ⟨f,_,by simp[m],d⟩
 ·rintro e A ⟨f,⟨u,d,q,g,r⟩|⟨s,⟨k,d,g⟩,q,r,F⟩⟩
  ·exact⟨f,.inl ⟨q,g.trans d,r⟩⟩
  ·exact⟨f,.inr ⟨q,⟨k,d,r.trans g⟩,F⟩⟩
theorem pairs_seq(nn:Nat)(aI:3≤nn)(m f c:Nat)(b off:Nat)(cap:Nat)(xs:List Int)(p:Nat)(aE:xs.length≤1000000)(hp:p≤xs.length)(aJ:xs.length≤cap)(ab:¬b=c)(ai:¬m=c)(aq:¬f=c)(w:World)(aD:c<w.heap.size)
 (T:w.cell? ⟨m,0,none⟩=some (.slice (some ⟨b,off,none⟩) xs.length cap)) (Q:w.cell? ⟨f,0,none⟩=some (.int .i64 p)) (ac:Rd w (some ⟨b,off,none⟩) (Bts xs)) :
 SeqW Fence.wide nn Tryz.prog 223 #[.pointer (some ⟨m,0,none⟩),.pointer (some ⟨f,0,none⟩)] (fun k:zrJ p=>#[.int .u8 (xs.getD (p-1-k.1) 0),.int .u8 (xs.getD (xs.length-1-k.1) 0)]) c
  (fun a=>a.map Subtype.val=List.range p) (fun t=>∃k,k≤p∧t.map Subtype.val=List.range k) p w:=fun l J Jx W I C ag hY h0=>by
 have af:W.cell? ⟨m,0,none⟩=some (.slice (some ⟨b,off,none⟩) xs.length cap):=(I.cell (p:=⟨m,0,none⟩) (zE T)).trans T;have aa:W.cell? ⟨f,0,none⟩=some (.int .i64 p):=(I.cell (p:=⟨f,0,none⟩) (zE Q)).trans Q;have ae:=ac.step I;have hz:=I.size;have aA:m<W.heap.size:=zE af;have aw:f<W.heap.size:=zE aa;obtain⟨a,O⟩:∃a:List Int,xs.take p=a:=⟨_,rfl⟩;have ap:a.length=p:=by rw[←O,yJ];omega
 have ak:Rd W (some ⟨b,off,none⟩) (Bts a):=fun aB=>by
  obtain⟨b',o,e,M⟩:=ae (fun e=>aB (by rw[←O];have:=yG List.length e;rw[zaC]at this;have:xs = []:=List.length_eq_zero_iff.1 this;simp[this,Bts]));refine⟨b',o,e,fun j v hv=>M j v ?_⟩;have G:=(List.getElem?_eq_some_iff.1 hv).1;rw[zaC]at G;rw[←hv,←O];unfold Bts;rw[yI,yI,zbG,zQ om]
 clear T Q ac;refine callsIn_of_wp_marks Tryz.func223 rfl zT ?_ rfl;simp only[Tryz.ntmps223,zfX,zbL,List.length_nil,Nat.reduceAdd,Nat.reduceSub,Array.replicate_succ,Array.replicate_zero,List.push_toArray,List.append_toArray,lna,lca];gi_wp2_with fail
 refine⟨zT,fun _=>by omega,CallsIn.mono (callsIn_wide.2 (backward_any _ _ _ _)) ?_⟩;rintro e w2 ⟨rfl,rfl⟩;gi_wp2_with fail
 obtain⟨V,z,_,_,N⟩:=al2 W [Value.func (Fn.yield l) #[] #[]] [Value.slice (some ⟨b,off,none⟩) p cap] 252 38;have f1:Blk V W [.func (.yield l) #[] #[]] 252:=by rw[←z];exact(Blk.new W _ _).alloc _
 have f2:Blk V (W.heap.size+1) [.slice (some ⟨b,off,none⟩) p cap] 38:=by
  rw[←z];have h:=Blk.new (W.alloc (Obj.cells #[Value.func (Fn.yield l) #[] #[]] 252)) [.slice (some ⟨b,off,none⟩) p cap] 38;rwa[zY]at h
 have aF:V.heap.size=W.heap.size+2:=by rw[←z];simp
 have am:J [] V:=by rw[←z];exact C.alloc _ (C.alloc _ h0)
 rw[z];clear z;have aC:∀q,q<p→a.getD q 0=xs.getD q 0:=fun q hq=>by rw[←O,List.getD,List.getD,zbG,zQ hq]
 subst ap
 refine wpIn_rangeFunc_ownG rfl om (gf:=225) (lb:=#[.pointer (some ⟨W.heap.size+1,0,none⟩)]) rfl zT (enters_of Tryz.func225 zk rfl)
  (back_stops _ (W.heap.size+1) c (some ⟨b,off,none⟩) cap a om om (fun b' Z e _=>by cases e;exact ab) V (f2.cell 0) (ak.step N)) (fun h k=>h.trans k) (fun X S o Z _ hl ho _=>KpO.put Z hl ho) (zJ _ _) (fun _=>rfl)
  (fun t X=>J t X∧X.cell? ⟨W,0,none⟩=some (.func (.yield l) #[] #[])∧X.cell? ⟨m,0,none⟩=some (.slice (some ⟨b,off,none⟩) xs.length cap)∧X.cell? ⟨f,0,none⟩=some (.int .i64 (a.length:Int))∧Rd X (some ⟨b,off,none⟩) (Bts xs))
  (fun P t X=>P = .ret∧Jx t X)
  (fun s A B R u y n=>⟨C s A B R u.1 y (fun r e=>⟨by have:=(n r e).1;omega,(n r e).2⟩),cell_kept u.2.1 y (fun r e=>(n r e).2),cell_kept u.2.2.1 y (fun r e=>(n r e).2),cell_kept u.2.2.2.1 y (fun r e=>(n r e).2),u.2.2.2.2.keptBy y (fun r e=>(n r e).2)⟩)
  (fun P s A B R u y n=>⟨u.1,ag s A B R u.2 y (fun r e=>⟨by have:=(n r e).1;omega,(n r e).2⟩)⟩)
  ⟨am,f1.cell 0,(N.cell (p:=⟨m,0,none⟩) aA).trans af,(N.cell (p:=⟨f,0,none⟩) aw).trans aa,ae.step N⟩
  (fun x=>{tmps:=#[Value.func (Fn.yield l) #[] #[],Value.pointer (some {block:=m,off:=0}),
    Value.pointer (some {block:=f,off:=0}),Value.pointer (some {block:=W.heap.size,off:=0}),
    .int .i64 ((a.length:Int)-1-x.1),.int .u8 (a.getD (a.length-1-x.1) 0),Value.slice (some {block:=b,off:=off}) xs.length cap,Value.int IntKind.i64 (a.length:Int),
    Value.slice (some {block:=b,off:=off}) a.length cap,
    Value.func (Fn.func 225) #[] #[Value.pointer (some {block:=W.heap.size+1,off:=0})],.int .i64 ((a.length:Int)-1-x.1),.int .u8 (a.getD (a.length-1-x.1) 0),
    undef,undef,undef,undef,undef,undef,undef,undef,undef,undef,undef,undef,undef],defers:=[]}) ?assign ?body ?done ?stop
 case assign=>
  intro S x X K d;gi_wp2
  exact d
 case body=>
  rintro S t x X ⟨E,k1,k2,k3,k4⟩ aj;obtain⟨i,hi⟩:∃i:Nat,a.length-1-x.1=i:=⟨_,rfl⟩;have hx:=x.2;have ay:(a.length:Int)-1-x.1=(i:Int):=by omega
  have ad:=aC (a.length-1-x.1) om;have L:=hY (nn-1-1-1) t x X.drew (C _ X X.drew none E ⟨rfl,rfl,rfl,zF _,fun _ _ _=>rfl⟩ (fun r e=>by cases e)) aj;rw[ay];rw[hi]at ad L⊢;rw[ad];obtain⟨g,o,e2,M⟩:=ziY k4 (i:=i) om;cases e2;have G:=M (xs.length-1-x.1) om;obtain⟨xa,xb,ao,au⟩:=zz2 (xs.getD i 0) (xs.getD (xs.length-1-x.1) 0);obtain⟨j,al⟩:∃j:Nat,xs.length-1-x.1=j:=⟨_,rfl⟩;rw[au]at G L;rw[ao]at L⊢;rw[al]at G;have ar:(xs.length:Int)-a.length+i=(j:Int):=by omega
  have aH:j<xs.length:=by omega
  have hC:Cells X [(⟨W,0,none⟩,.func (.yield l) #[] #[]),(⟨m,0,none⟩,.slice (some ⟨b,off,none⟩) xs.length cap),(⟨f,0,none⟩,a.length),(⟨b,off+j,none⟩,.int .u8 xb)]:=⟨k1,k2,k3,G,zT⟩;have aK:X.drew.heap.size=X.heap.size:=rfl;have aG:IntKind.i64.wrap (IntKind.i64.wrap ((xs.length:Int)-(a.length:Int))+(i:Int))=(j:Int):=by
   rw[IntWalk.i64_in ((xs.length:Int)-(a.length:Int)) om,IntWalk.i64_in _ om];exact ar
  clear M hY;gi_wp2_with fail
  refine zrN 11 2 [(U,[U,U,U,U,U,U,U,U,U,U,U])] _ _ (Keeps X [(⟨W,0,none⟩,.func (.yield l) #[] #[]),(⟨m,0,none⟩,.slice (some ⟨b,off,none⟩) xs.length cap),(⟨f,0,none⟩,a.length),(⟨b,off+j,none⟩,.int .u8 xb)]) zk (zU 11 _).symm zk zk zk zk (Keeps.start hC) (fun Y Q4 F4 hY hF=> ?_);simp only[zvG];repeat refine mrd ?_
  refine mdn hF fun K d=> ?_;clear hF hY;obtain⟨fn,tmps,assign,body,hy,hR⟩:=L;gi_wp2
  refine⟨fun h=>(by cases h),(show RoundIn (Fence.wide.inRound S) _ _ _ _ _ _ _ _ _ from hR).mono ?_⟩;rintro e W3 (⟨rfl,an,F,ah⟩|⟨rfl,ax,F⟩)
  ·gi_wp2
   refine mok d ?_;clear d;gi_wp2
   have H:KpO c X W3:=⟨ah.1,ah.2⟩;exact⟨⟨F.size,fun k o hB hk _=>F.at k o om hk⟩,H,an,H.cell k1 by7,H.cell k2 ai,H.cell k3 aq,k4.kpo H (fun b' Z e _=>by cases e;exact ab)⟩
  ·gi_wp2
   refine mok d ?_;clear d;gi_wp2
   exact⟨⟨F.size,fun k o hB hk _=>F.at k o om hk⟩,rfl,ax⟩
 case done=>
  rintro D zs X hD az ⟨E,_⟩ d;gi_wp2
  refine⟨by simp,.inl ⟨_,_,rfl,run_takeDeferred d,?_⟩⟩;refine⟨.tuple #[],?_,⟨_,rfl⟩,.inl ⟨zs,az,C.putObj _ E om d rfl⟩⟩;simp[results,Tryz.f223,go_sem]
 case stop=>
  rintro D P t X hD av ⟨rfl,E⟩ d;gi_wp2
  refine⟨by simp,.inl ⟨_,_,rfl,run_takeDeferred d,?_⟩⟩;refine⟨.tuple #[],?_,⟨_,rfl⟩,.inr ⟨t,av,ag.putObj _ E om d rfl⟩⟩;simp[results,Tryz.f223,go_sem]
end Go.Proofs.YthhgkafloejjiaaGreat
namespace Go.Proofs.YthhgkafloejjiaaGreat
open Go.RowKit Go.Shelf
attribute [local go_sem] Oper.semAt_some
theorem zjP{m k:Nat}{a:List (zrJ m)}(h:a.map Subtype.val=List.range k):a.length=k:=by
 have:=yG List.length h;simpa using this
theorem zoB{m k j:Nat}{a:List (zrJ m)}(h:a.map Subtype.val=List.range k)(b:j<k):∃x∈a,x.1=j:=by
 have:j∈a.map Subtype.val:=by rw[h];exact List.mem_range.2 b
 obtain⟨x,c,e⟩:=List.mem_map.1 this;exact⟨x,c,e⟩
def PreOK(xs:List Int)(p:Nat)(pre:List (zrJ p)):Prop:=∀k∈pre,S12.eqAt xs p k.1=true
theorem PreOK.snoc{xs:List Int}{p:Nat}{b:List (zrJ p)}{x:zrJ p}(h:PreOK xs p b)(d:S12.eqAt xs p x.1=true):PreOK xs p (b ++ [x]):=fun k c=>by
 rcases List.mem_append.1 c with a|a
 ·exact h k a
 ·rw[List.mem_singleton.1 a];exact d
def StopAt(b:Nat)(xs:List Int)(p:Nat)(pre:List (zrJ p))(X:World):Prop:=
 ∃(pr:List (zrJ p)) (x:zrJ p),pre=pr ++ [x]∧X.cell? ⟨b,0,none⟩=some (.int .i64 (pr.length:Int))∧pr.length≤255∧PreOK xs p pr∧(S12.eqAt xs p x.1=false∨pr.length=255)
theorem StopAt.own{b:Nat}{xs:List Int}{p:Nat}{a:List (zrJ p)}{A B:World}{c:Option Nat}(h:StopAt b xs p a A)(j:A.grownBy B c)(i:∀r,c=some r→∃o:Obj,A.heap[r]? = some o∧o.isCells=false):StopAt b xs p a B:=by
 obtain⟨f,x,d,g,e⟩:=h;exact⟨f,x,d,cell_kept g j i,e⟩
theorem zjL(b off cap:Nat)(xs:List Int)(p:Nat)(hp:p≤xs.length)(af:xs.length≤1000000)(ak:xs.length≤cap)(ab:0<xs.length)(w:World)(R:Rd w (some ⟨b,off,none⟩) (Bts xs)) :
 Calls Tryz.prog 220 #[.slice (some ⟨b,off,none⟩) xs.length cap,p] w fun e w'=>e = .returned (.int .i64 (S12.rep xs p:Int))∧Below w w w':=by
 obtain⟨O,Q⟩:=zvJ (S12.rep xs p);rw[Q];have an:b<w.heap.size:=by
  obtain⟨b',o',e,ai⟩:=R.at (i:=0) (by rw[zaC];exact ab);cases e;exact zE (ai 0 (by rw[zaC];exact ab))
 refine(callsIn_wide (n:=9)).1 ?_;refine callsIn_of_wp_marks Tryz.func220 rfl zT ?_ rfl;simp only[Tryz.ntmps220,zfX,zbL,List.length_nil,Nat.reduceAdd,Nat.reduceSub,Array.replicate_succ,Array.replicate_zero,List.push_toArray,List.append_toArray,lna,lca];gi_wp2_with fail
 refine⟨zT,CallsIn.mono (callsIn_wide.2 (pairs_any _ _ _ _ _)) ?_⟩;rintro e w2 ⟨rfl,rfl⟩;gi_wp2_with fail
 obtain⟨V,g⟩:=zvJ (((w.alloc (Obj.cells #[Value.int IntKind.i64 0] 3)).alloc (Obj.cells #[Value.slice (some ⟨b,off,none⟩) xs.length cap] 38)).alloc (Obj.cells #[Value.int IntKind.i64 (p:Int)] 3));have ao:V.heap.size=w.heap.size+3:=by rw[←g];simp
 have Y:Below w w V:=by rw[←g];exact(((zJ _ _).alloc (zF _) _).alloc by1 _).alloc by7 _
 have U:Blk V w [.int .i64 0] 3:=by rw[←g];exact((Blk.new w _ _).alloc _).alloc _
 have f2:Blk V (w.heap.size+1) [.slice (some ⟨b,off,none⟩) xs.length cap] 38:=by
  rw[←g];have h:=(Blk.new (w.alloc (Obj.cells #[Value.int IntKind.i64 0] 3)) [.slice (some ⟨b,off,none⟩) xs.length cap] 38).alloc (Obj.cells #[Value.int IntKind.i64 (p:Int)] 3);rwa[zY]at h
 have f3:Blk V (w.heap.size+1+1) [p] 3:=by
  rw[←g];have h:=Blk.new ((w.alloc (Obj.cells #[Value.int IntKind.i64 0] 3)).alloc (Obj.cells #[Value.slice (some ⟨b,off,none⟩) xs.length cap] 38)) [p] 3;rwa[zY,zY]at h
 rw[g];clear g;have S:∀k:Nat,(S12.eqAt xs p k=true↔xs.getD (p-1-k) 0=xs.getD (xs.length-1-k) 0):=fun k=>by unfold S12.eqAt;simp
 have HE:=zC S;have L:p≤255→(∀k,k<p→S12.eqAt xs p k=true)→S12.rep xs p=p:=fun C t=>S12.rep_of om t (.inl om);have I:∀k,k<p→(∀j,j<k→S12.eqAt xs p j=true)→k≤255→(S12.eqAt xs p k=false∨k=255)→S12.rep xs p=k:=fun k h0 C t h3=>S12.rep_of om C (by rcases h3 with h|h;exact .inr h;exact .inl om);rw[Q]at L I;obtain⟨HD,HS⟩:=zh2 L I;clear S L I
 refine zoK rfl om (gf:=223) (lb:=#[.pointer (some ⟨w.heap.size+1,0,none⟩),.pointer (some ⟨w.heap.size+1+1,0,none⟩)]) rfl zT (enters_of Tryz.func223 zk rfl)
  (pairs_seq 8 om (w.heap.size+1) (w.heap.size+1+1) w.heap.size b off cap xs p af hp ak om om om V om (f2.cell 0) (f3.cell 0) (R.step Y)) (zJ _ _) (fun _=>rfl)
  (fun a X=>(X.cell? ⟨w,0,none⟩=some (.int .i64 (a.length:Int))∧X.frozen? ⟨w,0,none⟩=false∧a.length≤255∧PreOK xs p a)∧Below w w X)
  (fun F a X=>(F = .exit 0∧StopAt w.heap.size xs p a X)∧Below w w X)
  (OwnFrom.and (Own.from (fun s A B ac o z v=>⟨cell_kept o.1 z v,(frozen_kept o.1 z v).trans o.2.1,o.2.2⟩) _) (ownFrom_below (zF _) om))
  (fun F=>OwnFrom.and (Own.from (fun s A B ac o z v=>⟨o.1,o.2.own z v⟩) _) (ownFrom_below (zF _) om))
  ⟨⟨U.cell 0,U.free 0,by simp,fun k E=>by cases E⟩,Y⟩
  (fun x=>{tmps:=#[Value.slice (some {block:=b,off:=off}) xs.length cap,Value.int IntKind.i64 (p:Int),undef,undef,
    Value.int IntKind.i64 0,Value.pointer (some {block:=w.heap.size,off:=0}),.int .u8 (xs.getD (p-1-x.1) 0),.int .u8 (xs.getD (xs.length-1-x.1) 0),
    Value.slice (some {block:=b,off:=off}) xs.length cap,Value.int IntKind.i64 (p:Int),
    Value.func (Fn.func 223) #[]
     #[Value.pointer (some {block:=w.heap.size+1,off:=0}),
       Value.pointer (some {block:=w.heap.size+1+1,off:=0})],
    .int .u8 (xs.getD (p-1-x.1) 0),.int .u8 (xs.getD (xs.length-1-x.1) 0),undef,undef,undef,undef,undef,undef,undef,undef,undef,undef],defers:=[]}) ?assign ?body ?done ?stop
 case assign=>
  intro m l' x X K d;gi_wp2
  exact d
 case body=>
  rintro m l' a x X ⟨⟨l,T,u,c⟩,f⟩ am;have q:=HE.out x.1;obtain⟨N,Z,ad,ag⟩:=zz2 (xs.getD (p-1-x.1) 0) (xs.getD (xs.length-1-x.1) 0);rw[ad,ag]at q⊢;have ap:=zE l;by_cases H:N=Z
  ·subst H;have G:S12.eqAt xs p x.1=true:=q.2 rfl;by_cases ae:a.length=255
   ·have P:((a.length:Int)==255)=true:=by simp;omega
    have r:StopAt w.heap.size xs p (a ++ [x]) X:=⟨a,x,rfl,l,u,c,.inr ae⟩;clear q G c;gi_wp2
    exact⟨SameFrom.refl _ _,⟨rfl,r⟩,f⟩
   ·have P:((a.length:Int)==255)=false:=by simp;omega
    have al:=c.snoc G;clear q G c;gi_wp2
    refine⟨SameFrom.setCell _ _ om,KpO.setCell _ _,⟨⟨?_,?_,by simp;omega,al⟩,f.setCell (p:=⟨w,0,none⟩) by1 _⟩⟩
    ·rw[World.cell?_setCell_same' _ _ _ (by rw[l];rfl)];simp
    ·rw[World.frozen?_setCell];exact T
  ·have aj:S12.eqAt xs p x.1=false:=by cases h:S12.eqAt xs p x.1;rfl;exact absurd (q.1 h) H
   have P:(N != Z)=true:=by simp[H]
   have r:StopAt w.heap.size xs p (a ++ [x]) X:=⟨a,x,rfl,l,u,c,.inl aj⟩;clear q c;gi_wp2
   exact⟨SameFrom.refl _ _,⟨rfl,r⟩,f⟩
 case done=>
  rintro D zs X hD aa ⟨⟨l,T,u,c⟩,f⟩ d;have M:=zjP aa;obtain rfl:O=p:=HD.out om (fun k E=>by obtain⟨x,hx,rfl⟩:=zoB aa E;exact c x hx);rw[M]at l;gi_wp2
  refine⟨by simp,.inl ⟨_,_,rfl,run_takeDeferred d,?_⟩⟩;refine⟨_,?_,rfl,f.trans (belowK_b (w:=w) (zF _) X D _ _ om d rfl rfl)⟩;simp[results,Tryz.f220,go_sem]
 case stop=>
  rintro D F a X hD ⟨k,E,J⟩ ⟨⟨rfl,r⟩,f⟩ d;obtain⟨W,x,rfl,l,u,c,k5⟩:=r;have M:=zjP J;obtain rfl:O=W.length:=by
   have ah:k=W.length+1:=by simpa using M.symm
   subst ah;rw[List.range_succ,List.map_append,List.map_singleton]at J;obtain⟨C,t⟩:=List.append_inj' J rfl;simp at t;refine HS.out _ om (fun j hj=> ?_) u (by rw[←t];exact k5.imp id (fun h=>by omega));obtain⟨y,hy,rfl⟩:=zoB C hj;exact c y hy
  gi_wp2
  refine⟨by simp,.inl ⟨_,_,rfl,run_takeDeferred d,?_⟩⟩;refine⟨_,?_,rfl,f.trans (belowK_b (w:=w) (zF _) X D _ _ om d rfl rfl)⟩;simp[results,Tryz.f220,go_sem]
