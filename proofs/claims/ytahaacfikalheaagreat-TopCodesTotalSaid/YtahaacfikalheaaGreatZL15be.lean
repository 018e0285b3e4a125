/- A part of the proof of L15. No condition. -/
import Derived.Lib.MinMax
import Derived.Sort.BigQuietIn
import Derived.Sort.QuietIn
import Derived.Test.YtahaacfikalheaaGreatZL15ag
import Derived.Test.YtahaacfikalheaaGreatZL15ak
import Derived.Test.YtahaacfikalheaaGreatZL15az
set_option linter.all false
set_option maxRecDepth 100000
set_option maxHeartbeats 1000000
namespace Go.Proofs.YtahaacfikalheaaGreat
open Go.RowKit Go.Shelf
attribute [local go_sem] Oper.semAt_some
theorem zqY{w:World}{a:Option Addr}{l:List Int}(h:Rd w a (Bts l)){i:Nat}(hi:i<l.length):∃b o,a=some ⟨b,o,none⟩∧∀j,j<l.length→w.cell? ⟨b,o+j,none⟩=some (.int .u8 (l.getD j 0)):=by
 obtain⟨b,o,rfl,hcs⟩:=h.at (i:=i) (by rw[zbK];exact hi);refine⟨b,o,rfl,fun j hj=> ?_⟩;rw[hcs j (by rw[zbK];exact hj),S12.getD_in _ _ hj];simp[Bts]
theorem back1_in(n:Nat)(l Bs c:Nat)(a:Option Addr)(cap:Nat)(xs:List Int)(hlen:xs.length≤1000000)(hbs:¬Bs=c)(ha:∀b o,a=some ⟨b,o,none⟩→Bts xs≠ []→¬b=c)(J Jx:List Nat→World→Prop)
 (hY:∀pre x W,x<xs.length→J pre W→pre.length<xs.length→YieldAt Fence.wide (n-1) Tryz.prog l #[.int .i64 ((xs.length:Int)-1-x),.int .u8 (xs.getD (xs.length-1-x) 0)] W fun e W'=>
   (e = .returned (.bool true)∧J (pre ++ [x]) W'∧KpO c W W')∨(e = .returned (.bool false)∧Jx (pre ++ [x]) W'))
 (W:World) (hBs:W.cell? ⟨Bs,0,none⟩=some (.slice a xs.length cap)) (hrd:Rd W a (Bts xs)) (h0:J [] W) :
 CallsIn Fence.wide n Tryz.prog 186 #[.func (.yield l) #[] #[],.pointer (some ⟨Bs,0,none⟩)] W fun e W'=>(∃v,e = .returned v)∧
  ((∃ys,ys=List.range xs.length∧J ys W')∨(∃pre,(∃k,k≤xs.length∧pre=List.range k)∧Jx pre W')):=by
 refine callsIn_of_wp Tryz.func186 rfl yF ?_ rfl;simp only[Tryz.ntmps186,List.size_toArray,yO,List.length_nil,Nat.reduceAdd,Nat.reduceSub,Array.replicate_succ,Array.replicate_zero,List.push_toArray,List.append_toArray,lna,lca];gi_wp2
 gi_loopw [3] (fun i wr=>∃k:Nat,k≤xs.length∧i = .int .i64 ((xs.length:Int)-1-k)∧J (List.range k) wr∧KpO c W wr)
  (fun i _=>(intOf i+1).toNat)
 case atStart=>exact⟨0,zcA _,by go_num,h0,KpO.refl _ _⟩
 case round=>
  obtain⟨k,hk,rfl,hJs,hnx⟩:=hrel;have hcs:wr.cell? ⟨Bs,0,none⟩=some (.slice a xs.length cap):=hnx.cell hBs hbs;by_cases hlt:k<xs.length
  ·obtain⟨g,o,rfl,hcc⟩:=zqY (hrd.kpo hnx ha) (i:=k) hlt;have hc:=hcc (xs.length-1-k) (by omega);obtain⟨i,hi⟩:∃i,xs.length-1-k=i:=⟨_,rfl⟩;have hii:(xs.length:Int)-1-k=(i:Int):=by omega
   rw[hii];have hY1:=hY _ k wr hlt hJs (by rw[List.length_range];exact hlt);rw[hii,hi]at hY1;rw[hi]at hc;obtain⟨xv,hxv⟩:∃v,xs.getD i 0=v:=⟨_,rfl⟩;rw[hxv]at hc hY1;obtain⟨fn,tmps,assign,body,hy,hR⟩:=hY1;gi_wp2
   refine⟨fun h=>(by cases h),hR.mono ?_⟩;rintro e W3 (⟨rfl,hJ3,hk3⟩|⟨rfl,hJx3⟩)
   ·gi_wp2
    go_roundw
    case rel=>exact⟨k+1,by omega,by simp;try omega,by rw[List.range_succ];exact hJ3,hnx.trans hk3⟩
    case measure=>simp[intOf];try omega
   ·gi_wp2
    refine bodyPost_ret (results_none rfl _ _ _) rfl ?_;exact⟨⟨_,rfl⟩,.inr ⟨_,⟨k+1,by omega,List.range_succ.symm⟩,hJx3⟩⟩
  ·obtain rfl:k=xs.length:=by omega
   gi_wp2
   go_end0
   exact⟨⟨_,rfl⟩,.inl ⟨_,rfl,hJs⟩⟩
theorem backward_any(a:Option Addr)(n c:Nat)(w:World) :
 Calls Tryz.prog 185 #[.slice a n c] w fun e w'=>e = .returned (.func (.func 186) #[] #[.pointer (some ⟨w.heap.size,0,none⟩)])∧w'=w.alloc (.cells #[.slice a n c] 24):=by
 go_enter Tryz.func185,Tryz.ntmps185;go_wp2;go_returns;exact⟨rfl,rfl⟩
theorem pairs_any(a:Option Addr)(n c:Nat)(p:Int)(w:World) :
 Calls Tryz.prog 183 #[.slice a n c,.int .i64 p] w fun e w'=>e = .returned (.func (.func 184) #[] #[.pointer (some ⟨w.heap.size,0,none⟩),.pointer (some ⟨w.heap.size+1,0,none⟩)])∧
  w'=(w.alloc (.cells #[.slice a n c] 24)).alloc (.cells #[.int .i64 p] 3):=by
 go_enter Tryz.func183,Tryz.ntmps183;go_wp2;go_returns;exact⟨rfl,rfl⟩
end Go.Proofs.YtahaacfikalheaaGreat
namespace Go.Proofs.YtahaacfikalheaaGreat
open Go.RowKit Go.Shelf
attribute [local go_sem] Oper.semAt_some
theorem Rd.keptBy{A B:World}{row:Option Nat}{a:Option Addr}{vals:List Value}(h:Rd A a vals)(hg:A.grownBy B row)(hr:∀r,row=some r→∃o:Obj,A.heap[r]? = some o∧o.isCells=false):Rd B a vals:=fun hne=>by
 obtain⟨b,o,rfl,hcs⟩:=h hne;exact⟨b,o,rfl,fun j v hv=>cell_kept (hcs j v hv) hg hr⟩
abbrev zqX(m:Nat):={k:Nat // k<m}
theorem back_stops(n:Nat)(Bs c:Nat)(a:Option Addr)(cap:Nat)(xs:List Int)(hlen:xs.length≤1000000)(hbs:¬Bs=c)(ha:∀b o,a=some ⟨b,o,none⟩→Bts xs≠ []→¬b=c)(w:World)
 (hBs:w.cell? ⟨Bs,0,none⟩=some (.slice a xs.length cap)) (hrd:Rd w a (Bts xs)) :
 SeqStopsK Fence.wide n Tryz.prog 186 #[.pointer (some ⟨Bs,0,none⟩)] (fun k:zqX xs.length=>#[.int .i64 ((xs.length:Int)-1-k.1),.int .u8 (xs.getD (xs.length-1-k.1) 0)]) (KpO c)
  (fun ys=>ys.map Subtype.val=List.range xs.length) (fun pre=>∃k,k≤xs.length∧pre.map Subtype.val=List.range k) xs.length w:=fun l J Jx W hW hJ hJx hY h0=>by
 refine CallsIn.mono (back1_in n l Bs c a cap xs hlen hbs ha (fun p W=>∃q,q.map Subtype.val=p∧J q W) (fun p W=>∃q,q.map Subtype.val=p∧Jx q W)
  (fun pre x W1 hx ⟨p,hp,h⟩ hlen=> ?_) W ((hW.cell (p:=⟨Bs,0,none⟩) (zL hBs)).trans hBs) (hrd.step hW) ⟨[],rfl,h0⟩) ?_
 ·obtain⟨fn,tmps,assign,body,hy,hR⟩:=hY p ⟨x,hx⟩ W1 h (by rw[←hp]at hlen;simpa using hlen);refine⟨fn,tmps,assign,body,hy,hR.mono ?_⟩;rintro e W' (⟨h1,h2,h3⟩|⟨h1,h2⟩)
  ·exact .inl ⟨h1,⟨_,by simp[hp],h2⟩,h3⟩
  ·exact .inr ⟨h1,_,by simp[hp],h2⟩
 ·rintro e W' ⟨h1,⟨ys,h2,q,h3,h4⟩|⟨pre,⟨k,h2,h3⟩,q,h4,h5⟩⟩
  ·exact⟨h1,.inl ⟨q,h3.trans h2,h4⟩⟩
  ·exact⟨h1,.inr ⟨q,⟨k,h2,h4.trans h3⟩,h5⟩⟩
theorem pairs_seq(nn:Nat)(hnn:3≤nn)(Ba Bp c:Nat)(b off:Nat)(cap:Nat)(xs:List Int)(p:Nat)(hlen:xs.length≤1000000)(hp:p≤xs.length)(hcap:xs.length≤cap)(hbc:¬b=c)(hBa:¬Ba=c)(hBp:¬Bp=c)(w:World)(hcw:c<w.heap.size)
 (hca:w.cell? ⟨Ba,0,none⟩=some (.slice (some ⟨b,off,none⟩) xs.length cap)) (hcp:w.cell? ⟨Bp,0,none⟩=some (.int .i64 p)) (hrd:Rd w (some ⟨b,off,none⟩) (Bts xs)) :
 SeqW Fence.wide nn Tryz.prog 184 #[.pointer (some ⟨Ba,0,none⟩),.pointer (some ⟨Bp,0,none⟩)] (fun k:zqX p=>#[.int .u8 (xs.getD (p-1-k.1) 0),.int .u8 (xs.getD (xs.length-1-k.1) 0)]) c
  (fun ys=>ys.map Subtype.val=List.range p) (fun pre=>∃k,k≤p∧pre.map Subtype.val=List.range k) p w:=fun l J Jx W hW hJ hJx hY h0=>by
 have hca':W.cell? ⟨Ba,0,none⟩=some (.slice (some ⟨b,off,none⟩) xs.length cap):=(hW.cell (p:=⟨Ba,0,none⟩) (zL hca)).trans hca;have hcp':W.cell? ⟨Bp,0,none⟩=some (.int .i64 p):=(hW.cell (p:=⟨Bp,0,none⟩) (zL hcp)).trans hcp;have hrd':=hrd.step hW;have hz:=hW.size;have hl1:Ba<W.heap.size:=zL hca';have hl2:Bp<W.heap.size:=zL hcp';obtain⟨ys,hys⟩:∃ys:List Int,xs.take p=ys:=⟨_,rfl⟩;have hyl:ys.length=p:=by rw[←hys,yJ];omega
 have hrdy:Rd W (some ⟨b,off,none⟩) (Bts ys):=fun hne=>by
  obtain⟨b',o,e,hcc⟩:=hrd' (fun e=>hne (by rw[←hys];have:=yS List.length e;rw[zbK]at this;have:xs = []:=List.length_eq_zero_iff.1 this;simp[this,Bts]));refine⟨b',o,e,fun j v hv=>hcc j v ?_⟩;have hj:=(List.getElem?_eq_some_iff.1 hv).1;rw[zbK]at hj;rw[←hv,←hys];unfold Bts;rw[zaG,zaG,zbG,zO (by omega)]
 clear hca hcp hrd;refine callsIn_of_wp_marks Tryz.func184 rfl yF ?_ rfl;simp only[Tryz.ntmps184,List.size_toArray,yO,List.length_nil,Nat.reduceAdd,Nat.reduceSub,Array.replicate_succ,Array.replicate_zero,List.push_toArray,List.append_toArray,lna,lca];gi_wp2_with fail
 refine⟨yF,fun _=>by omega,CallsIn.mono (callsIn_wide.2 (backward_any _ _ _ _)) ?_⟩;rintro e w2 ⟨rfl,rfl⟩;gi_wp2_with fail
 obtain⟨V,hV⟩:∃V,(W.alloc (Obj.cells #[Value.func (Fn.yield l) #[] #[]] 239)).alloc (Obj.cells #[Value.slice (some ⟨b,off,none⟩) p cap] 24)=V:=⟨_,rfl⟩;have hVb:Below W.heap.size W V:=by rw[←hV];exact((zF _ _).alloc (zD _) _).alloc (by simp) _
 have f1:Blk V W.heap.size [.func (.yield l) #[] #[]] 239:=by rw[←hV];exact(Blk.new W _ _).alloc _
 have f2:Blk V (W.heap.size+1) [.slice (some ⟨b,off,none⟩) p cap] 24:=by
  rw[←hV];have h:=Blk.new (W.alloc (Obj.cells #[Value.func (Fn.yield l) #[] #[]] 239)) [.slice (some ⟨b,off,none⟩) p cap] 24;rwa[zV]at h
 have hVs:V.heap.size=W.heap.size+2:=by rw[←hV];simp
 have hJV:J [] V:=by rw[←hV];exact hJ.alloc _ (hJ.alloc _ h0)
 rw[hV];clear hV;have hfl:∀q,q<p→ys.getD q 0=xs.getD q 0:=fun q hq=>by rw[←hys,List.getD,List.getD,zbG,zO hq]
 subst hyl
 refine wpIn_rangeFunc_ownG rfl (by omega) (gf:=186) (lb:=#[.pointer (some ⟨W.heap.size+1,0,none⟩)]) rfl yF (enters_of Tryz.func186 (by kernel_rfl) rfl)
  (back_stops _ (W.heap.size+1) c (some ⟨b,off,none⟩) cap ys (by omega) (by omega) (fun b' o' e _=>by cases e;exact hbc) V (f2.cell 0) (hrdy.step hVb)) (fun h k=>h.trans k) (fun X l' o o' _ hl ho _=>KpO.put o' hl ho) (zF _ _) (fun _=>rfl)
  (fun pre X=>J pre X∧X.cell? ⟨W.heap.size,0,none⟩=some (.func (.yield l) #[] #[])∧X.cell? ⟨Ba,0,none⟩=some (.slice (some ⟨b,off,none⟩) xs.length cap)∧X.cell? ⟨Bp,0,none⟩=some (.int .i64 (ys.length:Int))∧Rd X (some ⟨b,off,none⟩) (Bts xs))
  (fun cd pre X=>cd = .ret∧Jx pre X)
  (fun s A B row hs hg hr=>⟨hJ s A B row hs.1 hg (fun r e=>⟨by have:=(hr r e).1;omega,(hr r e).2⟩),cell_kept hs.2.1 hg (fun r e=>(hr r e).2),cell_kept hs.2.2.1 hg (fun r e=>(hr r e).2),cell_kept hs.2.2.2.1 hg (fun r e=>(hr r e).2),hs.2.2.2.2.keptBy hg (fun r e=>(hr r e).2)⟩)
  (fun cd s A B row hs hg hr=>⟨hs.1,hJx s A B row hs.2 hg (fun r e=>⟨by have:=(hr r e).1;omega,(hr r e).2⟩)⟩)
  ⟨hJV,f1.cell 0,(hVb.cell (p:=⟨Ba,0,none⟩) hl1).trans hca',(hVb.cell (p:=⟨Bp,0,none⟩) hl2).trans hcp',hrd'.step hVb⟩
  (fun x=>{tmps:=#[Value.func (Fn.yield l) #[] #[],Value.pointer (some {block:=Ba,off:=0}),
    Value.pointer (some {block:=Bp,off:=0}),Value.pointer (some {block:=W.heap.size,off:=0}),
    .int .i64 ((ys.length:Int)-1-x.1),.int .u8 (ys.getD (ys.length-1-x.1) 0),Value.slice (some {block:=b,off:=off}) xs.length cap,Value.int IntKind.i64 (ys.length:Int),
    Value.slice (some {block:=b,off:=off}) ys.length cap,
    Value.func (Fn.func 186) #[] #[Value.pointer (some {block:=W.heap.size+1,off:=0})],.int .i64 ((ys.length:Int)-1-x.1),.int .u8 (ys.getD (ys.length-1-x.1) 0),
    undef,undef,undef,undef,undef,undef,undef,undef,undef,undef,undef,undef,undef],defers:=[]}) ?assign ?body ?done ?stop
 case assign=>
  intro l' x X K hK;gi_wp2
  exact hK
 case body=>
  rintro l' pre x X ⟨hJ1,k1,k2,k3,k4⟩ hlt;obtain⟨i,hi⟩:∃i:Nat,ys.length-1-x.1=i:=⟨_,rfl⟩;have hx:=x.2;have hii:(ys.length:Int)-1-x.1=(i:Int):=by omega
  have hff:=hfl (ys.length-1-x.1) (by omega);have hY1:=hY (nn-1-1-1) pre x X.drew (hJ _ X X.drew none hJ1 ⟨rfl,rfl,rfl,zD _,fun _ _ _=>rfl⟩ (fun r e=>by cases e)) hlt;rw[hii];rw[hi]at hff hY1⊢;rw[hff];obtain⟨g,o,e2,hcc⟩:=zqY k4 (i:=i) (by omega);cases e2;have hj:=hcc (xs.length-1-x.1) (by omega);obtain⟨xa,hxa⟩:∃v,xs.getD i 0=v:=⟨_,rfl⟩;obtain⟨xb,hxb⟩:∃v,xs.getD (xs.length-1-x.1) 0=v:=⟨_,rfl⟩;obtain⟨j,hjj⟩:∃j:Nat,xs.length-1-x.1=j:=⟨_,rfl⟩;rw[hxb]at hj hY1;rw[hxa]at hY1⊢;rw[hjj]at hj;have hj2:(xs.length:Int)-ys.length+i=(j:Int):=by omega
  have hj3:j<xs.length:=by omega
  have hC:Cells X [(⟨W.heap.size,0,none⟩,.func (.yield l) #[] #[]),(⟨Ba,0,none⟩,.slice (some ⟨b,off,none⟩) xs.length cap),(⟨Bp,0,none⟩,.int .i64 (ys.length:Int)),(⟨b,off+j,none⟩,.int .u8 xb)]:=⟨k1,k2,k3,hj,yF⟩;have hdw:X.drew.heap.size=X.heap.size:=rfl;have hwr:IntKind.i64.wrap (IntKind.i64.wrap ((xs.length:Int)-(ys.length:Int))+(i:Int))=(j:Int):=by
   rw[IntWalk.i64_in ((xs.length:Int)-(ys.length:Int)) (by omega),IntWalk.i64_in _ (by omega)];exact hj2
  clear hcc hY;gi_wp2_with fail
  refine zqZ 11 2 [(U,[U,U,U,U,U,U,U,U,U,U,U])] _ _ (Keeps X [(⟨W.heap.size,0,none⟩,.func (.yield l) #[] #[]),(⟨Ba,0,none⟩,.slice (some ⟨b,off,none⟩) xs.length cap),(⟨Bp,0,none⟩,.int .i64 (ys.length:Int)),(⟨b,off+j,none⟩,.int .u8 xb)]) (by kernel_rfl) (yB 11 _).symm (by kernel_rfl) (by kernel_rfl) (by kernel_rfl) (by kernel_rfl) (Keeps.start hC) (fun Y Q4 F4 hY hF=> ?_);simp only[zuJ]
  repeat
   apply zJ (by rw[hY];rfl)
   ·intro w2 hS2;(try simp only[Keeps,Cells]at hS2);go_simp;with_reducible rfl
   simp only[zuI]
  refine yE (hF.out _ _ (fun K hK=> ?_));clear hF hY;obtain⟨fn,tmps,assign,body,hy,hR⟩:=hY1;gi_wp2
  refine⟨fun h=>(by cases h),(show RoundIn (Fence.wide.inRound l') _ _ _ _ _ _ _ _ _ from hR).mono ?_⟩;rintro e W3 (⟨rfl,hJ3,hs3,hk3⟩|⟨rfl,hJx3,hs3⟩)
  ·gi_wp2
   refine OnlyK.mk (hK.out _ _ ?_);clear hK;gi_wp2
   have hk4:KpO c X W3:=⟨hk3.1,hk3.2⟩;exact⟨⟨hs3.size,fun k o hB hk _=>hs3.at k o (by omega) hk⟩,hk4,hJ3,hk4.cell k1 (by simp;omega),hk4.cell k2 hBa,hk4.cell k3 hBp,k4.kpo hk4 (fun b' o' e _=>by cases e;exact hbc)⟩
  ·gi_wp2
   refine OnlyK.mk (hK.out _ _ ?_);clear hK;gi_wp2
   exact⟨⟨hs3.size,fun k o hB hk _=>hs3.at k o (by omega) hk⟩,rfl,hJx3⟩
 case done=>
  rintro D zs X hD hzs ⟨hJ1,_⟩ hK;gi_wp2
  refine⟨by simp,.inl ⟨_,_,rfl,run_takeDeferred hK,?_⟩⟩;refine⟨.tuple #[],?_,⟨_,rfl⟩,.inl ⟨zs,hzs,hJ.putObj _ hJ1 (by omega) hK rfl⟩⟩;simp[results,Tryz.f184,go_sem]
 case stop=>
  rintro D cd pre X hD hpre ⟨rfl,hJ1⟩ hK;gi_wp2
  refine⟨by simp,.inl ⟨_,_,rfl,run_takeDeferred hK,?_⟩⟩;refine⟨.tuple #[],?_,⟨_,rfl⟩,.inr ⟨pre,hpre,hJx.putObj _ hJ1 (by omega) hK rfl⟩⟩;simp[results,Tryz.f184,go_sem]
end Go.Proofs.YtahaacfikalheaaGreat
namespace Go.Proofs.YtahaacfikalheaaGreat
open Go.RowKit Go.Shelf
attribute [local go_sem] Oper.semAt_some
theorem ziX{m k:Nat}{pre:List (zqX m)}(h:pre.map Subtype.val=List.range k):pre.length=k:=by
 have:=yS List.length h;simpa using this
theorem znH{m k j:Nat}{pre:List (zqX m)}(h:pre.map Subtype.val=List.range k)(hj:j<k):∃x∈pre,x.1=j:=by
 have:j∈pre.map Subtype.val:=by rw[h];exact List.mem_range.2 hj
 obtain⟨x,hx,e⟩:=List.mem_map.1 this;exact⟨x,hx,e⟩
def PreOK(xs:List Int)(p:Nat)(pre:List (zqX p)):Prop:=∀k∈pre,S12.eqAt xs p k.1=true
theorem PreOK.snoc{xs:List Int}{p:Nat}{pre:List (zqX p)}{x:zqX p}(h:PreOK xs p pre)(hx:S12.eqAt xs p x.1=true):PreOK xs p (pre ++ [x]):=fun k hk=>by
 rcases List.mem_append.1 hk with h'|h'
 ·exact h k h'
 ·rw[List.mem_singleton.1 h'];exact hx
def StopAt(b:Nat)(xs:List Int)(p:Nat)(pre:List (zqX p))(X:World):Prop:=
 ∃(pr:List (zqX p)) (x:zqX p),pre=pr ++ [x]∧X.cell? ⟨b,0,none⟩=some (.int .i64 (pr.length:Int))∧pr.length≤255∧PreOK xs p pr∧(S12.eqAt xs p x.1=false∨pr.length=255)
theorem StopAt.own{b:Nat}{xs:List Int}{p:Nat}{pre:List (zqX p)}{A B:World}{row:Option Nat}(h:StopAt b xs p pre A)(hg:A.grownBy B row)(hr:∀r,row=some r→∃o:Obj,A.heap[r]? = some o∧o.isCells=false):StopAt b xs p pre B:=by
 obtain⟨pr,x,h2,h3,h4⟩:=h;exact⟨pr,x,h2,cell_kept h3 hg hr,h4⟩
theorem ziV(b off cap:Nat)(xs:List Int)(p:Nat)(hp:p≤xs.length)(hlen:xs.length≤1000000)(hcap:xs.length≤cap)(hne:0<xs.length)(w:World)(hrd:Rd w (some ⟨b,off,none⟩) (Bts xs)) :
 Calls Tryz.prog 181 #[.slice (some ⟨b,off,none⟩) xs.length cap,.int .i64 (p:Int)] w fun e w'=>e = .returned (.int .i64 (S12.rep xs p:Int))∧Below w.heap.size w w':=by
 obtain⟨rp,hrp⟩:∃r,S12.rep xs p=r:=⟨_,rfl⟩;rw[hrp];have hbw:b<w.heap.size:=by
  obtain⟨b',o',e,hcc⟩:=hrd.at (i:=0) (by rw[zbK];exact hne);cases e;exact zL (hcc 0 (by rw[zbK];exact hne))
 refine(callsIn_wide (n:=9)).1 ?_;refine callsIn_of_wp_marks Tryz.func181 rfl yF ?_ rfl;simp only[Tryz.ntmps181,List.size_toArray,yO,List.length_nil,Nat.reduceAdd,Nat.reduceSub,Array.replicate_succ,Array.replicate_zero,List.push_toArray,List.append_toArray,lna,lca];gi_wp2_with fail
 refine⟨yF,CallsIn.mono (callsIn_wide.2 (pairs_any _ _ _ _ _)) ?_⟩;rintro e w2 ⟨rfl,rfl⟩;gi_wp2_with fail
 obtain⟨V,hV⟩:∃V,((w.alloc (Obj.cells #[Value.int IntKind.i64 0] 3)).alloc (Obj.cells #[Value.slice (some ⟨b,off,none⟩) xs.length cap] 24)).alloc (Obj.cells #[Value.int IntKind.i64 (p:Int)] 3)=V:=⟨_,rfl⟩;have hVs:V.heap.size=w.heap.size+3:=by rw[←hV];simp
 have hVb:Below w.heap.size w V:=by rw[←hV];exact(((zF _ _).alloc (zD _) _).alloc (by simp) _).alloc (by simp;omega) _
 have f1:Blk V w.heap.size [.int .i64 0] 3:=by rw[←hV];exact((Blk.new w _ _).alloc _).alloc _
 have f2:Blk V (w.heap.size+1) [.slice (some ⟨b,off,none⟩) xs.length cap] 24:=by
  rw[←hV];have h:=(Blk.new (w.alloc (Obj.cells #[Value.int IntKind.i64 0] 3)) [.slice (some ⟨b,off,none⟩) xs.length cap] 24).alloc (Obj.cells #[Value.int IntKind.i64 (p:Int)] 3);rwa[zV]at h
 have f3:Blk V (w.heap.size+1+1) [.int .i64 (p:Int)] 3:=by
  rw[←hV];have h:=Blk.new ((w.alloc (Obj.cells #[Value.int IntKind.i64 0] 3)).alloc (Obj.cells #[Value.slice (some ⟨b,off,none⟩) xs.length cap] 24)) [.int .i64 (p:Int)] 3;rwa[zV,zV]at h
 rw[hV];clear hV;have hEq:∀k:Nat,(S12.eqAt xs p k=true↔xs.getD (p-1-k) 0=xs.getD (xs.length-1-k) 0):=fun k=>by unfold S12.eqAt;simp
 have HE:=zB hEq;have hDone:p≤255→(∀k,k<p→S12.eqAt xs p k=true)→S12.rep xs p=p:=fun h1 h2=>S12.rep_of (by omega) h2 (.inl (by omega));have hStop:∀k,k<p→(∀j,j<k→S12.eqAt xs p j=true)→k≤255→(S12.eqAt xs p k=false∨k=255)→S12.rep xs p=k:=fun k h0 h1 h2 h3=>S12.rep_of (by omega) h1 (by rcases h3 with h|h;exact .inr h;exact .inl (by omega));rw[hrp]at hDone hStop;have HD:=zB hDone;have HS:=zB hStop;clear hEq hDone hStop
 refine znO rfl (by omega) (gf:=184) (lb:=#[.pointer (some ⟨w.heap.size+1,0,none⟩),.pointer (some ⟨w.heap.size+1+1,0,none⟩)]) rfl yF (enters_of Tryz.func184 (by kernel_rfl) rfl)
  (pairs_seq 8 (by omega) (w.heap.size+1) (w.heap.size+1+1) w.heap.size b off cap xs p hlen hp hcap (by omega) (by omega) (by omega) V (by omega) (f2.cell 0) (f3.cell 0) (hrd.step hVb)) (zF _ _) (fun _=>rfl)
  (fun pre X=>(X.cell? ⟨w.heap.size,0,none⟩=some (.int .i64 (pre.length:Int))∧X.frozen? ⟨w.heap.size,0,none⟩=false∧pre.length≤255∧PreOK xs p pre)∧Below w.heap.size w X)
  (fun cd pre X=>(cd = .exit 0∧StopAt w.heap.size xs p pre X)∧Below w.heap.size w X)
  (OwnFrom.and (Own.from (fun s A B row hs hg hr=>⟨cell_kept hs.1 hg hr,(frozen_kept hs.1 hg hr).trans hs.2.1,hs.2.2⟩) _) (ownFrom_below (zD _) (by omega)))
  (fun cd=>OwnFrom.and (Own.from (fun s A B row hs hg hr=>⟨hs.1,hs.2.own hg hr⟩) _) (ownFrom_below (zD _) (by omega)))
  ⟨⟨f1.cell 0,f1.free 0,by simp,fun k hk=>by cases hk⟩,hVb⟩
  (fun x=>{tmps:=#[Value.slice (some {block:=b,off:=off}) xs.length cap,Value.int IntKind.i64 (p:Int),undef,undef,
    Value.int IntKind.i64 0,Value.pointer (some {block:=w.heap.size,off:=0}),.int .u8 (xs.getD (p-1-x.1) 0),.int .u8 (xs.getD (xs.length-1-x.1) 0),
    Value.slice (some {block:=b,off:=off}) xs.length cap,Value.int IntKind.i64 (p:Int),
    Value.func (Fn.func 184) #[]
     #[Value.pointer (some {block:=w.heap.size+1,off:=0}),
       Value.pointer (some {block:=w.heap.size+1+1,off:=0})],
    .int .u8 (xs.getD (p-1-x.1) 0),.int .u8 (xs.getD (xs.length-1-x.1) 0),undef,undef,undef,undef,undef,undef,undef,undef,undef,undef],defers:=[]}) ?assign ?body ?done ?stop
 case assign=>
  intro m l' x X K hK;gi_wp2
  exact hK
 case body=>
  rintro m l' pre x X ⟨⟨k1,k2,k3,k4⟩,hB⟩ hlt;have he:=HE.out x.1;obtain⟨xa,hxa⟩:∃v,xs.getD (p-1-x.1) 0=v:=⟨_,rfl⟩;obtain⟨xb,hxb⟩:∃v,xs.getD (xs.length-1-x.1) 0=v:=⟨_,rfl⟩;rw[hxa,hxb]at he⊢;have hlx:=zL k1;by_cases hab:xa=xb
  ·subst hab;have hok:S12.eqAt xs p x.1=true:=he.2 rfl;by_cases h255:pre.length=255
   ·have hc:((pre.length:Int)==255)=true:=by simp;omega
    have hst:StopAt w.heap.size xs p (pre ++ [x]) X:=⟨pre,x,rfl,k1,k3,k4,.inr h255⟩;clear he hok k4;gi_wp2
    exact⟨SameFrom.refl _ _,⟨rfl,hst⟩,hB⟩
   ·have hc:((pre.length:Int)==255)=false:=by simp;omega
    have hsn:=k4.snoc hok;clear he hok k4;gi_wp2
    refine⟨SameFrom.setCell _ _ (by omega),KpO.setCell _ _,⟨⟨?_,?_,by simp;omega,hsn⟩,hB.setCell (p:=⟨w.heap.size,0,none⟩) (by simp) _⟩⟩
    ·rw[World.cell?_setCell_same' _ _ _ (by rw[k1];rfl)];simp
    ·rw[World.frozen?_setCell];exact k2
  ·have hno:S12.eqAt xs p x.1=false:=by cases h:S12.eqAt xs p x.1;rfl;exact absurd (he.1 h) hab
   have hc:(xa != xb)=true:=by simp[hab]
   have hst:StopAt w.heap.size xs p (pre ++ [x]) X:=⟨pre,x,rfl,k1,k3,k4,.inl hno⟩;clear he k4;gi_wp2
   exact⟨SameFrom.refl _ _,⟨rfl,hst⟩,hB⟩
 case done=>
  rintro D zs X hD hzs ⟨⟨k1,k2,k3,k4⟩,hB⟩ hK;have hl:=ziX hzs;obtain rfl:rp=p:=HD.out (by omega) (fun k hk=>by obtain⟨x,hx,rfl⟩:=znH hzs hk;exact k4 x hx);rw[hl]at k1;gi_wp2
  refine⟨by simp,.inl ⟨_,_,rfl,run_takeDeferred hK,?_⟩⟩;refine⟨_,?_,rfl,hB.trans (belowK_b (w:=w) (zD _) X D _ _ (by omega) hK rfl rfl)⟩;simp[results,Tryz.f181,go_sem]
 case stop=>
  rintro D cd pre X hD ⟨k,hk,hpre⟩ ⟨⟨rfl,hst⟩,hB⟩ hK;obtain⟨pr,x,rfl,k1,k3,k4,k5⟩:=hst;have hl:=ziX hpre;obtain rfl:rp=pr.length:=by
   have hl2:k=pr.length+1:=by simpa using hl.symm
   subst hl2;rw[List.range_succ,List.map_append,List.map_singleton]at hpre;obtain⟨h1,h2⟩:=List.append_inj' hpre rfl;simp at h2;refine HS.out _ (by omega) (fun j hj=> ?_) k3 (by rw[←h2];exact k5.imp id (fun h=>by omega));obtain⟨y,hy,rfl⟩:=znH h1 hj;exact k4 y hy
  gi_wp2
  refine⟨by simp,.inl ⟨_,_,rfl,run_takeDeferred hK,?_⟩⟩;refine⟨_,?_,rfl,hB.trans (belowK_b (w:=w) (zD _) X D _ _ (by omega) hK rfl rfl)⟩;simp[results,Tryz.f181,go_sem]
