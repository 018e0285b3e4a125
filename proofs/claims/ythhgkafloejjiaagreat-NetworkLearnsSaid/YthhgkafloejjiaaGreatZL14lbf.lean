/- A part of the proof of L14l. No condition. -/
import Derived.Test.YthhgkafloejjiaaGreatZL14lam
import Derived.Test.YthhgkafloejjiaaGreatZL14lbd
set_option linter.all false
set_option maxRecDepth 100000
set_option maxHeartbeats 2000000
namespace Go.Proofs.YthhgkafloejjiaaGreat
open Go.RowKit Go.Shelf
attribute [local go_sem] Oper.semAt_some
theorem zsI{a:Nat}(b:a≤16):wrap64 (16*(2:Int)^a)=16*((2^a:Nat):Int):=by
 have h:=zaX b;have e:(2:Int)^a=((2^a:Nat):Int):=by simp
 rw[e];generalize 2^a=N at h⊢;exact IntWalk.wrap64_in _ ⟨by omega,by omega⟩
theorem check10_main(f:Nat)(hb:f≤16)(xs:List Int)(S:xs.length=16*2^f)(ao:∀x∈xs,0≤x∧x<256)(a:Option Addr)(cap:Nat)(ah:xs.length≤cap)(w:World)(au:Rd w a (Bts xs)) :
 Calls Tryz.prog 57 #[.agg #[f,.slice a xs.length cap]] w fun e w'=>e = .returned (.int .i64 (if S10.bad xs (2^f)then 3 else 0))∧Below w w w':=by
 have hn:=zaX hb;have aE:=zaJ f;have hw:(16*((2^f:Nat):Int) != wrap64 (16*(2:Int)^f))=false:=by rw[zsI hb];simp
 have aj:decide ((0:Int)≤(f:Int)∧(f:Int)≤16)=true:=by simp;omega
 obtain⟨b,off,rfl,ad⟩:=au (fun e=>by have:=yG List.length e;rw[zaC,S]at this;simp at this;omega);rw[S]at ah⊢;generalize 2^f=m at *;obtain⟨M,aa⟩:∃M:Int,(if S10.bad xs m then 3 else 0)=M:=⟨_,rfl⟩;rw[aa];have ak:=zC aa;clear aa;have W1:=zC (zcT (f:Int) 0 16);rw[aj]at W1;clear aj;refine(callsIn_wide (n:=9)).1 ?_;refine callsIn_of_wp_marks Tryz.func57 rfl zT ?_ rfl;simp only[Tryz.ntmps57,zfX,zbL,List.length_nil,Nat.reduceAdd,Nat.reduceSub,Array.replicate_succ,Array.replicate_zero,List.push_toArray,List.append_toArray,lna,lca];gi_wp2_with fail
 refine⟨zT,CallsIn.mono (callsIn_wide.2 (W1.out _)) ?_⟩;rintro e i ⟨rfl,H⟩;have ae:Below w w i:=zA zo H;have z1:w.heap.size≤i.heap.size:=ae.size;have ax:Blk i w [f,.slice (some ⟨b,off,none⟩) (16*m) cap] 40:=((Blk.new w _ _).alloc _).step H;have aB:Blk i (w.heap.size+1) [.int .i64 0] 29:=by
  have h:=(Blk.new (w.alloc (.cells #[f,.slice (some ⟨b,off,none⟩) (16*m) cap] 40)) [.int .i64 0] 29).step H;rwa[zY]at h
 have k1:i.cell? ⟨w,0,none⟩=some (.int .i64 (f:Int)):=(H.cell by6).trans (by go_simp);have k2:i.cell? ⟨w,1,none⟩=some (.slice (some ⟨b,off,none⟩) (16*m) cap):=(H.cell by6).trans (by go_simp);gi_wp2_with fail
 gi_quiet (fail)
 have av:Below w w (i.drewN nq):=zgF ae nq;have zq:w.heap.size≤(i.drewN nq).heap.size:=av.size;have az:Blk (i.drewN nq) w.heap.size [f,.slice (some ⟨b,off,none⟩) (16*m) cap] 40:=ax;have am:Blk (i.drewN nq) (w.heap.size+1) [.int .i64 0] 29:=aB;generalize i.drewN nq=w2 at *;gi_wp2_with fail
 refine⟨zT,CallsIn.mono (callsIn_wide.2 (zhI _)) ?_⟩;rintro e d ⟨rfl,X⟩;have ab:Below w w d:=zA zo X;have z3:w.heap.size≤d.heap.size:=ab.size;have ai:=az.step X;have ag:=am.step X;have l3:=ag.lt;have k3:d.cell? ⟨w,0,none⟩=some (.int .i64 (f:Int)):=ai.cell 0;have k4:(d.alloc (.cells #[.int .i64 215] 3)).cell? ⟨w,1,none⟩=some (.slice (some ⟨b,off,none⟩) (16*m) cap):=(ai.alloc _).cell 1;gi_wp2_with fail
 refine⟨zT,CallsIn.mono (callsIn_wide.2 (chunk_any _ _ _ _)) ?_⟩;rintro e w4 ⟨rfl,rfl⟩;gi_wp2_with fail
 obtain⟨q,t⟩:=zvJ ((((d.alloc (Obj.cells #[Value.int IntKind.i64 215] 3)).alloc (Obj.cells #[Value.slice (some {block:=b,off:=off}) (16*m) cap] 38)).alloc (Obj.cells #[Value.int IntKind.i64 16] 3)));have aF:q.heap.size=d.heap.size+3:=by rw[←t];simp
 have ar:Below w w q:=by rw[←t];exact zA ab ((((zJ _ _).alloc (zF _) _).alloc by1 _).alloc by7 _)
 have f1:Blk q (w.heap.size+1) [.int .i64 0] 29:=by rw[←t];exact((ag.alloc _).alloc _).alloc _
 have f2:Blk q d [.int .i64 215] 3:=by rw[←t];exact((Blk.new d _ _).alloc _).alloc _
 have f3:Blk q (d.heap.size+1) [.slice (some ⟨b,off,none⟩) (16*m) cap] 38:=by
  rw[←t];have h:=(Blk.new (d.alloc (Obj.cells #[Value.int IntKind.i64 215] 3)) [.slice (some ⟨b,off,none⟩) (16*m) cap] 38).alloc (Obj.cells #[Value.int IntKind.i64 16] 3);rwa[zY]at h
 have f4:Blk q (d.heap.size+1+1) [.int .i64 16] 3:=by
  rw[←t];have h:=Blk.new ((d.alloc (Obj.cells #[Value.int IntKind.i64 215] 3)).alloc (Obj.cells #[Value.slice (some {block:=b,off:=off}) (16*m) cap] 38)) [.int .i64 16] 3;rwa[zY,zY]at h
 rw[t];clear t
 refine wpIn_rangeFunc_ownF rfl om (gf:=118) (lb:=#[.pointer (some ⟨d.heap.size+1,0,none⟩),.pointer (some ⟨d.heap.size+1+1,0,none⟩)]) rfl zT (enters_of Tryz.func118 zk rfl)
  (chunk_stops _ (d.heap.size+1) (d.heap.size+1+1) q.heap.size b off m cap om ah om om q (zF _) (f3.cell 0) (f4.cell 0)) belowK_t (belowK_b (zF _)) (zJ _ _) (fun _=>rfl)
  (fun L W=>(q.heap.size≤W.heap.size∧(∀k∈L,(S10.tail xs k.1).any S10.bad1=false)∧W.cell? ⟨d,0,none⟩=some (.int .i64 215)∧W.cell? ⟨w.heap.size+1,0,none⟩=some (.int .i64 0)∧W.frozen? ⟨w.heap.size+1,0,none⟩=false)∧Below w w W)
  (fun c L W=>(c = .ret∧(∃k∈L,(S10.tail xs k.1).any S10.bad1=true)∧W.cell? ⟨w.heap.size+1,0,none⟩=some (.int .i64 3))∧Below w w W)
  (OwnFrom.and (Own.from (fun s A B an o F I=>⟨yD o.1 F.size,o.2.1,cell_kept o.2.2.1 F I,cell_kept o.2.2.2.1 F I,(frozen_kept o.2.2.2.1 F I).trans o.2.2.2.2⟩) _) (ownFrom_below (zF _) om))
  (fun c=>OwnFrom.and (Own.from (fun s A B an o F I=>⟨o.1,o.2.1,cell_kept o.2.2 F I⟩) _) (ownFrom_below (zF _) om))
  ⟨⟨zF _,by simp,f2.cell 0,f1.cell 0,f1.free 0⟩,ar⟩
  (fun x=>{tmps:=#[Value.agg #[Value.int IntKind.i64 (f:Int),Value.slice (some {block:=b,off:=off}) (16*m) cap],
    Value.pointer (some {block:=w.heap.size,off:=0}),
    Value.pointer (some {block:=w.heap.size+1,off:=0}),
    Value.pointer (some {block:=d.heap.size,off:=0}),.slice (some ⟨b,off+16*x.1,none⟩) 16 16,Value.bool false,
    Value.pointer (some {block:=w.heap.size,off:=0}),Value.int IntKind.i64 (f:Int),Value.bool true,
    Value.bool false,Value.bool false,Value.pointer (some {block:=w.heap.size,off:=1}),
    Value.slice (some {block:=b,off:=off}) (16*m) cap,Value.int IntKind.i64 (16*(m:Int)),
    Value.pointer (some {block:=w.heap.size,off:=0}),Value.int IntKind.i64 (f:Int),
    Value.int IntKind.i64 (wrap64 (16*2^f)),Value.bool false,Value.int IntKind.i64 215,
    Value.pointer (some {block:=w.heap.size,off:=1}),
    Value.slice (some {block:=b,off:=off}) (16*m) cap,
    Value.func (Fn.func 118) #[] #[Value.pointer (some {block:=d.heap.size+1,off:=0}),Value.pointer (some {block:=d.heap.size+1+1,off:=0})],
    .slice (some ⟨b,off+16*x.1,none⟩) 16 16,undef,undef,undef,undef],defers:=[]}) ?assign ?body ?done ?stop
 case assign=>
  intro l x W K E;gi_wp2
  exact E
 case body=>
  rintro l L ⟨x,hx⟩ W ⟨⟨T,Y,G,z,U⟩,u⟩ _;have zW:=u.size;have ap:(S10.tail xs x).length=15:=by unfold S10.tail;rw[yJ,List.length_drop,S];omega
  have al:Rd w (some ⟨b,off+16*x+1,none⟩) (Bts (S10.tail xs x)):=fun _=>⟨b,off+16*x+1,rfl,fun j v J=>by
   have h:=ad (16*x+1+j) v (by
    unfold Bts S10.tail at J;rw[yI,zbG]at J;unfold Bts;rw[yI];split at J
    ·rwa[zdI]at J
    ·cases J)
   have e:off+16*x+1+j=off+(16*x+1+j):=by omega
   rw[e];exact h⟩
  have C:=ziS 105 (enters_of Tryz.func105 zk rfl) (.pointer (some ⟨d,0,none⟩)) S10.bad1 W (S10.tail xs x)
   (fun y V hy hV=>bad10_any y (ao y (List.mem_of_mem_drop (List.mem_of_mem_take hy))) d.heap.size V ((hV.cell (zE G)).trans G)) (some ⟨b,off+16*x+1,none⟩) 15 om (al.below u (fun b' o' e _=>by cases e;exact zE (ad 0 _ (zD (by rw[zaC];omega)))))
  rw[ap]at C;have N:=zC C;clear C;have O:=zE z;have aA:=zE G;cases hbad:(S10.tail xs x).any S10.bad1 with
  | true=>
    rw[hbad]at N;gi_wp2_with fail
    refine⟨zT,CallsIn.mono (zhJ N.out) ?_⟩;rintro e Z ⟨rfl,g⟩;have q2:Z.cell? ⟨w.heap.size+1,0,none⟩=some (.int .i64 0):=(g.cell O).trans z;have q3:Z.frozen? ⟨w.heap.size+1,0,none⟩=false:=(g.frozen O).trans U;gi_wp2
    exact⟨(zbD g).trans (KeepsOthers.setCell _ _ _),⟨rfl,⟨_,List.mem_append.2 (.inr (List.mem_singleton.2 rfl)),hbad⟩,World.cell?_setCell_same' _ _ _ (by rw[q2];rfl)⟩,(zA u g).setCell (p:=⟨w.heap.size+1,0,none⟩) by1 _⟩
  | false=>
    rw[hbad]at N;gi_wp2_with fail
    refine⟨zT,CallsIn.mono (zhJ N.out) ?_⟩;rintro e Z ⟨rfl,g⟩;gi_wp2
    refine⟨zbD g,g.mono T,⟨yD T g.size,fun k P=> ?_,(g.cell aA).trans G,(g.cell O).trans z,(g.frozen O).trans U⟩,zA u g⟩;rcases List.mem_append.1 P with h|h
    ·exact Y k h
    ·have e:=List.mem_singleton.1 h;rw[e];exact hbad
 case done=>
  rintro D ys W hD aC ⟨⟨T,Y,G,z,U⟩,u⟩ E;have af:S10.bad xs m=false:=by
   unfold S10.bad;rw[←aC,List.any_map,List.any_eq_false];intro k P;simpa using Y k P
  have aw:M=0:=by rw[←ak.out,af];rfl
  clear af;gi_wp2
  have Q:=(KeepsOthers.setCell W ⟨w.heap.size+1,0,none⟩ (.int .i64 0)).same D _ E rfl;refine⟨by simp,.inl ⟨_,_,rfl,run_takeDeferred Q,?_⟩⟩;have R:=cell_kept (World.cell?_setCell_same' W ⟨w.heap.size+1,0,none⟩ (.int .i64 0) (by rw[z];rfl)) (grownBy_putObj' _ D (.deferred none)) (fun r e=>by cases e;exact⟨_,Q,rfl⟩);refine⟨.int .i64 0,?_,by rw[aw],(u.setCell (p:=⟨w.heap.size+1,0,none⟩) by1 _).trans (belowK_b (w:=w) (zF _) _ D _ _ om Q rfl rfl)⟩;simp[results,Tryz.f57,go_sem,R]
 case stop=>
  rintro D c L W hD ⟨j,hj,aD⟩ ⟨⟨rfl,⟨k,P,ay⟩,z⟩,u⟩ E;have ac:S10.bad xs m=true:=by
   unfold S10.bad;rw[List.any_eq_true];exact⟨k.1,List.mem_range.2 k.2,ay⟩
  have aq:M=3:=by rw[←ak.out,ac];rfl
  clear ac;gi_wp2
  refine⟨by simp,.inl ⟨_,_,rfl,run_takeDeferred E,?_⟩⟩;have R:=cell_kept z (grownBy_putObj' _ D (.deferred none)) (fun r e=>by cases e;exact⟨_,E,rfl⟩);refine⟨.int .i64 3,?_,by rw[aq],u.trans (belowK_b (w:=w) (zF _) W D _ _ om E rfl rfl)⟩;simp[results,Tryz.f57,go_sem,R]
end Go.Proofs.YthhgkafloejjiaaGreat
namespace Go.Proofs.YthhgkafloejjiaaGreat
open Go.RowKit
theorem S10.check_range{a:Int}{xs:List Int}(h:a<0∨16<a):S10.check a xs=2:=by unfold S10.check;rw[zQ h]
theorem S10.check_many{a:Int}{xs:List Int}(h:¬(a<0∨16<a))(b:xs.length≠16*2^a.toNat):S10.check a xs=6:=by unfold S10.check;rw[zG h,zQ b]
theorem S10.check_form{a:Int}{xs:List Int}(h:¬(a<0∨16<a))(b:xs.length=16*2^a.toNat):S10.check a xs=if S10.bad xs (2^a.toNat)then 3 else 0:=by unfold S10.check;rw[zG h,zG (fun c=>c b)]
theorem zfV(c:Int)(xs:List Int)(A:∀x∈xs,0≤x∧x<256)(a:Option Addr)(cap:Nat)(r:xs.length≤cap)(w:World)(z:Rd w a (Bts xs)) :
 Calls Tryz.prog 57 #[.agg #[c,.slice a xs.length cap]] w fun e t=>e = .returned (.int .i64 (S10.check c xs))∧Below w w t:=by
 by_cases j:c<0∨16<c
 ·rw[S10.check_range j];have i:decide ((0:Int)≤c∧c≤16)=false:=by simp;omega
  have g:=zC (zcT c 0 16);rw[i]at g;clear i j;go_enter Tryz.func57,Tryz.ntmps57;go_wp2_with fail;refine mnx w (g.out _) fun b k m u=> ?_;have d:Blk b (w.heap.size+1) [.int .i64 0] 29:=by
   have h:=(Blk.new (w.alloc (.cells #[c,.slice a xs.length cap] 40)) [.int .i64 0] 29).step k;rwa[zY]at h
  have B:b.cell? ⟨w.heap.size+1,0,none⟩=some (.int .i64 0):=d.cell 0;have s:b.frozen? ⟨w.heap.size+1,0,none⟩=false:=d.free 0;have l:(b.setCell ⟨w.heap.size+1,0,none⟩ (.int .i64 2)).cell? ⟨w.heap.size+1,0,none⟩=some (.int .i64 2):=(d.set 0 (.int .i64 2)).cell 0;go_wp2;exact bodyPost_ret (v:=.int .i64 2) (by simp[results,Tryz.results57,go_sem,l]) rfl ⟨rfl,m.setCell (p:=⟨w.heap.size+1,0,none⟩) by1 _⟩
 ·by_cases f:xs.length=16*2^c.toNat
  ·rw[S10.check_form j f];obtain⟨n,rfl⟩:=Int.eq_ofNat_of_zero_le (show 0≤c by omega);exact check10_main n om xs f A a cap r w z
  ·rw[S10.check_many j f];obtain⟨n,rfl⟩:=Int.eq_ofNat_of_zero_le (show 0≤c by omega);have y:n≤16:=by omega
   have i:decide ((0:Int)≤(n:Int)∧(n:Int)≤16)=true:=by simp;omega
   have g:=zC (zcT (n:Int) 0 16);rw[i]at g;have C:((xs.length:Int) != wrap64 (16*(2:Int)^n))=true:=by
    rw[zsI y];simp only[Int.toNat_natCast]at f;simp only[bne_iff_ne,ne_eq];intro h;apply f;generalize 2^n=N at h⊢;omega
   clear i j f;go_enter Tryz.func57,Tryz.ntmps57;go_wp2_with fail;refine mnx w (g.out _) fun b k m u=> ?_;have o:Blk b w [n,.slice a xs.length cap] 40:=((Blk.new w _ _).alloc _).step k;have d:Blk b (w.heap.size+1) [.int .i64 0] 29:=by
    have h:=(Blk.new (w.alloc (.cells #[n,.slice a xs.length cap] 40)) [.int .i64 0] 29).step k;rwa[zY]at h
   have B:b.cell? ⟨w.heap.size+1,0,none⟩=some (.int .i64 0):=d.cell 0;have s:b.frozen? ⟨w.heap.size+1,0,none⟩=false:=d.free 0;have D:b.cell? ⟨w,0,none⟩=some (.int .i64 (n:Int)):=o.cell 0;have E:b.cell? ⟨w,1,none⟩=some (.slice a xs.length cap):=o.cell 1;go_wp2;go_quiet (fail);have q:Blk (b.drewN nq) (w.heap.size+1) [.int .i64 0] 29:=d;have l:((b.drewN nq).setCell ⟨w.heap.size+1,0,none⟩ (.int .i64 6)).cell? ⟨w.heap.size+1,0,none⟩=some (.int .i64 6):=(q.set 0 (.int .i64 6)).cell 0;go_wp2;exact bodyPost_ret (v:=.int .i64 6) (by simp[results,Tryz.results57,go_sem,l]) rfl ⟨rfl,(zgF m _).setCell (p:=⟨w.heap.size+1,0,none⟩) by1 _⟩
end Go.Proofs.YthhgkafloejjiaaGreat
namespace Go.Proofs.YthhgkafloejjiaaGreat
open Go.RowKit Go.Shelf
attribute [local go_sem] Oper.semAt_some
theorem Blk.kept{A B:World}{d:Option Nat}{b:Nat}{c:List Value}{t:TypeId}(h:Blk A b c t)(i:A.grownBy B d)(g:∀r,d=some r→∃o:Obj,A.heap[r]? = some o∧o.isCells=false):Blk B b c t:=by
 have f:=h.lt;unfold Blk at *
 rw[i.block b f (fun e=>by
  obtain⟨o,a,j⟩:=g b e.symm;rw[h]at a;cases a;cases j)]
 exact h
def S10.find(bits:Nat)(xs:List Int)(hash:Nat):Option Nat:=(S10.places bits hash).find? fun i=>xs.getD (16*i) 0==(S10.mark hash:Int)
theorem find_prefix{α:Type}{p:α→Bool}{a l:List α}{x:α}(h:a ++ [x] <+: l)(d:∀y∈a,p y=false)(b:p x=true):l.find? p=some x:=by
 obtain⟨r,rfl⟩:=h;have e:a.find? p=none:=List.find?_eq_none.2 fun y c=>by rw[d y c];simp
 simp[List.find?_append,e,b]
theorem ztE(a hash:Nat)(hb:a≤16)(hh:hash<4294967296)(xs:List Int)(aA:xs.length=16*2^a)(b off cap:Nat)(ax:16*2^a≤cap)(w:World)(ai:w.rangeAt b off (Bts xs)) :
 Calls Tryz.prog 59 #[.agg #[a,.slice (some ⟨b,off,none⟩) (16*2^a) cap],.int .u32 (hash:Int)] w fun e w'=>
  e = .returned (.tuple #[((S10.find a xs hash).getD 0:Nat),.bool (S10.find a xs hash).isSome])∧Below w w w':=by
 have hn:=zaX hb;have aC:=zaJ a;have ab:S10.find a xs hash=(S10.places a hash).find? fun i=>xs.getD (16*i) 0==(S10.mark hash:Int):=rfl;obtain⟨ag,af⟩:=zvJ (S10.find a xs hash);rw[af];rw[af]at ab;have ak:=zC ab;clear ab af;have aw:=zC (fun(Bs Bn n₀:Nat) h1 h2 w h3 h4 h5=>znY 8 Bs Bn n₀ a hash hb hh h1 h2 w h3 h4 h5);generalize hM:2^a=m at *;have ap:b<w.heap.size:=zE (ai 0 _ (zD (by rw[zaC];omega)));refine(callsIn_wide (n:=9)).1 ?_;refine callsIn_of_wp_marks Tryz.func59 rfl zT ?_ rfl;simp only[Tryz.ntmps59,zfX,zbL,List.length_nil,Nat.reduceAdd,Nat.reduceSub,Array.replicate_succ,Array.replicate_zero,List.push_toArray,List.append_toArray,lna,lca];gi_wp2_with fail
 refine⟨zT,CallsIn.mono (callsIn_wide.2 (zsT _ _ _)) ?_⟩;rintro e w4 ⟨rfl,rfl⟩;gi_wp2_with fail
 obtain⟨A1,O,_,c1⟩:=al1 w [Value.int IntKind.i64 (a:Int),Value.slice (some {block:=b,off:=off}) (16*m) cap] 40;have a1:Blk A1 w [a,.slice (some ⟨b,off,none⟩) (16*m) cap] 40:=by rw[←O];exact Blk.new w _ _
 have s1:A1.heap.size=w.heap.size+1:=by rw[←O];simp
 rw[O];clear O;obtain⟨A2,T,_,c2⟩:=al1 A1 [Value.int IntKind.u32 (hash:Int)] 85;have a2:Blk A2 (w.heap.size+1) [.int .u32 (hash:Int)] 85:=by rw[←T,←s1];exact Blk.new A1 _ _
 have s2:A2.heap.size=w.heap.size+1+1:=by rw[←T];simp[s1]
 rw[T];clear T;obtain⟨A3,aa,_,S⟩:=al1 A2 [Value.int IntKind.i64 0] 3;have a3:Blk A3 (w.heap.size+1+1) [.int .i64 0] 3:=by rw[←aa,←s2];exact Blk.new A2 _ _
 have s3:A3.heap.size=w.heap.size+1+1+1:=by rw[←aa];simp[s2]
 rw[aa];clear aa;obtain⟨A4,P,_,H⟩:=al1 A3 [Value.bool false] 4;have a4:Blk A4 (w.heap.size+1+1+1) [.bool false] 4:=by rw[←P,←s3];exact Blk.new A3 _ _
 have s4:A4.heap.size=w.heap.size+1+1+1+1:=by rw[←P];simp[s3]
 rw[P];clear P;obtain⟨N,X,_,F⟩:=al1 A4 [Value.int IntKind.i64 (a:Int)] 3;have a5:Blk N (w.heap.size+1+1+1+1) [a] 3:=by rw[←X,←s4];exact Blk.new A4 _ _
 have s5:N.heap.size=w.heap.size+1+1+1+1+1:=by rw[←X];simp[s4]
 rw[X];clear X;obtain⟨E,Z,_,t⟩:=al1 N [Value.int IntKind.u32 (hash:Int)] 85;have a6:Blk E (w.heap.size+1+1+1+1+1) [.int .u32 (hash:Int)] 85:=by rw[←Z,←s5];exact Blk.new N _ _
 have s6:E.heap.size=w.heap.size+1+1+1+1+1+1:=by rw[←Z];simp[s5]
 rw[Z];clear Z;have am:Below w w E:=zA (zA (zA (zA (zA c1 c2) S) H) F) t;have b1:=((((a1.step c2).step S).step H).step F).step t;have b2:=(((a2.step S).step H).step F).step t;have b3:=((a3.step H).step F).step t;have b4:=(a4.step F).step t;have b5:=a5.step t;clear a1 a2 a3 a4 a5 c1 c2 S H F t s1 s2 s3 s4 s5
 refine wpIn_rangeFunc_ownF rfl om (gf:=107) (lb:=#[.pointer (some ⟨w.heap.size+1+1+1+1,0,none⟩),.pointer (some ⟨w.heap.size+1+1+1+1+1,0,none⟩)]) rfl zT (enters_of Tryz.func107 zk rfl)
  (aw.out (w.heap.size+1+1+1+1) (w.heap.size+1+1+1+1+1) E.heap.size om om E (zF _) (b5.cell 0) (a6.cell 0)) belowK_t (belowK_b (zF _)) (zJ _ _) (fun _=>rfl)
  (fun G W=>(E.heap.size≤W.heap.size∧(∀k∈G,(xs.getD (16*k.1) 0==(S10.mark hash:Int))=false)∧Blk W w [a,.slice (some ⟨b,off,none⟩) (16*m) cap] 40∧
    Blk W (w.heap.size+1) [.int .u32 (hash:Int)] 85∧Blk W (w.heap.size+1+1) [.int .i64 0] 3∧Blk W (w.heap.size+1+1+1) [.bool false] 4)∧Below w w W)
  (fun c G W=>(c = .ret∧(∃q x,G=q ++ [x]∧(∀k∈q,(xs.getD (16*k.1) 0==(S10.mark hash:Int))=false)∧(xs.getD (16*x.1) 0==(S10.mark hash:Int))=true∧
    Blk W (w.heap.size+1+1) [(x.1:Int)] 3∧Blk W (w.heap.size+1+1+1) [.bool true] 4))∧Below w w W)
  (OwnFrom.and (Own.from (fun s A B al g j u=>⟨yD g.1 j.size,g.2.1,g.2.2.1.kept j u,g.2.2.2.1.kept j u,g.2.2.2.2.1.kept j u,g.2.2.2.2.2.kept j u⟩) _) (ownFrom_below (zF _) om))
  (fun c=>OwnFrom.and (Own.from (fun s A B al g j u=>⟨g.1,by obtain⟨_,q,x,h1,h2,h3,h4,h5⟩:=g;exact⟨q,x,h1,h2,h3,h4.kept j u,h5.kept j u⟩⟩) _) (ownFrom_below (zF _) om))
  ⟨⟨zF _,by simp,b1,b2,b3,b4⟩,am⟩
  (fun x=>{tmps:=#[Value.agg #[Value.int IntKind.i64 (a:Int),Value.slice (some {block:=b,off:=off}) (16*m) cap],
    Value.int IntKind.u32 (hash:Int),Value.pointer (some {block:=w.heap.size,off:=0}),
    Value.pointer (some {block:=w.heap.size+1,off:=0}),
    Value.pointer (some {block:=w.heap.size+1+1,off:=0}),
    Value.pointer (some {block:=w.heap.size+1+1+1,off:=0}),.int .i64 (x.1:Int),
    Value.pointer (some {block:=w.heap.size,off:=0}),Value.int IntKind.i64 (a:Int),
    Value.int IntKind.u32 (hash:Int),
    Value.func (Fn.func 107) #[] #[Value.pointer (some {block:=w.heap.size+1+1+1+1,off:=0}),Value.pointer (some {block:=w.heap.size+1+1+1+1+1,off:=0})],
    .int .i64 (x.1:Int),undef,undef,undef,undef,undef,undef,undef,undef,undef],defers:=[]}) ?assign ?body ?done ?stop
 case assign=>
  intro l x W K d;gi_wp2
  exact d
 case body=>
  rintro l G ⟨x,hx⟩ W ⟨⟨ad,hp,R,d2,C,o⟩,z⟩ _
  have au:W.cell? ⟨b,off+16*x,none⟩=some (.int .u8 (xs.getD (16*x) 0)):=(z.cell (p:=⟨b,off+16*x,none⟩) ap).trans (ai (16*x) _ (by
   unfold Bts;rw[yI,zD (show 16*x<xs.length by omega),zK,zD (show 16*x<xs.length by omega)];rfl))
  generalize hv:xs.getD (16*x) 0=v at *;have aj:Cells W [(⟨w,0,none⟩,a),(⟨w,1,none⟩,.slice (some ⟨b,off,none⟩) (16*m) cap),(⟨w.heap.size+1,0,none⟩,.int .u32 (hash:Int)),(⟨b,off+16*x,none⟩,.int .u8 v)]:=⟨R.cell 0,R.cell 1,d2.cell 0,au,zT⟩;have HS:=zC fun V=>zgQ (a:Int) b off x m cap hx hn ax V;have HM:=zC fun V=>zsZ hash hh V;gi_wp2_with fail
  refine zgJ 8 0 [(U,[U,U,zvE,zvE,zvE,U]),(zvE,[zvE,zvE,U]),(U,[zvE,zvE,zvE,U,U]),(zvE,[zvE,zvE,zvE,zvE,zvE,zvE,U]),(U,[zvE,zvE,zvE,zvE,zvE,zvE,zvE,U])] _ _ (Keeps W [(⟨w,0,none⟩,a),(⟨w,1,none⟩,.slice (some ⟨b,off,none⟩) (16*m) cap),(⟨w.heap.size+1,0,none⟩,.int .u32 (hash:Int)),(⟨b,off+16*x,none⟩,.int .u8 v)]) zk (zU 8 _).symm zk zk zk zk (Keeps.start aj) (fun Y Q4 F4 hY hF=> ?_);simp only[zvG];repeat refine mrd ?_
  refine mcl ?_;refine mck (Keeps.start aj) (HS.out _) fun w5 aB ao=> ?_;repeat refine mrd ?_
  refine mcl ?_;refine mck ao (HM.out _) fun w6 aD aq=> ?_;repeat refine mrd ?_
  refine mdn hF fun K d=> ?_;clear hF hY;refine mok d ?_;clear d;have f:Below W W w6:=aq.1;have Q:=C.step f;have e4:=o.step f;have J:=((Q.set 0 (.int .i64 (x:Int))).other (w.heap.size+1+1+1) 0 (.bool true) om);have I:=((e4.other (w.heap.size+1+1) 0 (.int .i64 (x:Int)) om).set 0 (.bool true));have t3:=Q.cell 0;have ay:=Q.free 0;have t4:=e4.cell 0;have ar:=e4.free 0;simp only[sC0,lgz]at J I t3 t4;cases hmk:(v==(S10.mark hash:Int))with
  | true=>
    gi_wp2
    exact⟨(zbD f).trans ((KeepsOthers.setCell _ _ _).trans (KeepsOthers.setCell _ _ _)),⟨rfl,G,⟨x,hx⟩,rfl,hp,(by simp only[hv];exact hmk),J,I⟩,((zA z f).setCell (p:=⟨w.heap.size+1+1,0,none⟩) by7 _).setCell (p:=⟨w.heap.size+1+1+1,0,none⟩) by7 _⟩
  | false=>
    gi_wp2
    refine⟨zbD f,f.mono ad,⟨yD ad f.size,fun k L=> ?_,R.step f,d2.step f,Q,e4⟩,zA z f⟩;rcases List.mem_append.1 L with h|h
    ·exact hp k h
    ·have e:=List.mem_singleton.1 h;rw[e];simp only[hv];exact hmk
 case done=>
  rintro D ys W hD az ⟨⟨ad,hp,R,d2,C,o⟩,z⟩ d;have an:ag=none:=by
   rw[ak.out,←az,List.find?_eq_none];intro y hy;obtain⟨k,L,rfl⟩:=List.mem_map.1 hy;rw[hp k L];simp
  subst an;have J:=((C.set 0 (.int .i64 0)).other (w.heap.size+1+1+1) 0 (.bool false) om);have I:=((o.other (w.heap.size+1+1) 0 (.int .i64 0) om).set 0 (.bool false));have t3:=C.cell 0;have ay:=C.free 0;have t4:=o.cell 0;have ar:=o.free 0;simp only[sC0,lgz]at J I t3 t4;gi_wp2
  have M:=((KeepsOthers.setCell W ⟨w.heap.size+1+1,0,none⟩ (.int .i64 0)).trans (KeepsOthers.setCell _ ⟨w.heap.size+1+1+1,0,none⟩ (.bool false))).same D _ d rfl;refine⟨by simp,.inl ⟨_,_,rfl,run_takeDeferred M,?_⟩⟩;have ac:=cell_kept (J.cell 0) (grownBy_putObj' _ D (.deferred none)) (fun r e=>by cases e;exact⟨_,M,rfl⟩);have ae:=cell_kept (I.cell 0) (grownBy_putObj' _ D (.deferred none)) (fun r e=>by cases e;exact⟨_,M,rfl⟩);refine⟨.tuple #[.int .i64 0,.bool false],?_,rfl,((z.setCell (p:=⟨w.heap.size+1+1,0,none⟩) by7 _).setCell (p:=⟨w.heap.size+1+1+1,0,none⟩) by7 _).trans (belowK_b (w:=w) (zF _) _ D _ _ om M rfl rfl)⟩;simp[results,Tryz.f59,go_sem,ac,ae]
 case stop=>
  rintro D c G W hD ah ⟨⟨rfl,q,x,rfl,hq,hx,C,o⟩,z⟩ d;have av:ag=some x.1:=by
   rw[ak.out];rw[List.map_append]at ah;refine find_prefix ah ?_ hx;intro y hy;obtain⟨k,L,rfl⟩:=List.mem_map.1 hy;exact hq k L
  subst av;gi_wp2
  refine⟨by simp,.inl ⟨_,_,rfl,run_takeDeferred d,?_⟩⟩;have ac:=cell_kept (C.cell 0) (grownBy_putObj' _ D (.deferred none)) (fun r e=>by cases e;exact⟨_,d,rfl⟩);have ae:=cell_kept (o.cell 0) (grownBy_putObj' _ D (.deferred none)) (fun r e=>by cases e;exact⟨_,d,rfl⟩);refine⟨.tuple #[(x.1:Int),.bool true],?_,rfl,z.trans (belowK_b (w:=w) (zF _) W D _ _ om d rfl rfl)⟩;simp[results,Tryz.f59,go_sem,ac,ae]
end Go.Proofs.YthhgkafloejjiaaGreat
namespace Go.Proofs.YthhgkafloejjiaaGreat
open Go.RowKit
structure Tab(xs:List Int)(a:Option Addr)(cap:Nat)(w:World):Prop where
 ok:∀x∈xs,0≤x∧x<256
 cap:xs.length≤cap
 rd:Rd w a (Bts xs)
theorem Tab.step{xs:List Int}{a:Option Addr}{cap:Nat}{w w':World}(h:Tab xs a cap w)(b:Below w w w'):Tab xs a cap w':=⟨h.ok,h.cap,h.rd.step b⟩
def zcK(bits:Int)(xs:List Int)(a:Option Addr)(cap:Nat):Value:=.agg #[bits,.slice a xs.length cap]
theorem S10.correct{a:Int}{xs:List Int}(h:S10.check a xs=0):∃n:Nat,a=n∧n≤16∧xs.length=16*2^n∧S10.bad xs (2^n)=false:=by
 unfold S10.check at h;split at h
 ·cases h
 ·rename_i d
  obtain⟨n,rfl⟩:=Int.eq_ofNat_of_zero_le (show 0≤a by omega);split at h
  ·cases h
  ·rename_i b
   split at h
   ·cases h
   ·rename_i c
    exact⟨n,rfl,by omega,by simpa using b,by simpa using c⟩
end Go.Proofs.YthhgkafloejjiaaGreat
namespace Go.Proofs.YthhgkafloejjiaaGreat
open Go.RowKit
def S10.exists(bits n k:Int):Bool:=decide (0≤n∧n<2^bits.toNat)&&decide (1≤k∧k≤15)
def S10.node(bits:Int)(xs:List Int)(n k:Int):Int:=if S10.check bits xs=0 then(if S10.exists bits n k then 0 else 2)else S10.check bits xs
theorem zmD(b:Int)(xs:List Int)(n k:Int)(a:Option Addr)(cap:Nat)(w:World)(l:Tab xs a cap w) :
 Calls Tryz.prog 195 #[zcK b xs a cap,n,k] w fun e F=>e = .returned (.int .i64 (S10.node b xs n k))∧Below w w F:=by
 have g:=zC fun W (h:Tab xs a cap W)=>zfV b xs h.ok a cap h.cap W h.rd;unfold zcK;by_cases c:S10.check b xs=0
 ·have d:S10.node b xs n k=if S10.exists b n k then 0 else 2:=zQ c
  rw[d];rw[c]at g;obtain⟨m,rfl,v,B,H⟩:=S10.correct c;clear B H;have s:=ztQ v;have o:=zaX v;have x:=zaJ m;have r:wrap64 (wrap64 ((2:Int)^m)-1)=((2^m:Nat):Int)-1:=by
   rw[s];generalize 2^m=N at o x⊢;exact IntWalk.wrap64_in _ ⟨by omega,by omega⟩
  have t:decide (0≤n∧n≤((2^m:Nat):Int)-1)=decide (0≤n∧n<2^m):=by
   have e:(2:Int)^m=((2^m:Nat):Int):=by simp
   rw[e];generalize 2^m=N
   congr 1
   apply propext;omega
  have y:S10.exists (m:Int) n k=(decide (0≤n∧n<2^m)&&decide (1≤k∧k≤15)):=rfl;have j:=zC fun W=>zcT n 0 (((2^m:Nat):Int)-1) W;have I:=zC fun W=>zcT k 1 15 W;rw[t]at j;rw[y];generalize decide (0≤n∧n<2^m)=p at *;generalize decide (1≤k∧k≤15)=q at *;have z:=zC r;clear t y d c s o x r;go_enter Tryz.func195,Tryz.ntmps195;go_wp2_with fail;refine mnx w (g.out _ (l.step zo)) fun f u i G=> ?_;have D:Blk f w [m,.slice a xs.length cap] 40:=(Blk.new w _ _).step u;have P:f.cell? ⟨w,0,none⟩=some (.int .i64 (m:Int)):=D.cell 0;go_wp2_with fail;rw[z.out];refine mnb i (j.out _) fun O J E=> ?_;cases p with
  | false=>
    exact mf1 E
  | true=>
    go_wp2_with fail;refine mnx w (I.out _) fun L Q A M=> ?_;cases q<;>(go_wp2;go_returns;exact⟨rfl,A⟩)
 ·have d:S10.node b xs n k=S10.check b xs:=zG c;rw[d];have K:(S10.check b xs != 0)=true:=by simpa using c
  generalize S10.check b xs=C at *;clear c d;go_enter Tryz.func195,Tryz.ntmps195;go_wp2_with fail;refine mnx w (g.out _ (l.step zo)) fun f u i G=> ?_;exact mf1 i
end Go.Proofs.YthhgkafloejjiaaGreat
namespace Go.Proofs.YthhgkafloejjiaaGreat
open Go.RowKit
def S10.getN(bits:Int)(xs:List Int)(n k:Int):Int:=if S10.node bits xs n k=0 then xs.getD (16*n.toNat+k.toNat) 0 else 0
theorem S10.node_zero{b:Int}{xs:List Int}{n k:Int}(h:S10.node b xs n k=0):S10.check b xs=0∧S10.exists b n k=true:=by
 unfold S10.node at h;split at h
 ·rename_i a
  refine⟨a,?_⟩;split at h
  ·assumption
  ·cases h
 ·rename_i a
  exact absurd h a
theorem S10.exists_at{m:Nat}{n k:Int}(h:S10.exists (m:Int) n k=true):∃b a:Nat,n=b∧k=a∧b<2^m∧1≤a∧a≤15:=by
 unfold S10.exists at h;simp only[zS,yC,Int.toNat_natCast]at h;obtain⟨⟨d,c⟩,g,f⟩:=h;obtain⟨b,rfl⟩:=Int.eq_ofNat_of_zero_le d;obtain⟨a,rfl⟩:=Int.eq_ofNat_of_zero_le (show 0≤k by omega);refine⟨b,a,rfl,rfl,?_,by omega,by omega⟩;have e:(2:Int)^m=((2^m:Nat):Int):=by simp
 rw[e]at c;omega
theorem get10_any(f:Int)(xs:List Int)(n k:Int)(a:Option Addr)(cap:Nat)(w:World)(j:Tab xs a cap w) :
 Calls Tryz.prog 192 #[zcK f xs a cap,n,k] w fun e K=>e = .returned (.tuple #[(S10.getN f xs n k),(S10.node f xs n k)])∧Below w w K:=by
 have t:=zC fun W (h:Tab xs a cap W)=>zmD f xs n k a cap W h;unfold zcK at *;by_cases g:S10.node f xs n k=0
 ·have l:S10.getN f xs n k=xs.getD (16*n.toNat+k.toNat) 0:=zQ g;rw[l,g];rw[g]at t;obtain⟨q,A⟩:=S10.node_zero g;obtain⟨m,rfl,O,s,M⟩:=S10.correct q;obtain⟨c,d,rfl,rfl,D,X,Q⟩:=S10.exists_at A;have y:=zaX O;obtain⟨b,i,rfl,P⟩:=j.rd (fun e=>by have q:=yG List.length e;rw[zaC,s]at q;simp only[List.length_nil]at q;omega);have o:16*c+d<xs.length:=by omega
  have z:=j.cap;have u:=P (16*c+d) _ (show(Bts xs)[16*c+d]? = some (.int .u8 (xs.getD (16*c+d) 0)) by unfold Bts;rw[yI,zD o,zK,zD o];rfl);have Y:0≤xs.getD (16*c+d) 0∧xs.getD (16*c+d) 0<256:=by
   rw[zK,zD o];exact j.ok _ (yR o)
  have G:=zC fun V=>zgQ (m:Int) b i c (2^m) cap D y (by rw[←s];exact z) V;rw[←s]at G;simp only[Int.toNat_natCast];generalize xs.getD (16*c+d) 0=v at *;have J:=zE u;have I:wrap64 v=v:=IntWalk.wrap64_in _ ⟨by omega,by omega⟩;have E:i+(16*c+d)=i+16*c+d:=by omega
  rw[E]at u;clear E l g q A s M z o y D;go_enter Tryz.func192,Tryz.ntmps192;go_wp2_with fail;refine mnx w (t.out _ (j.step zo)) fun r F H L=> ?_;have B:Blk r w [m,.slice (some ⟨b,i,none⟩) xs.length cap] 40:=(Blk.new w _ _).step F;have Z:r.cell? ⟨w,0,none⟩=some (.int .i64 (m:Int)):=B.cell 0;have T:r.cell? ⟨w,1,none⟩=some (.slice (some ⟨b,i,none⟩) xs.length cap):=B.cell 1;go_wp2_with fail;refine mnx w (G.out _) fun N R x U=> ?_;have aa:N.cell? ⟨b,i+16*c+d,none⟩=some (.int .u8 v):=(x.cell (p:=⟨b,i+16*c+d,none⟩) J).trans u;go_wp2;go_returns;first|exact⟨rfl,x⟩|(refine⟨?_,x⟩;simp[I])
 ·have l:S10.getN f xs n k=0:=zG g;rw[l];have S:(S10.node f xs n k != 0)=true:=by simpa using g
  generalize S10.node f xs n k=C at *;clear g l;go_enter Tryz.func192,Tryz.ntmps192;go_wp2_with fail;refine mnx w (t.out _ (j.step zo)) fun r F H L=> ?_;exact mf1 H
end Go.Proofs.YthhgkafloejjiaaGreat
namespace Go.Proofs.YthhgkafloejjiaaGreat
open Go.RowKit
def OB(w:World)(base b cap:Nat)(xs:List Int):Prop:=base≤b∧xs.length≤cap∧cap≤9223372036854775807∧∃cs,Blk w b cs 5∧cs.take xs.length=Bts xs
theorem OB.lt{w:World}{c b cap:Nat}{xs:List Int}(h:OB w c b cap xs):b<w.heap.size:=by obtain⟨_,_,_,d,a,_⟩:=h;exact a.lt
theorem OB.step{w w':World}{a b cap:Nat}{xs:List Int}(h:OB w a b cap xs)(i:Below w w w'):OB w' a b cap xs:=by
 obtain⟨j,c,e,g,d,f⟩:=h;exact⟨j,c,e,g,d.step i,f⟩
theorem OB.at{w:World}{g b cap:Nat}{xs:List Int}(h:OB w g b cap xs){i:Nat}(a:i<xs.length):w.cell? ⟨b,i,none⟩=some (.int .u8 (xs.getD i 0)):=by
 obtain⟨l,j,k,f,d,e⟩:=h;rw[d.cell i];have c:(f.take xs.length)[i]? = (Bts xs)[i]? :=by rw[e]
 rw[zbG,zQ a]at c;rw[c];unfold Bts;rw[yI,zD a,zK,zD a];rfl
theorem OB.free{w:World}{c b cap:Nat}{xs:List Int}(h:OB w c b cap xs)(i:Nat):w.frozen? ⟨b,i,none⟩=false:=by obtain⟨_,_,_,d,a,_⟩:=h;exact a.free i
theorem OB.range{w:World}{d b cap:Nat}{xs:List Int}(h:OB w d b cap xs):w.rangeAt b 0 (Bts xs):=fun j v c=>by
 rw[yE];have a:j<xs.length:=by rw[←zaC];exact(List.getElem?_eq_some_iff.1 c).1
 rw[h.at a,←c];unfold Bts;rw[yI,zD a,zK,zD a];rfl
theorem OB.rd{w:World}{a b cap:Nat}{xs:List Int}(h:OB w a b cap xs):Rd w (some ⟨b,0,none⟩) (Bts xs):=fun _=>⟨b,0,rfl,h.range⟩
theorem OB.set{w:World}{a b cap:Nat}{xs:List Int}(h:OB w a b cap xs)(i:Nat)(v:Int):OB (w.setCell ⟨b,i,none⟩ (.int .u8 v)) a b cap (xs.set i v):=by
 obtain⟨g,c,e,j,d,f⟩:=h;refine⟨g,by rw[yH];exact c,e,_,d.set i _,?_⟩;rw[yH,List.take_set,f];unfold Bts;rw[List.map_set]
theorem OB.of_owns{w:World}{d base':Nat}{a:Option Addr}{cap:Nat}{l:List Int}(h:w.ownsRow d 5 1 (.slice a l.length cap) l.length (Bts l))(r:1≤l.length)(m:base'≤d) :
 ∃b,a=some ⟨b,0,none⟩∧d≤b∧OB w base' b cap l:=by
 have p:=h.1;rcases h.2 with⟨c,s⟩|⟨g,q,j,c,e,k,n,f,o,i⟩
 ·omega
 ·simp only[Value.slice.injEq,true_and]at c;obtain⟨rfl,rfl⟩:=c;unfold maxLen at f;exact⟨g,rfl,e,yD m e,n,f,j.toList,k,by simpa using i⟩
theorem cloneBytes_any(xs:List Int)(a:Option Addr)(cap:Nat)(w:World)(v:1≤xs.length)(y:xs.length≤2162688)(p:Rd w a (Bts xs)) :
 Calls Tryz.prog 106 #[.slice a xs.length cap] w fun e l=>∃b m,e = .returned (.slice (some ⟨b,0,none⟩) xs.length m)∧OB l w.heap.size b m xs∧Below w w l:=by
 obtain⟨g,o,rfl,_⟩:=p.at (i:=0) (by rw[zaC];omega);have A:∀(w:World) (a:Option Addr) (n c h f:Nat),(binOp .eql 38 (.slice a n c) (.slice none h f)).run Tryz.prog w = .ok (.bool a.isNone) w:=fun w a n c h f=>Lib.run_eql_slice_nil w _ _ a n c h f Tryz.underlying38;have x:=zC (p.step ((zJ w.heap.size w).alloc (zF _) (Obj.cells #[] 5)));go_enter Tryz.func106,Tryz.ntmps106;go_wp2_with (at_builtin;refine yQ _ _ 38 5 1 1 _ w.heap.size zeL rfl rfl _ 0 [] rfl (World.ownsRow_made w #[] 0 (zF _) by2 rfl) (some ⟨g,o,none⟩) xs.length cap (Bts xs) rfl (by simp[Bts]) x.out (zvC xs) by5 om by1 ?_;intro B r u d j);have s:Below w w u:=Below.grown zo j by1 (fun k e=>by cases e;exact zF _);simp only[yE,lna]at d;obtain⟨b,rfl,z,q⟩:=OB.of_owns (base':=w.heap.size) d v (zF _);have t:=zC q;clear j d q;go_wp2;go_returns;exact⟨b,r,by simp,t.out,s⟩
end Go.Proofs.YthhgkafloejjiaaGreat
namespace Go.Proofs.YthhgkafloejjiaaGreat
open Go.RowKit
theorem OB.other{w:World}{a b cap:Nat}{xs:List Int}(h:OB w a b cap xs)(c i:Nat)(v:Value)(k:¬b=c):OB (w.setCell ⟨c,i,none⟩ v) a b cap xs:=by
 obtain⟨l,d,f,j,e,g⟩:=h;exact⟨l,d,f,j,e.other c i v k,g⟩
theorem OB.mono{w:World}{a base' b cap:Nat}{xs:List Int}(h:OB w a b cap xs)(c:base'≤a):OB w base' b cap xs:=⟨yD c h.1,h.2⟩
theorem zkE(c:Int)(xs:List Int)(a:Option Addr)(cap:Nat)(w:World)(F:1≤xs.length)(B:xs.length≤2162688)(C:Rd w a (Bts xs)) :
 Calls Tryz.prog 58 #[zcK c xs a cap] w fun e x=>∃b d,e = .returned (zcK c xs (some ⟨b,0,none⟩) d)∧OB x w.heap.size b d xs∧Below w w x:=by
 unfold zcK;have E:=zC fun W (h:Rd W a (Bts xs))=>cloneBytes_any xs a cap W F B h;go_enter Tryz.func58,Tryz.ntmps58;go_wp2;obtain⟨f,j,o,_,_⟩:=al2 w [c,.slice a xs.length cap] [.int .i64 0,.slice none 0 0] 40 40;have u:Below w w f:=by rw[←j];go_grown
 have t:Blk f (w.heap.size+1) [.int .i64 0,.slice none 0 0] 40:=by
  have h:=Blk.new (w.alloc (Obj.cells #[c,.slice a xs.length cap] 40)) [.int .i64 0,.slice none 0 0] 40;rw[←j];simpa using h
 rw[j];have H:w.heap.size+1<f.heap.size:=t.lt;clear j;have m:Cells f [(⟨w,0,none⟩,c),(⟨w,1,none⟩,.slice a xs.length cap)]:=⟨o.cell 0,o.cell 1,zT⟩;refine zvL 6 1 [(U,0,4),(zvE,4,1),(U,5,1)] (Keeps f [(⟨w,0,none⟩,c),(⟨w,1,none⟩,.slice a xs.length cap)]) (Keeps.start m) fun Y M N hY y=> ?_;repeat refine mrd ?_
 refine mcl ?_;refine(E.out _ ((C.step u).step (Keeps.start m).1)).mono ?_;rintro e D ⟨b,d,rfl,l,z⟩;have k:=(Keeps.start m).step z;refine⟨_,rfl,k,?_⟩;simp only[zvF];repeat refine mrd ?_
 refine mdn y fun K s=> ?_;clear y hY;have i:=t.step k.1;have L:=i.cell 0;have O:=i.cell 1;have I:=i.free 0;have J:=i.free 1;go_wp2_with fail;refine mok s ?_;clear s;have P:f.heap.size≤b:=l.1;have g:=(i.set 0 (.int .i64 c)).set 1 (.slice (some ⟨b,0,none⟩) xs.length d);have r:=g.cell 0;have q:=g.cell 1;simp only[sC0,sCs,lgz,lgs]at r q;have n:=((l.mono (base':=w.heap.size) by7).other (w.heap.size+1) 0 (.int .i64 c) om).other (w.heap.size+1) 1 (.slice (some ⟨b,0,none⟩) xs.length d) om;have G:Below w w ((D.setCell ⟨w.heap.size+1,0,none⟩ (.int .i64 c)).setCell ⟨w.heap.size+1,1,none⟩ (.slice (some ⟨b,0,none⟩) xs.length d)):=((zA u k.1).setCell (p:=⟨w.heap.size+1,0,none⟩) by1 _).setCell (p:=⟨w.heap.size+1,1,none⟩) by1 _;have A:=zC n;clear l n i g;go_wp2;exact bodyPost_ret (v:=.agg #[c,.slice (some ⟨b,0,none⟩) xs.length d]) (by simp[results,Tryz.results58,go_sem,r,q]) rfl ⟨b,d,rfl,A.out,G⟩
end Go.Proofs.YthhgkafloejjiaaGreat
namespace Go.Proofs.YthhgkafloejjiaaGreat
open Go.RowKit
def TO(w:World)(base:Nat)(bits:Int)(xs:List Int)(V:Value):Prop:=
 (bits=0∧xs = []∧V = .agg #[.int .i64 0,.slice none 0 0])∨∃b cap,V=zcK bits xs (some ⟨b,0,none⟩) cap∧OB w base b cap xs
theorem TO.nil(w:World)(a:Nat):TO w a 0 [] (.agg #[.int .i64 0,.slice none 0 0]):=.inl ⟨rfl,rfl,rfl⟩
def S10.setE(bits:Int)(xs:List Int)(n k st:Int):Int:=if S10.node bits xs n k=0 then(if 0≤st∧st≤214 then 0 else 1)else S10.node bits xs n k
def S10.setB(bits:Int)(xs:List Int)(n k st:Int):Int:=if S10.setE bits xs n k st=0 then bits else 0
def S10.setX(bits:Int)(xs:List Int)(n k st:Int):List Int:=if S10.setE bits xs n k st=0 then xs.set (16*n.toNat+k.toNat) st else []
theorem set10_bad(b:Int)(xs:List Int)(n k c:Int)(a:Option Addr)(cap:Nat)(w:World)(z:Tab xs a cap w)(t:¬S10.setE b xs n k c=0) :
 Calls Tryz.prog 190 #[zcK b xs a cap,n,k,c] w fun e G=>e = .returned (.tuple #[.agg #[.int .i64 0,.slice none 0 0],(S10.setE b xs n k c)])∧Below w w G:=by
 have r:=zC fun W (h:Tab xs a cap W)=>zmD b xs n k a cap W h;unfold zcK at *;by_cases i:S10.node b xs n k=0
 ·have j:S10.setE b xs n k c=if 0≤c∧c≤214 then 0 else 1:=zQ i
  have q:¬(0≤c∧c≤214):=fun h=>t (by rw[j,zQ h]);rw[j,zG q];rw[i]at r;have y:=zC fun W=>zcT c 0 214 W;rw[zL q]at y;clear q j i t;go_enter Tryz.func190,Tryz.ntmps190;go_wp2_with fail;refine mnx w (r.out _ (z.step zo)) fun o u A H=> ?_;have d:Blk o (w.heap.size+1) [.int .i64 0,.slice none 0 0] 40:=by
   have h:=(Blk.new (w.alloc (.cells #[b,.slice a xs.length cap] 40)) [.int .i64 0,.slice none 0 0] 40).step u;rwa[zY]at h
  go_wp2_with fail;refine mnx w (zhI _) fun O D M L=> ?_;go_wp2_with fail;refine mnx w (y.out _) fun K I B N=> ?_;have f:=(d.step D).step I;have s:=f.cell 0;have x:=f.cell 1;have E:=f.free 0;have F:=f.free 1;have g:=(f.set 0 (.int .i64 0)).set 1 (.slice none 0 0);have m:=g.cell 0;have l:=g.cell 1;simp only[sC0,sCs,lgz,lgs]at m l s x;clear d f g;go_wp2;exact bodyPost_ret (v:=.tuple #[.agg #[.int .i64 0,.slice none 0 0],.int .i64 1]) (by simp[results,Tryz.results190,go_sem,m,l]) rfl ⟨rfl,(B.setCell (p:=⟨w.heap.size+1,0,none⟩) by1 _).setCell (p:=⟨w.heap.size+1,1,none⟩) by1 _⟩
 ·have j:S10.setE b xs n k c=S10.node b xs n k:=zG i;rw[j];have J:(S10.node b xs n k != 0)=true:=by simpa using i
  generalize S10.node b xs n k=C at *;clear t j i;go_enter Tryz.func190,Tryz.ntmps190;go_wp2_with fail;refine mnx w (r.out _ (z.step zo)) fun o u A H=> ?_;have d:Blk o (w.heap.size+1) [.int .i64 0,.slice none 0 0] 40:=by
   have h:=(Blk.new (w.alloc (.cells #[b,.slice a xs.length cap] 40)) [.int .i64 0,.slice none 0 0] 40).step u;rwa[zY]at h
  have s:=d.cell 0;have x:=d.cell 1;have E:=d.free 0;have F:=d.free 1;have g:=(d.set 0 (.int .i64 0)).set 1 (.slice none 0 0);have m:=g.cell 0;have l:=g.cell 1;simp only[sC0,sCs,lgz,lgs]at m l s x;clear d g;go_wp2;exact bodyPost_ret (v:=.tuple #[.agg #[.int .i64 0,.slice none 0 0],C]) (by simp[results,Tryz.results190,go_sem,m,l]) rfl ⟨rfl,(A.setCell (p:=⟨w.heap.size+1,0,none⟩) by1 _).setCell (p:=⟨w.heap.size+1,1,none⟩) by1 _⟩
end Go.Proofs.YthhgkafloejjiaaGreat
namespace Go.Proofs.YthhgkafloejjiaaGreat
open Go.RowKit
theorem set10_ok(m n k:Nat)(xs:List Int)(d:Int)(hm:m≤16)(R:xs.length=16*2^m)(N:n<2^m)(hk:k≤15)(U:0≤d∧d≤214)(a:Option Addr)(cap:Nat)(w:World)(y:Tab xs a cap w)
 (I:S10.node (m:Int) xs (n:Int) (k:Int)=0) :
 Calls Tryz.prog 190 #[zcK (m:Int) xs a cap,n,k,d] w fun e L=>∃b c,e = .returned (.tuple #[zcK (m:Int) xs (some ⟨b,0,none⟩) c,.int .i64 0])∧OB L w.heap.size b c (xs.set (16*n+k) d)∧Below w w L:=by
 have J:=zC fun W (h:Tab xs a cap W)=>zmD (m:Int) xs (n:Int) (k:Int) a cap W h;rw[I]at J;have z:=zaX hm;have HC:=zC fun W (h:Rd W a (Bts xs))=>zkE (m:Int) xs a cap W om om h;have Q:=zC fun(b c:Nat) (h:xs.length≤c) V=>zgQ (m:Int) b 0 n (2^m) c N z om V;rw[←R]at Q;have u:=zC fun W=>zcT d 0 214 W;rw[zO U]at u;have G:16*n+k<xs.length:=by omega
 have ab:=zC G;have ae:d%256=d:=by omega
 unfold zcK at *;clear I R z G N;go_enter Tryz.func190,Tryz.ntmps190;go_wp2_with fail;refine mnx w (J.out _ (y.step zo)) fun A P af z1=> ?_;have H:Blk A w [m,.slice a xs.length cap] 40:=((Blk.new w _ _).alloc _).step P;have M:Blk A (w.heap.size+1) [.int .i64 0,.slice none 0 0] 40:=by
  have h:=(Blk.new (w.alloc (.cells #[m,.slice a xs.length cap] 40)) [.int .i64 0,.slice none 0 0] 40).step P;rwa[zY]at h
 go_wp2_with fail;refine mnx w (zhI _) fun w2 B ad z2=> ?_;go_wp2_with fail;refine mnx w (u.out _) fun Y S j z3=> ?_;have x:=(H.step B).step S;have s:=(M.step B).step S;obtain⟨k1,k2⟩:=x.c2;go_wp2_with fail;refine(HC.out _ (y.rd.step j)).mono ?_;rintro e i ⟨b,c,rfl,g,O⟩;have Z:=zA j O;have K:=s.step O;have l2:=s.lt;have z4:Y.heap.size≤b:=g.1;have l4:=g.lt;have aa:xs.length≤c:=g.2.1;go_wp2_with fail;refine(Q.out b c aa _).mono ?_;rintro e o ⟨rfl,D⟩;have q:Below i i o:=zA ((zJ _ i).alloc (zF _) _) D;have X:=zA Z q;have l:=g.step q;have t:Blk o i [m,.slice (some ⟨b,0,none⟩) xs.length c] 40:=(Blk.new i _ _).step D;have f:=K.step q;have q0:=t.cell 0;have q1:=t.cell 1;have r0:=f.cell 0;have r1:=f.cell 1;have f0:=f.free 0;have f1:=f.free 1;have p0:o.cell? ⟨b,0+16*n+k,none⟩=some (.int .u8 (xs.getD (16*n+k) 0)):=by rw[yE];exact l.at ab.out
 have p1:o.frozen? ⟨b,0+16*n+k,none⟩=false:=l.free _;simp only[zvH]at q0 q1 r0 r1;have F:=((((l.set (16*n+k) d).mono (base':=w.heap.size) (by have:=j.size;omega)).other (w.heap.size+1) 0 (.int .i64 (m:Int)) om).other (w.heap.size+1) 1 (.slice (some ⟨b,0,none⟩) xs.length c) om);have T:=zC F;have r:=((f.other b (16*n+k) (.int .u8 d) om).set 0 (.int .i64 (m:Int))).set 1 (.slice (some ⟨b,0,none⟩) xs.length c);have E:=r.cell 0;have C:=r.cell 1;simp only[sC0,sCs,lgz,lgs]at E C;clear g l F r f K H M x s;rw[yE]at *;go_wp2;have ac:=j.size;refine bodyPost_ret (v:=.tuple #[.agg #[m,.slice (some ⟨b,0,none⟩) xs.length c],.int .i64 0]) (by simp[results,Tryz.results190,go_sem,E,C]) rfl ⟨b,c,rfl,T.out,?_⟩;exact((X.setCell (p:=⟨b,16*n+k,none⟩) (by show w.heap.size≤b;omega) _).setCell (p:=⟨w.heap.size+1,0,none⟩) by1 _).setCell (p:=⟨w.heap.size+1,1,none⟩) by1 _
end Go.Proofs.YthhgkafloejjiaaGreat
namespace Go.Proofs.YthhgkafloejjiaaGreat
open Go.RowKit
theorem set10_any(f:Int)(xs:List Int)(n k c:Int)(a:Option Addr)(cap:Nat)(w:World)(o:Tab xs a cap w) :
 Calls Tryz.prog 190 #[zcK f xs a cap,n,k,c] w fun e g=>∃V,e = .returned (.tuple #[V,(S10.setE f xs n k c)])∧TO g w.heap.size (S10.setB f xs n k c) (S10.setX f xs n k c) V∧Below w w g:=by
 by_cases d:S10.setE f xs n k c=0
 ·have h:S10.node f xs n k=0:=by
   unfold S10.setE at d;split at d
   ·assumption
   ·exact d
  have q:0≤c∧c≤214:=by
   unfold S10.setE at d;rw[zQ h]at d;split at d
   ·assumption
   ·cases d
  have i:S10.setB f xs n k c=f:=zQ d;have l:S10.setX f xs n k c=xs.set (16*n.toNat+k.toNat) c:=zQ d;rw[d,i,l];obtain⟨A,r⟩:=S10.node_zero h;obtain⟨m,rfl,y,z,B⟩:=S10.correct A;obtain⟨t,x,rfl,rfl,v,C,p⟩:=S10.exists_at r;refine(set10_ok m t x xs c y z v p q a cap w o h).mono ?_;rintro e g ⟨b,u,rfl,s,j⟩;refine⟨_,rfl,.inr ⟨b,u,?_,s⟩,j⟩;unfold zcK;rw[yH]
 ·have i:S10.setB f xs n k c=0:=zG d;have l:S10.setX f xs n k c = []:=zG d;rw[i,l];refine(set10_bad f xs n k c a cap w o d).mono ?_;rintro e g ⟨rfl,j⟩;exact⟨_,rfl,TO.nil _ _,j⟩
def S10.prio(xs:List Int)(k:Nat):Int:=if S09.found (xs.getD (16*k+1) 0)then S09.hz (xs.getD (16*k+1) 0)+S09.ho (xs.getD (16*k+1) 0)else -1
theorem key10_any(i:Int)(xs:List Int)(m k b a cap:Nat)(y:m≤65536)(h:xs.length=16*m)(C:k<m)(n:xs.length≤cap)(u:∀x∈xs,0≤x∧x<256)(B:Nat)(w:World)(z:w.rangeAt b a (Bts xs))
 (K:w.cell? ⟨B,0,none⟩=some (.int .i64 i)) (E:w.cell? ⟨B,1,none⟩=some (.slice (some ⟨b,a,none⟩) xs.length cap)) :
 Calls Tryz.prog 62 #[k,.pointer (some ⟨B,0,none⟩)] w fun e t=>e = .returned (.int .i64 (S10.prio xs k))∧Below w w t:=by
 have g:=zC fun V=>zgQ i b a k m cap C y om V;rw[←h]at g;have c:16*k+1<xs.length:=by omega
 have d:=z (16*k+1) _ (show(Bts xs)[16*k+1]? = some (.int .u8 (xs.getD (16*k+1) 0)) by unfold Bts;rw[yI,zD c,zK,zD c];rfl);have I:0≤xs.getD (16*k+1) 0∧xs.getD (16*k+1) 0<256:=by
  rw[zK,zD c];exact u _ (yR c)
 unfold S10.prio;generalize xs.getD (16*k+1) 0=v at *;have q:=zE d;have o:wrap64 v=v:=IntWalk.wrap64_in _ ⟨by omega,by omega⟩;have f:a+(16*k+1)=a+16*k+1:=by omega
 rw[f]at d;have A:=zC fun V=>zrW v V;generalize (if S09.found v then S09.hz v+S09.ho v else -1)=r at *;clear f h n c;go_enter Tryz.func62,Tryz.ntmps62;go_wp2_with fail;refine mnx w (g.out _) fun l H j F=> ?_;have J:l.cell? ⟨b,a+16*k+1,none⟩=some (.int .u8 v):=(j.cell (p:=⟨b,a+16*k+1,none⟩) q).trans d;go_wp2_with fail;(try rw[o]);refine mnb j (A.out _) fun G D s=> ?_;exact mf1 s
