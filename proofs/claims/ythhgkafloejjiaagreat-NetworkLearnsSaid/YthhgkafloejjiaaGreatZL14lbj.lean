/- A part of the proof of L14l. No condition. -/
import Derived.Test.YthhgkafloejjiaaGreatZL14lbf
set_option linter.all false
set_option maxRecDepth 100000
set_option maxHeartbeats 2000000
namespace Go.Proofs.YthhgkafloejjiaaGreat
open Go.RowKit Go.Shelf
attribute [local go_sem] Oper.semAt_some
def S10.lstep(xs:List Int)(o:Option Nat)(x:Nat):Option Nat:=match o with
 | none=>some x
 | some b=>if S10.prio xs x<S10.prio xs b then some x else some b
def S10.least(xs:List Int)(l:List Nat):Option Nat:=l.foldl (S10.lstep xs) none
theorem S10.least_snoc(xs:List Int)(l:List Nat)(x:Nat):S10.least xs (l ++ [x])=S10.lstep xs (S10.least xs l) x:=by unfold S10.least;rw[List.foldl_append];rfl
theorem S10.lstep_mem(xs:List Int)(o:Option Nat)(x b:Nat)(h:S10.lstep xs o x=some b):b=x∨o=some b:=by
 cases o with
 | none=>left;cases h;rfl
 | some c=>
   unfold S10.lstep at h;simp only at h;split at h<;>cases h
   ·exact .inl rfl
   ·exact .inr rfl
theorem S10.least_mem(xs:List Int):∀(l:List Nat) (o:Option Nat) (b:Nat),l.foldl (S10.lstep xs) o=some b→b∈l∨o=some b
 | [],o,b,h=>.inr h
 | x::l,o,b,h=>by
   rcases S10.least_mem xs l _ b h with h|h
   ·exact .inl (List.mem_cons_of_mem _ h)
   ·rcases S10.lstep_mem xs o x b h with rfl|h
    ·exact .inl List.mem_cons_self
    ·exact .inr h
theorem S10.least_some(xs:List Int):∀(l:List Nat) (o:Option Nat),l≠ []→∃b,l.foldl (S10.lstep xs) o=some b:=by
 intro l;induction l with
 | nil=>intro _ h;exact absurd rfl h
 | cons x l d=>
   intro o _;by_cases a:l = []
   ·subst a;cases o with
    | none=>exact⟨x,rfl⟩
    | some c=>
      simp only[List.foldl_cons,List.foldl_nil,S10.lstep];split
      ·exact⟨_,rfl⟩
      ·exact⟨_,rfl⟩
   ·exact d _ a
theorem least10_any(d hash:Nat)(hb:d≤16)(hh:hash<4294967296)(xs:List Int)(ak:xs.length=16*2^d)(an:∀x∈xs,0≤x∧x<256)(b off cap:Nat)(ar:16*2^d≤cap)(y z B:Nat)(w:World)(ap:w.rangeAt b off (Bts xs))
 (h1:w.cell? ⟨B,0,none⟩=some (.int .i64 (d:Int))) (h2:w.cell? ⟨B,1,none⟩=some (.slice (some ⟨b,off,none⟩) xs.length cap))
 (af:w.cell? ⟨y,0,none⟩=some (.int .i64 (d:Int))) (ag:w.cell? ⟨z,0,none⟩=some (.int .u32 (hash:Int))) :
 Calls Tryz.prog 60 #[.func (.func 107) #[] #[.pointer (some ⟨y,0,none⟩),.pointer (some ⟨z,0,none⟩)],.func (.func 62) #[] #[.pointer (some ⟨B,0,none⟩)]] w fun e w'=>
  e = .returned (.int .i64 ((S10.least xs (S10.places d hash)).getD 0:Nat))∧Below w w w':=by
 have hn:=zaX hb;have aB:=zaJ d;obtain⟨am,ae⟩:=zvJ (S10.least xs (S10.places d hash));rw[ae];have aw:=zC ae;clear ae;have aq:=zC (znY 8 y z w.heap.size d hash hb hh (zE af) (zE ag) w (zF _) af ag);have HK:=zC fun(x:Nat) (T:x<2^d) (V:World) (u:Below w w V)=>key10_any (d:Int) xs (2^d) x b off cap hn ak T om an B V (yV ap u) ((u.cell (zE h1)).trans h1) ((u.cell (zE h2)).trans h2);generalize hM:2^d=m at *;clear ak ar hM h1 h2 af ag;refine(callsIn_wide (n:=9)).1 ?_;refine callsIn_of_wp_marks Tryz.func60 rfl zT ?_ rfl;simp only[Tryz.ntmps60,zfX,zbL,List.length_nil,Nat.reduceAdd,Nat.reduceSub,Array.replicate_succ,Array.replicate_zero,List.push_toArray,List.append_toArray,lna,lca];gi_wp2_with fail
 obtain⟨A1,ab,a1,c1⟩:=al1 w [Value.func (Fn.func 62) #[] #[Value.pointer (some {block:=B,off:=0})]] 81;have s1:A1.heap.size=w.heap.size+1:=by rw[←ab];simp
 rw[ab];clear ab;obtain⟨X,Q,_,c2⟩:=al1 A1 [Value.int IntKind.i64 0] 3;have a2:Blk X (w.heap.size+1) [.int .i64 0] 3:=by rw[←Q,←s1];exact Blk.new A1 _ _
 have s2:X.heap.size=w.heap.size+1+1:=by rw[←Q];simp[s1]
 rw[Q];clear Q;obtain⟨O,R,_,P⟩:=al1 X [Value.bool false] 4;have a3:Blk O (w.heap.size+1+1) [.bool false] 4:=by rw[←R,←s2];exact Blk.new X _ _
 have s3:O.heap.size=w.heap.size+1+1+1:=by rw[←R];simp[s2]
 rw[R];clear R;have ai:Below w w O:=zA (zA c1 c2) P;have b1:=(a1.step c2).step P;have b2:=a2.step P;clear a1 a2 c1 c2 P s1 s2
 refine wpIn_rangeFunc_ownF rfl om (gf:=107) (lb:=#[.pointer (some ⟨y,0,none⟩),.pointer (some ⟨z,0,none⟩)]) rfl zT (enters_of Tryz.func107 zk rfl)
  aq.out belowK_t (belowK_b om) ai (fun _=>rfl)
  (fun i W=>(O.heap.size≤W.heap.size∧Blk W w [Value.func (Fn.func 62) #[] #[Value.pointer (some {block:=B,off:=0})]] 81∧
    Blk W (w.heap.size+1) [((S10.least xs (i.map Subtype.val)).getD 0:Nat)] 3∧Blk W (w.heap.size+1+1) [.bool (S10.least xs (i.map Subtype.val)).isSome] 4)∧Below w w W)
  (fun c i W=>False)
  (OwnFrom.and (Own.from (fun s A B ay Z S hr=>⟨yD Z.1 S.size,Z.2.1.kept S hr,Z.2.2.1.kept S hr,Z.2.2.2.kept S hr⟩) _) (ownFrom_below (zF _) om))
  (fun c=>fun _ _ _ _ h _ _=>h)
  ⟨⟨zF _,b1,b2,a3⟩,ai⟩
  (fun x=>{tmps:=#[Value.func (Fn.func 107) #[] #[Value.pointer (some {block:=y,off:=0}),Value.pointer (some {block:=z,off:=0})],
    Value.func (Fn.func 62) #[] #[Value.pointer (some {block:=B,off:=0})],undef,
    Value.pointer (some {block:=w.heap.size,off:=0}),Value.int IntKind.i64 0,
    Value.pointer (some {block:=w.heap.size+1,off:=0}),
    Value.pointer (some {block:=w.heap.size+1+1,off:=0}),.int .i64 (x.1:Int),
    Value.func (Fn.func 107) #[] #[Value.pointer (some {block:=y,off:=0}),Value.pointer (some {block:=z,off:=0})],
    .int .i64 (x.1:Int),undef,undef,undef,undef,undef,undef,undef,undef,undef,undef,undef,undef,undef],defers:=[]}) ?assign ?body ?done ?stop
 case assign=>
  intro l x W K g;gi_wp2
  exact g
 case body=>
  rintro l i ⟨x,T⟩ W ⟨⟨ad,G,t,C⟩,r⟩ _;have L:=S10.least_snoc xs (i.map Subtype.val) x
  have aj:∀f,S10.least xs (i.map Subtype.val)=some f→f<m:=fun f h=>by
   rcases S10.least_mem xs _ _ _ h with h|h
   ·obtain⟨k,hk,rfl⟩:=List.mem_map.1 h;exact k.2
   ·cases h
  have K1:=zC fun V u=>HK.out x T V u;generalize S10.least xs (i.map Subtype.val)=o at *;have aa:=r.size;cases o with
  | none=>
    have N:=zC L;clear L;have v:Cells W [(⟨w.heap.size+1+1,0,none⟩,.bool false)]:=⟨C.cell 0,zT⟩;gi_wp2_with fail
    refine zgJ 11 0 [(U,[U,U,U,U,U,zvE,U,U]),(zvE,[zvE,zvE,zvE,zvE,zvE,U]),(zvE,[zvE,zvE,zvE,zvE,zvE,zvE,zvE,zvE,U]),(U,[zvE,zvE,zvE,zvE,zvE,zvE,zvE,zvE,zvE,U,U])] _ _ (Keeps W [(⟨w.heap.size+1+1,0,none⟩,.bool false)]) zk (zU 11 _).symm zk zk zk zk (Keeps.start v) (fun Y Q4 F4 hY I=> ?_);simp only[zvG];repeat refine mrd ?_
    repeat first|refine mud ?_|refine msk (Keeps.start v) ?_
    repeat refine mrd ?_
    refine mdn I fun K g=> ?_;clear I hY;refine mok g ?_;clear g;have a:Below W W W.drew:=(Keeps.start v).1;generalize W.drew=W7 at *;have H:=G.step a;have q:=t.step a;have j:=C.step a;have E:=(H.other (w.heap.size+1) 0 (.int .i64 (x:Int)) om).other (w.heap.size+1+1) 0 (.bool true) om;have F:=((q.set 0 (.int .i64 (x:Int))).other (w.heap.size+1+1) 0 (.bool true) om);have M:=((j.other (w.heap.size+1) 0 (.int .i64 (x:Int)) om).set 0 (.bool true));have J:=q.cell 0;have av:=q.free 0;have t3:=j.cell 0;have au:=j.free 0;simp only[sC0,lgz,Option.isSome_none,Option.isSome_some,Option.getD_none,zcC]at E F M J t3;gi_wp2
    refine⟨(zbD a).trans ((KeepsOthers.setCell _ _ _).trans (KeepsOthers.setCell _ _ _)),((a.mono aa).setCell (p:=⟨w.heap.size+1,0,none⟩) by1 _).setCell (p:=⟨w.heap.size+1+1,0,none⟩) by7 _,⟨by simpa using yD ad a.size,E,?_⟩,((zA r a).setCell (p:=⟨w.heap.size+1,0,none⟩) by1 _).setCell (p:=⟨w.heap.size+1+1,0,none⟩) by7 _⟩;rw[List.map_append,List.map_cons,List.map_nil,N.out];exact⟨F,M⟩
  | some f=>
    have K2:=zC fun V u=>HK.out f (aj f rfl) V u;clear aj;have hl:S10.lstep xs (some f) x=if S10.prio xs x<S10.prio xs f then some x else some f:=rfl
    rw[hl]at L;have N:=zC L;clear L hl;generalize S10.prio xs x=px at *;generalize S10.prio xs f=pb at *;have v:Cells W [(⟨w.heap.size+1+1,0,none⟩,.bool true),(⟨w,0,none⟩,Value.func (Fn.func 62) #[] #[Value.pointer (some {block:=B,off:=0})]),(⟨w.heap.size+1,0,none⟩,f)]:=⟨C.cell 0,G.cell 0,t.cell 0,zT⟩;gi_wp2_with fail
    refine zgJ 11 0 [(U,[U,U,U,U,U,zvE,U,U]),(zvE,[zvE,zvE,zvE,zvE,zvE,U]),(zvE,[zvE,zvE,zvE,zvE,zvE,zvE,zvE,zvE,U]),(U,[zvE,zvE,zvE,zvE,zvE,zvE,zvE,zvE,zvE,U,U])] _ _ (Keeps W [(⟨w.heap.size+1+1,0,none⟩,.bool true),(⟨w,0,none⟩,Value.func (Fn.func 62) #[] #[Value.pointer (some {block:=B,off:=0})]),(⟨w.heap.size+1,0,none⟩,f)]) zk (zU 11 _).symm zk zk zk zk (Keeps.start v) (fun Y Q4 F4 hY I=> ?_);simp only[zvG];repeat refine mrd ?_
    refine mcl ?_;refine mck (Keeps.start v) (K1.out _ (zA r (Keeps.start v).1)) fun w5 az al=> ?_;refine mcl ?_;refine mck al (K2.out _ (zA r al.1)) fun w6 aC ao=> ?_;repeat refine mrd ?_
    refine mdn I fun K g=> ?_;clear I hY;refine mok g ?_;clear g;have a:Below W W w6:=ao.1;by_cases ah:px<pb
    ·have ac:=zC (N.out.trans (zQ ah));have H:=G.step a;have q:=t.step a;have j:=C.step a;have E:=(H.other (w.heap.size+1) 0 (.int .i64 (x:Int)) om).other (w.heap.size+1+1) 0 (.bool true) om;have F:=((q.set 0 (.int .i64 (x:Int))).other (w.heap.size+1+1) 0 (.bool true) om);have M:=((j.other (w.heap.size+1) 0 (.int .i64 (x:Int)) om).set 0 (.bool true));have J:=q.cell 0;have av:=q.free 0;have t3:=j.cell 0;have au:=j.free 0;simp only[sC0,lgz,Option.isSome_none,Option.isSome_some,Option.getD_none,zcC]at E F M J t3;gi_wp2
     refine⟨(zbD a).trans ((KeepsOthers.setCell _ _ _).trans (KeepsOthers.setCell _ _ _)),((a.mono aa).setCell (p:=⟨w.heap.size+1,0,none⟩) by1 _).setCell (p:=⟨w.heap.size+1+1,0,none⟩) by7 _,⟨by simpa using yD ad a.size,E,?_⟩,((zA r a).setCell (p:=⟨w.heap.size+1,0,none⟩) by1 _).setCell (p:=⟨w.heap.size+1+1,0,none⟩) by7 _⟩;rw[List.map_append,List.map_cons,List.map_nil,ac.out];exact⟨F,M⟩
    ·have ac:=zC (N.out.trans (zG ah));have H:=G.step a;have q:=t.step a;have j:=C.step a;gi_wp2
     refine⟨zbD a,a.mono aa,⟨by have:=a.size;omega,H,?_⟩,zA r a⟩;rw[show(i ++ [(⟨x,T⟩:Below' m)]).unattach=i.map Subtype.val ++ [x]from by unfold List.unattach;rw[List.map_append];rfl,ac.out];exact⟨q,j⟩
 case done=>
  rintro D ys W hD ax ⟨⟨ad,G,t,C⟩,r⟩ g;rw[ax,aw.out]at t;have J:=t.cell 0;simp only[lgz]at J;gi_wp2
  refine⟨by simp,.inl ⟨_,_,rfl,run_takeDeferred g,?_⟩⟩;refine⟨.int .i64 (am.getD 0:Nat),?_,rfl,r.trans (belowK_b (w:=w) (zF _) W D _ _ om g rfl rfl)⟩;simp[results,Tryz.f60,go_sem]
 case stop=>
  rintro D c i W hD aA h;exact h.elim
