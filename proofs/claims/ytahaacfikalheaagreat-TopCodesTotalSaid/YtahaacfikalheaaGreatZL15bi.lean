/- A part of the proof of L15. No condition. -/
import Derived.Test.YtahaacfikalheaaGreatZL15bf
set_option linter.all false
set_option maxRecDepth 100000
set_option maxHeartbeats 2000000
namespace Go.Proofs.YtahaacfikalheaaGreat
open Go.RowKit Go.Shelf
attribute [local go_sem] Oper.semAt_some
def S10.lstep(xs:List Int)(o:Option Nat)(x:Nat):Option Nat:=match o with
 | none=>some x
 | some b=>if S10.prio xs x<S10.prio xs b then some x else some b
def S10.least(xs:List Int)(l:List Nat):Option Nat:=l.foldl (S10.lstep xs) none
theorem S10.least_snoc(xs:List Int)(l:List Nat)(x:Nat):S10.least xs (l ++ [x])=S10.lstep xs (S10.least xs l) x:=by unfold S10.least;rw[List.foldl_append];rfl
theorem S10.lstep_mem(xs:List Int)(o:Option Nat)(x b:Nat)(h:S10.lstep xs o x=some b):b=x∨o=some b:=by
 cases o with
 | none=>left;cases h;rfl
 | some c=>
   unfold S10.lstep at h;simp only at h;split at h<;>cases h
   ·exact .inl rfl
   ·exact .inr rfl
theorem S10.least_mem(xs:List Int):∀(l:List Nat) (o:Option Nat) (b:Nat),l.foldl (S10.lstep xs) o=some b→b∈l∨o=some b
 | [],o,b,h=>.inr h
 | x::l,o,b,h=>by
   rcases S10.least_mem xs l _ b h with h|h
   ·exact .inl (List.mem_cons_of_mem _ h)
   ·rcases S10.lstep_mem xs o x b h with rfl|h
    ·exact .inl List.mem_cons_self
    ·exact .inr h
theorem S10.least_some(xs:List Int):∀(l:List Nat) (o:Option Nat),l≠ []→∃b,l.foldl (S10.lstep xs) o=some b:=by
 intro l;induction l with
 | nil=>intro _ h;exact absurd rfl h
 | cons x l ih=>
   intro o _;by_cases hl:l = []
   ·subst hl;cases o with
    | none=>exact⟨x,rfl⟩
    | some c=>
      simp only[List.foldl_cons,List.foldl_nil,S10.lstep];split
      ·exact⟨_,rfl⟩
      ·exact⟨_,rfl⟩
   ·exact ih _ hl
theorem least10_any(bits hash:Nat)(hb:bits≤16)(hh:hash<4294967296)(xs:List Int)(hlen:xs.length=16*2^bits)(hok:∀x∈xs,0≤x∧x<256)(b off cap:Nat)(hcap:16*2^bits≤cap)(Bs Bn B:Nat)(w:World)(hcs:w.rangeAt b off (Bts xs))
 (h1:w.cell? ⟨B,0,none⟩=some (.int .i64 (bits:Int))) (h2:w.cell? ⟨B,1,none⟩=some (.slice (some ⟨b,off,none⟩) xs.length cap))
 (hBs:w.cell? ⟨Bs,0,none⟩=some (.int .i64 (bits:Int))) (hBn:w.cell? ⟨Bn,0,none⟩=some (.int .u32 (hash:Int))) :
 Calls Tryz.prog 63 #[.func (.func 77) #[] #[.pointer (some ⟨Bs,0,none⟩),.pointer (some ⟨Bn,0,none⟩)],.func (.func 65) #[] #[.pointer (some ⟨B,0,none⟩)]] w fun e w'=>
  e = .returned (.int .i64 ((S10.least xs (S10.places bits hash)).getD 0:Nat))∧Below w.heap.size w w':=by
 have hn:=zcJ hb;have hn1:=zcB bits;obtain⟨res,hres⟩:∃res,S10.least xs (S10.places bits hash)=res:=⟨_,rfl⟩;rw[hres];have Hres:=zB hres;clear hres;have Hplc:=zB (znF 8 Bs Bn w.heap.size bits hash hb hh (zL hBs) (zL hBn) w (zD _) hBs hBn);have HK:=zB fun(x:Nat) (hx:x<2^bits) (V:World) (hV:Below w.heap.size w V)=>key10_any (bits:Int) xs (2^bits) x b off cap hn hlen hx (by omega) hok B V (zcD hcs hV) ((hV.cell (zL h1)).trans h1) ((hV.cell (zL h2)).trans h2);generalize hM:2^bits=m at *;clear hlen hcap hM h1 h2 hBs hBn;refine(callsIn_wide (n:=9)).1 ?_;refine callsIn_of_wp_marks Tryz.func63 rfl yF ?_ rfl;simp only[Tryz.ntmps63,List.size_toArray,yO,List.length_nil,Nat.reduceAdd,Nat.reduceSub,Array.replicate_succ,Array.replicate_zero,List.push_toArray,List.append_toArray,lna,lca];gi_wp2_with fail
 obtain⟨A1,hA1⟩:∃A1,w.alloc (Obj.cells #[Value.func (Fn.func 65) #[] #[Value.pointer (some {block:=B,off:=0})]] 87)=A1:=⟨_,rfl⟩;have a1:Blk A1 w.heap.size [Value.func (Fn.func 65) #[] #[Value.pointer (some {block:=B,off:=0})]] 87:=by rw[←hA1];exact Blk.new w _ _
 have s1:A1.heap.size=w.heap.size+1:=by rw[←hA1];simp
 have c1:Below w.heap.size w A1:=by rw[←hA1];exact(zF _ _).alloc (zD _) _
 rw[hA1];clear hA1;obtain⟨A2,hA2⟩:∃A2,A1.alloc (Obj.cells #[Value.int IntKind.i64 0] 3)=A2:=⟨_,rfl⟩;have a2:Blk A2 (w.heap.size+1) [.int .i64 0] 3:=by rw[←hA2,←s1];exact Blk.new A1 _ _
 have s2:A2.heap.size=w.heap.size+1+1:=by rw[←hA2];simp[s1]
 have c2:Below A1.heap.size A1 A2:=by rw[←hA2];exact(zF _ _).alloc (zD _) _
 rw[hA2];clear hA2;obtain⟨W0,hW0⟩:∃W0,A2.alloc (Obj.cells #[Value.bool false] 4)=W0:=⟨_,rfl⟩;have a3:Blk W0 (w.heap.size+1+1) [.bool false] 4:=by rw[←hW0,←s2];exact Blk.new A2 _ _
 have s3:W0.heap.size=w.heap.size+1+1+1:=by rw[←hW0];simp[s2]
 have c3:Below A2.heap.size A2 W0:=by rw[←hW0];exact(zF _ _).alloc (zD _) _
 rw[hW0];clear hW0;have hB0:Below w.heap.size w W0:=zA (zA c1 c2) c3;have b1:=(a1.step c2).step c3;have b2:=a2.step c3;clear a1 a2 c1 c2 c3 s1 s2
 refine wpIn_rangeFunc_ownF rfl (by omega) (gf:=77) (lb:=#[.pointer (some ⟨Bs,0,none⟩),.pointer (some ⟨Bn,0,none⟩)]) rfl yF (enters_of Tryz.func77 (by kernel_rfl) rfl)
  Hplc.out belowK_t (belowK_b (by omega)) hB0 (fun _=>rfl)
  (fun pre W=>(W0.heap.size≤W.heap.size∧Blk W w.heap.size [Value.func (Fn.func 65) #[] #[Value.pointer (some {block:=B,off:=0})]] 87∧
    Blk W (w.heap.size+1) [.int .i64 ((S10.least xs (pre.map Subtype.val)).getD 0:Nat)] 3∧Blk W (w.heap.size+1+1) [.bool (S10.least xs (pre.map Subtype.val)).isSome] 4)∧Below w.heap.size w W)
  (fun c pre W=>False)
  (OwnFrom.and (Own.from (fun s A B row hs hg hr=>⟨yC hs.1 hg.size,hs.2.1.kept hg hr,hs.2.2.1.kept hg hr,hs.2.2.2.kept hg hr⟩) _) (ownFrom_below (zD _) (by omega)))
  (fun c=>fun _ _ _ _ h _ _=>h)
  ⟨⟨zD _,b1,b2,a3⟩,hB0⟩
  (fun x=>{tmps:=#[Value.func (Fn.func 77) #[] #[Value.pointer (some {block:=Bs,off:=0}),Value.pointer (some {block:=Bn,off:=0})],
    Value.func (Fn.func 65) #[] #[Value.pointer (some {block:=B,off:=0})],undef,
    Value.pointer (some {block:=w.heap.size,off:=0}),Value.int IntKind.i64 0,
    Value.pointer (some {block:=w.heap.size+1,off:=0}),
    Value.pointer (some {block:=w.heap.size+1+1,off:=0}),.int .i64 (x.1:Int),
    Value.func (Fn.func 77) #[] #[Value.pointer (some {block:=Bs,off:=0}),Value.pointer (some {block:=Bn,off:=0})],
    .int .i64 (x.1:Int),undef,undef,undef,undef,undef,undef,undef,undef,undef,undef,undef,undef,undef],defers:=[]}) ?assign ?body ?done ?stop
 case assign=>
  intro l x W K hK;gi_wp2
  exact hK
 case body=>
  rintro l pre ⟨x,hx⟩ W ⟨⟨hsz,d1,d2,d3⟩,hB⟩ _;have hsn:=S10.least_snoc xs (pre.map Subtype.val) x
  have hmem:∀b0,S10.least xs (pre.map Subtype.val)=some b0→b0<m:=fun b0 h=>by
   rcases S10.least_mem xs _ _ _ h with h|h
   ·obtain⟨k,hk,rfl⟩:=List.mem_map.1 h;exact k.2
   ·cases h
  have K1:=zB fun V hV=>HK.out x hx V hV;generalize S10.least xs (pre.map Subtype.val)=o at *;have hzW:=hB.size;cases o with
  | none=>
    have Hsn:=zB hsn;clear hsn;have hCS:Cells W [(⟨w.heap.size+1+1,0,none⟩,.bool false)]:=⟨d3.cell 0,yF⟩;gi_wp2_with fail
    refine zgK 11 0 [(U,[U,U,U,U,U,zuH,U,U]),(zuH,[zuH,zuH,zuH,zuH,zuH,U]),(zuH,[zuH,zuH,zuH,zuH,zuH,zuH,zuH,zuH,U]),(U,[zuH,zuH,zuH,zuH,zuH,zuH,zuH,zuH,zuH,U,U])] _ _ (Keeps W [(⟨w.heap.size+1+1,0,none⟩,.bool false)]) (by kernel_rfl) (yB 11 _).symm (by kernel_rfl) (by kernel_rfl) (by kernel_rfl) (by kernel_rfl) (Keeps.start hCS) (fun Y Q4 F4 hY hF=> ?_);simp only[zuJ]
    repeat
     apply zJ (by rw[hY];rfl)
     ·intro w2 hS2;(try simp only[Keeps,Cells]at hS2);go_simp;with_reducible rfl
     simp only[zuI]
    repeat
     first
      | (apply yV (by rw[hY];rfl);simp only[zuI])
      | (refine zaD (by rw[hY];rfl) (Keeps.start hCS) ?_;simp only[zuI])
    repeat
     apply zJ (by rw[hY];rfl)
     ·intro w2 hS2;(try simp only[Keeps,Cells]at hS2);go_simp;with_reducible rfl
     simp only[zuI]
    refine yE (hF.out _ _ (fun K hK=> ?_));clear hF hY;refine OnlyK.mk (hK.out _ _ ?_);clear hK;have hb7:Below W.heap.size W W.drew:=(Keeps.start hCS).1;generalize W.drew=W7 at *;have e1:=d1.step hb7;have e2:=d2.step hb7;have e3:=d3.step hb7;have g1:=(e1.other (w.heap.size+1) 0 (.int .i64 (x:Int)) (by omega)).other (w.heap.size+1+1) 0 (.bool true) (by omega);have g2:=((e2.set 0 (.int .i64 (x:Int))).other (w.heap.size+1+1) 0 (.bool true) (by omega));have g3:=((e3.other (w.heap.size+1) 0 (.int .i64 (x:Int)) (by omega)).set 0 (.bool true));have t2:=e2.cell 0;have t2f:=e2.free 0;have t3:=e3.cell 0;have t3f:=e3.free 0;simp only[sC0,lgz,Option.isSome_none,Option.isSome_some,Option.getD_none,zeK]at g1 g2 g3 t2 t3;gi_wp2
    refine⟨(zbI hb7).trans ((KeepsOthers.setCell _ _ _).trans (KeepsOthers.setCell _ _ _)),((hb7.mono hzW).setCell (p:=⟨w.heap.size+1,0,none⟩) (by simp) _).setCell (p:=⟨w.heap.size+1+1,0,none⟩) (by simp;omega) _,⟨by simpa using yC hsz hb7.size,g1,?_⟩,((zA hB hb7).setCell (p:=⟨w.heap.size+1,0,none⟩) (by simp) _).setCell (p:=⟨w.heap.size+1+1,0,none⟩) (by simp;omega) _⟩;rw[List.map_append,List.map_cons,List.map_nil,Hsn.out];exact⟨g2,g3⟩
  | some b0=>
    have K2:=zB fun V hV=>HK.out b0 (hmem b0 rfl) V hV;clear hmem;have hl:S10.lstep xs (some b0) x=if S10.prio xs x<S10.prio xs b0 then some x else some b0:=rfl
    rw[hl]at hsn;have Hsn:=zB hsn;clear hsn hl;generalize S10.prio xs x=px at *;generalize S10.prio xs b0=pb at *;have hCS:Cells W [(⟨w.heap.size+1+1,0,none⟩,.bool true),(⟨w.heap.size,0,none⟩,Value.func (Fn.func 65) #[] #[Value.pointer (some {block:=B,off:=0})]),(⟨w.heap.size+1,0,none⟩,.int .i64 (b0:Int))]:=⟨d3.cell 0,d1.cell 0,d2.cell 0,yF⟩;gi_wp2_with fail
    refine zgK 11 0 [(U,[U,U,U,U,U,zuH,U,U]),(zuH,[zuH,zuH,zuH,zuH,zuH,U]),(zuH,[zuH,zuH,zuH,zuH,zuH,zuH,zuH,zuH,U]),(U,[zuH,zuH,zuH,zuH,zuH,zuH,zuH,zuH,zuH,U,U])] _ _ (Keeps W [(⟨w.heap.size+1+1,0,none⟩,.bool true),(⟨w.heap.size,0,none⟩,Value.func (Fn.func 65) #[] #[Value.pointer (some {block:=B,off:=0})]),(⟨w.heap.size+1,0,none⟩,.int .i64 (b0:Int))]) (by kernel_rfl) (yB 11 _).symm (by kernel_rfl) (by kernel_rfl) (by kernel_rfl) (by kernel_rfl) (Keeps.start hCS) (fun Y Q4 F4 hY hF=> ?_);simp only[zuJ]
    repeat
     apply zJ (by rw[hY];rfl)
     ·intro w2 hS2;(try simp only[Keeps,Cells]at hS2);go_simp;with_reducible rfl
     simp only[zuI]
    apply zR (by rw[hY];rfl)
    ·go_simp;with_reducible exact⟨rfl,rfl⟩
    refine(K1.out _ (zA hB (Keeps.start hCS).1)).mono ?_;rintro e w5 ⟨rfl,hb5⟩;have hk5:=(Keeps.start hCS).step hb5;refine⟨_,rfl,hk5,?_⟩;simp only[zuI];apply zR (by rw[hY];rfl)
    ·go_simp;with_reducible exact⟨rfl,rfl⟩
    refine(K2.out _ (zA hB hk5.1)).mono ?_;rintro e w6 ⟨rfl,hb6⟩;have hk6:=hk5.step hb6;refine⟨_,rfl,hk6,?_⟩;simp only[zuI]
    repeat
     apply zJ (by rw[hY];rfl)
     ·intro w2 hS2;(try simp only[Keeps,Cells]at hS2);go_simp;with_reducible rfl
     simp only[zuI]
    refine yE (hF.out _ _ (fun K hK=> ?_));clear hF hY;refine OnlyK.mk (hK.out _ _ ?_);clear hK;have hb7:Below W.heap.size W w6:=hk6.1;by_cases hlt:px<pb
    ·have Hs2:=zB (Hsn.out.trans (zO hlt));have e1:=d1.step hb7;have e2:=d2.step hb7;have e3:=d3.step hb7;have g1:=(e1.other (w.heap.size+1) 0 (.int .i64 (x:Int)) (by omega)).other (w.heap.size+1+1) 0 (.bool true) (by omega);have g2:=((e2.set 0 (.int .i64 (x:Int))).other (w.heap.size+1+1) 0 (.bool true) (by omega));have g3:=((e3.other (w.heap.size+1) 0 (.int .i64 (x:Int)) (by omega)).set 0 (.bool true));have t2:=e2.cell 0;have t2f:=e2.free 0;have t3:=e3.cell 0;have t3f:=e3.free 0;simp only[sC0,lgz,Option.isSome_none,Option.isSome_some,Option.getD_none,zeK]at g1 g2 g3 t2 t3;gi_wp2
     refine⟨(zbI hb7).trans ((KeepsOthers.setCell _ _ _).trans (KeepsOthers.setCell _ _ _)),((hb7.mono hzW).setCell (p:=⟨w.heap.size+1,0,none⟩) (by simp) _).setCell (p:=⟨w.heap.size+1+1,0,none⟩) (by simp;omega) _,⟨by simpa using yC hsz hb7.size,g1,?_⟩,((zA hB hb7).setCell (p:=⟨w.heap.size+1,0,none⟩) (by simp) _).setCell (p:=⟨w.heap.size+1+1,0,none⟩) (by simp;omega) _⟩;rw[List.map_append,List.map_cons,List.map_nil,Hs2.out];exact⟨g2,g3⟩
    ·have Hs2:=zB (Hsn.out.trans (zG hlt));have e1:=d1.step hb7;have e2:=d2.step hb7;have e3:=d3.step hb7;gi_wp2
     refine⟨zbI hb7,hb7.mono hzW,⟨by have:=hb7.size;omega,e1,?_⟩,zA hB hb7⟩;rw[show(pre ++ [(⟨x,hx⟩:Below' m)]).unattach=pre.map Subtype.val ++ [x]from by unfold List.unattach;rw[List.map_append];rfl,Hs2.out];exact⟨e2,e3⟩
 case done=>
  rintro D ys W hD hys ⟨⟨hsz,d1,d2,d3⟩,hB⟩ hK;rw[hys,Hres.out]at d2;have t2:=d2.cell 0;simp only[lgz]at t2;gi_wp2
  refine⟨by simp,.inl ⟨_,_,rfl,run_takeDeferred hK,?_⟩⟩;refine⟨.int .i64 (res.getD 0:Nat),?_,rfl,hB.trans (belowK_b (w:=w) (zD _) W D _ _ (by omega) hK rfl rfl)⟩;simp[results,Tryz.f63,go_sem]
 case stop=>
  rintro D c pre W hD hpre h;exact h.elim
