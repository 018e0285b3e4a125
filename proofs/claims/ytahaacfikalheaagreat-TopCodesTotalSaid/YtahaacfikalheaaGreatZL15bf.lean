/- A part of the proof of L15. No condition. -/
import Derived.Test.YtahaacfikalheaaGreatZL15am
import Derived.Test.YtahaacfikalheaaGreatZL15ba
set_option linter.all false
set_option maxRecDepth 100000
set_option maxHeartbeats 2000000
namespace Go.Proofs.YtahaacfikalheaaGreat
open Go.RowKit Go.Shelf
attribute [local go_sem] Oper.semAt_some
theorem zlJ{bits:Nat}(hb:bits≤16):wrap64 (16*(2:Int)^bits)=16*((2^bits:Nat):Int):=by
 have h:=zcJ hb;have e:(2:Int)^bits=((2^bits:Nat):Int):=by simp
 rw[e];generalize 2^bits=N at h⊢;exact IntWalk.wrap64_in _ ⟨by omega,by omega⟩
theorem check10_main(bits:Nat)(hb:bits≤16)(xs:List Int)(hlen:xs.length=16*2^bits)(hok:∀x∈xs,0≤x∧x<256)(a:Option Addr)(cap:Nat)(hcap:xs.length≤cap)(w:World)(hrd:Rd w a (Bts xs)) :
 Calls Tryz.prog 60 #[.agg #[.int .i64 (bits:Int),.slice a xs.length cap]] w fun e w'=>e = .returned (.int .i64 (if S10.bad xs (2^bits)then 3 else 0))∧Below w.heap.size w w':=by
 have hn:=zcJ hb;have hn1:=zcB bits;have hw:(16*((2^bits:Nat):Int) != wrap64 (16*(2:Int)^bits))=false:=by rw[zlJ hb];simp
 have hwi:decide ((0:Int)≤(bits:Int)∧(bits:Int)≤16)=true:=by simp;omega
 obtain⟨b,off,rfl,hcs⟩:=hrd (fun e=>by have:=yS List.length e;rw[zbK,hlen]at this;simp at this;omega);rw[hlen]at hcap⊢;generalize 2^bits=m at *;obtain⟨res,hres⟩:∃res:Int,(if S10.bad xs m then 3 else 0)=res:=⟨_,rfl⟩;rw[hres];have Hres:=zB hres;clear hres;have W1:=zB (zcP (bits:Int) 0 16);rw[hwi]at W1;clear hwi;refine(callsIn_wide (n:=9)).1 ?_;refine callsIn_of_wp_marks Tryz.func60 rfl yF ?_ rfl;simp only[Tryz.ntmps60,List.size_toArray,yO,List.length_nil,Nat.reduceAdd,Nat.reduceSub,Array.replicate_succ,Array.replicate_zero,List.push_toArray,List.append_toArray,lna,lca];gi_wp2_with fail
 refine⟨yF,CallsIn.mono (callsIn_wide.2 (W1.out _)) ?_⟩;rintro e w1 ⟨rfl,hb1⟩;have hB1:Below w.heap.size w w1:=zA (by go_grown) hb1;have z1:w.heap.size≤w1.heap.size:=hB1.size;have hc1:Blk w1 w.heap.size [.int .i64 (bits:Int),.slice (some ⟨b,off,none⟩) (16*m) cap] 68:=((Blk.new w _ _).alloc _).step hb1;have hc2:Blk w1 (w.heap.size+1) [.int .i64 0] 41:=by
  have h:=(Blk.new (w.alloc (.cells #[.int .i64 (bits:Int),.slice (some ⟨b,off,none⟩) (16*m) cap] 68)) [.int .i64 0] 41).step hb1;rwa[zV]at h
 have k1:w1.cell? ⟨w.heap.size,0,none⟩=some (.int .i64 (bits:Int)):=(hb1.cell (by simp<;>omega)).trans (by go_simp);have k2:w1.cell? ⟨w.heap.size,1,none⟩=some (.slice (some ⟨b,off,none⟩) (16*m) cap):=(hb1.cell (by simp<;>omega)).trans (by go_simp);gi_wp2_with fail
 gi_quiet (fail)
 have hd1:Below w.heap.size w (w1.drewN nq):=ziE hB1 nq;have zq:w.heap.size≤(w1.drewN nq).heap.size:=hd1.size;have hd2:Blk (w1.drewN nq) w.heap.size [.int .i64 (bits:Int),.slice (some ⟨b,off,none⟩) (16*m) cap] 68:=hc1;have hd3:Blk (w1.drewN nq) (w.heap.size+1) [.int .i64 0] 41:=hc2;generalize w1.drewN nq=w2 at *;gi_wp2_with fail
 refine⟨yF,CallsIn.mono (callsIn_wide.2 (zfW _)) ?_⟩;rintro e w3 ⟨rfl,hb3⟩;have hB3:Below w.heap.size w w3:=zA (by go_grown) hb3;have z3:w.heap.size≤w3.heap.size:=hB3.size;have he2:=hd2.step hb3;have he3:=hd3.step hb3;have l3:=he3.lt;have k3:w3.cell? ⟨w.heap.size,0,none⟩=some (.int .i64 (bits:Int)):=he2.cell 0;have k4:(w3.alloc (.cells #[.int .i64 215] 3)).cell? ⟨w.heap.size,1,none⟩=some (.slice (some ⟨b,off,none⟩) (16*m) cap):=(he2.alloc _).cell 1;gi_wp2_with fail
 refine⟨yF,CallsIn.mono (callsIn_wide.2 (chunk_any _ _ _ _)) ?_⟩;rintro e w4 ⟨rfl,rfl⟩;gi_wp2_with fail
 obtain⟨W0,hW0⟩:∃W0,(((w3.alloc (Obj.cells #[Value.int IntKind.i64 215] 3)).alloc (Obj.cells #[Value.slice (some {block:=b,off:=off}) (16*m) cap] 24)).alloc (Obj.cells #[Value.int IntKind.i64 16] 3))=W0:=⟨_,rfl⟩;have hz0:W0.heap.size=w3.heap.size+3:=by rw[←hW0];simp
 have hB0:Below w.heap.size w W0:=by rw[←hW0];exact zA hB3 ((((zF _ _).alloc (zD _) _).alloc (by simp) _).alloc (by simp;omega) _)
 have f1:Blk W0 (w.heap.size+1) [.int .i64 0] 41:=by rw[←hW0];exact((he3.alloc _).alloc _).alloc _
 have f2:Blk W0 w3.heap.size [.int .i64 215] 3:=by rw[←hW0];exact((Blk.new w3 _ _).alloc _).alloc _
 have f3:Blk W0 (w3.heap.size+1) [.slice (some ⟨b,off,none⟩) (16*m) cap] 24:=by
  rw[←hW0];have h:=(Blk.new (w3.alloc (Obj.cells #[Value.int IntKind.i64 215] 3)) [.slice (some ⟨b,off,none⟩) (16*m) cap] 24).alloc (Obj.cells #[Value.int IntKind.i64 16] 3);rwa[zV]at h
 have f4:Blk W0 (w3.heap.size+1+1) [.int .i64 16] 3:=by
  rw[←hW0];have h:=Blk.new ((w3.alloc (Obj.cells #[Value.int IntKind.i64 215] 3)).alloc (Obj.cells #[Value.slice (some {block:=b,off:=off}) (16*m) cap] 24)) [.int .i64 16] 3;rwa[zV,zV]at h
 rw[hW0];clear hW0
 refine wpIn_rangeFunc_ownF rfl (by omega) (gf:=81) (lb:=#[.pointer (some ⟨w3.heap.size+1,0,none⟩),.pointer (some ⟨w3.heap.size+1+1,0,none⟩)]) rfl yF (enters_of Tryz.func81 (by kernel_rfl) rfl)
  (chunk_stops _ (w3.heap.size+1) (w3.heap.size+1+1) W0.heap.size b off m cap (by omega) hcap (by omega) (by omega) W0 (zD _) (f3.cell 0) (f4.cell 0)) belowK_t (belowK_b (zD _)) (zF _ _) (fun _=>rfl)
  (fun pre W=>(W0.heap.size≤W.heap.size∧(∀k∈pre,(S10.tail xs k.1).any S10.bad1=false)∧W.cell? ⟨w3.heap.size,0,none⟩=some (.int .i64 215)∧W.cell? ⟨w.heap.size+1,0,none⟩=some (.int .i64 0)∧W.frozen? ⟨w.heap.size+1,0,none⟩=false)∧Below w.heap.size w W)
  (fun c pre W=>(c = .ret∧(∃k∈pre,(S10.tail xs k.1).any S10.bad1=true)∧W.cell? ⟨w.heap.size+1,0,none⟩=some (.int .i64 3))∧Below w.heap.size w W)
  (OwnFrom.and (Own.from (fun s A B row hs hg hr=>⟨yC hs.1 hg.size,hs.2.1,cell_kept hs.2.2.1 hg hr,cell_kept hs.2.2.2.1 hg hr,(frozen_kept hs.2.2.2.1 hg hr).trans hs.2.2.2.2⟩) _) (ownFrom_below (zD _) (by omega)))
  (fun c=>OwnFrom.and (Own.from (fun s A B row hs hg hr=>⟨hs.1,hs.2.1,cell_kept hs.2.2 hg hr⟩) _) (ownFrom_below (zD _) (by omega)))
  ⟨⟨zD _,by simp,f2.cell 0,f1.cell 0,f1.free 0⟩,hB0⟩
  (fun x=>{tmps:=#[Value.agg #[Value.int IntKind.i64 (bits:Int),Value.slice (some {block:=b,off:=off}) (16*m) cap],
    Value.pointer (some {block:=w.heap.size,off:=0}),
    Value.pointer (some {block:=w.heap.size+1,off:=0}),
    Value.pointer (some {block:=w3.heap.size,off:=0}),.slice (some ⟨b,off+16*x.1,none⟩) 16 16,Value.bool false,
    Value.pointer (some {block:=w.heap.size,off:=0}),Value.int IntKind.i64 (bits:Int),Value.bool true,
    Value.bool false,Value.bool false,Value.pointer (some {block:=w.heap.size,off:=1}),
    Value.slice (some {block:=b,off:=off}) (16*m) cap,Value.int IntKind.i64 (16*(m:Int)),
    Value.pointer (some {block:=w.heap.size,off:=0}),Value.int IntKind.i64 (bits:Int),
    Value.int IntKind.i64 (wrap64 (16*2^bits)),Value.bool false,Value.int IntKind.i64 215,
    Value.pointer (some {block:=w.heap.size,off:=1}),
    Value.slice (some {block:=b,off:=off}) (16*m) cap,
    Value.func (Fn.func 81) #[] #[Value.pointer (some {block:=w3.heap.size+1,off:=0}),Value.pointer (some {block:=w3.heap.size+1+1,off:=0})],
    .slice (some ⟨b,off+16*x.1,none⟩) 16 16,undef,undef,undef,undef],defers:=[]}) ?assign ?body ?done ?stop
 case assign=>
  intro l x W K hK;gi_wp2
  exact hK
 case body=>
  rintro l pre ⟨x,hx⟩ W ⟨⟨hsz,hp,hst,hcr,hfr⟩,hB⟩ _;have zW:=hB.size;have ht15:(S10.tail xs x).length=15:=by unfold S10.tail;rw[yJ,zgS,hlen];omega
  have hrd2:Rd w (some ⟨b,off+16*x+1,none⟩) (Bts (S10.tail xs x)):=fun _=>⟨b,off+16*x+1,rfl,fun j v hv=>by
   have h:=hcs (16*x+1+j) v (by
    unfold Bts S10.tail at hv;rw[zaG,zbG]at hv;unfold Bts;rw[zaG];split at hv
    ·rwa[List.getElem?_drop]at hv
    ·cases hv)
   have e:off+16*x+1+j=off+(16*x+1+j):=by omega
   rw[e];exact h⟩
  have C:=zhZ 76 (enters_of Tryz.func76 (by kernel_rfl) rfl) (.pointer (some ⟨w3.heap.size,0,none⟩)) S10.bad1 W (S10.tail xs x)
   (fun y V hy hV=>bad10_any y (hok y (List.mem_of_mem_drop (List.mem_of_mem_take hy))) w3.heap.size V ((hV.cell (zL hst)).trans hst)) (some ⟨b,off+16*x+1,none⟩) 15 (by omega) (hrd2.below hB (fun b' o' e _=>by cases e;exact zL (hcs 0 _ (zE (by rw[zbK];omega)))))
  rw[ht15]at C;have HC:=zB C;clear C;have hlt1:=zL hcr;have hlt3:=zL hst;cases hbad:(S10.tail xs x).any S10.bad1 with
  | true=>
    rw[hbad]at HC;gi_wp2_with fail
    refine⟨yF,CallsIn.mono (zhC HC.out) ?_⟩;rintro e w5 ⟨rfl,hb5⟩;have q2:w5.cell? ⟨w.heap.size+1,0,none⟩=some (.int .i64 0):=(hb5.cell hlt1).trans hcr;have q3:w5.frozen? ⟨w.heap.size+1,0,none⟩=false:=(hb5.frozen hlt1).trans hfr;gi_wp2
    exact⟨(zbI hb5).trans (KeepsOthers.setCell _ _ _),⟨rfl,⟨_,List.mem_append.2 (.inr (List.mem_singleton.2 rfl)),hbad⟩,World.cell?_setCell_same' _ _ _ (by rw[q2];rfl)⟩,(zA hB hb5).setCell (p:=⟨w.heap.size+1,0,none⟩) (by simp) _⟩
  | false=>
    rw[hbad]at HC;gi_wp2_with fail
    refine⟨yF,CallsIn.mono (zhC HC.out) ?_⟩;rintro e w5 ⟨rfl,hb5⟩;gi_wp2
    refine⟨zbI hb5,hb5.mono hsz,⟨yC hsz hb5.size,fun k hk=> ?_,(hb5.cell hlt3).trans hst,(hb5.cell hlt1).trans hcr,(hb5.frozen hlt1).trans hfr⟩,zA hB hb5⟩;rcases List.mem_append.1 hk with h|h
    ·exact hp k h
    ·have e:=List.mem_singleton.1 h;rw[e];exact hbad
 case done=>
  rintro D ys W hD hys ⟨⟨hsz,hp,hst,hcr,hfr⟩,hB⟩ hK;have hno:S10.bad xs m=false:=by
   unfold S10.bad;rw[←hys,List.any_map,List.any_eq_false];intro k hk;simpa using hp k hk
  have hr0:res=0:=by rw[←Hres.out,hno];rfl
  clear hno;gi_wp2
  have hK':=(KeepsOthers.setCell W ⟨w.heap.size+1,0,none⟩ (.int .i64 0)).same D _ hK rfl;refine⟨by simp,.inl ⟨_,_,rfl,run_takeDeferred hK',?_⟩⟩;have hc5:=cell_kept (World.cell?_setCell_same' W ⟨w.heap.size+1,0,none⟩ (.int .i64 0) (by rw[hcr];rfl)) (grownBy_putObj' _ D (.deferred none)) (fun r e=>by cases e;exact⟨_,hK',rfl⟩);refine⟨.int .i64 0,?_,by rw[hr0],(hB.setCell (p:=⟨w.heap.size+1,0,none⟩) (by simp) _).trans (belowK_b (w:=w) (zD _) _ D _ _ (by omega) hK' rfl rfl)⟩;simp[results,Tryz.f60,go_sem,hc5]
 case stop=>
  rintro D c pre W hD ⟨j,hj,hpre⟩ ⟨⟨rfl,⟨k,hk,hbk⟩,hcr⟩,hB⟩ hK;have hyes:S10.bad xs m=true:=by
   unfold S10.bad;rw[List.any_eq_true];exact⟨k.1,List.mem_range.2 k.2,hbk⟩
  have hr3:res=3:=by rw[←Hres.out,hyes];rfl
  clear hyes;gi_wp2
  refine⟨by simp,.inl ⟨_,_,rfl,run_takeDeferred hK,?_⟩⟩;have hc5:=cell_kept hcr (grownBy_putObj' _ D (.deferred none)) (fun r e=>by cases e;exact⟨_,hK,rfl⟩);refine⟨.int .i64 3,?_,by rw[hr3],hB.trans (belowK_b (w:=w) (zD _) W D _ _ (by omega) hK rfl rfl)⟩;simp[results,Tryz.f60,go_sem,hc5]
end Go.Proofs.YtahaacfikalheaaGreat
namespace Go.Proofs.YtahaacfikalheaaGreat
open Go.RowKit
theorem S10.check_range{bits:Int}{xs:List Int}(h:bits<0∨16<bits):S10.check bits xs=2:=by unfold S10.check;rw[zO h]
theorem S10.check_many{bits:Int}{xs:List Int}(h:¬(bits<0∨16<bits))(h2:xs.length≠16*2^bits.toNat):S10.check bits xs=6:=by unfold S10.check;rw[zG h,zO h2]
theorem S10.check_form{bits:Int}{xs:List Int}(h:¬(bits<0∨16<bits))(h2:xs.length=16*2^bits.toNat):S10.check bits xs=if S10.bad xs (2^bits.toNat)then 3 else 0:=by unfold S10.check;rw[zG h,zG (fun c=>c h2)]
theorem zfY(bits:Int)(xs:List Int)(hok:∀x∈xs,0≤x∧x<256)(a:Option Addr)(cap:Nat)(hcap:xs.length≤cap)(w:World)(hrd:Rd w a (Bts xs)) :
 Calls Tryz.prog 60 #[.agg #[.int .i64 bits,.slice a xs.length cap]] w fun e w'=>e = .returned (.int .i64 (S10.check bits xs))∧Below w.heap.size w w':=by
 by_cases h1:bits<0∨16<bits
 ·rw[S10.check_range h1];have hwi:decide ((0:Int)≤bits∧bits≤16)=false:=by simp;omega
  have W1:=zB (zcP bits 0 16);rw[hwi]at W1;clear hwi h1;go_enter Tryz.func60,Tryz.ntmps60;go_wp2_with fail;refine(W1.out _).mono ?_;rintro e w1 ⟨rfl,hb1⟩;have hB1:Below w.heap.size w w1:=zA (by go_grown) hb1;have z1:w.heap.size≤w1.heap.size:=hB1.size;have hc2:Blk w1 (w.heap.size+1) [.int .i64 0] 41:=by
   have h:=(Blk.new (w.alloc (.cells #[.int .i64 bits,.slice a xs.length cap] 68)) [.int .i64 0] 41).step hb1;rwa[zV]at h
  have k1:w1.cell? ⟨w.heap.size+1,0,none⟩=some (.int .i64 0):=hc2.cell 0;have k2:w1.frozen? ⟨w.heap.size+1,0,none⟩=false:=hc2.free 0;have k5:(w1.setCell ⟨w.heap.size+1,0,none⟩ (.int .i64 2)).cell? ⟨w.heap.size+1,0,none⟩=some (.int .i64 2):=(hc2.set 0 (.int .i64 2)).cell 0;go_wp2;exact bodyPost_ret (v:=.int .i64 2) (by simp[results,Tryz.results60,go_sem,k5]) rfl ⟨rfl,hB1.setCell (p:=⟨w.heap.size+1,0,none⟩) (by simp) _⟩
 ·by_cases h2:xs.length=16*2^bits.toNat
  ·rw[S10.check_form h1 h2];obtain⟨n,rfl⟩:=Int.eq_ofNat_of_zero_le (show 0≤bits by omega);exact check10_main n (by omega) xs h2 hok a cap hcap w hrd
  ·rw[S10.check_many h1 h2];obtain⟨n,rfl⟩:=Int.eq_ofNat_of_zero_le (show 0≤bits by omega);have hn:n≤16:=by omega
   have hwi:decide ((0:Int)≤(n:Int)∧(n:Int)≤16)=true:=by simp;omega
   have W1:=zB (zcP (n:Int) 0 16);rw[hwi]at W1;have hw:((xs.length:Int) != wrap64 (16*(2:Int)^n))=true:=by
    rw[zlJ hn];simp only[Int.toNat_natCast]at h2;simp only[bne_iff_ne,ne_eq];intro h;apply h2;generalize 2^n=N at h⊢;omega
   clear hwi h1 h2;go_enter Tryz.func60,Tryz.ntmps60;go_wp2_with fail;refine(W1.out _).mono ?_;rintro e w1 ⟨rfl,hb1⟩;have hB1:Below w.heap.size w w1:=zA (by go_grown) hb1;have z1:w.heap.size≤w1.heap.size:=hB1.size;have hc1:Blk w1 w.heap.size [.int .i64 (n:Int),.slice a xs.length cap] 68:=((Blk.new w _ _).alloc _).step hb1;have hc2:Blk w1 (w.heap.size+1) [.int .i64 0] 41:=by
    have h:=(Blk.new (w.alloc (.cells #[.int .i64 (n:Int),.slice a xs.length cap] 68)) [.int .i64 0] 41).step hb1;rwa[zV]at h
   have k1:w1.cell? ⟨w.heap.size+1,0,none⟩=some (.int .i64 0):=hc2.cell 0;have k2:w1.frozen? ⟨w.heap.size+1,0,none⟩=false:=hc2.free 0;have k3:w1.cell? ⟨w.heap.size,0,none⟩=some (.int .i64 (n:Int)):=hc1.cell 0;have k4:w1.cell? ⟨w.heap.size,1,none⟩=some (.slice a xs.length cap):=hc1.cell 1;go_wp2;go_quiet (fail);have hc3:Blk (w1.drewN nq) (w.heap.size+1) [.int .i64 0] 41:=hc2;have k5:((w1.drewN nq).setCell ⟨w.heap.size+1,0,none⟩ (.int .i64 6)).cell? ⟨w.heap.size+1,0,none⟩=some (.int .i64 6):=(hc3.set 0 (.int .i64 6)).cell 0;go_wp2;exact bodyPost_ret (v:=.int .i64 6) (by simp[results,Tryz.results60,go_sem,k5]) rfl ⟨rfl,(ziE hB1 _).setCell (p:=⟨w.heap.size+1,0,none⟩) (by simp) _⟩
end Go.Proofs.YtahaacfikalheaaGreat
namespace Go.Proofs.YtahaacfikalheaaGreat
open Go.RowKit Go.Shelf
attribute [local go_sem] Oper.semAt_some
theorem Blk.kept{A B:World}{row:Option Nat}{b:Nat}{cs:List Value}{t:TypeId}(h:Blk A b cs t)(hg:A.grownBy B row)(hr:∀r,row=some r→∃o:Obj,A.heap[r]? = some o∧o.isCells=false):Blk B b cs t:=by
 have hl:=h.lt;unfold Blk at *
 rw[hg.block b hl (fun e=>by
  obtain⟨o,ho,hc⟩:=hr b e.symm;rw[h]at ho;cases ho;cases hc)]
 exact h
def S10.find(bits:Nat)(xs:List Int)(hash:Nat):Option Nat:=(S10.places bits hash).find? fun i=>xs.getD (16*i) 0==(S10.mark hash:Int)
theorem find_prefix{α:Type}{p:α→Bool}{l1 l:List α}{x:α}(h:l1 ++ [x] <+: l)(h1:∀y∈l1,p y=false)(h2:p x=true):l.find? p=some x:=by
 obtain⟨r,rfl⟩:=h;have e:l1.find? p=none:=List.find?_eq_none.2 fun y hy=>by rw[h1 y hy];simp
 simp[List.find?_append,e,h2]
theorem zsJ(bits hash:Nat)(hb:bits≤16)(hh:hash<4294967296)(xs:List Int)(hlen:xs.length=16*2^bits)(b off cap:Nat)(hcap:16*2^bits≤cap)(w:World)(hcs:w.rangeAt b off (Bts xs)) :
 Calls Tryz.prog 62 #[.agg #[.int .i64 (bits:Int),.slice (some ⟨b,off,none⟩) (16*2^bits) cap],.int .u32 (hash:Int)] w fun e w'=>
  e = .returned (.tuple #[.int .i64 ((S10.find bits xs hash).getD 0:Nat),.bool (S10.find bits xs hash).isSome])∧Below w.heap.size w w':=by
 have hn:=zcJ hb;have hn1:=zcB bits;have hfd:S10.find bits xs hash=(S10.places bits hash).find? fun i=>xs.getD (16*i) 0==(S10.mark hash:Int):=rfl;obtain⟨res,hres⟩:∃res,S10.find bits xs hash=res:=⟨_,rfl⟩;rw[hres];rw[hres]at hfd;have Hres:=zB hfd;clear hfd hres;have Hplc:=zB (fun(Bs Bn n₀:Nat) h1 h2 w h3 h4 h5=>znF 8 Bs Bn n₀ bits hash hb hh h1 h2 w h3 h4 h5);generalize hM:2^bits=m at *;have hbl:b<w.heap.size:=zL (hcs 0 _ (zE (by rw[zbK];omega)));refine(callsIn_wide (n:=9)).1 ?_;refine callsIn_of_wp_marks Tryz.func62 rfl yF ?_ rfl;simp only[Tryz.ntmps62,List.size_toArray,yO,List.length_nil,Nat.reduceAdd,Nat.reduceSub,Array.replicate_succ,Array.replicate_zero,List.push_toArray,List.append_toArray,lna,lca];gi_wp2_with fail
 refine⟨yF,CallsIn.mono (callsIn_wide.2 (zrY _ _ _)) ?_⟩;rintro e w4 ⟨rfl,rfl⟩;gi_wp2_with fail
 obtain⟨A1,hA1⟩:∃A1,w.alloc (Obj.cells #[Value.int IntKind.i64 (bits:Int),Value.slice (some {block:=b,off:=off}) (16*m) cap] 68)=A1:=⟨_,rfl⟩;have a1:Blk A1 w.heap.size [.int .i64 (bits:Int),.slice (some ⟨b,off,none⟩) (16*m) cap] 68:=by rw[←hA1];exact Blk.new w _ _
 have s1:A1.heap.size=w.heap.size+1:=by rw[←hA1];simp
 have c1:Below w.heap.size w A1:=by rw[←hA1];exact(zF _ _).alloc (zD _) _
 rw[hA1];clear hA1;obtain⟨A2,hA2⟩:∃A2,A1.alloc (Obj.cells #[Value.int IntKind.u32 (hash:Int)] 44)=A2:=⟨_,rfl⟩;have a2:Blk A2 (w.heap.size+1) [.int .u32 (hash:Int)] 44:=by rw[←hA2,←s1];exact Blk.new A1 _ _
 have s2:A2.heap.size=w.heap.size+1+1:=by rw[←hA2];simp[s1]
 have c2:Below A1.heap.size A1 A2:=by rw[←hA2];exact(zF _ _).alloc (zD _) _
 rw[hA2];clear hA2;obtain⟨A3,hA3⟩:∃A3,A2.alloc (Obj.cells #[Value.int IntKind.i64 0] 3)=A3:=⟨_,rfl⟩;have a3:Blk A3 (w.heap.size+1+1) [.int .i64 0] 3:=by rw[←hA3,←s2];exact Blk.new A2 _ _
 have s3:A3.heap.size=w.heap.size+1+1+1:=by rw[←hA3];simp[s2]
 have c3:Below A2.heap.size A2 A3:=by rw[←hA3];exact(zF _ _).alloc (zD _) _
 rw[hA3];clear hA3;obtain⟨A4,hA4⟩:∃A4,A3.alloc (Obj.cells #[Value.bool false] 4)=A4:=⟨_,rfl⟩;have a4:Blk A4 (w.heap.size+1+1+1) [.bool false] 4:=by rw[←hA4,←s3];exact Blk.new A3 _ _
 have s4:A4.heap.size=w.heap.size+1+1+1+1:=by rw[←hA4];simp[s3]
 have c4:Below A3.heap.size A3 A4:=by rw[←hA4];exact(zF _ _).alloc (zD _) _
 rw[hA4];clear hA4;obtain⟨A5,hA5⟩:∃A5,A4.alloc (Obj.cells #[Value.int IntKind.i64 (bits:Int)] 3)=A5:=⟨_,rfl⟩;have a5:Blk A5 (w.heap.size+1+1+1+1) [.int .i64 (bits:Int)] 3:=by rw[←hA5,←s4];exact Blk.new A4 _ _
 have s5:A5.heap.size=w.heap.size+1+1+1+1+1:=by rw[←hA5];simp[s4]
 have c5:Below A4.heap.size A4 A5:=by rw[←hA5];exact(zF _ _).alloc (zD _) _
 rw[hA5];clear hA5;obtain⟨W0,hW0⟩:∃W0,A5.alloc (Obj.cells #[Value.int IntKind.u32 (hash:Int)] 44)=W0:=⟨_,rfl⟩;have a6:Blk W0 (w.heap.size+1+1+1+1+1) [.int .u32 (hash:Int)] 44:=by rw[←hW0,←s5];exact Blk.new A5 _ _
 have s6:W0.heap.size=w.heap.size+1+1+1+1+1+1:=by rw[←hW0];simp[s5]
 have c6:Below A5.heap.size A5 W0:=by rw[←hW0];exact(zF _ _).alloc (zD _) _
 rw[hW0];clear hW0;have hB0:Below w.heap.size w W0:=zA (zA (zA (zA (zA c1 c2) c3) c4) c5) c6;have b1:=((((a1.step c2).step c3).step c4).step c5).step c6;have b2:=(((a2.step c3).step c4).step c5).step c6;have b3:=((a3.step c4).step c5).step c6;have b4:=(a4.step c5).step c6;have b5:=a5.step c6;clear a1 a2 a3 a4 a5 c1 c2 c3 c4 c5 c6 s1 s2 s3 s4 s5
 refine wpIn_rangeFunc_ownF rfl (by omega) (gf:=77) (lb:=#[.pointer (some ⟨w.heap.size+1+1+1+1,0,none⟩),.pointer (some ⟨w.heap.size+1+1+1+1+1,0,none⟩)]) rfl yF (enters_of Tryz.func77 (by kernel_rfl) rfl)
  (Hplc.out (w.heap.size+1+1+1+1) (w.heap.size+1+1+1+1+1) W0.heap.size (by omega) (by omega) W0 (zD _) (b5.cell 0) (a6.cell 0)) belowK_t (belowK_b (zD _)) (zF _ _) (fun _=>rfl)
  (fun pre W=>(W0.heap.size≤W.heap.size∧(∀k∈pre,(xs.getD (16*k.1) 0==(S10.mark hash:Int))=false)∧Blk W w.heap.size [.int .i64 (bits:Int),.slice (some ⟨b,off,none⟩) (16*m) cap] 68∧
    Blk W (w.heap.size+1) [.int .u32 (hash:Int)] 44∧Blk W (w.heap.size+1+1) [.int .i64 0] 3∧Blk W (w.heap.size+1+1+1) [.bool false] 4)∧Below w.heap.size w W)
  (fun c pre W=>(c = .ret∧(∃q x,pre=q ++ [x]∧(∀k∈q,(xs.getD (16*k.1) 0==(S10.mark hash:Int))=false)∧(xs.getD (16*x.1) 0==(S10.mark hash:Int))=true∧
    Blk W (w.heap.size+1+1) [.int .i64 (x.1:Int)] 3∧Blk W (w.heap.size+1+1+1) [.bool true] 4))∧Below w.heap.size w W)
  (OwnFrom.and (Own.from (fun s A B row hs hg hr=>⟨yC hs.1 hg.size,hs.2.1,hs.2.2.1.kept hg hr,hs.2.2.2.1.kept hg hr,hs.2.2.2.2.1.kept hg hr,hs.2.2.2.2.2.kept hg hr⟩) _) (ownFrom_below (zD _) (by omega)))
  (fun c=>OwnFrom.and (Own.from (fun s A B row hs hg hr=>⟨hs.1,by obtain⟨_,q,x,h1,h2,h3,h4,h5⟩:=hs;exact⟨q,x,h1,h2,h3,h4.kept hg hr,h5.kept hg hr⟩⟩) _) (ownFrom_below (zD _) (by omega)))
  ⟨⟨zD _,by simp,b1,b2,b3,b4⟩,hB0⟩
  (fun x=>{tmps:=#[Value.agg #[Value.int IntKind.i64 (bits:Int),Value.slice (some {block:=b,off:=off}) (16*m) cap],
    Value.int IntKind.u32 (hash:Int),Value.pointer (some {block:=w.heap.size,off:=0}),
    Value.pointer (some {block:=w.heap.size+1,off:=0}),
    Value.pointer (some {block:=w.heap.size+1+1,off:=0}),
    Value.pointer (some {block:=w.heap.size+1+1+1,off:=0}),.int .i64 (x.1:Int),
    Value.pointer (some {block:=w.heap.size,off:=0}),Value.int IntKind.i64 (bits:Int),
    Value.int IntKind.u32 (hash:Int),
    Value.func (Fn.func 77) #[] #[Value.pointer (some {block:=w.heap.size+1+1+1+1,off:=0}),Value.pointer (some {block:=w.heap.size+1+1+1+1+1,off:=0})],
    .int .i64 (x.1:Int),undef,undef,undef,undef,undef,undef,undef,undef,undef],defers:=[]}) ?assign ?body ?done ?stop
 case assign=>
  intro l x W K hK;gi_wp2
  exact hK
 case body=>
  rintro l pre ⟨x,hx⟩ W ⟨⟨hsz,hp,d1,d2,d3,d4⟩,hB⟩ _
  have hcx:W.cell? ⟨b,off+16*x,none⟩=some (.int .u8 (xs.getD (16*x) 0)):=(hB.cell (p:=⟨b,off+16*x,none⟩) hbl).trans (hcs (16*x) _ (by
   unfold Bts;rw[zaG,zE (show 16*x<xs.length by omega),zI,zE (show 16*x<xs.length by omega)];rfl))
  generalize hv:xs.getD (16*x) 0=v at *;have hCS:Cells W [(⟨w.heap.size,0,none⟩,.int .i64 (bits:Int)),(⟨w.heap.size,1,none⟩,.slice (some ⟨b,off,none⟩) (16*m) cap),(⟨w.heap.size+1,0,none⟩,.int .u32 (hash:Int)),(⟨b,off+16*x,none⟩,.int .u8 v)]:=⟨d1.cell 0,d1.cell 1,d2.cell 0,hcx,yF⟩;have HS:=zB fun V=>zgO (bits:Int) b off x m cap hx hn hcap V;have HM:=zB fun V=>zsE hash hh V;gi_wp2_with fail
  refine zgK 8 0 [(U,[U,U,zuH,zuH,zuH,U]),(zuH,[zuH,zuH,U]),(U,[zuH,zuH,zuH,U,U]),(zuH,[zuH,zuH,zuH,zuH,zuH,zuH,U]),(U,[zuH,zuH,zuH,zuH,zuH,zuH,zuH,U])] _ _ (Keeps W [(⟨w.heap.size,0,none⟩,.int .i64 (bits:Int)),(⟨w.heap.size,1,none⟩,.slice (some ⟨b,off,none⟩) (16*m) cap),(⟨w.heap.size+1,0,none⟩,.int .u32 (hash:Int)),(⟨b,off+16*x,none⟩,.int .u8 v)]) (by kernel_rfl) (yB 8 _).symm (by kernel_rfl) (by kernel_rfl) (by kernel_rfl) (by kernel_rfl) (Keeps.start hCS) (fun Y Q4 F4 hY hF=> ?_);simp only[zuJ]
  repeat
   apply zJ (by rw[hY];rfl)
   ·intro w2 hS2;(try simp only[Keeps,Cells]at hS2);go_simp;with_reducible rfl
   simp only[zuI]
  apply zR (by rw[hY];rfl)
  ·go_simp;with_reducible exact⟨rfl,rfl⟩
  refine(HS.out _).mono ?_;rintro e w5 ⟨rfl,hb5⟩;have hk5:=(Keeps.start hCS).step hb5;refine⟨_,rfl,hk5,?_⟩;simp only[zuI]
  repeat
   apply zJ (by rw[hY];rfl)
   ·intro w2 hS2;(try simp only[Keeps,Cells]at hS2);go_simp;with_reducible rfl
   simp only[zuI]
  apply zR (by rw[hY];rfl)
  ·go_simp;with_reducible exact⟨rfl,rfl⟩
  refine(HM.out _).mono ?_;rintro e w6 ⟨rfl,hb6⟩;have hk6:=hk5.step hb6;refine⟨_,rfl,hk6,?_⟩;simp only[zuI]
  repeat
   apply zJ (by rw[hY];rfl)
   ·intro w2 hS2;(try simp only[Keeps,Cells]at hS2);go_simp;with_reducible rfl
   simp only[zuI]
  refine yE (hF.out _ _ (fun K hK=> ?_));clear hF hY;refine OnlyK.mk (hK.out _ _ ?_);clear hK;have hb7:Below W.heap.size W w6:=hk6.1;have e3:=d3.step hb7;have e4:=d4.step hb7;have g3:=((e3.set 0 (.int .i64 (x:Int))).other (w.heap.size+1+1+1) 0 (.bool true) (by omega));have g4:=((e4.other (w.heap.size+1+1) 0 (.int .i64 (x:Int)) (by omega)).set 0 (.bool true));have t3:=e3.cell 0;have t3f:=e3.free 0;have t4:=e4.cell 0;have t4f:=e4.free 0;simp only[sC0,lgz]at g3 g4 t3 t4;cases hmk:(v==(S10.mark hash:Int))with
  | true=>
    gi_wp2
    exact⟨(zbI hb7).trans ((KeepsOthers.setCell _ _ _).trans (KeepsOthers.setCell _ _ _)),⟨rfl,pre,⟨x,hx⟩,rfl,hp,(by simp only[hv];exact hmk),g3,g4⟩,((zA hB hb7).setCell (p:=⟨w.heap.size+1+1,0,none⟩) (by simp;omega) _).setCell (p:=⟨w.heap.size+1+1+1,0,none⟩) (by simp;omega) _⟩
  | false=>
    gi_wp2
    refine⟨zbI hb7,hb7.mono hsz,⟨yC hsz hb7.size,fun k hk=> ?_,d1.step hb7,d2.step hb7,e3,e4⟩,zA hB hb7⟩;rcases List.mem_append.1 hk with h|h
    ·exact hp k h
    ·have e:=List.mem_singleton.1 h;rw[e];simp only[hv];exact hmk
 case done=>
  rintro D ys W hD hys ⟨⟨hsz,hp,d1,d2,d3,d4⟩,hB⟩ hK;have hr0:res=none:=by
   rw[Hres.out,←hys,List.find?_eq_none];intro y hy;obtain⟨k,hk,rfl⟩:=List.mem_map.1 hy;rw[hp k hk];simp
  subst hr0;have g3:=((d3.set 0 (.int .i64 0)).other (w.heap.size+1+1+1) 0 (.bool false) (by omega));have g4:=((d4.other (w.heap.size+1+1) 0 (.int .i64 0) (by omega)).set 0 (.bool false));have t3:=d3.cell 0;have t3f:=d3.free 0;have t4:=d4.cell 0;have t4f:=d4.free 0;simp only[sC0,lgz]at g3 g4 t3 t4;gi_wp2
  have hK':=((KeepsOthers.setCell W ⟨w.heap.size+1+1,0,none⟩ (.int .i64 0)).trans (KeepsOthers.setCell _ ⟨w.heap.size+1+1+1,0,none⟩ (.bool false))).same D _ hK rfl;refine⟨by simp,.inl ⟨_,_,rfl,run_takeDeferred hK',?_⟩⟩;have hc5:=cell_kept (g3.cell 0) (grownBy_putObj' _ D (.deferred none)) (fun r e=>by cases e;exact⟨_,hK',rfl⟩);have hc6:=cell_kept (g4.cell 0) (grownBy_putObj' _ D (.deferred none)) (fun r e=>by cases e;exact⟨_,hK',rfl⟩);refine⟨.tuple #[.int .i64 0,.bool false],?_,rfl,((hB.setCell (p:=⟨w.heap.size+1+1,0,none⟩) (by simp;omega) _).setCell (p:=⟨w.heap.size+1+1+1,0,none⟩) (by simp;omega) _).trans (belowK_b (w:=w) (zD _) _ D _ _ (by omega) hK' rfl rfl)⟩;simp[results,Tryz.f62,go_sem,hc5,hc6]
 case stop=>
  rintro D c pre W hD hpre ⟨⟨rfl,q,x,rfl,hq,hx,d3,d4⟩,hB⟩ hK;have hr1:res=some x.1:=by
   rw[Hres.out];rw[List.map_append]at hpre;refine find_prefix hpre ?_ hx;intro y hy;obtain⟨k,hk,rfl⟩:=List.mem_map.1 hy;exact hq k hk
  subst hr1;gi_wp2
  refine⟨by simp,.inl ⟨_,_,rfl,run_takeDeferred hK,?_⟩⟩;have hc5:=cell_kept (d3.cell 0) (grownBy_putObj' _ D (.deferred none)) (fun r e=>by cases e;exact⟨_,hK,rfl⟩);have hc6:=cell_kept (d4.cell 0) (grownBy_putObj' _ D (.deferred none)) (fun r e=>by cases e;exact⟨_,hK,rfl⟩);refine⟨.tuple #[.int .i64 (x.1:Int),.bool true],?_,rfl,hB.trans (belowK_b (w:=w) (zD _) W D _ _ (by omega) hK rfl rfl)⟩;simp[results,Tryz.f62,go_sem,hc5,hc6]
end Go.Proofs.YtahaacfikalheaaGreat
namespace Go.Proofs.YtahaacfikalheaaGreat
open Go.RowKit
structure Tab(xs:List Int)(a:Option Addr)(cap:Nat)(w:World):Prop where
 ok:∀x∈xs,0≤x∧x<256
 cap:xs.length≤cap
 rd:Rd w a (Bts xs)
theorem Tab.step{xs:List Int}{a:Option Addr}{cap:Nat}{w w':World}(h:Tab xs a cap w)(hb:Below w.heap.size w w'):Tab xs a cap w':=⟨h.ok,h.cap,h.rd.step hb⟩
def zhO(bits:Int)(xs:List Int)(a:Option Addr)(cap:Nat):Value:=.agg #[.int .i64 bits,.slice a xs.length cap]
theorem S10.correct{bits:Int}{xs:List Int}(h:S10.check bits xs=0):∃n:Nat,bits=n∧n≤16∧xs.length=16*2^n∧S10.bad xs (2^n)=false:=by
 unfold S10.check at h;split at h
 ·cases h
 ·rename_i h1
  obtain⟨n,rfl⟩:=Int.eq_ofNat_of_zero_le (show 0≤bits by omega);split at h
  ·cases h
  ·rename_i h2
   split at h
   ·cases h
   ·rename_i h3
    exact⟨n,rfl,by omega,by simpa using h2,by simpa using h3⟩
end Go.Proofs.YtahaacfikalheaaGreat
namespace Go.Proofs.YtahaacfikalheaaGreat
open Go.RowKit
def S10.exists(bits n k:Int):Bool:=decide (0≤n∧n<2^bits.toNat)&&decide (1≤k∧k≤15)
def S10.node(bits:Int)(xs:List Int)(n k:Int):Int:=if S10.check bits xs=0 then(if S10.exists bits n k then 0 else 2)else S10.check bits xs
theorem zlN(bits:Int)(xs:List Int)(n k:Int)(a:Option Addr)(cap:Nat)(w:World)(hT:Tab xs a cap w) :
 Calls Tryz.prog 156 #[zhO bits xs a cap,.int .i64 n,.int .i64 k] w fun e w'=>e = .returned (.int .i64 (S10.node bits xs n k))∧Below w.heap.size w w':=by
 have HC:=zB fun W (h:Tab xs a cap W)=>zfY bits xs h.ok a cap h.cap W h.rd;unfold zhO;by_cases hc:S10.check bits xs=0
 ·have e1:S10.node bits xs n k=if S10.exists bits n k then 0 else 2:=zO hc
  rw[e1];rw[hc]at HC;obtain⟨m,rfl,hm,hz1,hz2⟩:=S10.correct hc;clear hz1 hz2;have hp:=zsV hm;have hps:=zcJ hm;have hpp:=zcB m;have hw:wrap64 (wrap64 ((2:Int)^m)-1)=((2^m:Nat):Int)-1:=by
   rw[hp];generalize 2^m=N at hps hpp⊢;exact IntWalk.wrap64_in _ ⟨by omega,by omega⟩
  have hq:decide (0≤n∧n≤((2^m:Nat):Int)-1)=decide (0≤n∧n<2^m):=by
   have e:(2:Int)^m=((2^m:Nat):Int):=by simp
   rw[e];generalize 2^m=N
   congr 1
   apply propext;omega
  have hx:S10.exists (m:Int) n k=(decide (0≤n∧n<2^m)&&decide (1≤k∧k≤15)):=rfl;have W1:=zB fun W=>zcP n 0 (((2^m:Nat):Int)-1) W;have W2:=zB fun W=>zcP k 1 15 W;rw[hq]at W1;rw[hx];generalize decide (0≤n∧n<2^m)=p at *;generalize decide (1≤k∧k≤15)=q at *;have Hw:=zB hw;clear hq hx e1 hc hp hps hpp hw;go_enter Tryz.func156,Tryz.ntmps156;go_wp2_with fail;refine(HC.out _ (hT.step (by go_grown))).mono ?_;rintro e w1 ⟨rfl,hb1⟩;have hB1:Below w.heap.size w w1:=zA (by go_grown) hb1;have z1:w.heap.size≤w1.heap.size:=hB1.size;have hc1:Blk w1 w.heap.size [.int .i64 (m:Int),.slice a xs.length cap] 68:=(Blk.new w _ _).step hb1;have k1:w1.cell? ⟨w.heap.size,0,none⟩=some (.int .i64 (m:Int)):=hc1.cell 0;go_wp2_with fail;rw[Hw.out];refine(W1.out _).mono ?_;rintro e w2 ⟨rfl,hb2⟩;have hB2:=zA hB1 hb2;cases p with
  | false=>
    go_wp2;go_returns;exact⟨rfl,hB2⟩
  | true=>
    go_wp2_with fail;refine(W2.out _).mono ?_;rintro e w3 ⟨rfl,hb3⟩;have hB3:Below w.heap.size w w3:=zA (by go_grown) hb3;have z3:w.heap.size≤w3.heap.size:=hB3.size;cases q<;>(go_wp2;go_returns;exact⟨rfl,hB3⟩)
 ·have e1:S10.node bits xs n k=S10.check bits xs:=zG hc;rw[e1];have hc':(S10.check bits xs != 0)=true:=by simpa using hc
  generalize S10.check bits xs=C at *;clear hc e1;go_enter Tryz.func156,Tryz.ntmps156;go_wp2_with fail;refine(HC.out _ (hT.step (by go_grown))).mono ?_;rintro e w1 ⟨rfl,hb1⟩;have hB1:Below w.heap.size w w1:=zA (by go_grown) hb1;have z1:w.heap.size≤w1.heap.size:=hB1.size;go_wp2;go_returns;exact⟨rfl,hB1⟩
end Go.Proofs.YtahaacfikalheaaGreat
namespace Go.Proofs.YtahaacfikalheaaGreat
open Go.RowKit
def S10.getN(bits:Int)(xs:List Int)(n k:Int):Int:=if S10.node bits xs n k=0 then xs.getD (16*n.toNat+k.toNat) 0 else 0
theorem S10.node_zero{bits:Int}{xs:List Int}{n k:Int}(h:S10.node bits xs n k=0):S10.check bits xs=0∧S10.exists bits n k=true:=by
 unfold S10.node at h;split at h
 ·rename_i h1
  refine⟨h1,?_⟩;split at h
  ·assumption
  ·cases h
 ·rename_i h1
  exact absurd h h1
theorem S10.exists_at{m:Nat}{n k:Int}(h:S10.exists (m:Int) n k=true):∃n' k':Nat,n=n'∧k=k'∧n'<2^m∧1≤k'∧k'≤15:=by
 unfold S10.exists at h;simp only[zS,zY,Int.toNat_natCast]at h;obtain⟨⟨h1,h2⟩,h3,h4⟩:=h;obtain⟨n',rfl⟩:=Int.eq_ofNat_of_zero_le h1;obtain⟨k',rfl⟩:=Int.eq_ofNat_of_zero_le (show 0≤k by omega);refine⟨n',k',rfl,rfl,?_,by omega,by omega⟩;have e:(2:Int)^m=((2^m:Nat):Int):=by simp
 rw[e]at h2;omega
theorem get10_any(bits:Int)(xs:List Int)(n k:Int)(a:Option Addr)(cap:Nat)(w:World)(hT:Tab xs a cap w) :
 Calls Tryz.prog 153 #[zhO bits xs a cap,.int .i64 n,.int .i64 k] w fun e w'=>e = .returned (.tuple #[.int .i64 (S10.getN bits xs n k),.int .i64 (S10.node bits xs n k)])∧Below w.heap.size w w':=by
 have HN:=zB fun W (h:Tab xs a cap W)=>zlN bits xs n k a cap W h;unfold zhO at *;by_cases hc:S10.node bits xs n k=0
 ·have e1:S10.getN bits xs n k=xs.getD (16*n.toNat+k.toNat) 0:=zO hc;rw[e1,hc];rw[hc]at HN;obtain⟨h1,h2⟩:=S10.node_zero hc;obtain⟨m,rfl,hm,hl,hz2⟩:=S10.correct h1;obtain⟨n',k',rfl,rfl,hn,hk1,hk2⟩:=S10.exists_at h2;have hps:=zcJ hm;obtain⟨b,off,rfl,hcs⟩:=hT.rd (fun e=>by have h1:=yS List.length e;rw[zbK,hl]at h1;simp only[List.length_nil]at h1;omega);have hin:16*n'+k'<xs.length:=by omega
  have hcap:=hT.cap;have hv:=hcs (16*n'+k') _ (show(Bts xs)[16*n'+k']? = some (.int .u8 (xs.getD (16*n'+k') 0)) by unfold Bts;rw[zaG,zE hin,zI,zE hin];rfl);have hr:0≤xs.getD (16*n'+k') 0∧xs.getD (16*n'+k') 0<256:=by
   rw[zI,zE hin];exact hT.ok _ (zbC hin)
  have HS:=zB fun V=>zgO (m:Int) b off n' (2^m) cap hn hps (by rw[←hl];exact hcap) V;rw[←hl]at HS;simp only[Int.toNat_natCast];generalize xs.getD (16*n'+k') 0=v at *;have hbl:=zL hv;have ev:wrap64 v=v:=IntWalk.wrap64_in _ ⟨by omega,by omega⟩;have ea:off+(16*n'+k')=off+16*n'+k':=by omega
  rw[ea]at hv;clear ea e1 hc h1 h2 hl hz2 hcap hin hps hn;go_enter Tryz.func153,Tryz.ntmps153;go_wp2_with fail;refine(HN.out _ (hT.step (by go_grown))).mono ?_;rintro e w1 ⟨rfl,hb1⟩;have hB1:Below w.heap.size w w1:=zA (by go_grown) hb1;have z1:w.heap.size≤w1.heap.size:=hB1.size;have hc1:Blk w1 w.heap.size [.int .i64 (m:Int),.slice (some ⟨b,off,none⟩) xs.length cap] 68:=(Blk.new w _ _).step hb1;have k1:w1.cell? ⟨w.heap.size,0,none⟩=some (.int .i64 (m:Int)):=hc1.cell 0;have k2:w1.cell? ⟨w.heap.size,1,none⟩=some (.slice (some ⟨b,off,none⟩) xs.length cap):=hc1.cell 1;go_wp2_with fail;refine(HS.out _).mono ?_;rintro e w2 ⟨rfl,hb2⟩;have hB2:Below w.heap.size w w2:=zA (by go_grown) hb2;have z2:w.heap.size≤w2.heap.size:=hB2.size;have hv2:w2.cell? ⟨b,off+16*n'+k',none⟩=some (.int .u8 v):=(hB2.cell (p:=⟨b,off+16*n'+k',none⟩) hbl).trans hv;go_wp2;go_returns;first|exact⟨rfl,hB2⟩|(refine⟨?_,hB2⟩;simp[ev])
 ·have e1:S10.getN bits xs n k=0:=zG hc;rw[e1];have hc':(S10.node bits xs n k != 0)=true:=by simpa using hc
  generalize S10.node bits xs n k=C at *;clear hc e1;go_enter Tryz.func153,Tryz.ntmps153;go_wp2_with fail;refine(HN.out _ (hT.step (by go_grown))).mono ?_;rintro e w1 ⟨rfl,hb1⟩;have hB1:Below w.heap.size w w1:=zA (by go_grown) hb1;have z1:w.heap.size≤w1.heap.size:=hB1.size;go_wp2;go_returns;exact⟨rfl,hB1⟩
end Go.Proofs.YtahaacfikalheaaGreat
namespace Go.Proofs.YtahaacfikalheaaGreat
open Go.RowKit
def OB(w:World)(base b cap:Nat)(xs:List Int):Prop:=base≤b∧xs.length≤cap∧cap≤9223372036854775807∧∃cs,Blk w b cs 5∧cs.take xs.length=Bts xs
theorem OB.lt{w:World}{base b cap:Nat}{xs:List Int}(h:OB w base b cap xs):b<w.heap.size:=by obtain⟨_,_,_,cs,hb,_⟩:=h;exact hb.lt
theorem OB.step{w w':World}{base b cap:Nat}{xs:List Int}(h:OB w base b cap xs)(hb:Below w.heap.size w w'):OB w' base b cap xs:=by
 obtain⟨h1,h2,h3,cs,h4,h5⟩:=h;exact⟨h1,h2,h3,cs,h4.step hb,h5⟩
theorem OB.at{w:World}{base b cap:Nat}{xs:List Int}(h:OB w base b cap xs){i:Nat}(hi:i<xs.length):w.cell? ⟨b,i,none⟩=some (.int .u8 (xs.getD i 0)):=by
 obtain⟨h1,h2,h3,cs,h4,h5⟩:=h;rw[h4.cell i];have h6:(cs.take xs.length)[i]? = (Bts xs)[i]? :=by rw[h5]
 rw[zbG,zO hi]at h6;rw[h6];unfold Bts;rw[zaG,zE hi,zI,zE hi];rfl
theorem OB.free{w:World}{base b cap:Nat}{xs:List Int}(h:OB w base b cap xs)(i:Nat):w.frozen? ⟨b,i,none⟩=false:=by obtain⟨_,_,_,cs,hb,_⟩:=h;exact hb.free i
theorem OB.range{w:World}{base b cap:Nat}{xs:List Int}(h:OB w base b cap xs):w.rangeAt b 0 (Bts xs):=fun j v hv=>by
 rw[yK];have hj:j<xs.length:=by rw[←zbK];exact(List.getElem?_eq_some_iff.1 hv).1
 rw[h.at hj,←hv];unfold Bts;rw[zaG,zE hj,zI,zE hj];rfl
theorem OB.rd{w:World}{base b cap:Nat}{xs:List Int}(h:OB w base b cap xs):Rd w (some ⟨b,0,none⟩) (Bts xs):=fun _=>⟨b,0,rfl,h.range⟩
theorem OB.set{w:World}{base b cap:Nat}{xs:List Int}(h:OB w base b cap xs)(i:Nat)(v:Int):OB (w.setCell ⟨b,i,none⟩ (.int .u8 v)) base b cap (xs.set i v):=by
 obtain⟨h1,h2,h3,cs,h4,h5⟩:=h;refine⟨h1,by rw[yT];exact h2,h3,_,h4.set i _,?_⟩;rw[yT,List.take_set,h5];unfold Bts;rw[List.map_set]
theorem OB.of_owns{w:World}{base base':Nat}{a:Option Addr}{cap:Nat}{l:List Int}(h:w.ownsRow base 5 1 (.slice a l.length cap) l.length (Bts l))(hne:1≤l.length)(hb:base'≤base) :
 ∃b,a=some ⟨b,0,none⟩∧base≤b∧OB w base' b cap l:=by
 have hl:=h.1;rcases h.2 with⟨h',h0⟩|⟨g,cap',cur,h',hbg,hg,hnc,hcm,hcs,htake⟩
 ·omega
 ·simp only[Value.slice.injEq,true_and]at h';obtain⟨rfl,rfl⟩:=h';unfold maxLen at hcm;exact⟨g,rfl,hbg,yC hb hbg,hnc,hcm,cur.toList,hg,by simpa using htake⟩
theorem cloneBytes_any(xs:List Int)(a:Option Addr)(cap:Nat)(w:World)(h1:1≤xs.length)(h2:xs.length≤2162688)(hrd:Rd w a (Bts xs)) :
 Calls Tryz.prog 53 #[.slice a xs.length cap] w fun e w'=>∃b cap',e = .returned (.slice (some ⟨b,0,none⟩) xs.length cap')∧OB w' w.heap.size b cap' xs∧Below w.heap.size w w':=by
 obtain⟨g,o,rfl,_⟩:=hrd.at (i:=0) (by rw[zbK];omega);have qT:∀(w:World) (a:Option Addr) (n c n' c':Nat),(binOp .eql 24 (.slice a n c) (.slice none n' c')).run Tryz.prog w = .ok (.bool a.isNone) w:=fun w a n c n' c'=>Lib.run_eql_slice_nil w _ _ a n c n' c' Tryz.underlying24;have hrd':=zB (hrd.step ((zF w.heap.size w).alloc (zD _) (Obj.cells #[] 5)));go_enter Tryz.func53,Tryz.ntmps53;go_wp2_with (at_builtin;refine zaL _ _ 24 5 1 1 _ w.heap.size zdR rfl rfl _ 0 [] rfl (World.ownsRow_made w #[] 0 (zD _) (by decide) rfl) (some ⟨g,o,none⟩) xs.length cap (Bts xs) rfl (by simp[Bts]) hrd'.out (Bts_one xs) (by unfold maxLen;omega) (by omega) (by simp) ?_;intro a2 cap2 w2 hown2 hgrow2);have hB2:Below w.heap.size w w2:=Below.grown (by go_grown) hgrow2 (by simp) (fun k e=>by cases e;exact zD _);simp only[yK,lna]at hown2;obtain⟨b,rfl,hb,hok⟩:=OB.of_owns (base':=w.heap.size) hown2 h1 (zD _);have hc:=zB hok;clear hgrow2 hown2 hok;go_wp2;go_returns;exact⟨b,cap2,by simp,hc.out,hB2⟩
end Go.Proofs.YtahaacfikalheaaGreat
namespace Go.Proofs.YtahaacfikalheaaGreat
open Go.RowKit
theorem OB.other{w:World}{base b cap:Nat}{xs:List Int}(h:OB w base b cap xs)(c i:Nat)(v:Value)(hne:¬b=c):OB (w.setCell ⟨c,i,none⟩ v) base b cap xs:=by
 obtain⟨h1,h2,h3,cs,h4,h5⟩:=h;exact⟨h1,h2,h3,cs,h4.other c i v hne,h5⟩
theorem OB.mono{w:World}{base base' b cap:Nat}{xs:List Int}(h:OB w base b cap xs)(hb:base'≤base):OB w base' b cap xs:=⟨yC hb h.1,h.2⟩
theorem zjL(bits:Int)(xs:List Int)(a:Option Addr)(cap:Nat)(w:World)(h1:1≤xs.length)(h2:xs.length≤2162688)(hrd:Rd w a (Bts xs)) :
 Calls Tryz.prog 61 #[zhO bits xs a cap] w fun e w'=>∃b cap',e = .returned (zhO bits xs (some ⟨b,0,none⟩) cap')∧OB w' w.heap.size b cap' xs∧Below w.heap.size w w':=by
 unfold zhO;have HC:=zB fun W (h:Rd W a (Bts xs))=>cloneBytes_any xs a cap W h1 h2 h;go_enter Tryz.func61,Tryz.ntmps61;go_wp2;obtain⟨w0,hw0⟩:∃w0,(w.alloc (Obj.cells #[.int .i64 bits,.slice a xs.length cap] 68)).alloc (Obj.cells #[.int .i64 0,.slice none 0 0] 68)=w0:=⟨_,rfl⟩;have hB0:Below w.heap.size w w0:=by rw[←hw0];go_grown
 have a1:Blk w0 w.heap.size [.int .i64 bits,.slice a xs.length cap] 68:=by rw[←hw0];exact(Blk.new w _ _).alloc _
 have a2:Blk w0 (w.heap.size+1) [.int .i64 0,.slice none 0 0] 68:=by
  have h:=Blk.new (w.alloc (Obj.cells #[.int .i64 bits,.slice a xs.length cap] 68)) [.int .i64 0,.slice none 0 0] 68;rw[←hw0];simpa using h
 rw[hw0];have z0:w.heap.size+1<w0.heap.size:=a2.lt;clear hw0;have hCS:Cells w0 [(⟨w.heap.size,0,none⟩,.int .i64 bits),(⟨w.heap.size,1,none⟩,.slice a xs.length cap)]:=⟨a1.cell 0,a1.cell 1,yF⟩;refine zuL 6 1 [(U,[U,U,U,U]),(zuH,[zuH,zuH,zuH,zuH,U]),(U,[zuH,zuH,zuH,zuH,zuH,U])] (Keeps w0 [(⟨w.heap.size,0,none⟩,.int .i64 bits),(⟨w.heap.size,1,none⟩,.slice a xs.length cap)]) (by kernel_rfl) (Keeps.start hCS) (fun Y Q4 F4 hY hF=> ?_);simp only[zuJ]
 repeat
  apply zJ (by rw[hY];rfl)
  ·intro w2 hS2;(try simp only[Keeps,Cells]at hS2);go_simp;with_reducible rfl
  simp only[zuI]
 apply zR (by rw[hY];rfl)
 ·go_simp;with_reducible exact⟨rfl,rfl⟩
 refine(HC.out _ ((hrd.step hB0).step (Keeps.start hCS).1)).mono ?_;rintro e w2 ⟨b,cap',rfl,ho,hb2⟩;have hk2:=(Keeps.start hCS).step hb2;refine⟨_,rfl,hk2,?_⟩;simp only[zuI]
 repeat
  apply zJ (by rw[hY];rfl)
  ·intro w2 hS2;(try simp only[Keeps,Cells]at hS2);go_simp;with_reducible rfl
  simp only[zuI]
 refine yE (hF.out _ _ (fun K hK=> ?_));clear hF hY;have e2:=a2.step hk2.1;have r0:=e2.cell 0;have r1:=e2.cell 1;have f0:=e2.free 0;have f1:=e2.free 1;go_wp2_with fail;refine OnlyK.mk (hK.out _ _ ?_);clear hK;have hb0:w0.heap.size≤b:=ho.1;have g:=(e2.set 0 (.int .i64 bits)).set 1 (.slice (some ⟨b,0,none⟩) xs.length cap');have g0:=g.cell 0;have g1:=g.cell 1;simp only[sC0,sCs,lgz,lgs]at g0 g1;have ho2:=((ho.mono (base':=w.heap.size) (by simp;omega)).other (w.heap.size+1) 0 (.int .i64 bits) (by omega)).other (w.heap.size+1) 1 (.slice (some ⟨b,0,none⟩) xs.length cap') (by omega);have hBB:Below w.heap.size w ((w2.setCell ⟨w.heap.size+1,0,none⟩ (.int .i64 bits)).setCell ⟨w.heap.size+1,1,none⟩ (.slice (some ⟨b,0,none⟩) xs.length cap')):=((zA hB0 hk2.1).setCell (p:=⟨w.heap.size+1,0,none⟩) (by simp) _).setCell (p:=⟨w.heap.size+1,1,none⟩) (by simp) _;have Ho2:=zB ho2;clear ho ho2 e2 g;go_wp2;exact bodyPost_ret (v:=.agg #[.int .i64 bits,.slice (some ⟨b,0,none⟩) xs.length cap']) (by simp[results,Tryz.results61,go_sem,g0,g1]) rfl ⟨b,cap',rfl,Ho2.out,hBB⟩
end Go.Proofs.YtahaacfikalheaaGreat
namespace Go.Proofs.YtahaacfikalheaaGreat
open Go.RowKit
def TO(w:World)(base:Nat)(bits:Int)(xs:List Int)(V:Value):Prop:=
 (bits=0∧xs = []∧V = .agg #[.int .i64 0,.slice none 0 0])∨∃b cap,V=zhO bits xs (some ⟨b,0,none⟩) cap∧OB w base b cap xs
theorem TO.nil(w:World)(base:Nat):TO w base 0 [] (.agg #[.int .i64 0,.slice none 0 0]):=.inl ⟨rfl,rfl,rfl⟩
def S10.setE(bits:Int)(xs:List Int)(n k st:Int):Int:=if S10.node bits xs n k=0 then(if 0≤st∧st≤214 then 0 else 1)else S10.node bits xs n k
def S10.setB(bits:Int)(xs:List Int)(n k st:Int):Int:=if S10.setE bits xs n k st=0 then bits else 0
def S10.setX(bits:Int)(xs:List Int)(n k st:Int):List Int:=if S10.setE bits xs n k st=0 then xs.set (16*n.toNat+k.toNat) st else []
theorem set10_bad(bits:Int)(xs:List Int)(n k st:Int)(a:Option Addr)(cap:Nat)(w:World)(hT:Tab xs a cap w)(hc:¬S10.setE bits xs n k st=0) :
 Calls Tryz.prog 151 #[zhO bits xs a cap,.int .i64 n,.int .i64 k,.int .i64 st] w fun e w'=>e = .returned (.tuple #[.agg #[.int .i64 0,.slice none 0 0],.int .i64 (S10.setE bits xs n k st)])∧Below w.heap.size w w':=by
 have HN:=zB fun W (h:Tab xs a cap W)=>zlN bits xs n k a cap W h;unfold zhO at *;by_cases h0:S10.node bits xs n k=0
 ·have e1:S10.setE bits xs n k st=if 0≤st∧st≤214 then 0 else 1:=zO h0
  have hst:¬(0≤st∧st≤214):=fun h=>hc (by rw[e1,zO h]);rw[e1,zG hst];rw[h0]at HN;have W1:=zB fun W=>zcP st 0 214 W;rw[yD hst]at W1;clear hst e1 h0 hc;go_enter Tryz.func151,Tryz.ntmps151;go_wp2_with fail;refine(HN.out _ (hT.step (by go_grown))).mono ?_;rintro e w1 ⟨rfl,hb1⟩;have hB1:Below w.heap.size w w1:=zA (by go_grown) hb1;have z1:w.heap.size≤w1.heap.size:=hB1.size;have hc2:Blk w1 (w.heap.size+1) [.int .i64 0,.slice none 0 0] 68:=by
   have h:=(Blk.new (w.alloc (.cells #[.int .i64 bits,.slice a xs.length cap] 68)) [.int .i64 0,.slice none 0 0] 68).step hb1;rwa[zV]at h
  go_wp2_with fail;refine(zfW _).mono ?_;rintro e w2 ⟨rfl,hb2⟩;have hB2:Below w.heap.size w w2:=zA (by go_grown) hb2;have z2:w.heap.size≤w2.heap.size:=hB2.size;go_wp2_with fail;refine(W1.out _).mono ?_;rintro e w3 ⟨rfl,hb3⟩;have hB3:Below w.heap.size w w3:=zA (by go_grown) hb3;have z3:w.heap.size≤w3.heap.size:=hB3.size;have hc3:=(hc2.step hb2).step hb3;have r0:=hc3.cell 0;have r1:=hc3.cell 1;have f0:=hc3.free 0;have f1:=hc3.free 1;have g:=(hc3.set 0 (.int .i64 0)).set 1 (.slice none 0 0);have g0:=g.cell 0;have g1:=g.cell 1;simp only[sC0,sCs,lgz,lgs]at g0 g1 r0 r1;clear hc2 hc3 g;go_wp2;exact bodyPost_ret (v:=.tuple #[.agg #[.int .i64 0,.slice none 0 0],.int .i64 1]) (by simp[results,Tryz.results151,go_sem,g0,g1]) rfl ⟨rfl,(hB3.setCell (p:=⟨w.heap.size+1,0,none⟩) (by simp) _).setCell (p:=⟨w.heap.size+1,1,none⟩) (by simp) _⟩
 ·have e1:S10.setE bits xs n k st=S10.node bits xs n k:=zG h0;rw[e1];have hc':(S10.node bits xs n k != 0)=true:=by simpa using h0
  generalize S10.node bits xs n k=C at *;clear hc e1 h0;go_enter Tryz.func151,Tryz.ntmps151;go_wp2_with fail;refine(HN.out _ (hT.step (by go_grown))).mono ?_;rintro e w1 ⟨rfl,hb1⟩;have hB1:Below w.heap.size w w1:=zA (by go_grown) hb1;have z1:w.heap.size≤w1.heap.size:=hB1.size;have hc2:Blk w1 (w.heap.size+1) [.int .i64 0,.slice none 0 0] 68:=by
   have h:=(Blk.new (w.alloc (.cells #[.int .i64 bits,.slice a xs.length cap] 68)) [.int .i64 0,.slice none 0 0] 68).step hb1;rwa[zV]at h
  have r0:=hc2.cell 0;have r1:=hc2.cell 1;have f0:=hc2.free 0;have f1:=hc2.free 1;have g:=(hc2.set 0 (.int .i64 0)).set 1 (.slice none 0 0);have g0:=g.cell 0;have g1:=g.cell 1;simp only[sC0,sCs,lgz,lgs]at g0 g1 r0 r1;clear hc2 g;go_wp2;exact bodyPost_ret (v:=.tuple #[.agg #[.int .i64 0,.slice none 0 0],.int .i64 C]) (by simp[results,Tryz.results151,go_sem,g0,g1]) rfl ⟨rfl,(hB1.setCell (p:=⟨w.heap.size+1,0,none⟩) (by simp) _).setCell (p:=⟨w.heap.size+1,1,none⟩) (by simp) _⟩
end Go.Proofs.YtahaacfikalheaaGreat
namespace Go.Proofs.YtahaacfikalheaaGreat
open Go.RowKit
theorem set10_ok(m n k:Nat)(xs:List Int)(st:Int)(hm:m≤16)(hl:xs.length=16*2^m)(hn:n<2^m)(hk:k≤15)(hst:0≤st∧st≤214)(a:Option Addr)(cap:Nat)(w:World)(hT:Tab xs a cap w)
 (hN:S10.node (m:Int) xs (n:Int) (k:Int)=0) :
 Calls Tryz.prog 151 #[zhO (m:Int) xs a cap,.int .i64 (n:Int),.int .i64 (k:Int),.int .i64 st] w fun e w'=>∃b cap',e = .returned (.tuple #[zhO (m:Int) xs (some ⟨b,0,none⟩) cap',.int .i64 0])∧OB w' w.heap.size b cap' (xs.set (16*n+k) st)∧Below w.heap.size w w':=by
 have HN:=zB fun W (h:Tab xs a cap W)=>zlN (m:Int) xs (n:Int) (k:Int) a cap W h;rw[hN]at HN;have hps:=zcJ hm;have HC:=zB fun W (h:Rd W a (Bts xs))=>zjL (m:Int) xs a cap W (by omega) (by omega) h;have HS:=zB fun(b cap':Nat) (h:xs.length≤cap') V=>zgO (m:Int) b 0 n (2^m) cap' hn hps (by omega) V;rw[←hl]at HS;have W1:=zB fun W=>zcP st 0 214 W;rw[zQ hst]at W1;have hin:16*n+k<xs.length:=by omega
 have Hin:=zB hin;have est:st%256=st:=by omega
 unfold zhO at *;clear hN hl hps hin hn;go_enter Tryz.func151,Tryz.ntmps151;go_wp2_with fail;refine(HN.out _ (hT.step (by go_grown))).mono ?_;rintro e w1 ⟨rfl,hb1⟩;have hB1:Below w.heap.size w w1:=zA (by go_grown) hb1;have z1:w.heap.size≤w1.heap.size:=hB1.size;have hc1:Blk w1 w.heap.size [.int .i64 (m:Int),.slice a xs.length cap] 68:=((Blk.new w _ _).alloc _).step hb1;have hc2:Blk w1 (w.heap.size+1) [.int .i64 0,.slice none 0 0] 68:=by
  have h:=(Blk.new (w.alloc (.cells #[.int .i64 (m:Int),.slice a xs.length cap] 68)) [.int .i64 0,.slice none 0 0] 68).step hb1;rwa[zV]at h
 go_wp2_with fail;refine(zfW _).mono ?_;rintro e w2 ⟨rfl,hb2⟩;have hB2:Below w.heap.size w w2:=zA (by go_grown) hb2;have z2:w.heap.size≤w2.heap.size:=hB2.size;go_wp2_with fail;refine(W1.out _).mono ?_;rintro e w3 ⟨rfl,hb3⟩;have hB3:Below w.heap.size w w3:=zA (by go_grown) hb3;have z3:w.heap.size≤w3.heap.size:=hB3.size;have hd1:=(hc1.step hb2).step hb3;have hd2:=(hc2.step hb2).step hb3;have k1:=hd1.cell 0;have k2:=hd1.cell 1;simp only[zuK]at k1 k2;go_wp2_with fail;refine(HC.out _ (hT.rd.step hB3)).mono ?_;rintro e w4 ⟨b,cap',rfl,ho4,hb4⟩;have hB4:=zA hB3 hb4;have he2:=hd2.step hb4;have l2:=hd2.lt;have z4:w3.heap.size≤b:=ho4.1;have l4:=ho4.lt;have hcap4:xs.length≤cap':=ho4.2.1;go_wp2_with fail;refine(HS.out b cap' hcap4 _).mono ?_;rintro e w5 ⟨rfl,hb5⟩;have hb5':Below w4.heap.size w4 w5:=zA ((zF _ w4).alloc (zD _) _) hb5;have hB5:=zA hB4 hb5';have ho5:=ho4.step hb5';have hv5:Blk w5 w4.heap.size [.int .i64 (m:Int),.slice (some ⟨b,0,none⟩) xs.length cap'] 68:=(Blk.new w4 _ _).step hb5;have hf2:=he2.step hb5';have q0:=hv5.cell 0;have q1:=hv5.cell 1;have r0:=hf2.cell 0;have r1:=hf2.cell 1;have f0:=hf2.free 0;have f1:=hf2.free 1;have p0:w5.cell? ⟨b,0+16*n+k,none⟩=some (.int .u8 (xs.getD (16*n+k) 0)):=by rw[yK];exact ho5.at Hin.out
 have p1:w5.frozen? ⟨b,0+16*n+k,none⟩=false:=ho5.free _;simp only[zuK]at q0 q1 r0 r1;have ho6:=((((ho5.set (16*n+k) st).mono (base':=w.heap.size) (by have:=hB3.size;omega)).other (w.heap.size+1) 0 (.int .i64 (m:Int)) (by omega)).other (w.heap.size+1) 1 (.slice (some ⟨b,0,none⟩) xs.length cap') (by omega));have Ho6:=zB ho6;have hg:=((hf2.other b (16*n+k) (.int .u8 st) (by omega)).set 0 (.int .i64 (m:Int))).set 1 (.slice (some ⟨b,0,none⟩) xs.length cap');have g0:=hg.cell 0;have g1:=hg.cell 1;simp only[sC0,sCs,lgz,lgs]at g0 g1;clear ho4 ho5 ho6 hg hf2 he2 hc1 hc2 hd1 hd2;rw[yK]at *;go_wp2;have hb3':=hB3.size;refine bodyPost_ret (v:=.tuple #[.agg #[.int .i64 (m:Int),.slice (some ⟨b,0,none⟩) xs.length cap'],.int .i64 0]) (by simp[results,Tryz.results151,go_sem,g0,g1]) rfl ⟨b,cap',rfl,Ho6.out,?_⟩;exact((hB5.setCell (p:=⟨b,16*n+k,none⟩) (by show w.heap.size≤b;omega) _).setCell (p:=⟨w.heap.size+1,0,none⟩) (by simp) _).setCell (p:=⟨w.heap.size+1,1,none⟩) (by simp) _
end Go.Proofs.YtahaacfikalheaaGreat
namespace Go.Proofs.YtahaacfikalheaaGreat
open Go.RowKit
theorem set10_any(bits:Int)(xs:List Int)(n k st:Int)(a:Option Addr)(cap:Nat)(w:World)(hT:Tab xs a cap w) :
 Calls Tryz.prog 151 #[zhO bits xs a cap,.int .i64 n,.int .i64 k,.int .i64 st] w fun e w'=>∃V,e = .returned (.tuple #[V,.int .i64 (S10.setE bits xs n k st)])∧TO w' w.heap.size (S10.setB bits xs n k st) (S10.setX bits xs n k st) V∧Below w.heap.size w w':=by
 by_cases hc:S10.setE bits xs n k st=0
 ·have h0:S10.node bits xs n k=0:=by
   unfold S10.setE at hc;split at hc
   ·assumption
   ·exact hc
  have hst:0≤st∧st≤214:=by
   unfold S10.setE at hc;rw[zO h0]at hc;split at hc
   ·assumption
   ·cases hc
  have e1:S10.setB bits xs n k st=bits:=zO hc;have e2:S10.setX bits xs n k st=xs.set (16*n.toNat+k.toNat) st:=zO hc;rw[hc,e1,e2];obtain⟨h1,h2⟩:=S10.node_zero h0;obtain⟨m,rfl,hm,hl,hz2⟩:=S10.correct h1;obtain⟨n',k',rfl,rfl,hn,hk1,hk2⟩:=S10.exists_at h2;refine(set10_ok m n' k' xs st hm hl hn hk2 hst a cap w hT h0).mono ?_;rintro e w' ⟨b,cap',rfl,ho,hb⟩;refine⟨_,rfl,.inr ⟨b,cap',?_,ho⟩,hb⟩;unfold zhO;rw[yT]
 ·have e1:S10.setB bits xs n k st=0:=zG hc;have e2:S10.setX bits xs n k st = []:=zG hc;rw[e1,e2];refine(set10_bad bits xs n k st a cap w hT hc).mono ?_;rintro e w' ⟨rfl,hb⟩;exact⟨_,rfl,TO.nil _ _,hb⟩
def S10.prio(xs:List Int)(k:Nat):Int:=if S09.found (xs.getD (16*k+1) 0)then S09.hz (xs.getD (16*k+1) 0)+S09.ho (xs.getD (16*k+1) 0)else -1
theorem key10_any(bits:Int)(xs:List Int)(m k b off cap:Nat)(hm:m≤65536)(hl:xs.length=16*m)(hk:k<m)(hcap:xs.length≤cap)(hok:∀x∈xs,0≤x∧x<256)(B:Nat)(w:World)(hcs:w.rangeAt b off (Bts xs))
 (h1:w.cell? ⟨B,0,none⟩=some (.int .i64 bits)) (h2:w.cell? ⟨B,1,none⟩=some (.slice (some ⟨b,off,none⟩) xs.length cap)) :
 Calls Tryz.prog 65 #[.int .i64 (k:Int),.pointer (some ⟨B,0,none⟩)] w fun e w'=>e = .returned (.int .i64 (S10.prio xs k))∧Below w.heap.size w w':=by
 have HS:=zB fun V=>zgO bits b off k m cap hk hm (by omega) V;rw[←hl]at HS;have hin:16*k+1<xs.length:=by omega
 have hv:=hcs (16*k+1) _ (show(Bts xs)[16*k+1]? = some (.int .u8 (xs.getD (16*k+1) 0)) by unfold Bts;rw[zaG,zE hin,zI,zE hin];rfl);have hr:0≤xs.getD (16*k+1) 0∧xs.getD (16*k+1) 0<256:=by
  rw[zI,zE hin];exact hok _ (zbC hin)
 unfold S10.prio;generalize xs.getD (16*k+1) 0=v at *;have hbl:=zL hv;have ev:wrap64 v=v:=IntWalk.wrap64_in _ ⟨by omega,by omega⟩;have ea:off+(16*k+1)=off+16*k+1:=by omega
 rw[ea]at hv;have HP:=zB fun V=>zrD v V;generalize (if S09.found v then S09.hz v+S09.ho v else -1)=r at *;clear ea hl hcap hin;go_enter Tryz.func65,Tryz.ntmps65;go_wp2_with fail;refine(HS.out _).mono ?_;rintro e w1 ⟨rfl,hb1⟩;have hB1:Below w.heap.size w w1:=zA (by go_grown) hb1;have z1:w.heap.size≤w1.heap.size:=hB1.size;have hv1:w1.cell? ⟨b,off+16*k+1,none⟩=some (.int .u8 v):=(hB1.cell (p:=⟨b,off+16*k+1,none⟩) hbl).trans hv;go_wp2_with fail;(try rw[ev]);refine(HP.out _).mono ?_;rintro e w2 ⟨rfl,hb2⟩;have hB2:=zA hB1 hb2;go_wp2;go_returns;exact⟨rfl,hB2⟩
