/- A part of the proof of L14n. No condition. -/
import Derived.Test.YtieeogndnhighaaGreatZL14nan
import Derived.Test.YtieeogndnhighaaGreatZL14nbc
set_option linter.all false
set_option maxRecDepth 100000
set_option maxHeartbeats 2000000
namespace Go.Proofs.YtieeogndnhighaaGreat
open Go.RowKit Go.Shelf
attribute [local go_sem] Oper.semAt_some
theorem zjN{bits:Nat}(hb:bits≤16):wrap64 (16*(2:Int)^bits)=16*((2^bits:Nat):Int):=by
 have h:=zaT hb;have e:(2:Int)^bits=((2^bits:Nat):Int):=by simp
 rw[e];generalize 2^bits=N at h⊢;exact IntWalk.wrap64_in _ ⟨by omega,by omega⟩
theorem check10_main(bits:Nat)(hb:bits≤16)(xs:List Int)(hlen:xs.length=16*2^bits)(hok:∀x∈xs,0≤x∧x<256)(a:Option Addr)(cap:Nat)(hcap:xs.length≤cap)(w:World)(hrd:Rd w a (Bts xs)) :
 Calls Tryz.prog 98 #[.agg #[.int .i64 (bits:Int),.slice a xs.length cap]] w fun e w'=>e = .returned (.int .i64 (if S10.bad xs (2^bits)then 3 else 0))∧Below w.heap.size w w':=by
 have hn:=zaT hb;have hn1:=zaS bits;have hw:(16*((2^bits:Nat):Int) != wrap64 (16*(2:Int)^bits))=false:=by rw[zjN hb];simp
 have hwi:decide ((0:Int)≤(bits:Int)∧(bits:Int)≤16)=true:=by simp;omega
 obtain⟨b,off,rfl,hcs⟩:=hrd (fun e=>by have:=yQ List.length e;rw[zaI,hlen]at this;simp at this;omega);rw[hlen]at hcap⊢;generalize 2^bits=m at *;obtain⟨res,hres⟩:∃res:Int,(if S10.bad xs m then 3 else 0)=res:=⟨_,rfl⟩;rw[hres];have Hres:=zD hres;clear hres;have W1:=zD (zeI (bits:Int) 0 16);rw[hwi]at W1;clear hwi;refine(callsIn_wide (n:=9)).1 ?_;refine callsIn_of_wp_marks Tryz.func98 rfl yJ ?_ rfl;simp only[Tryz.ntmps98,List.size_toArray,zbD,List.length_nil,Nat.reduceAdd,Nat.reduceSub,Array.replicate_succ,Array.replicate_zero,List.push_toArray,List.append_toArray,lna,lca];gi_wp2_with fail
 refine⟨yJ,CallsIn.mono (callsIn_wide.2 (W1.out _)) ?_⟩;rintro e w1 ⟨rfl,hb1⟩;have hB1:Below w.heap.size w w1:=zA (by go_grown) hb1;have z1:w.heap.size≤w1.heap.size:=hB1.size;have hc1:Blk w1 w.heap.size [.int .i64 (bits:Int),.slice (some ⟨b,off,none⟩) (16*m) cap] 75:=((Blk.new w _ _).alloc _).step hb1;have hc2:Blk w1 (w.heap.size+1) [.int .i64 0] 30:=by
  have h:=(Blk.new (w.alloc (.cells #[.int .i64 (bits:Int),.slice (some ⟨b,off,none⟩) (16*m) cap] 75)) [.int .i64 0] 30).step hb1;rwa[yA]at h
 have k1:w1.cell? ⟨w.heap.size,0,none⟩=some (.int .i64 (bits:Int)):=(hb1.cell (by simp<;>omega)).trans (by go_simp);have k2:w1.cell? ⟨w.heap.size,1,none⟩=some (.slice (some ⟨b,off,none⟩) (16*m) cap):=(hb1.cell (by simp<;>omega)).trans (by go_simp);gi_wp2_with fail
 gi_quiet (fail)
 have hd1:Below w.heap.size w (w1.drewN nq):=zhO hB1 nq;have zq:w.heap.size≤(w1.drewN nq).heap.size:=hd1.size;have hd2:Blk (w1.drewN nq) w.heap.size [.int .i64 (bits:Int),.slice (some ⟨b,off,none⟩) (16*m) cap] 75:=hc1;have hd3:Blk (w1.drewN nq) (w.heap.size+1) [.int .i64 0] 30:=hc2;generalize w1.drewN nq=w2 at *;gi_wp2_with fail
 refine⟨yJ,CallsIn.mono (callsIn_wide.2 (zhW _)) ?_⟩;rintro e w3 ⟨rfl,hb3⟩;have hB3:Below w.heap.size w w3:=zA (by go_grown) hb3;have z3:w.heap.size≤w3.heap.size:=hB3.size;have he2:=hd2.step hb3;have he3:=hd3.step hb3;have l3:=he3.lt;have k3:w3.cell? ⟨w.heap.size,0,none⟩=some (.int .i64 (bits:Int)):=he2.cell 0;have k4:(w3.alloc (.cells #[.int .i64 215] 3)).cell? ⟨w.heap.size,1,none⟩=some (.slice (some ⟨b,off,none⟩) (16*m) cap):=(he2.alloc _).cell 1;gi_wp2_with fail
 refine⟨yJ,CallsIn.mono (callsIn_wide.2 (chunk_any _ _ _ _)) ?_⟩;rintro e w4 ⟨rfl,rfl⟩;gi_wp2_with fail
 obtain⟨W0,hW0⟩:∃W0,(((w3.alloc (Obj.cells #[Value.int IntKind.i64 215] 3)).alloc (Obj.cells #[Value.slice (some {block:=b,off:=off}) (16*m) cap] 59)).alloc (Obj.cells #[Value.int IntKind.i64 16] 3))=W0:=⟨_,rfl⟩;have hz0:W0.heap.size=w3.heap.size+3:=by rw[←hW0];simp
 have hB0:Below w.heap.size w W0:=by rw[←hW0];exact zA hB3 ((((zG _ _).alloc (zE _) _).alloc (by simp) _).alloc (by simp;omega) _)
 have f1:Blk W0 (w.heap.size+1) [.int .i64 0] 30:=by rw[←hW0];exact((he3.alloc _).alloc _).alloc _
 have f2:Blk W0 w3.heap.size [.int .i64 215] 3:=by rw[←hW0];exact((Blk.new w3 _ _).alloc _).alloc _
 have f3:Blk W0 (w3.heap.size+1) [.slice (some ⟨b,off,none⟩) (16*m) cap] 59:=by
  rw[←hW0];have h:=(Blk.new (w3.alloc (Obj.cells #[Value.int IntKind.i64 215] 3)) [.slice (some ⟨b,off,none⟩) (16*m) cap] 59).alloc (Obj.cells #[Value.int IntKind.i64 16] 3);rwa[yA]at h
 have f4:Blk W0 (w3.heap.size+1+1) [.int .i64 16] 3:=by
  rw[←hW0];have h:=Blk.new ((w3.alloc (Obj.cells #[Value.int IntKind.i64 215] 3)).alloc (Obj.cells #[Value.slice (some {block:=b,off:=off}) (16*m) cap] 59)) [.int .i64 16] 3;rwa[yA,yA]at h
 rw[hW0];clear hW0
 refine wpIn_rangeFunc_ownF rfl (by omega) (gf:=149) (lb:=#[.pointer (some ⟨w3.heap.size+1,0,none⟩),.pointer (some ⟨w3.heap.size+1+1,0,none⟩)]) rfl yJ (enters_of Tryz.func149 (by kernel_rfl) rfl)
  (chunk_stops _ (w3.heap.size+1) (w3.heap.size+1+1) W0.heap.size b off m cap (by omega) hcap (by omega) (by omega) W0 (zE _) (f3.cell 0) (f4.cell 0)) belowK_t (belowK_b (zE _)) (zG _ _) (fun _=>rfl)
  (fun pre W=>(W0.heap.size≤W.heap.size∧(∀k∈pre,(S10.tail xs k.1).any S10.bad1=false)∧W.cell? ⟨w3.heap.size,0,none⟩=some (.int .i64 215)∧W.cell? ⟨w.heap.size+1,0,none⟩=some (.int .i64 0)∧W.frozen? ⟨w.heap.size+1,0,none⟩=false)∧Below w.heap.size w W)
  (fun c pre W=>(c = .ret∧(∃k∈pre,(S10.tail xs k.1).any S10.bad1=true)∧W.cell? ⟨w.heap.size+1,0,none⟩=some (.int .i64 3))∧Below w.heap.size w W)
  (OwnFrom.and (Own.from (fun s A B row hs hg hr=>⟨yD hs.1 hg.size,hs.2.1,cell_kept hs.2.2.1 hg hr,cell_kept hs.2.2.2.1 hg hr,(frozen_kept hs.2.2.2.1 hg hr).trans hs.2.2.2.2⟩) _) (ownFrom_below (zE _) (by omega)))
  (fun c=>OwnFrom.and (Own.from (fun s A B row hs hg hr=>⟨hs.1,hs.2.1,cell_kept hs.2.2 hg hr⟩) _) (ownFrom_below (zE _) (by omega)))
  ⟨⟨zE _,by simp,f2.cell 0,f1.cell 0,f1.free 0⟩,hB0⟩
  (fun x=>{tmps:=#[Value.agg #[Value.int IntKind.i64 (bits:Int),Value.slice (some {block:=b,off:=off}) (16*m) cap],
    Value.pointer (some {block:=w.heap.size,off:=0}),
    Value.pointer (some {block:=w.heap.size+1,off:=0}),
    Value.pointer (some {block:=w3.heap.size,off:=0}),.slice (some ⟨b,off+16*x.1,none⟩) 16 16,Value.bool false,
    Value.pointer (some {block:=w.heap.size,off:=0}),Value.int IntKind.i64 (bits:Int),Value.bool true,
    Value.bool false,Value.bool false,Value.pointer (some {block:=w.heap.size,off:=1}),
    Value.slice (some {block:=b,off:=off}) (16*m) cap,Value.int IntKind.i64 (16*(m:Int)),
    Value.pointer (some {block:=w.heap.size,off:=0}),Value.int IntKind.i64 (bits:Int),
    Value.int IntKind.i64 (wrap64 (16*2^bits)),Value.bool false,Value.int IntKind.i64 215,
    Value.pointer (some {block:=w.heap.size,off:=1}),
    Value.slice (some {block:=b,off:=off}) (16*m) cap,
    Value.func (Fn.func 149) #[] #[Value.pointer (some {block:=w3.heap.size+1,off:=0}),Value.pointer (some {block:=w3.heap.size+1+1,off:=0})],
    .slice (some ⟨b,off+16*x.1,none⟩) 16 16,undef,undef,undef,undef],defers:=[]}) ?assign ?body ?done ?stop
 case assign=>
  intro l x W K hK;gi_wp2
  exact hK
 case body=>
  rintro l pre ⟨x,hx⟩ W ⟨⟨hsz,hp,hst,hcr,hfr⟩,hB⟩ _;have zW:=hB.size;have ht15:(S10.tail xs x).length=15:=by unfold S10.tail;rw[zcN,List.length_drop,hlen];omega
  have hrd2:Rd w (some ⟨b,off+16*x+1,none⟩) (Bts (S10.tail xs x)):=fun _=>⟨b,off+16*x+1,rfl,fun j v hv=>by
   have h:=hcs (16*x+1+j) v (by
    unfold Bts S10.tail at hv;rw[zaH,List.getElem?_take]at hv;unfold Bts;rw[zaH];split at hv
    ·rwa[List.getElem?_drop]at hv
    ·cases hv)
   have e:off+16*x+1+j=off+(16*x+1+j):=by omega
   rw[e];exact h⟩
  have C:=zgN 139 (enters_of Tryz.func139 (by kernel_rfl) rfl) (.pointer (some ⟨w3.heap.size,0,none⟩)) S10.bad1 W (S10.tail xs x)
   (fun y V hy hV=>bad10_any y (hok y (List.mem_of_mem_drop (List.mem_of_mem_take hy))) w3.heap.size V ((hV.cell (zJ hst)).trans hst)) (some ⟨b,off+16*x+1,none⟩) 15 (by omega) (hrd2.below hB (fun b' o' e _=>by cases e;exact zJ (hcs 0 _ (zI (by rw[zaI];omega)))))
  rw[ht15]at C;have HC:=zD C;clear C;have hlt1:=zJ hcr;have hlt3:=zJ hst;cases hbad:(S10.tail xs x).any S10.bad1 with
  | true=>
    rw[hbad]at HC;gi_wp2_with fail
    refine⟨yJ,CallsIn.mono (zfO HC.out) ?_⟩;rintro e w5 ⟨rfl,hb5⟩;have q2:w5.cell? ⟨w.heap.size+1,0,none⟩=some (.int .i64 0):=(hb5.cell hlt1).trans hcr;have q3:w5.frozen? ⟨w.heap.size+1,0,none⟩=false:=(hb5.frozen hlt1).trans hfr;gi_wp2
    exact⟨(zaV hb5).trans (KeepsOthers.setCell _ _ _),⟨rfl,⟨_,List.mem_append.2 (.inr (List.mem_singleton.2 rfl)),hbad⟩,World.cell?_setCell_same' _ _ _ (by rw[q2];rfl)⟩,(zA hB hb5).setCell (p:=⟨w.heap.size+1,0,none⟩) (by simp) _⟩
  | false=>
    rw[hbad]at HC;gi_wp2_with fail
    refine⟨yJ,CallsIn.mono (zfO HC.out) ?_⟩;rintro e w5 ⟨rfl,hb5⟩;gi_wp2
    refine⟨zaV hb5,hb5.mono hsz,⟨yD hsz hb5.size,fun k hk=> ?_,(hb5.cell hlt3).trans hst,(hb5.cell hlt1).trans hcr,(hb5.frozen hlt1).trans hfr⟩,zA hB hb5⟩;rcases List.mem_append.1 hk with h|h
    ·exact hp k h
    ·have e:=List.mem_singleton.1 h;rw[e];exact hbad
 case done=>
  rintro D ys W hD hys ⟨⟨hsz,hp,hst,hcr,hfr⟩,hB⟩ hK;have hno:S10.bad xs m=false:=by
   unfold S10.bad;rw[←hys,List.any_map,List.any_eq_false];intro k hk;simpa using hp k hk
  have hr0:res=0:=by rw[←Hres.out,hno];rfl
  clear hno;gi_wp2
  have hK':=(KeepsOthers.setCell W ⟨w.heap.size+1,0,none⟩ (.int .i64 0)).same D _ hK rfl;refine⟨by simp,.inl ⟨_,_,rfl,run_takeDeferred hK',?_⟩⟩;have hc5:=cell_kept (World.cell?_setCell_same' W ⟨w.heap.size+1,0,none⟩ (.int .i64 0) (by rw[hcr];rfl)) (grownBy_putObj' _ D (.deferred none)) (fun r e=>by cases e;exact⟨_,hK',rfl⟩);refine⟨.int .i64 0,?_,by rw[hr0],(hB.setCell (p:=⟨w.heap.size+1,0,none⟩) (by simp) _).trans (belowK_b (w:=w) (zE _) _ D _ _ (by omega) hK' rfl rfl)⟩;simp[results,Tryz.f98,go_sem,hc5]
 case stop=>
  rintro D c pre W hD ⟨j,hj,hpre⟩ ⟨⟨rfl,⟨k,hk,hbk⟩,hcr⟩,hB⟩ hK;have hyes:S10.bad xs m=true:=by
   unfold S10.bad;rw[List.any_eq_true];exact⟨k.1,List.mem_range.2 k.2,hbk⟩
  have hr3:res=3:=by rw[←Hres.out,hyes];rfl
  clear hyes;gi_wp2
  refine⟨by simp,.inl ⟨_,_,rfl,run_takeDeferred hK,?_⟩⟩;have hc5:=cell_kept hcr (grownBy_putObj' _ D (.deferred none)) (fun r e=>by cases e;exact⟨_,hK,rfl⟩);refine⟨.int .i64 3,?_,by rw[hr3],hB.trans (belowK_b (w:=w) (zE _) W D _ _ (by omega) hK rfl rfl)⟩;simp[results,Tryz.f98,go_sem,hc5]
end Go.Proofs.YtieeogndnhighaaGreat
namespace Go.Proofs.YtieeogndnhighaaGreat
open Go.RowKit
theorem S10.check_range{bits:Int}{xs:List Int}(h:bits<0∨16<bits):S10.check bits xs=2:=by unfold S10.check;rw[zU h]
theorem S10.check_many{bits:Int}{xs:List Int}(h:¬(bits<0∨16<bits))(h2:xs.length≠16*2^bits.toNat):S10.check bits xs=6:=by unfold S10.check;rw[zK h,zU h2]
theorem S10.check_form{bits:Int}{xs:List Int}(h:¬(bits<0∨16<bits))(h2:xs.length=16*2^bits.toNat):S10.check bits xs=if S10.bad xs (2^bits.toNat)then 3 else 0:=by unfold S10.check;rw[zK h,zK (fun c=>c h2)]
theorem zfN(bits:Int)(xs:List Int)(hok:∀x∈xs,0≤x∧x<256)(a:Option Addr)(cap:Nat)(hcap:xs.length≤cap)(w:World)(hrd:Rd w a (Bts xs)) :
 Calls Tryz.prog 98 #[.agg #[.int .i64 bits,.slice a xs.length cap]] w fun e w'=>e = .returned (.int .i64 (S10.check bits xs))∧Below w.heap.size w w':=by
 by_cases h1:bits<0∨16<bits
 ·rw[S10.check_range h1];have hwi:decide ((0:Int)≤bits∧bits≤16)=false:=by simp;omega
  have W1:=zD (zeI bits 0 16);rw[hwi]at W1;clear hwi h1;go_enter Tryz.func98,Tryz.ntmps98;go_wp2_with fail;refine(W1.out _).mono ?_;rintro e w1 ⟨rfl,hb1⟩;have hB1:Below w.heap.size w w1:=zA (by go_grown) hb1;have z1:w.heap.size≤w1.heap.size:=hB1.size;have hc2:Blk w1 (w.heap.size+1) [.int .i64 0] 30:=by
   have h:=(Blk.new (w.alloc (.cells #[.int .i64 bits,.slice a xs.length cap] 75)) [.int .i64 0] 30).step hb1;rwa[yA]at h
  have k1:w1.cell? ⟨w.heap.size+1,0,none⟩=some (.int .i64 0):=hc2.cell 0;have k2:w1.frozen? ⟨w.heap.size+1,0,none⟩=false:=hc2.free 0;have k5:(w1.setCell ⟨w.heap.size+1,0,none⟩ (.int .i64 2)).cell? ⟨w.heap.size+1,0,none⟩=some (.int .i64 2):=(hc2.set 0 (.int .i64 2)).cell 0;go_wp2;exact bodyPost_ret (v:=.int .i64 2) (by simp[results,Tryz.results98,go_sem,k5]) rfl ⟨rfl,hB1.setCell (p:=⟨w.heap.size+1,0,none⟩) (by simp) _⟩
 ·by_cases h2:xs.length=16*2^bits.toNat
  ·rw[S10.check_form h1 h2];obtain⟨n,rfl⟩:=Int.eq_ofNat_of_zero_le (show 0≤bits by omega);exact check10_main n (by omega) xs h2 hok a cap hcap w hrd
  ·rw[S10.check_many h1 h2];obtain⟨n,rfl⟩:=Int.eq_ofNat_of_zero_le (show 0≤bits by omega);have hn:n≤16:=by omega
   have hwi:decide ((0:Int)≤(n:Int)∧(n:Int)≤16)=true:=by simp;omega
   have W1:=zD (zeI (n:Int) 0 16);rw[hwi]at W1;have hw:((xs.length:Int) != wrap64 (16*(2:Int)^n))=true:=by
    rw[zjN hn];simp only[Int.toNat_natCast]at h2;simp only[bne_iff_ne,ne_eq];intro h;apply h2;generalize 2^n=N at h⊢;omega
   clear hwi h1 h2;go_enter Tryz.func98,Tryz.ntmps98;go_wp2_with fail;refine(W1.out _).mono ?_;rintro e w1 ⟨rfl,hb1⟩;have hB1:Below w.heap.size w w1:=zA (by go_grown) hb1;have z1:w.heap.size≤w1.heap.size:=hB1.size;have hc1:Blk w1 w.heap.size [.int .i64 (n:Int),.slice a xs.length cap] 75:=((Blk.new w _ _).alloc _).step hb1;have hc2:Blk w1 (w.heap.size+1) [.int .i64 0] 30:=by
    have h:=(Blk.new (w.alloc (.cells #[.int .i64 (n:Int),.slice a xs.length cap] 75)) [.int .i64 0] 30).step hb1;rwa[yA]at h
   have k1:w1.cell? ⟨w.heap.size+1,0,none⟩=some (.int .i64 0):=hc2.cell 0;have k2:w1.frozen? ⟨w.heap.size+1,0,none⟩=false:=hc2.free 0;have k3:w1.cell? ⟨w.heap.size,0,none⟩=some (.int .i64 (n:Int)):=hc1.cell 0;have k4:w1.cell? ⟨w.heap.size,1,none⟩=some (.slice a xs.length cap):=hc1.cell 1;go_wp2;go_quiet (fail);have hc3:Blk (w1.drewN nq) (w.heap.size+1) [.int .i64 0] 30:=hc2;have k5:((w1.drewN nq).setCell ⟨w.heap.size+1,0,none⟩ (.int .i64 6)).cell? ⟨w.heap.size+1,0,none⟩=some (.int .i64 6):=(hc3.set 0 (.int .i64 6)).cell 0;go_wp2;exact bodyPost_ret (v:=.int .i64 6) (by simp[results,Tryz.results98,go_sem,k5]) rfl ⟨rfl,(zhO hB1 _).setCell (p:=⟨w.heap.size+1,0,none⟩) (by simp) _⟩
end Go.Proofs.YtieeogndnhighaaGreat
namespace Go.Proofs.YtieeogndnhighaaGreat
open Go.RowKit Go.Shelf
attribute [local go_sem] Oper.semAt_some
theorem Blk.kept{A B:World}{row:Option Nat}{b:Nat}{cs:List Value}{t:TypeId}(h:Blk A b cs t)(hg:A.grownBy B row)(hr:∀r,row=some r→∃o:Obj,A.heap[r]? = some o∧o.isCells=false):Blk B b cs t:=by
 have hl:=h.lt;unfold Blk at *
 rw[hg.block b hl (fun e=>by
  obtain⟨o,ho,hc⟩:=hr b e.symm;rw[h]at ho;cases ho;cases hc)]
 exact h
def S10.find(bits:Nat)(xs:List Int)(hash:Nat):Option Nat:=(S10.places bits hash).find? fun i=>xs.getD (16*i) 0==(S10.mark hash:Int)
theorem find_prefix{α:Type}{p:α→Bool}{l1 l:List α}{x:α}(h:l1 ++ [x] <+: l)(h1:∀y∈l1,p y=false)(h2:p x=true):l.find? p=some x:=by
 obtain⟨r,rfl⟩:=h;have e:l1.find? p=none:=List.find?_eq_none.2 fun y hy=>by rw[h1 y hy];simp
 simp[List.find?_append,e,h2]
theorem zpK(bits hash:Nat)(hb:bits≤16)(hh:hash<4294967296)(xs:List Int)(hlen:xs.length=16*2^bits)(b off cap:Nat)(hcap:16*2^bits≤cap)(w:World)(hcs:w.rangeAt b off (Bts xs)) :
 Calls Tryz.prog 100 #[.agg #[.int .i64 (bits:Int),.slice (some ⟨b,off,none⟩) (16*2^bits) cap],.int .u32 (hash:Int)] w fun e w'=>
  e = .returned (.tuple #[.int .i64 ((S10.find bits xs hash).getD 0:Nat),.bool (S10.find bits xs hash).isSome])∧Below w.heap.size w w':=by
 have hn:=zaT hb;have hn1:=zaS bits;have hfd:S10.find bits xs hash=(S10.places bits hash).find? fun i=>xs.getD (16*i) 0==(S10.mark hash:Int):=rfl;obtain⟨res,hres⟩:∃res,S10.find bits xs hash=res:=⟨_,rfl⟩;rw[hres];rw[hres]at hfd;have Hres:=zD hfd;clear hfd hres;have Hplc:=zD (fun(Bs Bn n₀:Nat) h1 h2 w h3 h4 h5=>zlG 8 Bs Bn n₀ bits hash hb hh h1 h2 w h3 h4 h5);generalize hM:2^bits=m at *;have hbl:b<w.heap.size:=zJ (hcs 0 _ (zI (by rw[zaI];omega)));refine(callsIn_wide (n:=9)).1 ?_;refine callsIn_of_wp_marks Tryz.func100 rfl yJ ?_ rfl;simp only[Tryz.ntmps100,List.size_toArray,zbD,List.length_nil,Nat.reduceAdd,Nat.reduceSub,Array.replicate_succ,Array.replicate_zero,List.push_toArray,List.append_toArray,lna,lca];gi_wp2_with fail
 refine⟨yJ,CallsIn.mono (callsIn_wide.2 (zpD _ _ _)) ?_⟩;rintro e w4 ⟨rfl,rfl⟩;gi_wp2_with fail
 obtain⟨A1,hA1⟩:∃A1,w.alloc (Obj.cells #[Value.int IntKind.i64 (bits:Int),Value.slice (some {block:=b,off:=off}) (16*m) cap] 75)=A1:=⟨_,rfl⟩;have a1:Blk A1 w.heap.size [.int .i64 (bits:Int),.slice (some ⟨b,off,none⟩) (16*m) cap] 75:=by rw[←hA1];exact Blk.new w _ _
 have s1:A1.heap.size=w.heap.size+1:=by rw[←hA1];simp
 have c1:Below w.heap.size w A1:=by rw[←hA1];exact(zG _ _).alloc (zE _) _
 rw[hA1];clear hA1;obtain⟨A2,hA2⟩:∃A2,A1.alloc (Obj.cells #[Value.int IntKind.u32 (hash:Int)] 109)=A2:=⟨_,rfl⟩;have a2:Blk A2 (w.heap.size+1) [.int .u32 (hash:Int)] 109:=by rw[←hA2,←s1];exact Blk.new A1 _ _
 have s2:A2.heap.size=w.heap.size+1+1:=by rw[←hA2];simp[s1]
 have c2:Below A1.heap.size A1 A2:=by rw[←hA2];exact(zG _ _).alloc (zE _) _
 rw[hA2];clear hA2;obtain⟨A3,hA3⟩:∃A3,A2.alloc (Obj.cells #[Value.int IntKind.i64 0] 3)=A3:=⟨_,rfl⟩;have a3:Blk A3 (w.heap.size+1+1) [.int .i64 0] 3:=by rw[←hA3,←s2];exact Blk.new A2 _ _
 have s3:A3.heap.size=w.heap.size+1+1+1:=by rw[←hA3];simp[s2]
 have c3:Below A2.heap.size A2 A3:=by rw[←hA3];exact(zG _ _).alloc (zE _) _
 rw[hA3];clear hA3;obtain⟨A4,hA4⟩:∃A4,A3.alloc (Obj.cells #[Value.bool false] 4)=A4:=⟨_,rfl⟩;have a4:Blk A4 (w.heap.size+1+1+1) [.bool false] 4:=by rw[←hA4,←s3];exact Blk.new A3 _ _
 have s4:A4.heap.size=w.heap.size+1+1+1+1:=by rw[←hA4];simp[s3]
 have c4:Below A3.heap.size A3 A4:=by rw[←hA4];exact(zG _ _).alloc (zE _) _
 rw[hA4];clear hA4;obtain⟨A5,hA5⟩:∃A5,A4.alloc (Obj.cells #[Value.int IntKind.i64 (bits:Int)] 3)=A5:=⟨_,rfl⟩;have a5:Blk A5 (w.heap.size+1+1+1+1) [.int .i64 (bits:Int)] 3:=by rw[←hA5,←s4];exact Blk.new A4 _ _
 have s5:A5.heap.size=w.heap.size+1+1+1+1+1:=by rw[←hA5];simp[s4]
 have c5:Below A4.heap.size A4 A5:=by rw[←hA5];exact(zG _ _).alloc (zE _) _
 rw[hA5];clear hA5;obtain⟨W0,hW0⟩:∃W0,A5.alloc (Obj.cells #[Value.int IntKind.u32 (hash:Int)] 109)=W0:=⟨_,rfl⟩;have a6:Blk W0 (w.heap.size+1+1+1+1+1) [.int .u32 (hash:Int)] 109:=by rw[←hW0,←s5];exact Blk.new A5 _ _
 have s6:W0.heap.size=w.heap.size+1+1+1+1+1+1:=by rw[←hW0];simp[s5]
 have c6:Below A5.heap.size A5 W0:=by rw[←hW0];exact(zG _ _).alloc (zE _) _
 rw[hW0];clear hW0;have hB0:Below w.heap.size w W0:=zA (zA (zA (zA (zA c1 c2) c3) c4) c5) c6;have b1:=((((a1.step c2).step c3).step c4).step c5).step c6;have b2:=(((a2.step c3).step c4).step c5).step c6;have b3:=((a3.step c4).step c5).step c6;have b4:=(a4.step c5).step c6;have b5:=a5.step c6;clear a1 a2 a3 a4 a5 c1 c2 c3 c4 c5 c6 s1 s2 s3 s4 s5
 refine wpIn_rangeFunc_ownF rfl (by omega) (gf:=141) (lb:=#[.pointer (some ⟨w.heap.size+1+1+1+1,0,none⟩),.pointer (some ⟨w.heap.size+1+1+1+1+1,0,none⟩)]) rfl yJ (enters_of Tryz.func141 (by kernel_rfl) rfl)
  (Hplc.out (w.heap.size+1+1+1+1) (w.heap.size+1+1+1+1+1) W0.heap.size (by omega) (by omega) W0 (zE _) (b5.cell 0) (a6.cell 0)) belowK_t (belowK_b (zE _)) (zG _ _) (fun _=>rfl)
  (fun pre W=>(W0.heap.size≤W.heap.size∧(∀k∈pre,(xs.getD (16*k.1) 0==(S10.mark hash:Int))=false)∧Blk W w.heap.size [.int .i64 (bits:Int),.slice (some ⟨b,off,none⟩) (16*m) cap] 75∧
    Blk W (w.heap.size+1) [.int .u32 (hash:Int)] 109∧Blk W (w.heap.size+1+1) [.int .i64 0] 3∧Blk W (w.heap.size+1+1+1) [.bool false] 4)∧Below w.heap.size w W)
  (fun c pre W=>(c = .ret∧(∃q x,pre=q ++ [x]∧(∀k∈q,(xs.getD (16*k.1) 0==(S10.mark hash:Int))=false)∧(xs.getD (16*x.1) 0==(S10.mark hash:Int))=true∧
    Blk W (w.heap.size+1+1) [.int .i64 (x.1:Int)] 3∧Blk W (w.heap.size+1+1+1) [.bool true] 4))∧Below w.heap.size w W)
  (OwnFrom.and (Own.from (fun s A B row hs hg hr=>⟨yD hs.1 hg.size,hs.2.1,hs.2.2.1.kept hg hr,hs.2.2.2.1.kept hg hr,hs.2.2.2.2.1.kept hg hr,hs.2.2.2.2.2.kept hg hr⟩) _) (ownFrom_below (zE _) (by omega)))
  (fun c=>OwnFrom.and (Own.from (fun s A B row hs hg hr=>⟨hs.1,by obtain⟨_,q,x,h1,h2,h3,h4,h5⟩:=hs;exact⟨q,x,h1,h2,h3,h4.kept hg hr,h5.kept hg hr⟩⟩) _) (ownFrom_below (zE _) (by omega)))
  ⟨⟨zE _,by simp,b1,b2,b3,b4⟩,hB0⟩
  (fun x=>{tmps:=#[Value.agg #[Value.int IntKind.i64 (bits:Int),Value.slice (some {block:=b,off:=off}) (16*m) cap],
    Value.int IntKind.u32 (hash:Int),Value.pointer (some {block:=w.heap.size,off:=0}),
    Value.pointer (some {block:=w.heap.size+1,off:=0}),
    Value.pointer (some {block:=w.heap.size+1+1,off:=0}),
    Value.pointer (some {block:=w.heap.size+1+1+1,off:=0}),.int .i64 (x.1:Int),
    Value.pointer (some {block:=w.heap.size,off:=0}),Value.int IntKind.i64 (bits:Int),
    Value.int IntKind.u32 (hash:Int),
    Value.func (Fn.func 141) #[] #[Value.pointer (some {block:=w.heap.size+1+1+1+1,off:=0}),Value.pointer (some {block:=w.heap.size+1+1+1+1+1,off:=0})],
    .int .i64 (x.1:Int),undef,undef,undef,undef,undef,undef,undef,undef,undef],defers:=[]}) ?assign ?body ?done ?stop
 case assign=>
  intro l x W K hK;gi_wp2
  exact hK
 case body=>
  rintro l pre ⟨x,hx⟩ W ⟨⟨hsz,hp,d1,d2,d3,d4⟩,hB⟩ _
  have hcx:W.cell? ⟨b,off+16*x,none⟩=some (.int .u8 (xs.getD (16*x) 0)):=(hB.cell (p:=⟨b,off+16*x,none⟩) hbl).trans (hcs (16*x) _ (by
   unfold Bts;rw[zaH,zI (show 16*x<xs.length by omega),zY,zI (show 16*x<xs.length by omega)];rfl))
  generalize hv:xs.getD (16*x) 0=v at *;have hCS:Cells W [(⟨w.heap.size,0,none⟩,.int .i64 (bits:Int)),(⟨w.heap.size,1,none⟩,.slice (some ⟨b,off,none⟩) (16*m) cap),(⟨w.heap.size+1,0,none⟩,.int .u32 (hash:Int)),(⟨b,off+16*x,none⟩,.int .u8 v)]:=⟨d1.cell 0,d1.cell 1,d2.cell 0,hcx,yJ⟩;have HS:=zD fun V=>zjO (bits:Int) b off x m cap hx hn hcap V;have HM:=zD fun V=>zpF hash hh V;gi_wp2_with fail
  refine zeP 8 0 [(U,[U,U,zrA,zrA,zrA,U]),(zrA,[zrA,zrA,U]),(U,[zrA,zrA,zrA,U,U]),(zrA,[zrA,zrA,zrA,zrA,zrA,zrA,U]),(U,[zrA,zrA,zrA,zrA,zrA,zrA,zrA,U])] _ _ (Keeps W [(⟨w.heap.size,0,none⟩,.int .i64 (bits:Int)),(⟨w.heap.size,1,none⟩,.slice (some ⟨b,off,none⟩) (16*m) cap),(⟨w.heap.size+1,0,none⟩,.int .u32 (hash:Int)),(⟨b,off+16*x,none⟩,.int .u8 v)]) (by kernel_rfl) (zaF 8 _).symm (by kernel_rfl) (by kernel_rfl) (by kernel_rfl) (by kernel_rfl) (Keeps.start hCS) (fun Y Q4 F4 hY hF=> ?_);simp only[zrC]
  repeat
   apply zF (by rw[hY];rfl)
   ·intro w2 hS2;(try simp only[Keeps,Cells]at hS2);go_simp;with_reducible rfl
   simp only[zrB]
  apply zS (by rw[hY];rfl)
  ·go_simp;with_reducible exact⟨rfl,rfl⟩
  refine(HS.out _).mono ?_;rintro e w5 ⟨rfl,hb5⟩;have hk5:=(Keeps.start hCS).step hb5;refine⟨_,rfl,hk5,?_⟩;simp only[zrB]
  repeat
   apply zF (by rw[hY];rfl)
   ·intro w2 hS2;(try simp only[Keeps,Cells]at hS2);go_simp;with_reducible rfl
   simp only[zrB]
  apply zS (by rw[hY];rfl)
  ·go_simp;with_reducible exact⟨rfl,rfl⟩
  refine(HM.out _).mono ?_;rintro e w6 ⟨rfl,hb6⟩;have hk6:=hk5.step hb6;refine⟨_,rfl,hk6,?_⟩;simp only[zrB]
  repeat
   apply zF (by rw[hY];rfl)
   ·intro w2 hS2;(try simp only[Keeps,Cells]at hS2);go_simp;with_reducible rfl
   simp only[zrB]
  refine zZ (hF.out _ _ (fun K hK=> ?_));clear hF hY;refine OnlyK.mk (hK.out _ _ ?_);clear hK;have hb7:Below W.heap.size W w6:=hk6.1;have e3:=d3.step hb7;have e4:=d4.step hb7;have g3:=((e3.set 0 (.int .i64 (x:Int))).other (w.heap.size+1+1+1) 0 (.bool true) (by omega));have g4:=((e4.other (w.heap.size+1+1) 0 (.int .i64 (x:Int)) (by omega)).set 0 (.bool true));have t3:=e3.cell 0;have t3f:=e3.free 0;have t4:=e4.cell 0;have t4f:=e4.free 0;simp only[sC0,lgz]at g3 g4 t3 t4;cases hmk:(v==(S10.mark hash:Int))with
  | true=>
    gi_wp2
    exact⟨(zaV hb7).trans ((KeepsOthers.setCell _ _ _).trans (KeepsOthers.setCell _ _ _)),⟨rfl,pre,⟨x,hx⟩,rfl,hp,(by simp only[hv];exact hmk),g3,g4⟩,((zA hB hb7).setCell (p:=⟨w.heap.size+1+1,0,none⟩) (by simp;omega) _).setCell (p:=⟨w.heap.size+1+1+1,0,none⟩) (by simp;omega) _⟩
  | false=>
    gi_wp2
    refine⟨zaV hb7,hb7.mono hsz,⟨yD hsz hb7.size,fun k hk=> ?_,d1.step hb7,d2.step hb7,e3,e4⟩,zA hB hb7⟩;rcases List.mem_append.1 hk with h|h
    ·exact hp k h
    ·have e:=List.mem_singleton.1 h;rw[e];simp only[hv];exact hmk
 case done=>
  rintro D ys W hD hys ⟨⟨hsz,hp,d1,d2,d3,d4⟩,hB⟩ hK;have hr0:res=none:=by
   rw[Hres.out,←hys,List.find?_eq_none];intro y hy;obtain⟨k,hk,rfl⟩:=List.mem_map.1 hy;rw[hp k hk];simp
  subst hr0;have g3:=((d3.set 0 (.int .i64 0)).other (w.heap.size+1+1+1) 0 (.bool false) (by omega));have g4:=((d4.other (w.heap.size+1+1) 0 (.int .i64 0) (by omega)).set 0 (.bool false));have t3:=d3.cell 0;have t3f:=d3.free 0;have t4:=d4.cell 0;have t4f:=d4.free 0;simp only[sC0,lgz]at g3 g4 t3 t4;gi_wp2
  have hK':=((KeepsOthers.setCell W ⟨w.heap.size+1+1,0,none⟩ (.int .i64 0)).trans (KeepsOthers.setCell _ ⟨w.heap.size+1+1+1,0,none⟩ (.bool false))).same D _ hK rfl;refine⟨by simp,.inl ⟨_,_,rfl,run_takeDeferred hK',?_⟩⟩;have hc5:=cell_kept (g3.cell 0) (grownBy_putObj' _ D (.deferred none)) (fun r e=>by cases e;exact⟨_,hK',rfl⟩);have hc6:=cell_kept (g4.cell 0) (grownBy_putObj' _ D (.deferred none)) (fun r e=>by cases e;exact⟨_,hK',rfl⟩);refine⟨.tuple #[.int .i64 0,.bool false],?_,rfl,((hB.setCell (p:=⟨w.heap.size+1+1,0,none⟩) (by simp;omega) _).setCell (p:=⟨w.heap.size+1+1+1,0,none⟩) (by simp;omega) _).trans (belowK_b (w:=w) (zE _) _ D _ _ (by omega) hK' rfl rfl)⟩;simp[results,Tryz.f100,go_sem,hc5,hc6]
 case stop=>
  rintro D c pre W hD hpre ⟨⟨rfl,q,x,rfl,hq,hx,d3,d4⟩,hB⟩ hK;have hr1:res=some x.1:=by
   rw[Hres.out];rw[List.map_append]at hpre;refine find_prefix hpre ?_ hx;intro y hy;obtain⟨k,hk,rfl⟩:=List.mem_map.1 hy;exact hq k hk
  subst hr1;gi_wp2
  refine⟨by simp,.inl ⟨_,_,rfl,run_takeDeferred hK,?_⟩⟩;have hc5:=cell_kept (d3.cell 0) (grownBy_putObj' _ D (.deferred none)) (fun r e=>by cases e;exact⟨_,hK,rfl⟩);have hc6:=cell_kept (d4.cell 0) (grownBy_putObj' _ D (.deferred none)) (fun r e=>by cases e;exact⟨_,hK,rfl⟩);refine⟨.tuple #[.int .i64 (x.1:Int),.bool true],?_,rfl,hB.trans (belowK_b (w:=w) (zE _) W D _ _ (by omega) hK rfl rfl)⟩;simp[results,Tryz.f100,go_sem,hc5,hc6]
end Go.Proofs.YtieeogndnhighaaGreat
namespace Go.Proofs.YtieeogndnhighaaGreat
open Go.RowKit
structure Tab(xs:List Int)(a:Option Addr)(cap:Nat)(w:World):Prop where
 ok:∀x∈xs,0≤x∧x<256
 cap:xs.length≤cap
 rd:Rd w a (Bts xs)
theorem Tab.step{xs:List Int}{a:Option Addr}{cap:Nat}{w w':World}(h:Tab xs a cap w)(hb:Below w.heap.size w w'):Tab xs a cap w':=⟨h.ok,h.cap,h.rd.step hb⟩
def zdY(bits:Int)(xs:List Int)(a:Option Addr)(cap:Nat):Value:=.agg #[.int .i64 bits,.slice a xs.length cap]
theorem S10.correct{bits:Int}{xs:List Int}(h:S10.check bits xs=0):∃n:Nat,bits=n∧n≤16∧xs.length=16*2^n∧S10.bad xs (2^n)=false:=by
 unfold S10.check at h;split at h
 ·cases h
 ·rename_i h1
  obtain⟨n,rfl⟩:=Int.eq_ofNat_of_zero_le (show 0≤bits by omega);split at h
  ·cases h
  ·rename_i h2
   split at h
   ·cases h
   ·rename_i h3
    exact⟨n,rfl,by omega,by simpa using h2,by simpa using h3⟩
end Go.Proofs.YtieeogndnhighaaGreat
namespace Go.Proofs.YtieeogndnhighaaGreat
open Go.RowKit
end Go.Proofs.YtieeogndnhighaaGreat
namespace Go.Proofs.YtieeogndnhighaaGreat
open Go.RowKit
end Go.Proofs.YtieeogndnhighaaGreat
namespace Go.Proofs.YtieeogndnhighaaGreat
open Go.RowKit
def OB(w:World)(base b cap:Nat)(xs:List Int):Prop:=base≤b∧xs.length≤cap∧cap≤9223372036854775807∧∃cs,Blk w b cs 5∧cs.take xs.length=Bts xs
theorem OB.lt{w:World}{base b cap:Nat}{xs:List Int}(h:OB w base b cap xs):b<w.heap.size:=by obtain⟨_,_,_,cs,hb,_⟩:=h;exact hb.lt
theorem OB.step{w w':World}{base b cap:Nat}{xs:List Int}(h:OB w base b cap xs)(hb:Below w.heap.size w w'):OB w' base b cap xs:=by
 obtain⟨h1,h2,h3,cs,h4,h5⟩:=h;exact⟨h1,h2,h3,cs,h4.step hb,h5⟩
theorem OB.at{w:World}{base b cap:Nat}{xs:List Int}(h:OB w base b cap xs){i:Nat}(hi:i<xs.length):w.cell? ⟨b,i,none⟩=some (.int .u8 (xs.getD i 0)):=by
 obtain⟨h1,h2,h3,cs,h4,h5⟩:=h;rw[h4.cell i];have h6:(cs.take xs.length)[i]? = (Bts xs)[i]? :=by rw[h5]
 rw[List.getElem?_take,zU hi]at h6;rw[h6];unfold Bts;rw[zaH,zI hi,zY,zI hi];rfl
theorem OB.free{w:World}{base b cap:Nat}{xs:List Int}(h:OB w base b cap xs)(i:Nat):w.frozen? ⟨b,i,none⟩=false:=by obtain⟨_,_,_,cs,hb,_⟩:=h;exact hb.free i
theorem OB.range{w:World}{base b cap:Nat}{xs:List Int}(h:OB w base b cap xs):w.rangeAt b 0 (Bts xs):=fun j v hv=>by
 rw[yV];have hj:j<xs.length:=by rw[←zaI];exact(List.getElem?_eq_some_iff.1 hv).1
 rw[h.at hj,←hv];unfold Bts;rw[zaH,zI hj,zY,zI hj];rfl
theorem OB.rd{w:World}{base b cap:Nat}{xs:List Int}(h:OB w base b cap xs):Rd w (some ⟨b,0,none⟩) (Bts xs):=fun _=>⟨b,0,rfl,h.range⟩
theorem OB.set{w:World}{base b cap:Nat}{xs:List Int}(h:OB w base b cap xs)(i:Nat)(v:Int):OB (w.setCell ⟨b,i,none⟩ (.int .u8 v)) base b cap (xs.set i v):=by
 obtain⟨h1,h2,h3,cs,h4,h5⟩:=h;refine⟨h1,by rw[zdT];exact h2,h3,_,h4.set i _,?_⟩;rw[zdT,List.take_set,h5];unfold Bts;rw[List.map_set]
theorem OB.of_owns{w:World}{base base':Nat}{a:Option Addr}{cap:Nat}{l:List Int}(h:w.ownsRow base 5 1 (.slice a l.length cap) l.length (Bts l))(hne:1≤l.length)(hb:base'≤base) :
 ∃b,a=some ⟨b,0,none⟩∧base≤b∧OB w base' b cap l:=by
 have hl:=h.1;rcases h.2 with⟨h',h0⟩|⟨g,cap',cur,h',hbg,hg,hnc,hcm,hcs,htake⟩
 ·omega
 ·simp only[Value.slice.injEq,true_and]at h';obtain⟨rfl,rfl⟩:=h';unfold maxLen at hcm;exact⟨g,rfl,hbg,yD hb hbg,hnc,hcm,cur.toList,hg,by simpa using htake⟩
theorem cloneBytes_any(xs:List Int)(a:Option Addr)(cap:Nat)(w:World)(h1:1≤xs.length)(h2:xs.length≤2162688)(hrd:Rd w a (Bts xs)) :
 Calls Tryz.prog 140 #[.slice a xs.length cap] w fun e w'=>∃b cap',e = .returned (.slice (some ⟨b,0,none⟩) xs.length cap')∧OB w' w.heap.size b cap' xs∧Below w.heap.size w w':=by
 obtain⟨g,o,rfl,_⟩:=hrd.at (i:=0) (by rw[zaI];omega);have qT:∀(w:World) (a:Option Addr) (n c n' c':Nat),(binOp .eql 59 (.slice a n c) (.slice none n' c')).run Tryz.prog w = .ok (.bool a.isNone) w:=fun w a n c n' c'=>Lib.run_eql_slice_nil w _ _ a n c n' c' Tryz.underlying59;have hrd':=zD (hrd.step ((zG w.heap.size w).alloc (zE _) (Obj.cells #[] 5)));go_enter Tryz.func140,Tryz.ntmps140;go_wp2_with (at_builtin;refine zaJ _ _ 59 5 1 1 _ w.heap.size zfM rfl rfl _ 0 [] rfl (World.ownsRow_made w #[] 0 (zE _) (by decide) rfl) (some ⟨g,o,none⟩) xs.length cap (Bts xs) rfl (by simp[Bts]) hrd'.out (Bts_one xs) (by unfold maxLen;omega) (by omega) (by simp) ?_;intro a2 cap2 w2 hown2 hgrow2);have hB2:Below w.heap.size w w2:=Below.grown (by go_grown) hgrow2 (by simp) (fun k e=>by cases e;exact zE _);simp only[yV,lna]at hown2;obtain⟨b,rfl,hb,hok⟩:=OB.of_owns (base':=w.heap.size) hown2 h1 (zE _);have hc:=zD hok;clear hgrow2 hown2 hok;go_wp2;go_returns;exact⟨b,cap2,by simp,hc.out,hB2⟩
end Go.Proofs.YtieeogndnhighaaGreat
namespace Go.Proofs.YtieeogndnhighaaGreat
open Go.RowKit
theorem OB.other{w:World}{base b cap:Nat}{xs:List Int}(h:OB w base b cap xs)(c i:Nat)(v:Value)(hne:¬b=c):OB (w.setCell ⟨c,i,none⟩ v) base b cap xs:=by
 obtain⟨h1,h2,h3,cs,h4,h5⟩:=h;exact⟨h1,h2,h3,cs,h4.other c i v hne,h5⟩
theorem OB.mono{w:World}{base base' b cap:Nat}{xs:List Int}(h:OB w base b cap xs)(hb:base'≤base):OB w base' b cap xs:=⟨yD hb h.1,h.2⟩
theorem znX(bits:Int)(xs:List Int)(a:Option Addr)(cap:Nat)(w:World)(h1:1≤xs.length)(h2:xs.length≤2162688)(hrd:Rd w a (Bts xs)) :
 Calls Tryz.prog 99 #[zdY bits xs a cap] w fun e w'=>∃b cap',e = .returned (zdY bits xs (some ⟨b,0,none⟩) cap')∧OB w' w.heap.size b cap' xs∧Below w.heap.size w w':=by
 unfold zdY;have HC:=zD fun W (h:Rd W a (Bts xs))=>cloneBytes_any xs a cap W h1 h2 h;go_enter Tryz.func99,Tryz.ntmps99;go_wp2;obtain⟨w0,hw0⟩:∃w0,(w.alloc (Obj.cells #[.int .i64 bits,.slice a xs.length cap] 75)).alloc (Obj.cells #[.int .i64 0,.slice none 0 0] 75)=w0:=⟨_,rfl⟩;have hB0:Below w.heap.size w w0:=by rw[←hw0];go_grown
 have a1:Blk w0 w.heap.size [.int .i64 bits,.slice a xs.length cap] 75:=by rw[←hw0];exact(Blk.new w _ _).alloc _
 have a2:Blk w0 (w.heap.size+1) [.int .i64 0,.slice none 0 0] 75:=by
  have h:=Blk.new (w.alloc (Obj.cells #[.int .i64 bits,.slice a xs.length cap] 75)) [.int .i64 0,.slice none 0 0] 75;rw[←hw0];simpa using h
 rw[hw0];have z0:w.heap.size+1<w0.heap.size:=a2.lt;clear hw0;have hCS:Cells w0 [(⟨w.heap.size,0,none⟩,.int .i64 bits),(⟨w.heap.size,1,none⟩,.slice a xs.length cap)]:=⟨a1.cell 0,a1.cell 1,yJ⟩;refine zrE 6 1 [(U,[U,U,U,U]),(zrA,[zrA,zrA,zrA,zrA,U]),(U,[zrA,zrA,zrA,zrA,zrA,U])] (Keeps w0 [(⟨w.heap.size,0,none⟩,.int .i64 bits),(⟨w.heap.size,1,none⟩,.slice a xs.length cap)]) (by kernel_rfl) (Keeps.start hCS) (fun Y Q4 F4 hY hF=> ?_);simp only[zrC]
 repeat
  apply zF (by rw[hY];rfl)
  ·intro w2 hS2;(try simp only[Keeps,Cells]at hS2);go_simp;with_reducible rfl
  simp only[zrB]
 apply zS (by rw[hY];rfl)
 ·go_simp;with_reducible exact⟨rfl,rfl⟩
 refine(HC.out _ ((hrd.step hB0).step (Keeps.start hCS).1)).mono ?_;rintro e w2 ⟨b,cap',rfl,ho,hb2⟩;have hk2:=(Keeps.start hCS).step hb2;refine⟨_,rfl,hk2,?_⟩;simp only[zrB]
 repeat
  apply zF (by rw[hY];rfl)
  ·intro w2 hS2;(try simp only[Keeps,Cells]at hS2);go_simp;with_reducible rfl
  simp only[zrB]
 refine zZ (hF.out _ _ (fun K hK=> ?_));clear hF hY;have e2:=a2.step hk2.1;have r0:=e2.cell 0;have r1:=e2.cell 1;have f0:=e2.free 0;have f1:=e2.free 1;go_wp2_with fail;refine OnlyK.mk (hK.out _ _ ?_);clear hK;have hb0:w0.heap.size≤b:=ho.1;have g:=(e2.set 0 (.int .i64 bits)).set 1 (.slice (some ⟨b,0,none⟩) xs.length cap');have g0:=g.cell 0;have g1:=g.cell 1;simp only[sC0,sCs,lgz,lgs]at g0 g1;have ho2:=((ho.mono (base':=w.heap.size) (by simp;omega)).other (w.heap.size+1) 0 (.int .i64 bits) (by omega)).other (w.heap.size+1) 1 (.slice (some ⟨b,0,none⟩) xs.length cap') (by omega);have hBB:Below w.heap.size w ((w2.setCell ⟨w.heap.size+1,0,none⟩ (.int .i64 bits)).setCell ⟨w.heap.size+1,1,none⟩ (.slice (some ⟨b,0,none⟩) xs.length cap')):=((zA hB0 hk2.1).setCell (p:=⟨w.heap.size+1,0,none⟩) (by simp) _).setCell (p:=⟨w.heap.size+1,1,none⟩) (by simp) _;have Ho2:=zD ho2;clear ho ho2 e2 g;go_wp2;exact bodyPost_ret (v:=.agg #[.int .i64 bits,.slice (some ⟨b,0,none⟩) xs.length cap']) (by simp[results,Tryz.results99,go_sem,g0,g1]) rfl ⟨b,cap',rfl,Ho2.out,hBB⟩
end Go.Proofs.YtieeogndnhighaaGreat
namespace Go.Proofs.YtieeogndnhighaaGreat
open Go.RowKit
def TO(w:World)(base:Nat)(bits:Int)(xs:List Int)(V:Value):Prop:=
 (bits=0∧xs = []∧V = .agg #[.int .i64 0,.slice none 0 0])∨∃b cap,V=zdY bits xs (some ⟨b,0,none⟩) cap∧OB w base b cap xs
theorem TO.nil(w:World)(base:Nat):TO w base 0 [] (.agg #[.int .i64 0,.slice none 0 0]):=.inl ⟨rfl,rfl,rfl⟩
end Go.Proofs.YtieeogndnhighaaGreat
namespace Go.Proofs.YtieeogndnhighaaGreat
open Go.RowKit
end Go.Proofs.YtieeogndnhighaaGreat
namespace Go.Proofs.YtieeogndnhighaaGreat
open Go.RowKit
def S10.prio(xs:List Int)(k:Nat):Int:=if S09.found (xs.getD (16*k+1) 0)then S09.hz (xs.getD (16*k+1) 0)+S09.ho (xs.getD (16*k+1) 0)else -1
theorem key10_any(bits:Int)(xs:List Int)(m k b off cap:Nat)(hm:m≤65536)(hl:xs.length=16*m)(hk:k<m)(hcap:xs.length≤cap)(hok:∀x∈xs,0≤x∧x<256)(B:Nat)(w:World)(hcs:w.rangeAt b off (Bts xs))
 (h1:w.cell? ⟨B,0,none⟩=some (.int .i64 bits)) (h2:w.cell? ⟨B,1,none⟩=some (.slice (some ⟨b,off,none⟩) xs.length cap)) :
 Calls Tryz.prog 103 #[.int .i64 (k:Int),.pointer (some ⟨B,0,none⟩)] w fun e w'=>e = .returned (.int .i64 (S10.prio xs k))∧Below w.heap.size w w':=by
 have HS:=zD fun V=>zjO bits b off k m cap hk hm (by omega) V;rw[←hl]at HS;have hin:16*k+1<xs.length:=by omega
 have hv:=hcs (16*k+1) _ (show(Bts xs)[16*k+1]? = some (.int .u8 (xs.getD (16*k+1) 0)) by unfold Bts;rw[zaH,zI hin,zY,zI hin];rfl);have hr:0≤xs.getD (16*k+1) 0∧xs.getD (16*k+1) 0<256:=by
  rw[zY,zI hin];exact hok _ (List.getElem_mem hin)
 unfold S10.prio;generalize xs.getD (16*k+1) 0=v at *;have hbl:=zJ hv;have ev:wrap64 v=v:=IntWalk.wrap64_in _ ⟨by omega,by omega⟩;have ea:off+(16*k+1)=off+16*k+1:=by omega
 rw[ea]at hv;have HP:=zD fun V=>zoO v V;generalize (if S09.found v then S09.hz v+S09.ho v else -1)=r at *;clear ea hl hcap hin;go_enter Tryz.func103,Tryz.ntmps103;go_wp2_with fail;refine(HS.out _).mono ?_;rintro e w1 ⟨rfl,hb1⟩;have hB1:Below w.heap.size w w1:=zA (by go_grown) hb1;have z1:w.heap.size≤w1.heap.size:=hB1.size;have hv1:w1.cell? ⟨b,off+16*k+1,none⟩=some (.int .u8 v):=(hB1.cell (p:=⟨b,off+16*k+1,none⟩) hbl).trans hv;go_wp2_with fail;(try rw[ev]);refine(HP.out _).mono ?_;rintro e w2 ⟨rfl,hb2⟩;have hB2:=zA hB1 hb2;go_wp2;go_returns;exact⟨rfl,hB2⟩
