/- A part of the proof that ends in L14p (W10f, W10i, W10k, W10n). No condition. -/
import Derived.Below
import Derived.BigQuiet
import Derived.Deep.Draws
import Derived.Deep.Light
import Derived.Deep.MidRow
import Derived.Deep.QuietTactic
import Derived.Handy
import Derived.Laws.AppendOwnNone
import Derived.Laws.CopyOwn
import Derived.Laws.MakeOwn
import Derived.Laws.OwnMore
import Derived.Lib.Hide
import Derived.Lib.MinMax
import Derived.LoopIn
import Derived.LoopNIn
import Derived.Maps.AppendAt
import Derived.Orders
import Derived.OrdersHeld
import Derived.OwnWalkIn
import Derived.RangeFuncBound
import Derived.RangeFuncCalls
import Derived.RangeFuncLeaves
import Derived.RangeFuncNested
import Derived.Shelf.Abstract
import Derived.Shelf.RegionOpen
import Derived.Sort.BigQuietIn
import Derived.Sort.QuietIn
import Derived.StillTail
import Derived.Tactics
import Derived.TacticsInMore
import Derived.Test.YtieeogndnhighaaGreatRows
import Derived.WalkKit
import Derived.WalkLawsBesides
import Derived.WalkSpells
import Derived.Test.YtieeogndnhighaaGreatZL14paz
set_option linter.unusedSectionVars false
set_option linter.unusedSimpArgs false
set_option linter.unusedVariables false
set_option maxRecDepth 100000
set_option maxHeartbeats 2000000
namespace Go.Proofs.YtieeogndnhighaaGreat
open Go.RowKit Go.Shelf
attribute [local go_sem] Oper.semAt_some
theorem zmL{bits:Nat}(hb:bits≤16):wrap64 (16*(2:Int)^bits)=16*((2^bits:Nat):Int):=by
 have h:=zcH hb;have e:(2:Int)^bits=((2^bits:Nat):Int):=by simp
 rw[e];generalize 2^bits=N at h⊢;exact IntWalk.wrap64_in _ ⟨by omega,by omega⟩
theorem check10_main(bits:Nat)(hb:bits≤16)(xs:List Int)(hlen:xs.length=16*2^bits)(hok:∀x∈xs,0≤x∧x<256)(a:Option Addr)(cap:Nat)(hcap:xs.length≤cap)(w:World)(hrd:Rd w a (Bts xs)) :
 Calls Tryz.prog 98 #[.agg #[.int .i64 (bits:Int),.slice a xs.length cap]] w fun e w'=>e = .returned (.int .i64 (if S10.bad xs (2^bits)then 3 else 0))∧Below w.heap.size w w':=by
 have hn:=zcH hb;have hn1:=Nat.two_pow_pos bits;have hw:(16*((2^bits:Nat):Int) != wrap64 (16*(2:Int)^bits))=false:=by rw[zmL hb];simp
 have hwi:decide ((0:Int)≤(bits:Int)∧(bits:Int)≤16)=true:=by simp;omega
 obtain⟨b,off,rfl,hcs⟩:=hrd (fun e=>by have:=yN List.length e;rw[zaG,hlen]at this;simp at this;omega);rw[hlen]at hcap⊢;generalize 2^bits=m at *;obtain⟨res,hres⟩:∃res:Int,(if S10.bad xs m then 3 else 0)=res:=⟨_,rfl⟩;rw[hres];have Hres:=zB hres;clear hres;have W1:=zB (zcV (bits:Int) 0 16);rw[hwi]at W1;clear hwi;refine(callsIn_wide (n:=9)).1 ?_;refine callsIn_of_wp_marks Tryz.func98 rfl yI ?_ rfl;simp only[Tryz.ntmps98,List.size_toArray,zdB,List.length_nil,Nat.reduceAdd,Nat.reduceSub,Array.replicate_succ,Array.replicate_zero,List.push_toArray,List.append_toArray,lna,lca];gi_wp2_with fail
 refine⟨yI,CallsIn.mono (callsIn_wide.2 (W1.out _)) ?_⟩;rintro e w1 ⟨rfl,hb1⟩;have hB1:Below w.heap.size w w1:=zA (by go_grown) hb1;have z1:w.heap.size≤w1.heap.size:=hB1.size;have hc1:Blk w1 w.heap.size [.int .i64 (bits:Int),.slice (some ⟨b,off,none⟩) (16*m) cap] 75:=((Blk.new w _ _).alloc _).step hb1;have hc2:Blk w1 (w.heap.size+1) [.int .i64 0] 30:=by
  have h:=(Blk.new (w.alloc (.cells #[.int .i64 (bits:Int),.slice (some ⟨b,off,none⟩) (16*m) cap] 75)) [.int .i64 0] 30).step hb1;rwa[yE]at h
 have k1:w1.cell? ⟨w.heap.size,0,none⟩=some (.int .i64 (bits:Int)):=(hb1.cell (by simp<;>omega)).trans (by go_simp);have k2:w1.cell? ⟨w.heap.size,1,none⟩=some (.slice (some ⟨b,off,none⟩) (16*m) cap):=(hb1.cell (by simp<;>omega)).trans (by go_simp);gi_wp2_with fail
 gi_quiet (fail)
 have hd1:Below w.heap.size w (w1.drewN nq):=zeB hB1 nq;have zq:w.heap.size≤(w1.drewN nq).heap.size:=hd1.size;have hd2:Blk (w1.drewN nq) w.heap.size [.int .i64 (bits:Int),.slice (some ⟨b,off,none⟩) (16*m) cap] 75:=hc1;have hd3:Blk (w1.drewN nq) (w.heap.size+1) [.int .i64 0] 30:=hc2;generalize w1.drewN nq=w2 at *;gi_wp2_with fail
 refine⟨yI,CallsIn.mono (callsIn_wide.2 (zlC _)) ?_⟩;rintro e w3 ⟨rfl,hb3⟩;have hB3:Below w.heap.size w w3:=zA (by go_grown) hb3;have z3:w.heap.size≤w3.heap.size:=hB3.size;have he2:=hd2.step hb3;have he3:=hd3.step hb3;have l3:=he3.lt;have k3:w3.cell? ⟨w.heap.size,0,none⟩=some (.int .i64 (bits:Int)):=he2.cell 0;have k4:(w3.alloc (.cells #[.int .i64 215] 3)).cell? ⟨w.heap.size,1,none⟩=some (.slice (some ⟨b,off,none⟩) (16*m) cap):=(he2.alloc _).cell 1;gi_wp2_with fail
 refine⟨yI,CallsIn.mono (callsIn_wide.2 (chunk_any _ _ _ _)) ?_⟩;rintro e w4 ⟨rfl,rfl⟩;gi_wp2_with fail
 obtain⟨W0,hW0⟩:∃W0,(((w3.alloc (Obj.cells #[Value.int IntKind.i64 215] 3)).alloc (Obj.cells #[Value.slice (some {block:=b,off:=off}) (16*m) cap] 59)).alloc (Obj.cells #[Value.int IntKind.i64 16] 3))=W0:=⟨_,rfl⟩;have hz0:W0.heap.size=w3.heap.size+3:=by rw[←hW0];simp
 have hB0:Below w.heap.size w W0:=by rw[←hW0];exact zA hB3 ((((zI _ _).alloc (zG _) _).alloc (by simp) _).alloc (by simp;omega) _)
 have f1:Blk W0 (w.heap.size+1) [.int .i64 0] 30:=by rw[←hW0];exact((he3.alloc _).alloc _).alloc _
 have f2:Blk W0 w3.heap.size [.int .i64 215] 3:=by rw[←hW0];exact((Blk.new w3 _ _).alloc _).alloc _
 have f3:Blk W0 (w3.heap.size+1) [.slice (some ⟨b,off,none⟩) (16*m) cap] 59:=by
  rw[←hW0];have h:=(Blk.new (w3.alloc (Obj.cells #[Value.int IntKind.i64 215] 3)) [.slice (some ⟨b,off,none⟩) (16*m) cap] 59).alloc (Obj.cells #[Value.int IntKind.i64 16] 3);rwa[yE]at h
 have f4:Blk W0 (w3.heap.size+1+1) [.int .i64 16] 3:=by
  rw[←hW0];have h:=Blk.new ((w3.alloc (Obj.cells #[Value.int IntKind.i64 215] 3)).alloc (Obj.cells #[Value.slice (some {block:=b,off:=off}) (16*m) cap] 59)) [.int .i64 16] 3;rwa[yE,yE]at h
 rw[hW0];clear hW0
 refine wpIn_rangeFunc_ownF rfl (by omega) (gf:=149) (lb:=#[.pointer (some ⟨w3.heap.size+1,0,none⟩),.pointer (some ⟨w3.heap.size+1+1,0,none⟩)]) rfl yI (enters_of Tryz.func149 (by kernel_rfl) rfl)
  (chunk_stops _ (w3.heap.size+1) (w3.heap.size+1+1) W0.heap.size b off m cap (by omega) hcap (by omega) (by omega) W0 (zG _) (f3.cell 0) (f4.cell 0)) belowK_t (belowK_b (zG _)) (zI _ _) (fun _=>rfl)
  (fun pre W=>(W0.heap.size≤W.heap.size∧(∀k∈pre,(S10.tail xs k.1).any S10.bad1=false)∧W.cell? ⟨w3.heap.size,0,none⟩=some (.int .i64 215)∧W.cell? ⟨w.heap.size+1,0,none⟩=some (.int .i64 0)∧W.frozen? ⟨w.heap.size+1,0,none⟩=false)∧Below w.heap.size w W)
  (fun c pre W=>(c = .ret∧(∃k∈pre,(S10.tail xs k.1).any S10.bad1=true)∧W.cell? ⟨w.heap.size+1,0,none⟩=some (.int .i64 3))∧Below w.heap.size w W)
  (OwnFrom.and (Own.from (fun s A B row hs hg hr=>⟨yD hs.1 hg.size,hs.2.1,cell_kept hs.2.2.1 hg hr,cell_kept hs.2.2.2.1 hg hr,(frozen_kept hs.2.2.2.1 hg hr).trans hs.2.2.2.2⟩) _) (ownFrom_below (zG _) (by omega)))
  (fun c=>OwnFrom.and (Own.from (fun s A B row hs hg hr=>⟨hs.1,hs.2.1,cell_kept hs.2.2 hg hr⟩) _) (ownFrom_below (zG _) (by omega)))
  ⟨⟨zG _,by simp,f2.cell 0,f1.cell 0,f1.free 0⟩,hB0⟩
  (fun x=>{tmps:=#[Value.agg #[Value.int IntKind.i64 (bits:Int),Value.slice (some {block:=b,off:=off}) (16*m) cap],
    Value.pointer (some {block:=w.heap.size,off:=0}),
    Value.pointer (some {block:=w.heap.size+1,off:=0}),
    Value.pointer (some {block:=w3.heap.size,off:=0}),.slice (some ⟨b,off+16*x.1,none⟩) 16 16,Value.bool false,
    Value.pointer (some {block:=w.heap.size,off:=0}),Value.int IntKind.i64 (bits:Int),Value.bool true,
    Value.bool false,Value.bool false,Value.pointer (some {block:=w.heap.size,off:=1}),
    Value.slice (some {block:=b,off:=off}) (16*m) cap,Value.int IntKind.i64 (16*(m:Int)),
    Value.pointer (some {block:=w.heap.size,off:=0}),Value.int IntKind.i64 (bits:Int),
    Value.int IntKind.i64 (wrap64 (16*2^bits)),Value.bool false,Value.int IntKind.i64 215,
    Value.pointer (some {block:=w.heap.size,off:=1}),
    Value.slice (some {block:=b,off:=off}) (16*m) cap,
    Value.func (Fn.func 149) #[] #[Value.pointer (some {block:=w3.heap.size+1,off:=0}),Value.pointer (some {block:=w3.heap.size+1+1,off:=0})],
    .slice (some ⟨b,off+16*x.1,none⟩) 16 16,undef,undef,undef,undef],defers:=[]}) ?assign ?body ?done ?stop
 case assign=>
  intro l x W K hK;gi_wp2
  exact hK
 case body=>
  rintro l pre ⟨x,hx⟩ W ⟨⟨hsz,hp,hst,hcr,hfr⟩,hB⟩ _;have zW:=hB.size;have ht15:(S10.tail xs x).length=15:=by unfold S10.tail;rw[List.length_take,List.length_drop,hlen];omega
  have hrd2:Rd w (some ⟨b,off+16*x+1,none⟩) (Bts (S10.tail xs x)):=fun _=>⟨b,off+16*x+1,rfl,fun j v hv=>by
   have h:=hcs (16*x+1+j) v (by
    unfold Bts S10.tail at hv;rw[yR,List.getElem?_take]at hv;unfold Bts;rw[yR];split at hv
    ·rwa[List.getElem?_drop]at hv
    ·cases hv)
   have e:off+16*x+1+j=off+(16*x+1+j):=by omega
   rw[e];exact h⟩
  have C:=zfB 139 (enters_of Tryz.func139 (by kernel_rfl) rfl) (.pointer (some ⟨w3.heap.size,0,none⟩)) S10.bad1 W (S10.tail xs x)
   (fun y V hy hV=>bad10_any y (hok y (List.mem_of_mem_drop (List.mem_of_mem_take hy))) w3.heap.size V ((hV.cell (zF hst)).trans hst)) (some ⟨b,off+16*x+1,none⟩) 15 (by omega) (hrd2.below hB (fun b' o' e _=>by cases e;exact zF (hcs 0 _ (zE (by rw[zaG];omega)))))
  rw[ht15]at C;have HC:=zB C;clear C;have hlt1:=zF hcr;have hlt3:=zF hst;cases hbad:(S10.tail xs x).any S10.bad1 with
  | true=>
    rw[hbad]at HC;gi_wp2_with fail
    refine⟨yI,CallsIn.mono (zeI HC.out) ?_⟩;rintro e w5 ⟨rfl,hb5⟩;have q2:w5.cell? ⟨w.heap.size+1,0,none⟩=some (.int .i64 0):=(hb5.cell hlt1).trans hcr;have q3:w5.frozen? ⟨w.heap.size+1,0,none⟩=false:=(hb5.frozen hlt1).trans hfr;gi_wp2
    exact⟨(zdY hb5).trans (KeepsOthers.setCell _ _ _),⟨rfl,⟨_,List.mem_append.2 (.inr (List.mem_singleton.2 rfl)),hbad⟩,World.cell?_setCell_same' _ _ _ (by rw[q2];rfl)⟩,(zA hB hb5).setCell (p:=⟨w.heap.size+1,0,none⟩) (by simp) _⟩
  | false=>
    rw[hbad]at HC;gi_wp2_with fail
    refine⟨yI,CallsIn.mono (zeI HC.out) ?_⟩;rintro e w5 ⟨rfl,hb5⟩;gi_wp2
    refine⟨zdY hb5,hb5.mono hsz,⟨yD hsz hb5.size,fun k hk=> ?_,(hb5.cell hlt3).trans hst,(hb5.cell hlt1).trans hcr,(hb5.frozen hlt1).trans hfr⟩,zA hB hb5⟩;rcases List.mem_append.1 hk with h|h
    ·exact hp k h
    ·have e:=List.mem_singleton.1 h;rw[e];exact hbad
 case done=>
  rintro D ys W hD hys ⟨⟨hsz,hp,hst,hcr,hfr⟩,hB⟩ hK;have hno:S10.bad xs m=false:=by
   unfold S10.bad;rw[←hys,List.any_map,List.any_eq_false];intro k hk;simpa using hp k hk
  have hr0:res=0:=by rw[←Hres.out,hno];rfl
  clear hno;gi_wp2
  have hK':=(KeepsOthers.setCell W ⟨w.heap.size+1,0,none⟩ (.int .i64 0)).same D _ hK rfl;refine⟨by simp,.inl ⟨_,_,rfl,run_takeDeferred hK',?_⟩⟩;have hc5:=cell_kept (World.cell?_setCell_same' W ⟨w.heap.size+1,0,none⟩ (.int .i64 0) (by rw[hcr];rfl)) (grownBy_putObj' _ D (.deferred none)) (fun r e=>by cases e;exact⟨_,hK',rfl⟩);refine⟨.int .i64 0,?_,by rw[hr0],(hB.setCell (p:=⟨w.heap.size+1,0,none⟩) (by simp) _).trans (belowK_b (w:=w) (zG _) _ D _ _ (by omega) hK' rfl rfl)⟩;simp[results,Tryz.f98,go_sem,hc5]
 case stop=>
  rintro D c pre W hD ⟨j,hj,hpre⟩ ⟨⟨rfl,⟨k,hk,hbk⟩,hcr⟩,hB⟩ hK;have hyes:S10.bad xs m=true:=by
   unfold S10.bad;rw[List.any_eq_true];exact⟨k.1,List.mem_range.2 k.2,hbk⟩
  have hr3:res=3:=by rw[←Hres.out,hyes];rfl
  clear hyes;gi_wp2
  refine⟨by simp,.inl ⟨_,_,rfl,run_takeDeferred hK,?_⟩⟩;have hc5:=cell_kept hcr (grownBy_putObj' _ D (.deferred none)) (fun r e=>by cases e;exact⟨_,hK,rfl⟩);refine⟨.int .i64 3,?_,by rw[hr3],hB.trans (belowK_b (w:=w) (zG _) W D _ _ (by omega) hK rfl rfl)⟩;simp[results,Tryz.f98,go_sem,hc5]
end Go.Proofs.YtieeogndnhighaaGreat
namespace Go.Proofs.YtieeogndnhighaaGreat
open Go.RowKit
theorem S10.check_range{bits:Int}{xs:List Int}(h:bits<0∨16<bits):S10.check bits xs=2:=by unfold S10.check;rw[zU h]
theorem S10.check_many{bits:Int}{xs:List Int}(h:¬(bits<0∨16<bits))(h2:xs.length≠16*2^bits.toNat):S10.check bits xs=6:=by unfold S10.check;rw[zK h,zU h2]
theorem S10.check_form{bits:Int}{xs:List Int}(h:¬(bits<0∨16<bits))(h2:xs.length=16*2^bits.toNat):S10.check bits xs=if S10.bad xs (2^bits.toNat)then 3 else 0:=by unfold S10.check;rw[zK h,zK (fun c=>c h2)]
theorem zlI(bits:Int)(xs:List Int)(hok:∀x∈xs,0≤x∧x<256)(a:Option Addr)(cap:Nat)(hcap:xs.length≤cap)(w:World)(hrd:Rd w a (Bts xs)) :
 Calls Tryz.prog 98 #[.agg #[.int .i64 bits,.slice a xs.length cap]] w fun e w'=>e = .returned (.int .i64 (S10.check bits xs))∧Below w.heap.size w w':=by
 by_cases h1:bits<0∨16<bits
 ·rw[S10.check_range h1];have hwi:decide ((0:Int)≤bits∧bits≤16)=false:=by simp;omega
  have W1:=zB (zcV bits 0 16);rw[hwi]at W1;clear hwi h1;go_enter Tryz.func98,Tryz.ntmps98;go_wp2_with fail;refine(W1.out _).mono ?_;rintro e w1 ⟨rfl,hb1⟩;have hB1:Below w.heap.size w w1:=zA (by go_grown) hb1;have z1:w.heap.size≤w1.heap.size:=hB1.size;have hc2:Blk w1 (w.heap.size+1) [.int .i64 0] 30:=by
   have h:=(Blk.new (w.alloc (.cells #[.int .i64 bits,.slice a xs.length cap] 75)) [.int .i64 0] 30).step hb1;rwa[yE]at h
  have k1:w1.cell? ⟨w.heap.size+1,0,none⟩=some (.int .i64 0):=hc2.cell 0;have k2:w1.frozen? ⟨w.heap.size+1,0,none⟩=false:=hc2.free 0;have k5:(w1.setCell ⟨w.heap.size+1,0,none⟩ (.int .i64 2)).cell? ⟨w.heap.size+1,0,none⟩=some (.int .i64 2):=(hc2.set 0 (.int .i64 2)).cell 0;go_wp2;exact bodyPost_ret (v:=.int .i64 2) (by simp[results,Tryz.results98,go_sem,k5]) rfl ⟨rfl,hB1.setCell (p:=⟨w.heap.size+1,0,none⟩) (by simp) _⟩
 ·by_cases h2:xs.length=16*2^bits.toNat
  ·rw[S10.check_form h1 h2];obtain⟨n,rfl⟩:=Int.eq_ofNat_of_zero_le (show 0≤bits by omega);exact check10_main n (by omega) xs h2 hok a cap hcap w hrd
  ·rw[S10.check_many h1 h2];obtain⟨n,rfl⟩:=Int.eq_ofNat_of_zero_le (show 0≤bits by omega);have hn:n≤16:=by omega
   have hwi:decide ((0:Int)≤(n:Int)∧(n:Int)≤16)=true:=by simp;omega
   have W1:=zB (zcV (n:Int) 0 16);rw[hwi]at W1;have hw:((xs.length:Int) != wrap64 (16*(2:Int)^n))=true:=by
    rw[zmL hn];simp only[Int.toNat_natCast]at h2;simp only[bne_iff_ne,ne_eq];intro h;apply h2;generalize 2^n=N at h⊢;omega
   clear hwi h1 h2;go_enter Tryz.func98,Tryz.ntmps98;go_wp2_with fail;refine(W1.out _).mono ?_;rintro e w1 ⟨rfl,hb1⟩;have hB1:Below w.heap.size w w1:=zA (by go_grown) hb1;have z1:w.heap.size≤w1.heap.size:=hB1.size;have hc1:Blk w1 w.heap.size [.int .i64 (n:Int),.slice a xs.length cap] 75:=((Blk.new w _ _).alloc _).step hb1;have hc2:Blk w1 (w.heap.size+1) [.int .i64 0] 30:=by
    have h:=(Blk.new (w.alloc (.cells #[.int .i64 (n:Int),.slice a xs.length cap] 75)) [.int .i64 0] 30).step hb1;rwa[yE]at h
   have k1:w1.cell? ⟨w.heap.size+1,0,none⟩=some (.int .i64 0):=hc2.cell 0;have k2:w1.frozen? ⟨w.heap.size+1,0,none⟩=false:=hc2.free 0;have k3:w1.cell? ⟨w.heap.size,0,none⟩=some (.int .i64 (n:Int)):=hc1.cell 0;have k4:w1.cell? ⟨w.heap.size,1,none⟩=some (.slice a xs.length cap):=hc1.cell 1;go_wp2;go_quiet (fail);have hc3:Blk (w1.drewN nq) (w.heap.size+1) [.int .i64 0] 30:=hc2;have k5:((w1.drewN nq).setCell ⟨w.heap.size+1,0,none⟩ (.int .i64 6)).cell? ⟨w.heap.size+1,0,none⟩=some (.int .i64 6):=(hc3.set 0 (.int .i64 6)).cell 0;go_wp2;exact bodyPost_ret (v:=.int .i64 6) (by simp[results,Tryz.results98,go_sem,k5]) rfl ⟨rfl,(zeB hB1 _).setCell (p:=⟨w.heap.size+1,0,none⟩) (by simp) _⟩
end Go.Proofs.YtieeogndnhighaaGreat
namespace Go.Proofs.YtieeogndnhighaaGreat
open Go.RowKit Go.Shelf
attribute [local go_sem] Oper.semAt_some
theorem Blk.kept{A B:World}{row:Option Nat}{b:Nat}{cs:List Value}{t:TypeId}(h:Blk A b cs t)(hg:A.grownBy B row)(hr:∀r,row=some r→∃o:Obj,A.heap[r]? = some o∧o.isCells=false):Blk B b cs t:=by
 have hl:=h.lt;unfold Blk at *
 rw[hg.block b hl (fun e=>by
  obtain⟨o,ho,hc⟩:=hr b e.symm;rw[h]at ho;cases ho;cases hc)]
 exact h
end Go.Proofs.YtieeogndnhighaaGreat
namespace Go.Proofs.YtieeogndnhighaaGreat
open Go.RowKit
structure Tab(xs:List Int)(a:Option Addr)(cap:Nat)(w:World):Prop where
 ok:∀x∈xs,0≤x∧x<256
 cap:xs.length≤cap
 rd:Rd w a (Bts xs)
theorem Tab.step{xs:List Int}{a:Option Addr}{cap:Nat}{w w':World}(h:Tab xs a cap w)(hb:Below w.heap.size w w'):Tab xs a cap w':=⟨h.ok,h.cap,h.rd.step hb⟩
def zlQ(bits:Int)(xs:List Int)(a:Option Addr)(cap:Nat):Value:=.agg #[.int .i64 bits,.slice a xs.length cap]
theorem S10.correct{bits:Int}{xs:List Int}(h:S10.check bits xs=0):∃n:Nat,bits=n∧n≤16∧xs.length=16*2^n∧S10.bad xs (2^n)=false:=by
 unfold S10.check at h;split at h
 ·cases h
 ·rename_i h1
  obtain⟨n,rfl⟩:=Int.eq_ofNat_of_zero_le (show 0≤bits by omega);split at h
  ·cases h
  ·rename_i h2
   split at h
   ·cases h
   ·rename_i h3
    exact⟨n,rfl,by omega,by simpa using h2,by simpa using h3⟩
end Go.Proofs.YtieeogndnhighaaGreat
namespace Go.Proofs.YtieeogndnhighaaGreat
open Go.RowKit
def S10.exists(bits n k:Int):Bool:=decide (0≤n∧n<2^bits.toNat)&&decide (1≤k∧k≤15)
def S10.node(bits:Int)(xs:List Int)(n k:Int):Int:=if S10.check bits xs=0 then(if S10.exists bits n k then 0 else 2)else S10.check bits xs
theorem node10_any(bits:Int)(xs:List Int)(n k:Int)(a:Option Addr)(cap:Nat)(w:World)(hT:Tab xs a cap w) :
 Calls Tryz.prog 226 #[zlQ bits xs a cap,.int .i64 n,.int .i64 k] w fun e w'=>e = .returned (.int .i64 (S10.node bits xs n k))∧Below w.heap.size w w':=by
 have HC:=zB fun W (h:Tab xs a cap W)=>zlI bits xs h.ok a cap h.cap W h.rd;unfold zlQ;by_cases hc:S10.check bits xs=0
 ·have e1:S10.node bits xs n k=if S10.exists bits n k then 0 else 2:=zU hc
  rw[e1];rw[hc]at HC;obtain⟨m,rfl,hm,hz1,hz2⟩:=S10.correct hc;clear hz1 hz2;have hp:=wrap_pow hm;have hps:=zcH hm;have hpp:=Nat.two_pow_pos m;have hw:wrap64 (wrap64 ((2:Int)^m)-1)=((2^m:Nat):Int)-1:=by
   rw[hp];generalize 2^m=N at hps hpp⊢;exact IntWalk.wrap64_in _ ⟨by omega,by omega⟩
  have hq:decide (0≤n∧n≤((2^m:Nat):Int)-1)=decide (0≤n∧n<2^m):=by
   have e:(2:Int)^m=((2^m:Nat):Int):=by simp
   rw[e];generalize 2^m=N
   congr 1
   apply propext;omega
  have hx:S10.exists (m:Int) n k=(decide (0≤n∧n<2^m)&&decide (1≤k∧k≤15)):=rfl;have W1:=zB fun W=>zcV n 0 (((2^m:Nat):Int)-1) W;have W2:=zB fun W=>zcV k 1 15 W;rw[hq]at W1;rw[hx];generalize decide (0≤n∧n<2^m)=p at *;generalize decide (1≤k∧k≤15)=q at *;have Hw:=zB hw;clear hq hx e1 hc hp hps hpp hw;go_enter Tryz.func226,Tryz.ntmps226;go_wp2_with fail;refine(HC.out _ (hT.step (by go_grown))).mono ?_;rintro e w1 ⟨rfl,hb1⟩;have hB1:Below w.heap.size w w1:=zA (by go_grown) hb1;have z1:w.heap.size≤w1.heap.size:=hB1.size;have hc1:Blk w1 w.heap.size [.int .i64 (m:Int),.slice a xs.length cap] 75:=(Blk.new w _ _).step hb1;have k1:w1.cell? ⟨w.heap.size,0,none⟩=some (.int .i64 (m:Int)):=hc1.cell 0;go_wp2_with fail;rw[Hw.out];refine(W1.out _).mono ?_;rintro e w2 ⟨rfl,hb2⟩;have hB2:=zA hB1 hb2;cases p with
  | false=>
    go_wp2;go_returns;exact⟨rfl,hB2⟩
  | true=>
    go_wp2_with fail;refine(W2.out _).mono ?_;rintro e w3 ⟨rfl,hb3⟩;have hB3:Below w.heap.size w w3:=zA (by go_grown) hb3;have z3:w.heap.size≤w3.heap.size:=hB3.size;cases q<;>(go_wp2;go_returns;exact⟨rfl,hB3⟩)
 ·have e1:S10.node bits xs n k=S10.check bits xs:=zK hc;rw[e1];have hc':(S10.check bits xs != 0)=true:=by simpa using hc
  generalize S10.check bits xs=C at *;clear hc e1;go_enter Tryz.func226,Tryz.ntmps226;go_wp2_with fail;refine(HC.out _ (hT.step (by go_grown))).mono ?_;rintro e w1 ⟨rfl,hb1⟩;have hB1:Below w.heap.size w w1:=zA (by go_grown) hb1;have z1:w.heap.size≤w1.heap.size:=hB1.size;go_wp2;go_returns;exact⟨rfl,hB1⟩
end Go.Proofs.YtieeogndnhighaaGreat
namespace Go.Proofs.YtieeogndnhighaaGreat
open Go.RowKit
def S10.getN(bits:Int)(xs:List Int)(n k:Int):Int:=if S10.node bits xs n k=0 then xs.getD (16*n.toNat+k.toNat) 0 else 0
theorem S10.node_zero{bits:Int}{xs:List Int}{n k:Int}(h:S10.node bits xs n k=0):S10.check bits xs=0∧S10.exists bits n k=true:=by
 unfold S10.node at h;split at h
 ·rename_i h1
  refine⟨h1,?_⟩;split at h
  ·assumption
  ·cases h
 ·rename_i h1
  exact absurd h h1
theorem S10.exists_at{m:Nat}{n k:Int}(h:S10.exists (m:Int) n k=true):∃n' k':Nat,n=n'∧k=k'∧n'<2^m∧1≤k'∧k'≤15:=by
 unfold S10.exists at h;simp only[yF,yM,Int.toNat_natCast]at h;obtain⟨⟨h1,h2⟩,h3,h4⟩:=h;obtain⟨n',rfl⟩:=Int.eq_ofNat_of_zero_le h1;obtain⟨k',rfl⟩:=Int.eq_ofNat_of_zero_le (show 0≤k by omega);refine⟨n',k',rfl,rfl,?_,by omega,by omega⟩;have e:(2:Int)^m=((2^m:Nat):Int):=by simp
 rw[e]at h2;omega
theorem get10_any(bits:Int)(xs:List Int)(n k:Int)(a:Option Addr)(cap:Nat)(w:World)(hT:Tab xs a cap w) :
 Calls Tryz.prog 223 #[zlQ bits xs a cap,.int .i64 n,.int .i64 k] w fun e w'=>e = .returned (.tuple #[.int .i64 (S10.getN bits xs n k),.int .i64 (S10.node bits xs n k)])∧Below w.heap.size w w':=by
 have HN:=zB fun W (h:Tab xs a cap W)=>node10_any bits xs n k a cap W h;unfold zlQ at *;by_cases hc:S10.node bits xs n k=0
 ·have e1:S10.getN bits xs n k=xs.getD (16*n.toNat+k.toNat) 0:=zU hc;rw[e1,hc];rw[hc]at HN;obtain⟨h1,h2⟩:=S10.node_zero hc;obtain⟨m,rfl,hm,hl,hz2⟩:=S10.correct h1;obtain⟨n',k',rfl,rfl,hn,hk1,hk2⟩:=S10.exists_at h2;have hps:=zcH hm;obtain⟨b,off,rfl,hcs⟩:=hT.rd (fun e=>by have h1:=yN List.length e;rw[zaG,hl]at h1;simp only[List.length_nil]at h1;omega);have hin:16*n'+k'<xs.length:=by omega
  have hcap:=hT.cap;have hv:=hcs (16*n'+k') _ (show(Bts xs)[16*n'+k']? = some (.int .u8 (xs.getD (16*n'+k') 0)) by unfold Bts;rw[yR,zE hin,zO,zE hin];rfl);have hr:0≤xs.getD (16*n'+k') 0∧xs.getD (16*n'+k') 0<256:=by
   rw[zO,zE hin];exact hT.ok _ (zbK hin)
  have HS:=zB fun V=>slot10_any (m:Int) b off n' (2^m) cap hn hps (by rw[←hl];exact hcap) V;rw[←hl]at HS;simp only[Int.toNat_natCast];generalize xs.getD (16*n'+k') 0=v at *;have hbl:=zF hv;have ev:wrap64 v=v:=IntWalk.wrap64_in _ ⟨by omega,by omega⟩;have ea:off+(16*n'+k')=off+16*n'+k':=by omega
  rw[ea]at hv;clear ea e1 hc h1 h2 hl hz2 hcap hin hps hn;go_enter Tryz.func223,Tryz.ntmps223;go_wp2_with fail;refine(HN.out _ (hT.step (by go_grown))).mono ?_;rintro e w1 ⟨rfl,hb1⟩;have hB1:Below w.heap.size w w1:=zA (by go_grown) hb1;have z1:w.heap.size≤w1.heap.size:=hB1.size;have hc1:Blk w1 w.heap.size [.int .i64 (m:Int),.slice (some ⟨b,off,none⟩) xs.length cap] 75:=(Blk.new w _ _).step hb1;have k1:w1.cell? ⟨w.heap.size,0,none⟩=some (.int .i64 (m:Int)):=hc1.cell 0;have k2:w1.cell? ⟨w.heap.size,1,none⟩=some (.slice (some ⟨b,off,none⟩) xs.length cap):=hc1.cell 1;go_wp2_with fail;refine(HS.out _).mono ?_;rintro e w2 ⟨rfl,hb2⟩;have hB2:Below w.heap.size w w2:=zA (by go_grown) hb2;have z2:w.heap.size≤w2.heap.size:=hB2.size;have hv2:w2.cell? ⟨b,off+16*n'+k',none⟩=some (.int .u8 v):=(hB2.cell (p:=⟨b,off+16*n'+k',none⟩) hbl).trans hv;go_wp2;go_returns;first|exact⟨rfl,hB2⟩|(refine⟨?_,hB2⟩;simp[ev])
 ·have e1:S10.getN bits xs n k=0:=zK hc;rw[e1];have hc':(S10.node bits xs n k != 0)=true:=by simpa using hc
  generalize S10.node bits xs n k=C at *;clear hc e1;go_enter Tryz.func223,Tryz.ntmps223;go_wp2_with fail;refine(HN.out _ (hT.step (by go_grown))).mono ?_;rintro e w1 ⟨rfl,hb1⟩;have hB1:Below w.heap.size w w1:=zA (by go_grown) hb1;have z1:w.heap.size≤w1.heap.size:=hB1.size;go_wp2;go_returns;exact⟨rfl,hB1⟩
end Go.Proofs.YtieeogndnhighaaGreat
namespace Go.Proofs.YtieeogndnhighaaGreat
open Go.RowKit
def OB(w:World)(base b cap:Nat)(xs:List Int):Prop:=base≤b∧xs.length≤cap∧cap≤9223372036854775807∧∃cs,Blk w b cs 5∧cs.take xs.length=Bts xs
theorem OB.lt{w:World}{base b cap:Nat}{xs:List Int}(h:OB w base b cap xs):b<w.heap.size:=by obtain⟨_,_,_,cs,hb,_⟩:=h;exact hb.lt
theorem OB.step{w w':World}{base b cap:Nat}{xs:List Int}(h:OB w base b cap xs)(hb:Below w.heap.size w w'):OB w' base b cap xs:=by
 obtain⟨h1,h2,h3,cs,h4,h5⟩:=h;exact⟨h1,h2,h3,cs,h4.step hb,h5⟩
theorem OB.at{w:World}{base b cap:Nat}{xs:List Int}(h:OB w base b cap xs){i:Nat}(hi:i<xs.length):w.cell? ⟨b,i,none⟩=some (.int .u8 (xs.getD i 0)):=by
 obtain⟨h1,h2,h3,cs,h4,h5⟩:=h;rw[h4.cell i];have h6:(cs.take xs.length)[i]? = (Bts xs)[i]? :=by rw[h5]
 rw[List.getElem?_take,zU hi]at h6;rw[h6];unfold Bts;rw[yR,zE hi,zO,zE hi];rfl
theorem OB.free{w:World}{base b cap:Nat}{xs:List Int}(h:OB w base b cap xs)(i:Nat):w.frozen? ⟨b,i,none⟩=false:=by obtain⟨_,_,_,cs,hb,_⟩:=h;exact hb.free i
theorem OB.range{w:World}{base b cap:Nat}{xs:List Int}(h:OB w base b cap xs):w.rangeAt b 0 (Bts xs):=fun j v hv=>by
 rw[zaF];have hj:j<xs.length:=by rw[←zaG];exact(List.getElem?_eq_some_iff.1 hv).1
 rw[h.at hj,←hv];unfold Bts;rw[yR,zE hj,zO,zE hj];rfl
theorem OB.rd{w:World}{base b cap:Nat}{xs:List Int}(h:OB w base b cap xs):Rd w (some ⟨b,0,none⟩) (Bts xs):=fun _=>⟨b,0,rfl,h.range⟩
theorem OB.set{w:World}{base b cap:Nat}{xs:List Int}(h:OB w base b cap xs)(i:Nat)(v:Int):OB (w.setCell ⟨b,i,none⟩ (.int .u8 v)) base b cap (xs.set i v):=by
 obtain⟨h1,h2,h3,cs,h4,h5⟩:=h;refine⟨h1,by rw[List.length_set];exact h2,h3,_,h4.set i _,?_⟩;rw[List.length_set,List.take_set,h5];unfold Bts;rw[List.map_set]
end Go.Proofs.YtieeogndnhighaaGreat
namespace Go.Proofs.YtieeogndnhighaaGreat
open Go.RowKit
theorem OB.other{w:World}{base b cap:Nat}{xs:List Int}(h:OB w base b cap xs)(c i:Nat)(v:Value)(hne:¬b=c):OB (w.setCell ⟨c,i,none⟩ v) base b cap xs:=by
 obtain⟨h1,h2,h3,cs,h4,h5⟩:=h;exact⟨h1,h2,h3,cs,h4.other c i v hne,h5⟩
theorem OB.mono{w:World}{base base' b cap:Nat}{xs:List Int}(h:OB w base b cap xs)(hb:base'≤base):OB w base' b cap xs:=⟨yD hb h.1,h.2⟩
end Go.Proofs.YtieeogndnhighaaGreat
namespace Go.Proofs.YtieeogndnhighaaGreat
open Go.RowKit
def TO(w:World)(base:Nat)(bits:Int)(xs:List Int)(V:Value):Prop:=
 (bits=0∧xs = []∧V = .agg #[.int .i64 0,.slice none 0 0])∨∃b cap,V=zlQ bits xs (some ⟨b,0,none⟩) cap∧OB w base b cap xs
theorem TO.step{w w':World}{base:Nat}{bits:Int}{xs:List Int}{V:Value}(h:TO w base bits xs V)(hb:Below w.heap.size w w'):TO w' base bits xs V:=by
 rcases h with h|⟨b,cap,h1,h2⟩
 ·exact .inl h
 ·exact .inr ⟨b,cap,h1,h2.step hb⟩
end Go.Proofs.YtieeogndnhighaaGreat
namespace Go.Proofs.YtieeogndnhighaaGreat
open Go.RowKit
end Go.Proofs.YtieeogndnhighaaGreat
namespace Go.Proofs.YtieeogndnhighaaGreat
open Go.RowKit
def S10.prio(xs:List Int)(k:Nat):Int:=if S09.found (xs.getD (16*k+1) 0)then S09.hz (xs.getD (16*k+1) 0)+S09.ho (xs.getD (16*k+1) 0)else -1
end Go.Proofs.YtieeogndnhighaaGreat
