/- A part of the proof that ends in L14p (Ro14, Rt14, Ru14). No condition. -/
import Derived.Below
import Derived.BigQuiet
import Derived.Deep.Draws
import Derived.Deep.Light
import Derived.Deep.MidRow
import Derived.Deep.QuietTactic
import Derived.Deep.Slices
import Derived.Great.BuildSlice
import Derived.Handy
import Derived.Laws.AppendOwn
import Derived.Laws.AppendOwnNone
import Derived.Laws.CopyOwn
import Derived.Laws.MakeOwn
import Derived.Laws.OwnMore
import Derived.Laws.Tables
import Derived.Lib.Hide
import Derived.Lib.MinMax
import Derived.Lib.SliceRun
import Derived.LoadGo2
import Derived.LoopIn
import Derived.LoopNIn
import Derived.Maps.AppendAt
import Derived.Orders
import Derived.OrdersHeld
import Derived.OwnWalkIn
import Derived.RangeFuncBound
import Derived.RangeFuncCalls
import Derived.RangeFuncLeaves
import Derived.RangeFuncNested
import Derived.RangeFuncWrites
import Derived.Shelf.Abstract
import Derived.Shelf.RegionOpen
import Derived.Sort.BigQuietIn
import Derived.Sort.QuietIn
import Derived.StillTail
import Derived.StillTailTactics
import Derived.Tactics
import Derived.TacticsInMore
import Derived.Test.YtieeogndnhighaaGreatRows
import Derived.Test.YtieeogndnhighaaGreatShelf
import Derived.WalkKit
import Derived.WalkLawsBesides
import Derived.WalkSpells
import Derived.Test.YtieeogndnhighaaGreatZL14pbo
import Derived.Test.YtieeogndnhighaaGreatZL14pbs
set_option linter.unusedSectionVars false
set_option linter.unusedSimpArgs false
set_option linter.unusedVariables false
set_option maxRecDepth 100000
set_option maxHeartbeats 8000000
namespace Go.Proofs.YtieeogndnhighaaGreat
open Go.RowKit
attribute [local irreducible] Go.wpList
theorem wrap_succ14{s:Nat}(h:s≤100):IntKind.i64.wrap ((s:Int)+1)=(s:Int)+1:=IntWalk.i64_in _ (by omega)
theorem NIs.comp_rng{N:S14.N}{L:NLay}{w:World}(h:NIs N L w){k:Nat}{c:S14.C}(hc:N.comps[k]? = some c):∃g o,L.a1=some ⟨g,o,none⟩∧w.rangeAt g (o+k*6) (zV c):=by
 have hk:=(List.getElem?_eq_some_iff.1 hc).1;obtain⟨g,o,e,hcs⟩:=h.rc (fun e=>by have h1:=yN List.length e;rw[yW]at h1;simp at h1;omega);refine⟨g,o,e,fun j v hv=> ?_⟩;have hj:j<6:=(List.getElem?_eq_some_iff.1 hv).1;have h1:=hcs (6*k+j) v ((zlP _ hc hj).trans hv);rw[show o+(6*k+j)=o+k*6+j by omega]at h1;exact h1
theorem znF(N:S14.N)(L:NLay)(k:Nat)(c:S14.C)(bef:List Int)(a:Option Addr)(cb:Nat)(w:World)(hN:NIs N L w)(h0:S14.checkNet N=0)(hc:N.comps[k]? = some c)(hrd:Rd w a (zaK bef))(hlen:bef.length=k)(hin:∀x∈bef,-3071≤x∧x≤3071)(hcb:k≤cb) :
 Calls Tryz.prog 85 #[NV N L,.int .i64 (k:Int),.slice a k cb] w fun e w'=>e = .returned (.int .i64 (S14.outA N k bef))∧Below w.heap.size w w':=by
 obtain⟨p,y,hp,hy,_,_,hk2,hok,hr,hp1,hp2⟩:=sees14 hN h0 hc;have hk16:k≤16:=by
  have h1:=(List.getElem?_eq_some_iff.1 hc).1;have h2:=(S14.check_zero (S14.checkNet_zero h0).1).2.1;omega
 obtain⟨kind,bits,limit,rate,first,second⟩:=c;have HNI:=zB hN;have HCc:=zB hc;have HPp:=zB hp;have HYy:=zB hy;have Hx:=zB hk2;have Hok:=zB hok;have Hr:=zB hr;have Hpt:=zB (And.intro hp1 hp2);have Hrd:=zB hrd;have Hlen:=zB hlen;have Hin:=zB hin;have Hkind:=zB (S14.ok_is hok).kind;obtain⟨Ro,hRo⟩:∃R,S14.outA N k bef=R:=⟨_,rfl⟩;rw[hRo];have HRo:=zB hRo;clear hRo;obtain⟨g1,o1,hL1,hcC⟩:=hN.comp_rng hc;obtain⟨g2,o2,p',y',hL2,hp',hy',hcP,_⟩:=hN.part_at (List.getElem?_eq_some_iff.1 hp).1;rw[hp]at hp';rw[hy]at hy';cases hp';cases hy';have hkc:(k:Int)<(N.comps.length:Int):=by have:=(List.getElem?_eq_some_iff.1 hc).1;omega
 have hkp:(k:Int)<(N.parts.length:Int):=by have:=(List.getElem?_eq_some_iff.1 hp).1;omega
 have v0:(zaH N L)[0]? = some (.slice (some ⟨g1,o1,none⟩) N.comps.length L.c1):=by rw[←hL1];rfl
 have v1:(zaH N L)[1]? = some (.slice (some ⟨g2,o2,none⟩) N.parts.length L.c2):=by rw[←hL2];rfl
 have HVl:=zB (show some 4=some (zaH N L).length from rfl);have H1:=zB (zaU p y);have HPl:=zB (show some 16=some (yC p y).length from rfl);have HPl2:=zB (show(yC S14.P0 zdU).length=(yC p y).length from rfl);obtain⟨VN,hVN⟩:∃v,zaH N L=v:=⟨_,rfl⟩;obtain⟨VP,hVP⟩:∃v,yC p y=v:=⟨_,rfl⟩;obtain⟨nc,hnc⟩:∃n,N.comps.length=n:=⟨_,rfl⟩;obtain⟨np,hnp⟩:∃n,N.parts.length=n:=⟨_,rfl⟩;rw[hVN]at v0 v1 HVl;rw[hVP]at hcP H1 HPl HPl2;rw[hnc]at v0 hkc;rw[hnp]at v1 hkp;unfold NV;rw[hVN];have HVN:=zB hVN;have HVP:=zB hVP;unfold zV at hcC;simp only at hcC;have HC6:=zB hcC;clear hVN hVP hnc hnp hN hc hp hy hL1 hL2 hcC h0 hrd hlen hin hok hr hp1 hp2 hk2;obtain⟨W1,hW1⟩:∃W1,w.alloc (.cells VN.toArray 26)=W1:=⟨_,rfl⟩;have k1:Blk W1 w.heap.size VN 26:=by rw[←hW1];exact Blk.new w _ _
 have B1:Below w.heap.size w W1:=by rw[←hW1];exact(zI _ _).alloc (zG _) _
 have hlt1:=k1.lt;have hCS:Cells W1 [(⟨w.heap.size,0,none⟩,.slice (some ⟨g1,o1,none⟩) nc L.c1),(⟨w.heap.size,1,none⟩,.slice (some ⟨g2,o2,none⟩) np L.c2)]:=⟨(k1.cell 0).trans v0,(k1.cell 1).trans v1,yI⟩;have hrP:=fun(W:World) (hW:Below W1.heap.size W1 W)=>zaM hcP (zA B1 hW);have hrC:=fun(W:World) (hW:Below W1.heap.size W1 W)=>zaM HC6.out (zA B1 hW);go_enter Tryz.func85,Tryz.ntmps85;go_wp2_with (rw[hW1]);refine zbU 13 1 (.read 0 (.read 1 (.read 2 (.read 3 (.read 4 (.read 5 (.read 6 (.read 7 (.read 8 (.read 9 (.two (.one 10 (.one 11 (.one 12 .done))) (.one 11 (.one 10 (.one 12 .done)))))))))))))) _ _ o0P (Keeps W1 [(⟨w.heap.size,0,none⟩,.slice (some ⟨g1,o1,none⟩) nc L.c1),(⟨w.heap.size,1,none⟩,.slice (some ⟨g2,o2,none⟩) np L.c2)]) (by kernel_rfl) (List.take_append_drop 13 _).symm (by kernel_rfl) (by kernel_rfl) (by kernel_rfl) (by kernel_rfl) (Keeps.start hCS) (fun Y Q4 F4 hY hF=> ?_);simp only[Plan.map,ltc,ltz,ldc,ldz,List.getD_cons_zero,List.getD_cons_succ]
 repeat
  apply zY (by rw[hY];rfl)
  ·intro w2 hS2;(try simp only[Keeps,Cells]at hS2);go_simp;with_reducible rfl
  simp only[zoK]
 apply zY (by rw[hY];rfl)
 ·intro w2 hS2;exact zeA 54 (.tmp 18) (by rfl) g1 (o1+k*6) (by rfl) _ (hrC w2 hS2.1) _ Tryz.underlying54 rfl zbL
 simp only[zoK]
 repeat
  apply zY (by rw[hY];rfl)
  ·intro w2 hS2;(try simp only[Keeps,Cells]at hS2);go_simp;with_reducible rfl
  simp only[zoK]
 apply zY (by rw[hY];rfl)
 ·intro w2 hS2;exact zeA 83 (.tmp 23) (by rfl) g2 (o2+k*16) (by rfl) VP (hrP w2 hS2.1) _ Tryz.underlying83 rfl (info_P.trans HPl.out)
 simp only[zoK];clear hrC hrP
 have fin:∀(b7 b8:Nat) (w9:World),Below W1.heap.size W1 w9→W1.heap.size≤b7→W1.heap.size≤b8→b7≠b8→Blk w9 b7 [.int .i64 kind,.int .i64 bits,.int .i64 limit,.int .i64 rate,.int .i64 first,.int .i64 second] 54→Blk w9 b8 (yC S14.P0 zdU) 83→
  F4 {tmps:=#[.agg VN.toArray,.int .i64 (k:Int),.slice a k cb,.pointer (some ⟨w.heap.size,0,none⟩),undef,undef,.int .i64 0,.pointer (some ⟨b7,0,none⟩),.pointer (some ⟨b8,0,none⟩),undef,undef,undef,undef,undef,undef,.pointer (some ⟨w.heap.size,0,none⟩),.slice (some ⟨g1,o1,none⟩) nc L.c1,.int .i64 (k:Int),.pointer (some ⟨g1,o1+k*6,none⟩),.agg #[.int .i64 kind,.int .i64 bits,.int .i64 limit,.int .i64 rate,.int .i64 first,.int .i64 second],.pointer (some ⟨w.heap.size,1,none⟩),.slice (some ⟨g2,o2,none⟩) np L.c2,.int .i64 (k:Int),.pointer (some ⟨g2,o2+k*16,none⟩),.agg VP.toArray,undef,undef,undef,undef,undef,undef,undef,undef,undef,undef,undef,undef,undef,undef,undef,undef,undef,undef,undef,undef,undef,undef,undef,undef,undef,undef,undef,undef,undef,undef,undef,undef,undef,undef,undef,undef,undef,undef,undef,undef,undef,undef,undef,undef,undef,undef,undef,undef,undef,undef,undef,undef,undef,undef,undef,undef,undef,undef,undef,undef,undef,undef,undef,undef,undef,undef,undef,undef,undef,undef,undef,undef,undef,undef,undef,undef,undef,undef,undef,undef,undef,undef,undef,undef,undef,undef,undef,undef,undef,undef,undef,undef,undef,undef,undef,undef,undef,undef],defers:=[]} w9:=by
  intro b7 b8 w9 hb9 z7 z8 hne E7 E8;refine hF.out _ _ (fun K hK=> ?_);clear hF hY;refine yJ 83 (.tmp 8) (.tmp 24) (by rfl) (by rfl) b8 (by rfl) VP (by rfl) _ 83 E8 (info_P.trans HPl.out) HPl2.out H1.out ?_;intro wB EB gB sB;clear sB;have EC:=E7.keptRow gB (fun e=>hne (zZ e));have kB:=(k1.step hb9).keptRow gB (fun e=>by have:=zZ e;omega);have BA:=B1.trans (hb9.mono B1.size);have BB:=BA.trans (yA gB (by omega) BA.size);clear E7 E8 gB hb9 BA k1 hCS hW1 B1;go_wp2_with fail;refine OnlyK.mk (hK.out _ _ ?_);clear hK;have x0:=EC.cell 0;have x1:=EC.cell 1;have x2:=EC.cell 2;have x4:=EC.cell 4;have x5:=EC.cell 5;simp only[zoM]at x0 x1 x2 x4 x5;have hkinds:=Hkind.out;rcases hkinds with h|h|h|h|h|h|h
  ·subst h;have hN:=HNI.out;have hc:=HCc.out;have hp:=HPp.out;have hy:=HYy.out;have hVN:=HVN.out;have hVP:=HVP.out;have hRo:=HRo.out;unfold S14.outA S14.outB at hRo;rw[yQ hc,yQ hp,zK (by simp),zK (by simp),zK (by simp),zK (by simp),zU rfl]at hRo;simp only at hRo;have HSt:=zB fun W=>zaW limit W;obtain⟨R,hR⟩:∃R,S06.stretch limit=R:=⟨_,rfl⟩;rw[hR]at HSt hRo;clear hR;subst hRo;clear hN hc hp hy hVN hVP;clear HNI HCc HPp HYy HVN HVP HRo Hx Hok Hr Hpt Hrd Hlen Hin;go_wp2_with fail;refine(HSt.out _).mono ?_;rintro e w2 ⟨rfl,hb2⟩;have B9:=BB.trans (hb2.mono BB.size);go_wp2;go_returns;exact⟨rfl,B9⟩
  ·subst h;have hx:=Hx.out;obtain⟨pt,hpt⟩:∃pt:Nat,N.part=(pt:Int):=⟨N.part.toNat,yT (by have:=Hpt.out;omega)⟩;have hpt2:pt<4294967296:=by have:=Hpt.out;omega
   obtain⟨n,hn⟩:∃n:Nat,bits=(n:Int):=⟨bits.toNat,yT (S14.ok_is Hok.out).bits.1⟩;have hn2:n≤16:=by have h:=(S14.ok_is Hok.out).bits;simp only at h;omega
   have hlen:=zdO (c:=⟨1,bits,limit,rate,first,second⟩) rfl Hr.out;rw[hn,Int.toNat_natCast]at hlen;have hN:=HNI.out;have hc:=HCc.out;have hp:=HPp.out;have hy:=HYy.out;have hVN:=HVN.out;have hVP:=HVP.out;have hRo:=HRo.out;unfold S14.outA S14.outB at hRo;rw[yQ hc,yQ hp,zK (by simp),zK (by simp),zK (by simp),zK (by simp),zK (by simp),zU rfl]at hRo;simp only[S14.at_,hpt,hn,Int.toNat_natCast]at hRo;have hlt:=S14.index_lt (N.ctxs.getD k 0) pt hn2;have HIx:=zB fun(W:World) (hW:Below w.heap.size w W)=>zeW N L k W (hN.step hW) hx pt hpt hpt2 _ hc n hn hn2;obtain⟨i,hi⟩:∃i,S14.index (N.ctxs.getD k 0) pt n=i:=⟨_,rfl⟩;rw[hi]at HIx hlt hRo;have hil:i<p.ctrs.length:=by omega
   clear hi hlt;obtain⟨ga,oa,ha1,hcs⟩:=(hN.ps k p y hp hy).rc (fun e=>by have h1:=yN List.length e;rw[zaP]at h1;simp at h1;omega);have hct:=zdI hil;have q0:=hcs (i*2) _ hct.1;have q1:=hcs (i*2+1) _ hct.2;rw[←zbN]at q1;unfold S14.probe S14.ctr at hRo;rw[zO,zE hil,Option.getD_some]at hRo;obtain⟨x,hxx⟩:∃x,p.ctrs[i]=x:=⟨_,rfl⟩;rw[hxx]at q0 q1 hRo;have HPr:=zB fun W=>zcX x.1 x.2 W;have HSt:=zB fun W=>zaW (S08.predict x.1 x.2) W;obtain⟨P1,hP1⟩:∃R,S08.predict x.1 x.2=R:=⟨_,rfl⟩;rw[hP1]at HPr HSt hRo;obtain⟨R,hR⟩:∃R,S06.stretch P1=R:=⟨_,rfl⟩;rw[hR]at HSt hRo;have hiz:(i:Int)<(p.ctrs.length:Int):=by omega
   have p0:(yC p y)[0]? = some (.slice (some ⟨ga,oa,none⟩) p.ctrs.length y.c1):=by rw[←ha1];rfl
   clear hR hP1 hxx hct hcs ha1;unfold NV at HIx;rw[hVN]at HIx;rw[hVP]at p0;obtain⟨l1,hl1⟩:∃n,p.ctrs.length=n:=⟨_,rfl⟩;rw[hl1]at p0 hiz;clear hl1 hil;subst hRo;clear hN hc hp hy hVN hVP;clear hn hx hpt hlen;clear HNI HCc HPp HYy HVN HVP HRo Hx Hok Hr Hpt Hrd Hlen Hin;have r0:=(BB.cell (zF q0)).trans q0;have r1:=(BB.cell (zF q1)).trans q1;have s0:=(EB.cell 0).trans p0;have hCB:Cells wB [(⟨b8,0,none⟩,.slice (some ⟨ga,oa,none⟩) l1 y.c1),(⟨ga,oa+i*2,none⟩,.int .i64 x.1),(⟨ga,oa+i*2+1,none⟩,.int .i64 x.2)]:=⟨s0,r0,r1,yI⟩;go_wp2_with fail;refine zoN 9 1 [(U,[U,U,U,U]),(zoJ,[zoJ,zoJ,zoJ,zoJ,U]),(U,[zoJ,zoJ,zoJ,zoJ,zoJ,U,U]),(zoJ,[zoJ,zoJ,zoJ,zoJ,zoJ,zoJ,zoJ,U]),(zoJ,[zoJ,zoJ,zoJ,zoJ,zoJ,zoJ,zoJ,zoJ,U])] (Keeps wB [(⟨b8,0,none⟩,.slice (some ⟨ga,oa,none⟩) l1 y.c1),(⟨ga,oa+i*2,none⟩,.int .i64 x.1),(⟨ga,oa+i*2+1,none⟩,.int .i64 x.2)]) (by kernel_rfl) (Keeps.start hCB) (fun Y Q4 F4 hY hF=> ?_);simp only[zoL]
   repeat
    apply zD (by rw[hY];rfl)
    ·intro w2 hS2;(try simp only[Keeps,Cells]at hS2);go_simp;with_reducible rfl
    simp only[zoK]
   apply zD (by rw[hY];rfl)
   ·intro w2 hS2;exact zaO 26 (.tmp 3) (by rfl) w.heap.size (by rfl) VN (kB.step hS2.1).cells _ Tryz.underlying26 rfl (info_N.trans HVl.out)
   simp only[zoK]
   repeat
    apply zD (by rw[hY];rfl)
    ·intro w2 hS2;(try simp only[Keeps,Cells]at hS2);go_simp;with_reducible rfl
    simp only[zoK]
   apply zQ (by rw[hY];rfl)
   ·go_simp;with_reducible exact⟨rfl,rfl⟩
   refine(HIx.out _ (BB.trans ((Keeps.start hCB).1.mono BB.size))).mono ?_;rintro e w2 ⟨rfl,hb2⟩;have hk2:=(Keeps.start hCB).step hb2;refine⟨_,rfl,hk2,?_⟩;simp only[zoK]
   repeat
    apply zD (by rw[hY];rfl)
    ·intro w2 hS2;(try simp only[Keeps,Cells]at hS2);go_simp;with_reducible rfl
    simp only[zoK]
   apply zQ (by rw[hY];rfl)
   ·go_simp;with_reducible exact⟨rfl,rfl⟩
   refine(HPr.out _).mono ?_;rintro e w3 ⟨rfl,hb3⟩;have hk3:=hk2.step hb3;refine⟨_,rfl,hk3,?_⟩;simp only[zoK]
   repeat
    apply zD (by rw[hY];rfl)
    ·intro w2 hS2;(try simp only[Keeps,Cells]at hS2);go_simp;with_reducible rfl
    simp only[zoK]
   apply zQ (by rw[hY];rfl)
   ·go_simp;with_reducible exact⟨rfl,rfl⟩
   refine(HSt.out _).mono ?_;rintro e w4 ⟨rfl,hb4⟩;have hk4:=hk3.step hb4;refine⟨_,rfl,hk4,?_⟩;simp only[zoK];refine zT (hF.out _ _ (fun K hK=> ?_));clear hF hY;have B9:=BB.trans (hk4.1.mono BB.size);go_wp2_with fail;refine OnlyK.mk (hK.out _ _ ?_);clear hK;go_wp2;go_returns;exact⟨rfl,B9⟩
  ·subst h;obtain⟨pt,hpt⟩:∃pt:Nat,N.part=(pt:Int):=⟨N.part.toNat,yT (by have:=Hpt.out;omega)⟩;have hpt2:pt≤255:=by have:=Hpt.out;omega
   obtain⟨hck,hlen⟩:=ziW (c:=⟨2,bits,limit,rate,first,second⟩) rfl Hr.out;have hN:=HNI.out;have hc:=HCc.out;have hp:=HPp.out;have hy:=HYy.out;have hVN:=HVN.out;have hVP:=HVP.out;have hRo:=HRo.out;unfold S14.outA S14.outB at hRo;rw[yQ hc,yQ hp,zU rfl]at hRo;simp only[hpt,Int.toNat_natCast]at hRo;have hg:=S10.getN_lt p.slot (S14.node pt:Nat) hck (hN.ps k p y hp hy).tab.ok;have HIx:=zB fun(W:World) (hW:Below w.heap.size w W)=>rstate14_any N L k W (hN.step hW) p y hp hy pt hpt hpt2;obtain⟨gz,hgz⟩:∃z,S10.getN p.sb p.sd p.slot (S14.node pt:Nat)=z:=⟨_,rfl⟩;rw[hgz]at hg HIx hRo;obtain⟨i,rfl⟩:=Int.eq_ofNat_of_zero_le hg.1;rw[Int.toNat_natCast]at hRo;have hil:i<p.ctrs.length:=by omega
   clear hgz hg;obtain⟨ga,oa,ha1,hcs⟩:=(hN.ps k p y hp hy).rc (fun e=>by have h1:=yN List.length e;rw[zaP]at h1;simp at h1;omega);have hct:=zdI hil;have q0:=hcs (i*2) _ hct.1;have q1:=hcs (i*2+1) _ hct.2;rw[←zbN]at q1;unfold S14.probe S14.ctr at hRo;rw[zO,zE hil,Option.getD_some]at hRo;obtain⟨x,hxx⟩:∃x,p.ctrs[i]=x:=⟨_,rfl⟩;rw[hxx]at q0 q1 hRo;have HPr:=zB fun W=>zcX x.1 x.2 W;have HSt:=zB fun W=>zaW (S08.predict x.1 x.2) W;obtain⟨P1,hP1⟩:∃R,S08.predict x.1 x.2=R:=⟨_,rfl⟩;rw[hP1]at HPr HSt hRo;obtain⟨R,hR⟩:∃R,S06.stretch P1=R:=⟨_,rfl⟩;rw[hR]at HSt hRo;have hiz:(i:Int)<(p.ctrs.length:Int):=by omega
   have p0:(yC p y)[0]? = some (.slice (some ⟨ga,oa,none⟩) p.ctrs.length y.c1):=by rw[←ha1];rfl
   clear hR hP1 hxx hct hcs ha1;unfold NV at HIx;rw[hVN]at HIx;rw[hVP]at p0;obtain⟨l1,hl1⟩:∃n,p.ctrs.length=n:=⟨_,rfl⟩;rw[hl1]at p0 hiz;clear hl1 hil;subst hRo;clear hN hc hp hy hVN hVP;clear hck hpt hlen;clear HNI HCc HPp HYy HVN HVP HRo Hx Hok Hr Hpt Hrd Hlen Hin;have r0:=(BB.cell (zF q0)).trans q0;have r1:=(BB.cell (zF q1)).trans q1;have s0:=(EB.cell 0).trans p0;have hCB:Cells wB [(⟨b8,0,none⟩,.slice (some ⟨ga,oa,none⟩) l1 y.c1),(⟨ga,oa+i*2,none⟩,.int .i64 x.1),(⟨ga,oa+i*2+1,none⟩,.int .i64 x.2)]:=⟨s0,r0,r1,yI⟩;go_wp2_with fail;refine zoN 9 1 [(U,[U,U,U,U]),(zoJ,[zoJ,zoJ,zoJ,zoJ,U]),(U,[zoJ,zoJ,zoJ,zoJ,zoJ,U,U]),(zoJ,[zoJ,zoJ,zoJ,zoJ,zoJ,zoJ,zoJ,U]),(zoJ,[zoJ,zoJ,zoJ,zoJ,zoJ,zoJ,zoJ,zoJ,U])] (Keeps wB [(⟨b8,0,none⟩,.slice (some ⟨ga,oa,none⟩) l1 y.c1),(⟨ga,oa+i*2,none⟩,.int .i64 x.1),(⟨ga,oa+i*2+1,none⟩,.int .i64 x.2)]) (by kernel_rfl) (Keeps.start hCB) (fun Y Q4 F4 hY hF=> ?_);simp only[zoL]
   repeat
    apply zD (by rw[hY];rfl)
    ·intro w2 hS2;(try simp only[Keeps,Cells]at hS2);go_simp;with_reducible rfl
    simp only[zoK]
   apply zD (by rw[hY];rfl)
   ·intro w2 hS2;exact zaO 26 (.tmp 3) (by rfl) w.heap.size (by rfl) VN (kB.step hS2.1).cells _ Tryz.underlying26 rfl (info_N.trans HVl.out)
   simp only[zoK]
   repeat
    apply zD (by rw[hY];rfl)
    ·intro w2 hS2;(try simp only[Keeps,Cells]at hS2);go_simp;with_reducible rfl
    simp only[zoK]
   apply zQ (by rw[hY];rfl)
   ·go_simp;with_reducible exact⟨rfl,rfl⟩
   refine(HIx.out _ (BB.trans ((Keeps.start hCB).1.mono BB.size))).mono ?_;rintro e w2 ⟨rfl,hb2⟩;have hk2:=(Keeps.start hCB).step hb2;refine⟨_,rfl,hk2,?_⟩;simp only[zoK]
   repeat
    apply zD (by rw[hY];rfl)
    ·intro w2 hS2;(try simp only[Keeps,Cells]at hS2);go_simp;with_reducible rfl
    simp only[zoK]
   apply zQ (by rw[hY];rfl)
   ·go_simp;with_reducible exact⟨rfl,rfl⟩
   refine(HPr.out _).mono ?_;rintro e w3 ⟨rfl,hb3⟩;have hk3:=hk2.step hb3;refine⟨_,rfl,hk3,?_⟩;simp only[zoK]
   repeat
    apply zD (by rw[hY];rfl)
    ·intro w2 hS2;(try simp only[Keeps,Cells]at hS2);go_simp;with_reducible rfl
    simp only[zoK]
   apply zQ (by rw[hY];rfl)
   ·go_simp;with_reducible exact⟨rfl,rfl⟩
   refine(HSt.out _).mono ?_;rintro e w4 ⟨rfl,hb4⟩;have hk4:=hk3.step hb4;refine⟨_,rfl,hk4,?_⟩;simp only[zoK];refine zT (hF.out _ _ (fun K hK=> ?_));clear hF hY;have B9:=BB.trans (hk4.1.mono BB.size);go_wp2_with fail;refine OnlyK.mk (hK.out _ _ ?_);clear hK;go_wp2;go_returns;exact⟨rfl,B9⟩
  ·subst h;have hN:=HNI.out;have hc:=HCc.out;have hp:=HPp.out;have hy:=HYy.out;have hVN:=HVN.out;have hVP:=HVP.out;have hRo:=HRo.out;unfold S14.outA S14.outB at hRo;rw[yQ hc,yQ hp,zK (by simp),zU rfl]at hRo;skip
   have HPr:=zB fun(W:World) (hW:Below w.heap.size w W)=>zlU p.m y.pl W ((hN.ps k p y hp hy).mch.step hW);have HSt:=zB fun W=>zaW (S12.predP p.m) W;unfold S14.outM at hRo;obtain⟨x,hx⟩:∃x,S12.predP p.m=x:=⟨_,rfl⟩;rw[hx]at HPr HSt hRo;obtain⟨pb,hpb⟩:∃x,S12.predB p.m=x:=⟨_,rfl⟩;rw[hpb]at HPr hRo;obtain⟨R,hR⟩:∃R,S06.stretch x=R:=⟨_,rfl⟩;rw[hR]at HSt hRo;unfold MV zbM at HPr;have p4:(yC p y)[4]? = some (.int .i64 p.m.bits):=rfl;have p5:(yC p y)[5]? = some (.int .i64 p.m.least):=rfl;have p6:(yC p y)[6]? = some (.slice y.pl.ah p.m.heads.length y.pl.ch):=rfl;have p7:(yC p y)[7]? = some (.slice y.pl.ab p.m.bytes.length y.pl.cb):=rfl;have p8:(yC p y)[8]? = some (.int .i64 p.m.at_):=rfl;have p9:(yC p y)[9]? = some (.int .i64 p.m.len):=rfl;have p10:(yC p y)[10]? = some (.int .i64 p.m.part):=rfl;have p11:(yC p y)[11]? = some (.int .i64 p.m.bit):=rfl;have p12:(yC p y)[12]? = some (.slice y.pl.ac p.m.ctrs.length y.pl.cc):=rfl;clear hR hpb hx;rw[hVP]at p4 p5 p6 p7 p8 p9 p10 p11 p12;subst hRo;clear hN hc hp hy hVN hVP;clear HNI HCc HPp HYy HVN HVP HRo Hx Hok Hr Hpt Hrd Hlen Hin;have s4:=(EB.cell 4).trans p4;have s5:=(EB.cell 5).trans p5;have s6:=(EB.cell 6).trans p6;have s7:=(EB.cell 7).trans p7;have s8:=(EB.cell 8).trans p8;have s9:=(EB.cell 9).trans p9;have s10:=(EB.cell 10).trans p10;have s11:=(EB.cell 11).trans p11;have s12:=(EB.cell 12).trans p12;go_wp2_with fail;refine(HPr.out _ BB).mono ?_;rintro e w2 ⟨rfl,hb2⟩;have B9:=BB.trans (hb2.mono BB.size);cases pb with
   | false=>
     go_wp2;go_returns;exact⟨rfl,B9⟩
   | true=>
     go_wp2_with fail;refine(HSt.out _).mono ?_;rintro e w3 ⟨rfl,hb3⟩;have B10:=B9.trans (hb3.mono B9.size);go_wp2;go_returns;exact⟨rfl,B10⟩
  ·subst h;obtain⟨hl,hf',hs'⟩:=zfD (c:=⟨4,bits,limit,rate,first,second⟩) rfl Hok.out;simp only at hl hf' hs';obtain⟨f,hf⟩:∃f:Nat,first=(f:Int):=⟨first.toNat,yT hf'.1⟩;obtain⟨s,hs⟩:∃s:Nat,second=(s:Int):=⟨second.toNat,yT hs'.1⟩;have hff:f<k:=by omega
   have hss:s<k:=by omega
   obtain⟨ga,oa,rfl,_⟩:=Hrd.out (fun e=>by have h:=yN List.length e;rw[yB,List.length_nil]at h;have:=Hlen.out;omega);have hrd:=Hrd.out;have hlen:=Hlen.out;have hin:=Hin.out;have hN:=HNI.out;have hc:=HCc.out;have hp:=HPp.out;have hy:=HYy.out;have hVN:=HVN.out;have hVP:=HVP.out;have hRo:=HRo.out;unfold S14.outA S14.outB at hRo;rw[yQ hc,yQ hp,zK (by simp),zK (by simp),zK (by simp),zK (by simp),zK (by simp),zK (by simp)]at hRo;simp only[S14.avg,hf,hs,Int.toNat_natCast]at hRo;obtain⟨ga',oa',e0,hcs⟩:=hrd (fun e=>by have h:=yN List.length e;rw[yB,List.length_nil]at h;omega);cases e0
   have hcell:∀j,j<k→w.cell? ⟨ga,oa+j,none⟩=some (.int .i64 (bef.getD j 0)):=fun j hj=>by
    refine hcs j _ ?_;unfold zaK;rw[yR,zE (by omega),zO,zE (by omega)];rfl
   have q0:=hcell f hff;have q1:=hcell s hss;have h1:=zdZ hin f;have h2:=zdZ hin s;obtain⟨x,hxx⟩:∃x,bef.getD f 0=x:=⟨_,rfl⟩;obtain⟨z,hzz⟩:∃x,bef.getD s 0=x:=⟨_,rfl⟩;rw[hxx]at q0 h1 hRo;rw[hzz]at q1 h2 hRo;clear hcell hcs hxx hzz hrd hin;subst hf hs;have m1:=zfI h1.1 h1.2 hl.1;have m2:=zfI (l:=256-limit) h2.1 h2.2 (by omega);have w1:IntKind.i64.wrap (x*limit)=x*limit:=IntWalk.i64_in _ (by omega);have w2:IntKind.i64.wrap (256-limit)=256-limit:=IntWalk.i64_in _ (by omega);have w3:IntKind.i64.wrap (z*(256-limit))=z*(256-limit):=IntWalk.i64_in _ (by omega);have w4:IntKind.i64.wrap (x*limit+z*(256-limit))=x*limit+z*(256-limit):=IntWalk.i64_in _ (by omega);have HR:=zB fun W=>zfN (x*limit+z*(256-limit)) 256 W (by omega) (by omega) (by omega) (by omega);obtain⟨R,hR⟩:∃R,S06.round (x*limit+z*(256-limit)) 256=R:=⟨_,rfl⟩;rw[hR]at HR hRo;have hfz:(f:Int)<(k:Int):=by omega
   have hsz:(s:Int)<(k:Int):=by omega
   clear hR m1 m2 hlen;subst hRo;clear hN hc hp hy hVN hVP;clear HNI HCc HPp HYy HVN HVP HRo Hx Hok Hr Hpt Hrd Hlen Hin;have r0:=(BB.cell (zF q0)).trans q0;have r1:=(BB.cell (zF q1)).trans q1;have hCB:Cells wB [(⟨b7,2,none⟩,.int .i64 limit),(⟨b7,4,none⟩,.int .i64 (f:Int)),(⟨b7,5,none⟩,.int .i64 (s:Int)),(⟨ga,oa+f,none⟩,.int .i64 x),(⟨ga,oa+s,none⟩,.int .i64 z)]:=⟨x2,x4,x5,r0,r1,yI⟩;go_wp2_with fail;refine zoN 19 1 [(U,[U,U,U,U,U,U,U,U,U,U,U,U,U,U,U,U,U,U]),(zoJ,[zoJ,zoJ,zoJ,zoJ,zoJ,zoJ,zoJ,zoJ,zoJ,zoJ,zoJ,zoJ,zoJ,zoJ,zoJ,zoJ,zoJ,zoJ,U])] (Keeps wB [(⟨b7,2,none⟩,.int .i64 limit),(⟨b7,4,none⟩,.int .i64 (f:Int)),(⟨b7,5,none⟩,.int .i64 (s:Int)),(⟨ga,oa+f,none⟩,.int .i64 x),(⟨ga,oa+s,none⟩,.int .i64 z)]) (by kernel_rfl) (Keeps.start hCB) (fun Y Q4 F4 hY hF=> ?_);simp only[zoL]
   repeat
    apply zD (by rw[hY];rfl)
    ·intro w2 hS2;(try simp only[Keeps,Cells]at hS2);go_simp;with_reducible rfl
    simp only[zoK]
   apply zQ (by rw[hY];rfl)
   ·go_simp;with_reducible exact⟨rfl,rfl⟩
   refine(HR.out _).mono ?_;rintro e w2 ⟨rfl,hb2⟩;have hk2:=(Keeps.start hCB).step hb2;refine⟨_,rfl,hk2,?_⟩;simp only[zoK];refine zT (hF.out _ _ (fun K hK=> ?_));clear hF hY;have B9:=BB.trans (hk2.1.mono BB.size);go_wp2_with fail;refine OnlyK.mk (hK.out _ _ ?_);clear hK;go_wp2;go_returns;exact⟨rfl,B9⟩
  ·subst h;have hx:=Hx.out;obtain⟨pt,hpt⟩:∃pt:Nat,N.part=(pt:Int):=⟨N.part.toNat,yT (by have:=Hpt.out;omega)⟩;have hpt2:pt<4294967296:=by have:=Hpt.out;omega
   obtain⟨n,hn⟩:∃n:Nat,bits=(n:Int):=⟨bits.toNat,yT (S14.ok_is Hok.out).bits.1⟩;have hn2:n≤16:=by have h:=(S14.ok_is Hok.out).bits;simp only at h;omega
   have hm:=(S14.ok_is Hok.out).mix rfl;simp only at hm;obtain⟨f,hf⟩:∃f:Nat,first=(f:Int):=⟨first.toNat,yT hm.1⟩;obtain⟨s,hs⟩:∃s:Nat,second=(s:Int):=⟨second.toNat,yT (by omega)⟩;have hfs:f≤s:=by omega
   have hss:s<k:=by omega
   obtain⟨ga,oa,rfl,_⟩:=Hrd.out (fun e=>by have h:=yN List.length e;rw[yB,List.length_nil]at h;have:=Hlen.out;omega);have hrd:=Hrd.out;have hlen:=Hlen.out;have hN:=HNI.out;have hc:=HCc.out;have hp:=HPp.out;have hy:=HYy.out;have hVN:=HVN.out;have hVP:=HVP.out;have hRo:=HRo.out;unfold S14.outA S14.outB at hRo;rw[yQ hc,yQ hp,zK (by simp),zK (by simp),zU rfl]at hRo;simp only[S14.at_,hpt,hn,hf,hs,Int.toNat_natCast]at hRo;have HIx:=zB fun(W:World) (hW:Below w.heap.size w W)=>zeW N L k W (hN.step hW) hx pt hpt hpt2 _ hc n hn hn2;obtain⟨i,hi⟩:∃i,S14.index (N.ctxs.getD k 0) pt n=i:=⟨_,rfl⟩;rw[hi]at HIx hRo;have hsl:((bef.drop f).take (s+1-f)).length=s+1-f:=by rw[List.length_take,List.length_drop,hlen];omega
   have HMx:=zB fun(W:World) (hW:Below w.heap.size w W)=>refMix13_any p.mi p.mw (.agg (MixC p y).toArray) (i:Int) ((bef.drop f).take (s+1-f)) (some ⟨ga,oa+f,none⟩) (cb-f) W ((hN.ps k p y hp hy).mix.step hW) (by omega) ((hrd.step hW).intsWindow f (s+1-f));rw[hsl]at HMx;obtain⟨R,hR⟩:∃R,S13.mixR p.mi p.mw (i:Int) ((bef.drop f).take (s+1-f))=R:=⟨_,rfl⟩;obtain⟨E,hE⟩:∃R,S13.usable 16 p.mi p.mw (i:Int) ((bef.drop f).take (s+1-f))=R:=⟨_,rfl⟩;rw[hR,hE]at HMx;rw[hR]at hRo;unfold MixC at HMx;have p13:(yC p y)[13]? = some (.int .i64 p.mi):=rfl;have p14:(yC p y)[14]? = some (.slice y.a3 p.mw.length y.c3):=rfl;obtain⟨mi,hmi⟩:∃R,p.mi=R:=⟨_,rfl⟩;obtain⟨l3,hl3⟩:∃R,p.mw.length=R:=⟨_,rfl⟩;rw[hmi,hl3]at HMx;rw[hmi]at p13;rw[hl3]at p14;clear hmi hl3 hR hE hsl hi hrd hlen;unfold NV at HIx;rw[hVN]at HIx;rw[hVP]at p13 p14;subst hf hs;have hfz:(f:Int)≤(s:Int)+1:=by omega
   have hsz:(s:Int)+1≤(cb:Int):=by omega
   have hsk:(s:Int)+1≤(k:Int):=by omega
   have hw6:=wrap_succ14 (s:=s) (by omega);have hz0:(0:Int)≤(s:Int)+1:=by omega
   have ht:((s:Int)+1).toNat=s+1:=by omega
   have hfs1:f≤s+1:=by omega
   have hne:¬cb=f:=by omega
   subst hRo;clear hN hc hp hy hVN hVP;clear hn hx hpt hm;clear HNI HCc HPp HYy HVN HVP HRo Hx Hok Hr Hpt Hrd Hlen Hin;have s13:=(EB.cell 13).trans p13;have s14:=(EB.cell 14).trans p14;have hCB:Cells wB [(⟨b7,4,none⟩,.int .i64 (f:Int)),(⟨b7,5,none⟩,.int .i64 (s:Int)),(⟨b8,13,none⟩,.int .i64 mi),(⟨b8,14,none⟩,.slice y.a3 l3 y.c3)]:=⟨x4,x5,s13,s14,yI⟩;go_wp2_with fail;refine zoN 17 1 [(U,[U,U,U,U,zoJ,U,U,U,U,U,U,U]),(zoJ,[zoJ,zoJ,zoJ,zoJ,U]),(zoJ,[zoJ,zoJ,zoJ,zoJ,zoJ,zoJ,zoJ,zoJ,zoJ,zoJ,zoJ,zoJ,U]),(U,[zoJ,zoJ,zoJ,zoJ,zoJ,zoJ,zoJ,zoJ,zoJ,zoJ,zoJ,zoJ,zoJ,U,U,U]),(zoJ,[zoJ,zoJ,zoJ,zoJ,zoJ,zoJ,zoJ,zoJ,zoJ,zoJ,zoJ,zoJ,zoJ,zoJ,zoJ,zoJ,U])] (Keeps wB [(⟨b7,4,none⟩,.int .i64 (f:Int)),(⟨b7,5,none⟩,.int .i64 (s:Int)),(⟨b8,13,none⟩,.int .i64 mi),(⟨b8,14,none⟩,.slice y.a3 l3 y.c3)]) (by kernel_rfl) (Keeps.start hCB) (fun Y Q4 F4 hY hF=> ?_);simp only[zoL]
   repeat
    apply zD (by rw[hY];rfl)
    ·intro w2 hS2;(try simp only[Keeps,Cells]at hS2);go_simp;with_reducible rfl
    simp only[zoK]
   apply zD (by rw[hY];rfl)
   ·intro w2 hS2;exact zaO 26 (.tmp 3) (by rfl) w.heap.size (by rfl) VN (kB.step hS2.1).cells _ Tryz.underlying26 rfl (info_N.trans HVl.out)
   simp only[zoK]
   repeat
    apply zD (by rw[hY];rfl)
    ·intro w2 hS2;(try simp only[Keeps,Cells]at hS2);go_simp;with_reducible rfl
    simp only[zoK]
   apply zQ (by rw[hY];rfl)
   ·go_simp;with_reducible exact⟨rfl,rfl⟩
   refine(HIx.out _ (BB.trans ((Keeps.start hCB).1.mono BB.size))).mono ?_;rintro e w2 ⟨rfl,hb2⟩;have hk2:=(Keeps.start hCB).step hb2;refine⟨_,rfl,hk2,?_⟩;simp only[zoK]
   repeat
    apply zD (by rw[hY];rfl)
    ·intro w2 hS2;(try simp only[Keeps,Cells]at hS2);go_simp;with_reducible rfl
    simp only[zoK]
   apply zQ (by rw[hY];rfl)
   ·go_simp;with_reducible exact⟨rfl,rfl⟩
   refine(HMx.out _ (BB.trans (hk2.1.mono BB.size))).mono ?_;rintro e w3 ⟨rfl,hb3⟩;have hk3:=hk2.step hb3;refine⟨_,rfl,hk3,?_⟩;simp only[zoK]
   repeat
    apply zD (by rw[hY];rfl)
    ·intro w2 hS2;(try simp only[Keeps,Cells]at hS2);go_simp;with_reducible rfl
    simp only[zoK]
   refine zaE (by rw[hY];rfl) (by go_simp;first|with_reducible exact⟨rfl,rfl⟩|with_reducible rfl) (hk3) ?_;simp only[zoK];refine zT (hF.out _ _ (fun K hK=> ?_));clear hF hY;have B9:=BB.trans (hk3.1.mono BB.size);go_wp2_with fail;refine OnlyK.mk (hK.out _ _ ?_);clear hK;go_wp2;go_returns;exact⟨rfl,B9⟩
  ·subst h;have hx:=Hx.out;obtain⟨pt,hpt⟩:∃pt:Nat,N.part=(pt:Int):=⟨N.part.toNat,yT (by have:=Hpt.out;omega)⟩;have hpt2:pt<4294967296:=by have:=Hpt.out;omega
   obtain⟨n,hn⟩:∃n:Nat,bits=(n:Int):=⟨bits.toNat,yT (S14.ok_is Hok.out).bits.1⟩;have hn2:n≤16:=by have h:=(S14.ok_is Hok.out).bits;simp only at h;omega
   have hf':=zkC (c:=⟨6,bits,limit,rate,first,second⟩) rfl Hok.out;simp only at hf';obtain⟨f,hf⟩:∃f:Nat,first=(f:Int):=⟨first.toNat,yT hf'.1⟩;have hff:f<k:=by omega
   obtain⟨ga,oa,rfl,_⟩:=Hrd.out (fun e=>by have h:=yN List.length e;rw[yB,List.length_nil]at h;have:=Hlen.out;omega);have hrd:=Hrd.out;have hlen:=Hlen.out;have hN:=HNI.out;have hc:=HCc.out;have hp:=HPp.out;have hy:=HYy.out;have hVN:=HVN.out;have hVP:=HVP.out;have hRo:=HRo.out;unfold S14.outA S14.outB at hRo;rw[yQ hc,yQ hp,zK (by simp),zK (by simp),zK (by simp),zU rfl]at hRo;simp only[S14.at_,hpt,hn,hf,Int.toNat_natCast]at hRo;have HIx:=zB fun(W:World) (hW:Below w.heap.size w W)=>zeW N L k W (hN.step hW) hx pt hpt hpt2 _ hc n hn hn2;obtain⟨i,hi⟩:∃i,S14.index (N.ctxs.getD k 0) pt n=i:=⟨_,rfl⟩;rw[hi]at HIx hRo;obtain⟨ga',oa',e0,hcs⟩:=hrd (fun e=>by have h:=yN List.length e;rw[yB,List.length_nil]at h;omega);cases e0
   have hcell:∀j,j<k→w.cell? ⟨ga,oa+j,none⟩=some (.int .i64 (bef.getD j 0)):=fun j hj=>by
    refine hcs j _ ?_;unfold zaK;rw[yR,zE (by omega),zO,zE (by omega)];rfl
   have q0:=hcell f hff;obtain⟨x,hxx⟩:∃x,bef.getD f 0=x:=⟨_,rfl⟩;rw[hxx]at q0 hRo;have HSq:=zB fun W=>zdC x W;obtain⟨am,cm,hVe,hm1,hm2,hmr⟩:=(hN.ps k p y hp hy).apm;have HRf:=zB fun(W:World) (hW:Below w.heap.size w W)=>zkD p.ac am cm (i:Int) (S06.squash x) W hm1 hm2 (hmr.step hW);rw[←hVe]at HRf;obtain⟨q,hq⟩:∃q,S06.squash x=q:=⟨_,rfl⟩;rw[hq]at HSq HRf hRo;obtain⟨R,hR⟩:∃R,S11.refineR p.ac (i:Int) q=R:=⟨_,rfl⟩;obtain⟨E,hE⟩:∃R,S11.usable p.ac (i:Int) q=R:=⟨_,rfl⟩;rw[hR,hE]at HRf;rw[hR]at hRo;have HSt:=zB fun W=>zaW R W;obtain⟨T,hT⟩:∃T,S06.stretch R=T:=⟨_,rfl⟩;rw[hT]at HSt hRo;unfold ApmC at HRf;have p15:(yC p y)[15]? = some (.slice y.a4 p.ac.length y.c4):=rfl;obtain⟨l4,hl4⟩:∃R,p.ac.length=R:=⟨_,rfl⟩;rw[hl4]at HRf p15;clear hl4 hT hR hE hq hVe hm1 hm2 hmr hxx hcell hcs hi hrd hlen;unfold NV at HIx;rw[hVN]at HIx;rw[hVP]at p15;subst hf;have hfz:(f:Int)<(k:Int):=by omega
   subst hRo;clear hN hc hp hy hVN hVP;clear hn hx hpt hf';clear HNI HCc HPp HYy HVN HVP HRo Hx Hok Hr Hpt Hrd Hlen Hin;have r0:=(BB.cell (zF q0)).trans q0;have s15:=(EB.cell 15).trans p15;have hCB:Cells wB [(⟨b7,4,none⟩,.int .i64 (f:Int)),(⟨b8,15,none⟩,.slice y.a4 l4 y.c4),(⟨ga,oa+f,none⟩,.int .i64 x)]:=⟨x4,s15,r0,yI⟩;go_wp2_with fail;refine zoN 16 1 [(U,[U,U,U,U,zoJ,U,U,U,U,U]),(zoJ,[zoJ,zoJ,zoJ,zoJ,U]),(zoJ,[zoJ,zoJ,zoJ,zoJ,zoJ,zoJ,zoJ,zoJ,zoJ,zoJ,U]),(zoJ,[zoJ,zoJ,zoJ,zoJ,zoJ,zoJ,zoJ,zoJ,zoJ,zoJ,zoJ,U]),(U,[zoJ,zoJ,zoJ,zoJ,zoJ,zoJ,zoJ,zoJ,zoJ,zoJ,zoJ,zoJ,U,U,U]),(zoJ,[zoJ,zoJ,zoJ,zoJ,zoJ,zoJ,zoJ,zoJ,zoJ,zoJ,zoJ,zoJ,zoJ,zoJ,zoJ,U])] (Keeps wB [(⟨b7,4,none⟩,.int .i64 (f:Int)),(⟨b8,15,none⟩,.slice y.a4 l4 y.c4),(⟨ga,oa+f,none⟩,.int .i64 x)]) (by kernel_rfl) (Keeps.start hCB) (fun Y Q4 F4 hY hF=> ?_);simp only[zoL]
   repeat
    apply zD (by rw[hY];rfl)
    ·intro w2 hS2;(try simp only[Keeps,Cells]at hS2);go_simp;with_reducible rfl
    simp only[zoK]
   apply zD (by rw[hY];rfl)
   ·intro w2 hS2;exact zaO 26 (.tmp 3) (by rfl) w.heap.size (by rfl) VN (kB.step hS2.1).cells _ Tryz.underlying26 rfl (info_N.trans HVl.out)
   simp only[zoK]
   repeat
    apply zD (by rw[hY];rfl)
    ·intro w2 hS2;(try simp only[Keeps,Cells]at hS2);go_simp;with_reducible rfl
    simp only[zoK]
   apply zQ (by rw[hY];rfl)
   ·go_simp;with_reducible exact⟨rfl,rfl⟩
   refine(HIx.out _ (BB.trans ((Keeps.start hCB).1.mono BB.size))).mono ?_;rintro e w2 ⟨rfl,hb2⟩;have hk2:=(Keeps.start hCB).step hb2;refine⟨_,rfl,hk2,?_⟩;simp only[zoK]
   repeat
    apply zD (by rw[hY];rfl)
    ·intro w2 hS2;(try simp only[Keeps,Cells]at hS2);go_simp;with_reducible rfl
    simp only[zoK]
   apply zQ (by rw[hY];rfl)
   ·go_simp;with_reducible exact⟨rfl,rfl⟩
   refine(HSq.out _).mono ?_;rintro e w3 ⟨rfl,hb3⟩;have hk3:=hk2.step hb3;refine⟨_,rfl,hk3,?_⟩;simp only[zoK]
   repeat
    apply zD (by rw[hY];rfl)
    ·intro w2 hS2;(try simp only[Keeps,Cells]at hS2);go_simp;with_reducible rfl
    simp only[zoK]
   apply zQ (by rw[hY];rfl)
   ·go_simp;with_reducible exact⟨rfl,rfl⟩
   refine(HRf.out _ (BB.trans (hk3.1.mono BB.size))).mono ?_;rintro e w4 ⟨rfl,hb4⟩;have hk4:=hk3.step hb4;refine⟨_,rfl,hk4,?_⟩;simp only[zoK]
   repeat
    apply zD (by rw[hY];rfl)
    ·intro w2 hS2;(try simp only[Keeps,Cells]at hS2);go_simp;with_reducible rfl
    simp only[zoK]
   refine zaE (by rw[hY];rfl) (by go_simp;first|with_reducible exact⟨rfl,rfl⟩|with_reducible rfl) (hk4) ?_;simp only[zoK];refine zT (hF.out _ _ (fun K hK=> ?_));clear hF hY;have B9:=BB.trans (hk4.1.mono BB.size);go_wp2_with fail;refine OnlyK.mk (hK.out _ _ ?_);clear hK;go_wp2_with fail;refine(HSt.out _).mono ?_;rintro e w9 ⟨rfl,hb9⟩;have B10:=B9.trans (hb9.mono B9.size);go_wp2;go_returns;exact⟨rfl,B10⟩
 have fin2:=zB fin;clear fin;obtain⟨v0',hv0'⟩:∃v,W1.drew=v:=⟨_,rfl⟩;have hbv0:Below W1.heap.size W1 v0':=by rw[←hv0'];exact(zI _ _).drew
 have hkv0:=(Keeps.start hCS);rw[hv0']at hkv0⊢;refine zaB ?_ ?_
 ·skip
  have hb1:Below v0'.heap.size v0' (v0'.alloc (.cells #[.int .i64 0,.int .i64 0,.int .i64 0,.int .i64 0,.int .i64 0,.int .i64 0] 54)):=(zI _ _).alloc (zG _) _;refine yG (by rw[hY];rfl) (by go_simp;first|with_reducible exact⟨rfl,rfl⟩|with_reducible rfl) (hkv0.step hb1) ?_;simp only[zoK];have e7:=Blk.new v0' [.int .i64 0,.int .i64 0,.int .i64 0,.int .i64 0,.int .i64 0,.int .i64 0] 54;have z7:W1.heap.size≤v0'.heap.size:=hbv0.size;have l7:=e7.lt;obtain⟨b7,hb7⟩:∃b,v0'.heap.size=b:=⟨_,rfl⟩;obtain⟨v1',hv1'⟩:∃v,v0'.alloc (.cells #[.int .i64 0,.int .i64 0,.int .i64 0,.int .i64 0,.int .i64 0,.int .i64 0] 54)=v:=⟨_,rfl⟩;have hkv1:=hkv0.step hb1;have hbv1:=zA hbv0 hb1;rw[show([.int .i64 0,.int .i64 0,.int .i64 0,.int .i64 0,.int .i64 0,.int .i64 0]:List Value).toArray = #[.int .i64 0,.int .i64 0,.int .i64 0,.int .i64 0,.int .i64 0,.int .i64 0]from rfl]at e7 l7;rw[hv1']at hkv1 hbv1 e7 l7⊢;rw[hb7]at e7 l7 z7⊢;have hb2:Below v1'.heap.size v1' (v1'.alloc (.cells #[.slice none 0 0,.int .i64 0,.slice none 0 0,.int .i64 0,.int .i64 0,.int .i64 0,.slice none 0 0,.slice none 0 0,.int .i64 0,.int .i64 0,.int .i64 0,.int .i64 0,.slice none 0 0,.int .i64 0,.slice none 0 0,.slice none 0 0] 83)):=(zI _ _).alloc (zG _) _;refine yG (by rw[hY];rfl) (by go_simp;first|with_reducible exact⟨rfl,rfl⟩|with_reducible rfl) (hkv1.step hb2) ?_;simp only[zoK];have e8:Blk (v1'.alloc (.cells #[.slice none 0 0,.int .i64 0,.slice none 0 0,.int .i64 0,.int .i64 0,.int .i64 0,.slice none 0 0,.slice none 0 0,.int .i64 0,.int .i64 0,.int .i64 0,.int .i64 0,.slice none 0 0,.int .i64 0,.slice none 0 0,.slice none 0 0] 83)) v1'.heap.size (yC S14.P0 zdU) 83:=Blk.new v1' [.slice none 0 0,.int .i64 0,.slice none 0 0,.int .i64 0,.int .i64 0,.int .i64 0,.slice none 0 0,.slice none 0 0,.int .i64 0,.int .i64 0,.int .i64 0,.int .i64 0,.slice none 0 0,.int .i64 0,.slice none 0 0,.slice none 0 0] 83;have hbv2:=zA hbv1 hb2;refine yU 54 (.tmp 7) (.tmp 19) (by rfl) (by rw[hY];rfl) b7 (by rfl) [.int .i64 kind,.int .i64 bits,.int .i64 limit,.int .i64 rate,.int .i64 first,.int .i64 second] (by rfl) _ 54 (e7.step hb2) zbL rfl (by simp[Value.oneCell']) ?_;intro wA EA gA sA;clear sA;have hbA:=hbv2.trans (yA gA z7 hbv2.size);refine⟨⟨hbA,Cells.step hbA hCS⟩,?_⟩;simp only[zoK];exact yO (fin2.out b7 v1'.heap.size _ hbA z7 hbv1.size (by omega) EA (e8.keptRow gA (fun e=>by have:=zZ e;omega)))
 ·skip
  have hb1:Below v0'.heap.size v0' (v0'.alloc (.cells #[.slice none 0 0,.int .i64 0,.slice none 0 0,.int .i64 0,.int .i64 0,.int .i64 0,.slice none 0 0,.slice none 0 0,.int .i64 0,.int .i64 0,.int .i64 0,.int .i64 0,.slice none 0 0,.int .i64 0,.slice none 0 0,.slice none 0 0] 83)):=(zI _ _).alloc (zG _) _;refine yG (by rw[hY];rfl) (by go_simp;first|with_reducible exact⟨rfl,rfl⟩|with_reducible rfl) (hkv0.step hb1) ?_;simp only[zoK];have e8:Blk (v0'.alloc (.cells #[.slice none 0 0,.int .i64 0,.slice none 0 0,.int .i64 0,.int .i64 0,.int .i64 0,.slice none 0 0,.slice none 0 0,.int .i64 0,.int .i64 0,.int .i64 0,.int .i64 0,.slice none 0 0,.int .i64 0,.slice none 0 0,.slice none 0 0] 83)) v0'.heap.size (yC S14.P0 zdU) 83:=Blk.new v0' [.slice none 0 0,.int .i64 0,.slice none 0 0,.int .i64 0,.int .i64 0,.int .i64 0,.slice none 0 0,.slice none 0 0,.int .i64 0,.int .i64 0,.int .i64 0,.int .i64 0,.slice none 0 0,.int .i64 0,.slice none 0 0,.slice none 0 0] 83;have z8:W1.heap.size≤v0'.heap.size:=hbv0.size;have l8:=e8.lt;obtain⟨b8,hb8⟩:∃b,v0'.heap.size=b:=⟨_,rfl⟩;obtain⟨v1',hv1'⟩:∃v,v0'.alloc (.cells #[.slice none 0 0,.int .i64 0,.slice none 0 0,.int .i64 0,.int .i64 0,.int .i64 0,.slice none 0 0,.slice none 0 0,.int .i64 0,.int .i64 0,.int .i64 0,.int .i64 0,.slice none 0 0,.int .i64 0,.slice none 0 0,.slice none 0 0] 83)=v:=⟨_,rfl⟩;have hkv1:=hkv0.step hb1;have hbv1:=zA hbv0 hb1;rw[hv1']at hkv1 hbv1 e8 l8⊢;rw[hb8]at e8 l8 z8⊢;have hb2:Below v1'.heap.size v1' (v1'.alloc (.cells #[.int .i64 0,.int .i64 0,.int .i64 0,.int .i64 0,.int .i64 0,.int .i64 0] 54)):=(zI _ _).alloc (zG _) _;refine yG (by rw[hY];rfl) (by go_simp;first|with_reducible exact⟨rfl,rfl⟩|with_reducible rfl) (hkv1.step hb2) ?_;simp only[zoK];have e7:=Blk.new v1' [.int .i64 0,.int .i64 0,.int .i64 0,.int .i64 0,.int .i64 0,.int .i64 0] 54;have hbv2:=zA hbv1 hb2;refine yU 54 (.tmp 7) (.tmp 19) (by rfl) (by rw[hY];rfl) v1'.heap.size (by rfl) [.int .i64 kind,.int .i64 bits,.int .i64 limit,.int .i64 rate,.int .i64 first,.int .i64 second] (by rfl) _ 54 e7 zbL rfl (by simp[Value.oneCell']) ?_;intro wA EA gA sA;clear sA;have hbA:=hbv2.trans (yA gA hbv1.size hbv2.size);refine⟨⟨hbA,Cells.step hbA hCS⟩,?_⟩;simp only[zoK];exact yO (fin2.out v1'.heap.size b8 _ hbA hbv1.size z8 (by omega) EA ((e8.step hb2).keptRow gA (fun e=>by have:=zZ e;omega)))
end Go.Proofs.YtieeogndnhighaaGreat
namespace Go.Proofs.YtieeogndnhighaaGreat
open Go.RowKit
theorem zfM(N:S14.N)(L:NLay)(w:World)(hN:NIs N L w)(h0:S14.checkNet N=0)(O:Nat→List Int→Int)(hO:S14.outA N=O)(hin:∀k,k≤N.comps.length→∀x∈S14.outs O k,-3071≤x∧x≤3071) :
 Calls Tryz.prog 54 #[NV N L] w fun e w'=>∃a cap,e = .returned (.slice a N.comps.length cap)∧Rd w' a (zaK (S14.outs O N.comps.length))∧N.comps.length≤cap∧Below w.heap.size w w':=by
 have hl16:=(S14.check_zero (S14.checkNet_zero h0).1).2.1
 have HX:=zB fun(k:Nat) (hk:k<N.comps.length) (a:Option Addr) (cb:Nat) (W:World) (hW:Below w.heap.size w W) (hrd:Rd W a (zaK (S14.outs O k))) (hcb:k≤cb)=>(show Calls Tryz.prog 85 #[NV N L,.int .i64 (k:Int),.slice a k cb] W fun e w'=>e = .returned (.int .i64 (O k (S14.outs O k)))∧Below W.heap.size W w' by
  have:=znF N L k _ (S14.outs O k) a cb W (hN.step hW) h0 (zE hk) hrd (S14.outs_length O k) (hin k (by omega)) hcb;rw[hO]at this;exact this)
 have v0:(zaH N L)[0]? = some (.slice L.a1 N.comps.length L.c1):=rfl;have HVl:=zB (show some 4=some (zaH N L).length from rfl);unfold NV at HX⊢;obtain⟨VN,hVN⟩:∃v,zaH N L=v:=⟨_,rfl⟩;rw[hVN]at v0 HVl HX⊢;obtain⟨nc,hnc⟩:∃n,N.comps.length=n:=⟨_,rfl⟩;rw[hnc]at v0 hl16 HX⊢;clear hVN hnc hN h0 hO hin;obtain⟨W1,hW1⟩:∃W1,w.alloc (.cells VN.toArray 26)=W1:=⟨_,rfl⟩;have k1:Blk W1 w.heap.size VN 26:=by rw[←hW1];exact Blk.new w _ _
 have B1:Below w.heap.size w W1:=by rw[←hW1];exact(zI _ _).alloc (zG _) _
 obtain⟨G,hG⟩:∃G,w.heap.size+1=G:=⟨_,rfl⟩;have hz1:G≤W1.heap.size:=by rw[←hG,←hW1];simp
 have HGl:=zB (show w.heap.size<G by omega);clear hG;have hown:W1.ownsRow G 3 1 (.slice none 0 0) 0 (zaK (S14.outs O 0)):=⟨rfl,.inl ⟨rfl,rfl⟩⟩;go_enter Tryz.func54,Tryz.ntmps54;go_wp2_with (rw[hW1]);go_loopw [3,4] (fun s i wr=>∃(k:Nat) (a:Option Addr) (c:Nat),k≤nc∧s = .slice a k c∧i = .int .i64 (k:Int)∧Hid (wr.ownsRow G 3 1 (.slice a k c) k (zaK (S14.outs O k)))∧Blk wr w.heap.size VN 26∧Below w.heap.size w wr∧G≤wr.heap.size) (fun _ i _=>nc-(intOf i).toNat)
 case atStart=>exact⟨0,none,0,by omega,rfl,rfl,zB hown,k1,B1,hz1⟩
 case round=>
  clear hown k1 B1 hz1;obtain⟨k,a,c,hk,rfl,rfl,hown,k0,hB,hz⟩:=hrel;have c0:=(k0.cell 0).trans v0;by_cases hlt:k<nc
  ·have hkz:(k:Int)<(nc:Int):=by omega
   have hkc:k≤c:=by
    obtain⟨a0,c0',e,h1,h2⟩:=zaX hown.out;simp only[Value.slice.injEq]at e;omega
   have HX2:=HX.out k hlt a c wr hB (Rd.of_owns hown.out) hkc;obtain⟨R,hR⟩:∃R,O k (S14.outs O k)=R:=⟨_,rfl⟩;rw[hR]at HX2;have HR:=zB hR;clear hR;go_wp2_with (first
    | (refine zS 26 (.tmp 1) (by rfl) (by rfl) w.heap.size (by rfl) VN 26 k0 _ Tryz.underlying26 rfl (info_N.trans HVl.out) ?_))
   refine HX2.mono ?_;rintro e w6 ⟨rfl,hb6⟩;have hown6:=yS (B:=0) hown.out hb6;have B6:=zA hB hb6;have k6:=k0.step hb6;have hb8:Below w6.heap.size w6 (w6.alloc (.cells #[.int .i64 R] 3)):=(zI _ _).alloc (zG _) _;have hown8:=zB (yS (B:=0) hown6 hb8);have hrd8:=zB (show Rd (w6.alloc (.cells #[.int .i64 R] 3)) (some ⟨w6.heap.size,0,none⟩) (zaK [R])from(fun _=>⟨_,0,rfl,(Blk.new w6 [.int .i64 R] 3).cells⟩));have k8:=k6.step hb8;have B8:=zA B6 hb8;have hz6:G≤w6.heap.size:=yD hz hb6.size;have hz8:G≤(w6.alloc (.cells #[.int .i64 R] 3)).heap.size:=yD hz6 hb8.size;obtain⟨w8,hw8⟩:∃w8,w6.alloc (.cells #[.int .i64 R] 3)=w8:=⟨_,rfl⟩;rw[hw8]at hown8 hrd8 k8 B8 hz8;clear hown6 k6 hb8 k0 c0;go_wp2_with (first
    | (rw[hw8])
    | (at_builtin
       refine zbH (.tmp 12) (.tmp 17) 39 3 1 8 _ G elems_ints rfl rfl (.slice a k c) k (zaK (S14.outs O k)) rfl hown8.out (some ⟨w6.heap.size,0,none⟩) 1 1 (zaK [R]) rfl rfl hrd8.out (Ints_one [R]) (by unfold maxLen;omega) (by omega) hz8 ?_;intro a9 c9 w9 hown9 hg9
       have k9:=k8.keptRow hg9 (fun e=>by
        have:=(zcB hown8.out e.symm).1;have:=HGl.out;omega)
       have hB9:Below w.heap.size w w9:=B8.trans (Below.grown (zI _ _) hg9 B8.size (fun r e=>by
        have:=(zcB hown8.out e).1;have:=HGl.out;omega))
       have hz9:G≤w9.heap.size:=yD hz8 hg9.size
       have Hres:=zB (show w9.ownsRow G 3 1 (.slice a9 (k+1) c9) (k+1) (zaK (S14.outs O (k+1))) by
        rw[S14.outs,HR.out];have e:zaK (S14.outs O k ++ [R])=zaK (S14.outs O k)++zaK [R]:=by unfold zaK;rw[List.map_append]
        rw[e];exact hown9)
       clear hown9 hg9 k8 hown8 hrd8 B8))
   go_roundw
   case rel=>exact⟨k+1,a9,c9,by omega,rfl,by simp,Hres,k9,hB9,hz9⟩
   case measure=>simp[intOf];omega
  ·obtain rfl:k=nc:=by omega
   have hkc:k≤c:=by
    obtain⟨a0,c0',e,h1,h2⟩:=zaX hown.out;simp only[Value.slice.injEq]at e;omega
   have Hrd:=zB (Rd.of_owns hown.out);go_wp2;go_returns;exact⟨a,c,rfl,Hrd.out,hkc,hB⟩
theorem zmA(N:S14.N)(L:NLay)(w:World)(hN:NIs N L w)(hl1:N.comps.length≤4611686018427387904)(hlc:∀p∈N.parts,p.ctrs.length≤9223372036854775807)(hne:S14.checkNet N≠0) :
 Calls Tryz.prog 21 #[NV N L] w fun e w'=>e = .returned (.tuple #[.slice none 0 0,.int .i64 (S14.checkNet N)])∧Below w.heap.size w w':=by
 have HC:=zB fun(W:World) (hW:Below w.heap.size w W)=>zcG N L W (hN.step hW) hl1 hlc;obtain⟨R,hR⟩:∃R,S14.checkNet N=R:=⟨_,rfl⟩;rw[hR]at hne HC⊢;clear hR;have HVl:=zB (show some 4=some (zaH N L).length from rfl);unfold NV at *;obtain⟨VN,hVN⟩:∃v,zaH N L=v:=⟨_,rfl⟩;rw[hVN]at HVl HC⊢;clear hVN hN;obtain⟨W1,hW1⟩:∃W1,w.alloc (.cells VN.toArray 26)=W1:=⟨_,rfl⟩;have k1:Blk W1 w.heap.size VN 26:=by rw[←hW1];exact Blk.new w _ _
 have B1:Below w.heap.size w W1:=by rw[←hW1];exact(zI _ _).alloc (zG _) _
 go_enter Tryz.func21,Tryz.ntmps21;go_wp2_with (first
  | (rw[hW1])
  | (refine zS 26 (.tmp 1) (by rfl) (by rfl) w.heap.size (by rfl) VN 26 k1 _ Tryz.underlying26 rfl (info_N.trans HVl.out) ?_))
 refine(HC.out _ B1).mono ?_;rintro e w2 ⟨rfl,hb2⟩;have B2:=zA B1 hb2;have k2:=k1.step hb2;have hb:(R != 0)=true:=by simp[hne]
 go_wp2_with fail;go_returns;exact⟨rfl,B2⟩
theorem zkG(N:S14.N)(L:NLay)(w:World)(hN:NIs N L w)(hlc:∀p∈N.parts,p.ctrs.length≤9223372036854775807)(h0:S14.checkNet N=0)(O:Nat→List Int→Int)(hO:S14.outA N=O)(hin:∀k,k≤N.comps.length→∀x∈S14.outs O k,-3071≤x∧x≤3071) :
 Calls Tryz.prog 21 #[NV N L] w fun e w'=>∃a cap,e = .returned (.tuple #[.slice a N.comps.length cap,.int .i64 0])∧Rd w' a (zaK (S14.outs O N.comps.length))∧N.comps.length≤cap∧Below w.heap.size w w':=by
 have HC:=zB fun(W:World) (hW:Below w.heap.size w W)=>zcG N L W (hN.step hW) (by have:=(S14.check_zero (S14.checkNet_zero h0).1).2.1;omega) hlc;rw[h0]at HC;have HO:=zB fun(W:World) (hW:Below w.heap.size w W)=>(show Calls Tryz.prog 54 #[.agg (zaH N L).toArray] W _ from zfM N L W (hN.step hW) h0 O hO hin);obtain⟨nc,hnc⟩:∃n,N.comps.length=n:=⟨_,rfl⟩;rw[hnc]at HO⊢;obtain⟨X,hX⟩:∃X,S14.outs O nc=X:=⟨_,rfl⟩;rw[hX]at HO⊢;have HVl:=zB (show some 4=some (zaH N L).length from rfl);unfold NV at *;obtain⟨VN,hVN⟩:∃v,zaH N L=v:=⟨_,rfl⟩;rw[hVN]at HVl HC HO⊢;clear hVN hN hnc hX h0 hO hin hlc;obtain⟨W1,hW1⟩:∃W1,w.alloc (.cells VN.toArray 26)=W1:=⟨_,rfl⟩;have k1:Blk W1 w.heap.size VN 26:=by rw[←hW1];exact Blk.new w _ _
 have B1:Below w.heap.size w W1:=by rw[←hW1];exact(zI _ _).alloc (zG _) _
 go_enter Tryz.func21,Tryz.ntmps21;go_wp2_with (first
  | (rw[hW1])
  | (refine zS 26 (.tmp 1) (by rfl) (by rfl) w.heap.size (by rfl) VN 26 k1 _ Tryz.underlying26 rfl (info_N.trans HVl.out) ?_))
 refine(HC.out _ B1).mono ?_;rintro e w2 ⟨rfl,hb2⟩;have B2:=zA B1 hb2;have k2:=k1.step hb2;go_wp2_with (first
  | (refine zS 26 (.tmp 1) (by rfl) (by rfl) w.heap.size (by rfl) VN 26 k2 _ Tryz.underlying26 rfl (info_N.trans HVl.out) ?_))
 refine(HO.out _ B2).mono ?_;rintro e w3 ⟨a,cap,rfl,hrd,hcap,hb3⟩;have B3:=zA B2 hb3;have Hrd:=zB hrd;clear hrd;go_wp2_with fail;go_returns;exact⟨a,cap,rfl,Hrd.out,hcap,B3⟩
theorem zlZ(N:S14.N)(L:NLay)(w:World)(hN:NIs N L w)(hl1:N.comps.length≤4611686018427387904)(hlc:∀p∈N.parts,p.ctrs.length≤9223372036854775807)(hne:S14.checkNet N≠0) :
 Calls Tryz.prog 23 #[NV N L] w fun e w'=>e = .returned (.tuple #[.int .i64 0,.int .i64 (S14.checkNet N)])∧Below w.heap.size w w':=by
 have HC:=zB fun(W:World) (hW:Below w.heap.size w W)=>zcG N L W (hN.step hW) hl1 hlc;obtain⟨R,hR⟩:∃R,S14.checkNet N=R:=⟨_,rfl⟩;rw[hR]at hne HC⊢;clear hR;have HVl:=zB (show some 4=some (zaH N L).length from rfl);unfold NV at *;obtain⟨VN,hVN⟩:∃v,zaH N L=v:=⟨_,rfl⟩;rw[hVN]at HVl HC⊢;clear hVN hN;obtain⟨W1,hW1⟩:∃W1,w.alloc (.cells VN.toArray 26)=W1:=⟨_,rfl⟩;have k1:Blk W1 w.heap.size VN 26:=by rw[←hW1];exact Blk.new w _ _
 have B1:Below w.heap.size w W1:=by rw[←hW1];exact(zI _ _).alloc (zG _) _
 go_enter Tryz.func23,Tryz.ntmps23;go_wp2_with (first
  | (rw[hW1])
  | (refine zS 26 (.tmp 1) (by rfl) (by rfl) w.heap.size (by rfl) VN 26 k1 _ Tryz.underlying26 rfl (info_N.trans HVl.out) ?_))
 refine(HC.out _ B1).mono ?_;rintro e w2 ⟨rfl,hb2⟩;have B2:=zA B1 hb2;have k2:=k1.step hb2;have hb:(R != 0)=true:=by simp[hne]
 go_wp2_with fail;go_returns;exact⟨rfl,B2⟩
theorem zkF(N:S14.N)(L:NLay)(w:World)(hN:NIs N L w)(hlc:∀p∈N.parts,p.ctrs.length≤9223372036854775807)(h0:S14.checkNet N=0)(O:Nat→List Int→Int)(hO:S14.outA N=O)(hin:∀k,k≤N.comps.length→∀x∈S14.outs O k,-3071≤x∧x≤3071) :
 Calls Tryz.prog 23 #[NV N L] w fun e w'=>e = .returned (.tuple #[.int .i64 (S06.squash ((S14.outs O N.comps.length).getD (N.comps.length-1) 0)),.int .i64 0])∧Below w.heap.size w w':=by
 have hl0:=(S14.check_zero (S14.checkNet_zero h0).1).1;have hl16:=(S14.check_zero (S14.checkNet_zero h0).1).2.1;have HC:=zB fun(W:World) (hW:Below w.heap.size w W)=>zcG N L W (hN.step hW) (by omega) hlc;rw[h0]at HC;have HO:=zB fun(W:World) (hW:Below w.heap.size w W)=>(show Calls Tryz.prog 54 #[.agg (zaH N L).toArray] W _ from zfM N L W (hN.step hW) h0 O hO hin);have HS:=zB fun x W=>zdC x W;have hlen:=S14.outs_length O N.comps.length;obtain⟨nc,hnc⟩:∃n,N.comps.length=n:=⟨_,rfl⟩;rw[hnc]at HO hlen hl0 hl16⊢;obtain⟨X,hX⟩:∃X,S14.outs O nc=X:=⟨_,rfl⟩;rw[hX]at HO hlen⊢;have HVl:=zB (show some 4=some (zaH N L).length from rfl);unfold NV at *;obtain⟨VN,hVN⟩:∃v,zaH N L=v:=⟨_,rfl⟩;rw[hVN]at HVl HC HO⊢;clear hVN hN hnc hX h0 hO hin hlc;obtain⟨W1,hW1⟩:∃W1,w.alloc (.cells VN.toArray 26)=W1:=⟨_,rfl⟩;have k1:Blk W1 w.heap.size VN 26:=by rw[←hW1];exact Blk.new w _ _
 have B1:Below w.heap.size w W1:=by rw[←hW1];exact(zI _ _).alloc (zG _) _
 go_enter Tryz.func23,Tryz.ntmps23;have Hlen:=zB hlen;clear hlen;go_wp2_with (first
  | (rw[hW1])
  | (refine zS 26 (.tmp 1) (by rfl) (by rfl) w.heap.size (by rfl) VN 26 k1 _ Tryz.underlying26 rfl (info_N.trans HVl.out) ?_))
 refine(HC.out _ B1).mono ?_;rintro e w2 ⟨rfl,hb2⟩;have B2:=zA B1 hb2;have k2:=k1.step hb2;go_wp2_with (first
  | (refine zS 26 (.tmp 1) (by rfl) (by rfl) w.heap.size (by rfl) VN 26 k2 _ Tryz.underlying26 rfl (info_N.trans HVl.out) ?_))
 refine(HO.out _ B2).mono ?_;rintro e w3 ⟨a,cap,rfl,hrd,hcap,hb3⟩;have B3:=zA B2 hb3;have hlen:=Hlen.out;obtain⟨g,o,rfl,hcs⟩:=hrd.at (i:=nc-1) (by unfold zaK;rw[zaD];omega);have hc0:w3.cell? ⟨g,o+(nc-1),none⟩=some (.int .i64 (X.getD (nc-1) 0)):=by
  rw[hcs (nc-1) (by unfold zaK;rw[zaD];omega),zO,zE (by omega)];simp[zaK]
 have hncz:(1:Int)≤(nc:Int):=by omega
 have hc1:w3.cell? ⟨g,o+((nc:Int)-1).toNat*1,none⟩=some (.int .i64 (X.getD (nc-1) 0)):=by
  rw[show((nc:Int)-1).toNat*1=nc-1 by omega];exact hc0
 clear hrd hcs hlen;go_wp2_with fail;refine(HS.out _ _).mono ?_;rintro e w4 ⟨rfl,hb4⟩;go_wp2_with fail;go_returns;exact⟨rfl,zA B3 hb4⟩
end Go.Proofs.YtieeogndnhighaaGreat
