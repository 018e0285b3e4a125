/- A part of the proof that ends in L14p (Rs14). No condition. -/
import Derived.Below
import Derived.BigQuiet
import Derived.Deep.Draws
import Derived.Deep.Light
import Derived.Deep.MidRow
import Derived.Deep.QuietTactic
import Derived.Deep.Slices
import Derived.Handy
import Derived.Laws.AppendOwn
import Derived.Laws.AppendOwnNone
import Derived.Laws.CopyOwn
import Derived.Laws.MakeOwn
import Derived.Laws.OwnMore
import Derived.Laws.Tables
import Derived.Lib.Hide
import Derived.Lib.MinMax
import Derived.Lib.SliceRun
import Derived.LoadGo2
import Derived.LoopIn
import Derived.LoopNIn
import Derived.Maps.AppendAt
import Derived.Orders
import Derived.OrdersHeld
import Derived.OwnWalkIn
import Derived.RangeFuncBound
import Derived.RangeFuncCalls
import Derived.RangeFuncLeaves
import Derived.RangeFuncNested
import Derived.RangeFuncWrites
import Derived.Shelf.Abstract
import Derived.Shelf.RegionOpen
import Derived.Sort.BigQuietIn
import Derived.Sort.QuietIn
import Derived.StillTail
import Derived.Tactics
import Derived.TacticsInMore
import Derived.Test.YtieeogndnhighaaGreatRows
import Derived.Test.YtieeogndnhighaaGreatShelf
import Derived.WalkKit
import Derived.WalkLawsBesides
import Derived.WalkSpells
import Derived.Test.YtieeogndnhighaaGreatZL14pbj
import Derived.Test.YtieeogndnhighaaGreatZL14pbl
set_option linter.unusedSectionVars false
set_option linter.unusedSimpArgs false
set_option linter.unusedVariables false
set_option maxRecDepth 100000
set_option maxHeartbeats 1000000
namespace Go.Proofs.YtieeogndnhighaaGreat
open Go.RowKit
theorem rstate14_any(N:S14.N)(L:NLay)(k:Nat)(w:World)(hN:NIs N L w)(p:S14.P)(y:Lay)(hp:N.parts[k]? = some p)(hy:L.ys[k]? = some y)(pt:Nat)(hpt:N.part=(pt:Int))(hpt2:pt≤255) :
 Calls Tryz.prog 91 #[NV N L,.int .i64 (k:Int)] w fun e w'=>e = .returned (.int .i64 (S10.getN p.sb p.sd p.slot (S14.node pt:Nat)))∧Below w.heap.size w w':=by
 have hk:=(List.getElem?_eq_some_iff.1 hp).1;obtain⟨bb,o,p',y',hL2,hp',hy',hcs,hP⟩:=hN.part_at hk;rw[hp]at hp';rw[hy]at hy';cases hp';cases hy';have HN:=zB fun W=>rnode14_any pt hpt2 W;have HG:=zB fun(W:World) (hW:Below w.heap.size w W)=>(show Calls Tryz.prog 125 #[.agg #[.int .i64 p.sb,.slice y.a2 p.sd.length y.c2],.int .i64 p.slot,.int .i64 ((S14.node pt:Nat):Int)] W _ from rget10_any p.sb p.sd p.slot (S14.node pt:Nat) y.a2 y.c2 W (hP.tab.step hW));have q1:w.cell? ⟨bb,o+k*16+1,none⟩=some (.int .i64 p.sb):=hcs 1 _ rfl;have q2:w.cell? ⟨bb,o+k*16+2,none⟩=some (.slice y.a2 p.sd.length y.c2):=hcs 2 _ rfl;have q3:w.cell? ⟨bb,o+k*16+3,none⟩=some (.int .i64 p.slot):=hcs 3 _ rfl;unfold NV zaH;rw[hL2,hpt];have hkz:(k:Int)<(N.parts.length:Int):=by omega
 obtain⟨nc,hnc⟩:∃n,N.comps.length=n:=⟨_,rfl⟩;obtain⟨np,hnp⟩:∃n,N.parts.length=n:=⟨_,rfl⟩;obtain⟨nx,hnx⟩:∃n,N.ctxs.length=n:=⟨_,rfl⟩;obtain⟨R,hR⟩:∃R,S10.getN p.sb p.sd p.slot (S14.node pt:Nat)=R:=⟨_,rfl⟩;obtain⟨m2,hm2⟩:∃R,p.sd.length=R:=⟨_,rfl⟩;obtain⟨sb,hsb⟩:∃R,p.sb=R:=⟨_,rfl⟩;obtain⟨sl,hsl⟩:∃R,p.slot=R:=⟨_,rfl⟩;obtain⟨nd,hnd⟩:∃R,S14.node pt=R:=⟨_,rfl⟩;rw[hR]at HG⊢;rw[hm2]at HG q2;rw[hsb]at HG q1;rw[hsl]at HG q3;rw[hnd]at HG HN;rw[hnp]at hkz;rw[hnc,hnp,hnx];obtain⟨E9,hE9⟩:∃R,S10.node sb p.sd sl (nd:Int)=R:=⟨_,rfl⟩;rw[hE9]at HG;clear hnc hnp hnx hR hm2 hsb hsl hnd hN hcs hP hp hy hpt hE9 hk;obtain⟨W1,hW1⟩:∃W1,w.alloc (.cells #[.slice L.a1 nc L.c1,.slice (some ⟨bb,o,none⟩) np L.c2,.slice L.a3 nx L.c3,.int .i64 (pt:Int)] 26)=W1:=⟨_,rfl⟩;have k1:Blk W1 w.heap.size [.slice L.a1 nc L.c1,.slice (some ⟨bb,o,none⟩) np L.c2,.slice L.a3 nx L.c3,.int .i64 (pt:Int)] 26:=by rw[←hW1];exact Blk.new w _ _
 have B1:Below w.heap.size w W1:=by rw[←hW1];exact(zI _ _).alloc (zG _) _
 have r1:=(B1.cell (zF q1)).trans q1;have r2:=(B1.cell (zF q2)).trans q2;have r3:=(B1.cell (zF q3)).trans q3;go_enter Tryz.func91,Tryz.ntmps91;go_wp2_with (rw[hW1]);have hCS:Cells W1 [(⟨w.heap.size,1,none⟩,.slice (some ⟨bb,o,none⟩) np L.c2),(⟨w.heap.size,3,none⟩,.int .i64 (pt:Int)),(⟨bb,o+k*16+1,none⟩,.int .i64 sb),(⟨bb,o+k*16+2,none⟩,.slice y.a2 m2 y.c2),(⟨bb,o+k*16+3,none⟩,.int .i64 sl)]:=⟨k1.cell 1,k1.cell 3,r1,r2,r3,yI⟩;refine zoN 20 1 [(U,[U,U,U,U,U,U,U,U,U,U,U,U,U,U]),(zoJ,[zoJ,zoJ,zoJ,zoJ,zoJ,zoJ,zoJ,zoJ,zoJ,zoJ,zoJ,zoJ,zoJ,zoJ,U]),(zoJ,[zoJ,zoJ,zoJ,zoJ,zoJ,zoJ,zoJ,zoJ,zoJ,zoJ,zoJ,zoJ,zoJ,zoJ,zoJ,U]),(U,[zoJ,zoJ,zoJ,zoJ,zoJ,zoJ,zoJ,zoJ,zoJ,zoJ,zoJ,zoJ,zoJ,zoJ,zoJ,zoJ,U,U,U]),(zoJ,[zoJ,zoJ,zoJ,zoJ,zoJ,zoJ,zoJ,zoJ,zoJ,zoJ,zoJ,zoJ,zoJ,zoJ,zoJ,zoJ,zoJ,zoJ,zoJ,U])] (Keeps W1 [(⟨w.heap.size,1,none⟩,.slice (some ⟨bb,o,none⟩) np L.c2),(⟨w.heap.size,3,none⟩,.int .i64 (pt:Int)),(⟨bb,o+k*16+1,none⟩,.int .i64 sb),(⟨bb,o+k*16+2,none⟩,.slice y.a2 m2 y.c2),(⟨bb,o+k*16+3,none⟩,.int .i64 sl)]) (by kernel_rfl) (Keeps.start hCS) (fun Y Q4 F4 hY hF=> ?_);simp only[zoL]
 repeat
  apply zD (by rw[hY];rfl)
  ·intro w2 hS2;(try simp only[Keeps,Cells]at hS2);go_simp;with_reducible rfl
  simp only[zoK]
 apply zQ (by rw[hY];rfl)
 ·go_simp;with_reducible exact⟨rfl,rfl⟩
 refine(HN.out _).mono ?_;rintro e w2 ⟨rfl,hb2⟩;have hk2:=(Keeps.start hCS).step hb2;refine⟨_,rfl,hk2,?_⟩;simp only[zoK];apply zQ (by rw[hY];rfl)
 ·go_simp;with_reducible exact⟨rfl,rfl⟩
 refine(HG.out _ (zA B1 hk2.1)).mono ?_;rintro e w3 ⟨rfl,hb3⟩;have hk3:=hk2.step hb3;refine⟨_,rfl,hk3,?_⟩;simp only[zoK]
 repeat
  apply zD (by rw[hY];rfl)
  ·intro w2 hS2;(try simp only[Keeps,Cells]at hS2);go_simp;with_reducible rfl
  simp only[zoK]
 refine zaE (by rw[hY];rfl) (by go_simp;first|with_reducible exact⟨rfl,rfl⟩|with_reducible rfl) (hk3) ?_;simp only[zoK];refine zT (hF.out _ _ (fun K hK=> ?_));clear hF hY;have hB3:=zA B1 hk3.1;go_wp2_with fail;refine OnlyK.mk (hK.out _ _ ?_);clear hK hk2 hk3;go_wp2;go_returns;exact⟨rfl,hB3⟩
end Go.Proofs.YtieeogndnhighaaGreat
