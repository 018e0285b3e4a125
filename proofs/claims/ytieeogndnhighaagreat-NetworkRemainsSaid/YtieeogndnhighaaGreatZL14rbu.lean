/- A part of the proof that ends in L14r (W14r). No condition. -/
import Derived.Below
import Derived.BigQuiet
import Derived.Deep.Draws
import Derived.Deep.Light
import Derived.Deep.MidRow
import Derived.Deep.QuietTactic
import Derived.Deep.RegionHeld3
import Derived.Deep.Slices
import Derived.Great.BuildSlice
import Derived.Handy
import Derived.Laws.AppendOwn
import Derived.Laws.AppendOwnNone
import Derived.Laws.CopyOwn
import Derived.Laws.MakeOwn
import Derived.Laws.OwnMore
import Derived.Laws.Tables
import Derived.Lib.Hide
import Derived.Lib.MinMax
import Derived.Lib.SliceRun
import Derived.LoadGo2
import Derived.LoopIn
import Derived.LoopNIn
import Derived.Maps.AppendAt
import Derived.Orders
import Derived.OrdersHeld
import Derived.OwnWalkIn
import Derived.RangeFuncBound
import Derived.RangeFuncCalls
import Derived.RangeFuncLeaves
import Derived.RangeFuncNested
import Derived.RangeFuncWrites
import Derived.Shelf.Abstract
import Derived.Shelf.RegionOpen
import Derived.Sort.BigQuietIn
import Derived.Sort.QuietIn
import Derived.StillTail
import Derived.StillTailTactics
import Derived.Tactics
import Derived.TacticsInMore
import Derived.Test.YtieeogndnhighaaGreatRows
import Derived.Test.YtieeogndnhighaaGreatShelf
import Derived.WalkKit
import Derived.WalkLawsBesides
import Derived.WalkSpells
import Derived.Test.YtieeogndnhighaaGreatZL14rbi
import Derived.Test.YtieeogndnhighaaGreatZL14rbt
set_option linter.unusedSectionVars false
set_option linter.unusedSimpArgs false
set_option linter.unusedVariables false
set_option maxRecDepth 100000
set_option maxHeartbeats 8000000
namespace Go.Proofs.YtieeogndnhighaaGreat
open Go.RowKit
theorem NetE.part{E:Nat→Prop}{N:S14.N}{VS:List Value}{w:World}(h:NetE E N VS w):VS[3]? = some (.int .i64 N.part):=by
 obtain⟨L,rfl,_⟩:=h;rfl
theorem zjN(l:List S14.C)(data:List Int)(a ad:Option Addr)(cap cd:Nat)(w:World)(hl:l.length≤9223372036854775807)(hrd:Rd w a (zfX l))(hd:∀x∈data,0≤x∧x<256)(hrdd:Rd w ad (Bts data)) :
 Calls Tryz.prog 8 #[.slice a l.length cap,.slice ad data.length cd] w fun e w'=>e = .returned (.bool true)∧Below w.heap.size w w':=by
 have HA:=zD fun W=>awake14_any W;have HFw:=zD fun(W:World) (hW:Below w.heap.size w W)=>fewC14_any l a cap W (hrd.step hW);obtain⟨fw,hfw⟩:∃x,S14.fewC l=x:=⟨_,rfl⟩;rw[hfw]at HFw;obtain⟨b1,eb1⟩:∃b,w.heap.size=b:=⟨_,rfl⟩;obtain⟨a1,ea1⟩:∃W,w.alloc (.cells #[.slice a l.length cap] 22)=W:=⟨_,rfl⟩;have F1:Blk a1 b1 [.slice a l.length cap] 22:=by rw[←ea1,←eb1];exact Blk.new w _ _
 have ba1:Below w.heap.size w a1:=by rw[←ea1];exact(zF _ _).alloc (zE _) _
 have c1:=F1.cell 0;simp only[lgz]at c1;cases fw with
 | false=>
   clear hfw hrd hrdd hl hd;obtain⟨n,hn⟩:∃n,l.length=n:=⟨_,rfl⟩;obtain⟨m,hm⟩:∃n,data.length=n:=⟨_,rfl⟩;rw[hn]at HFw ea1 F1 c1⊢;rw[hm];clear hn hm;go_enter Tryz.func8,Tryz.ntmps8;go_wp2_with (first|(rw[ea1,eb1])|(rw[ea1])|fail);refine(HFw.out _ ba1).mono ?_;rintro e w2 ⟨rfl,hb2⟩;have B2:=zA ba1 hb2;go_wp2_with fail;refine(HA.out _).mono ?_;rintro e w3 ⟨rfl,hb3⟩;have B3:=zA B2 hb3;go_wp2;go_returns;exact⟨rfl,B3⟩
 | true=>
   have hl40:=(S14.fewC_iff.1 hfw).1;have HCk:=zD fun(W:World) (hW:Below w.heap.size w W)=>rcheck14_any l a cap W (by omega) (hrd.step hW);obtain⟨ck,hck⟩:∃x,S14.check l=x:=⟨_,rfl⟩;rw[hck]at HCk;by_cases h0:ck=0
   ·subst h0;by_cases h24:data.length≤24
    ·have hg0:GoodN (S14.opened (S14.newN l)) 0:=(GoodN.new hck).open_;have HNw:=zD fun(W:World) (hW:Below w.heap.size w W)=>new_all hck a cap W (hrd.step hW)
     have HFd:=zD fun(E:Nat→Prop) (VS:List Value) (W:World) (hW:Below w.heap.size w W) (hV:NetE E (S14.opened (S14.newN l)) VS W) (hB:Blk W b1 [.slice a l.length cap] 22)=>
      feed14_all (C:=l) (shownR l b1 W.heap.size hB.lt a cap) [] (fun _=>False) (S14.opened (S14.newN l)) 0 (by decide) data ⟨hg0,rfl⟩ rfl VS ad cd W (hV.mono (fun _ _ h=>h.elim)) ⟨fun _ h=>h,hB⟩ (zE _)
       (enters_of Tryz.func31 (by kernel_rfl) rfl) hd h24 (hrdd.step hW) (fun _ _ _ h=>h)
     obtain⟨n,hn⟩:∃n,l.length=n:=⟨_,rfl⟩;obtain⟨m,hm⟩:∃n,data.length=n:=⟨_,rfl⟩;rw[hn]at HFw HCk HNw ea1 F1 c1⊢;simp only[hn,hm]at HFd;rw[hm]at h24⊢;have hmz:¬(24:Int)<m:=by omega
     clear hrd hrdd hd hfw hck hl hl40 hn hm h24;go_enter Tryz.func8,Tryz.ntmps8;go_wp2_with (first|(rw[ea1,eb1])|(rw[ea1])|fail);refine(HFw.out _ ba1).mono ?_;rintro e w2 ⟨rfl,hb2⟩;have B2:=zA ba1 hb2;have F2:=F1.step hb2;have c2:=F2.cell 0;simp only[lgz]at c2;go_wp2_with fail;refine(HCk.out _ B2).mono ?_;rintro e w3 ⟨rfl,hb3⟩;have B3:=zA B2 hb3;have F3:=F2.step hb3;have c3:=F3.cell 0;simp only[lgz]at c3;clear c1 c2 F1 F2 hb2 B2 ba1;go_wp2_with fail;refine(HNw.out _ B3).mono ?_;rintro e w4 ⟨V4,rfl,N4,hb4⟩;have B4:=zA B3 hb4;have F4:=F3.step hb4;have V4l:=zD N4.len;have V4o:=zD N4.one;obtain⟨b5,eb5⟩:∃b,w4.heap.size=b:=⟨_,rfl⟩;obtain⟨a5,ea5⟩:∃W,w4.alloc (.cells #[.slice none 0 0,.slice none 0 0,.slice none 0 0,.int .i64 0] 26)=W:=⟨_,rfl⟩;have F5:Blk a5 b5 [.slice none 0 0,.slice none 0 0,.slice none 0 0,.int .i64 0] 26:=by rw[←ea5,←eb5];exact Blk.new w4 _ _
     have ba5:Below w4.heap.size w4 a5:=by rw[←ea5];exact(zF _ _).alloc (zE _) _
     have hb5w:w.heap.size≤b5:=by rw[←eb5];exact B4.size
     have hb15:b1<b5:=by rw[←eb5];exact F4.lt
     have B5:=zA B4 ba5;have F45:=F4.step ba5;have N5:=N4.grow (E':=fun b=>b=b5) ((KepX.below ba5)) (fun k hk h=>by omega);clear N4 hb4 B4 c3 F3 B3 hb3;go_wp2_with (first
      | (rw[ea5,eb5])
      | (rw[ea5])
      | (refine yD 26 (.tmp 5) (.tmp 25) (by rfl) (by rfl) b5 (by rfl) V4 (by rfl) _ 26 F5 (info_N.trans (yN some V4l.out.symm)) V4l.out.symm V4o.out ?_;intro s5 E5 g5 z5;clear z5)
      | (refine yE 26 (.tmp 5) (by rfl) (by rfl) b5 (by rfl) V4 26 E5 _ Tryz.underlying26 rfl (info_N.trans (yN some V4l.out.symm)) ?_))
     have BS5:=B5.trans (yC g5 hb5w B5.size);have FS5:=F45.keptRow g5 (by intro e;have:=zJ e;omega);have NS5:=N5.kep (KepX.row g5 (fun b e=>.inl (zJ e).symm));refine(HFd.out _ V4 _ BS5 NS5 FS5).mono ?_;rintro e w6 ⟨V6,N6,FP6,rfl,hg6,hp6,hN6,_,hk6,_⟩;have hb6:Below s5.heap.size s5 w6:=hk6.toBelow (zF _ _) (fun _ h=>h.elim);have B6:=zA BS5 hb6;have E6:=E5.step hb6;have V6l:=zD hN6.len;have V6o:=zD hN6.one;have v6:=hN6.part;rw[hp6]at v6;have Hv6:=zD v6;clear N5 NS5 hN6 hk6 hb6 BS5 FS5 E5 g5 F45 B5 ba5 v6 hg6;go_wp2_with (first
      | (refine yD 26 (.tmp 5) (.tmp 34) (by rfl) (by rfl) b5 (by rfl) V6 (by rfl) _ 26 E6 (info_N.trans (yN some V6l.out.symm)) (V4l.out.trans V6l.out.symm) V6o.out ?_;intro s7 E7 g7 z7;have c7:s7.cell? ⟨b5,3,none⟩=some (.int .i64 1):=(E7.cell 3).trans Hv6.out))
     have B7:=B6.trans (yC g7 hb5w B6.size);refine(HA.out _).mono ?_;rintro e w8 ⟨rfl,hb8⟩;have B8:=zA B7 hb8;go_wp2;go_returns;exact⟨rfl,B8⟩
    ·obtain⟨n,hn⟩:∃n,l.length=n:=⟨_,rfl⟩;obtain⟨m,hm⟩:∃n,data.length=n:=⟨_,rfl⟩;rw[hn]at HFw HCk ea1 F1 c1⊢;rw[hm]at h24⊢;have hmz:(24:Int)<m:=by omega
     clear hrd hrdd hd hfw hck hl hl40 hn hm h24;go_enter Tryz.func8,Tryz.ntmps8;go_wp2_with (first|(rw[ea1,eb1])|(rw[ea1])|fail);refine(HFw.out _ ba1).mono ?_;rintro e w2 ⟨rfl,hb2⟩;have B2:=zA ba1 hb2;have c2:=(F1.step hb2).cell 0;simp only[lgz]at c2;go_wp2_with fail;refine(HCk.out _ B2).mono ?_;rintro e w3 ⟨rfl,hb3⟩;have B3:=zA B2 hb3;go_wp2_with fail;refine(HA.out _).mono ?_;rintro e w4 ⟨rfl,hb4⟩;have B4:=zA B3 hb4;go_wp2;go_returns;exact⟨rfl,B4⟩
   ·have hck0:((ck:Int) != 0)=true:=by simpa using h0
    obtain⟨n,hn⟩:∃n,l.length=n:=⟨_,rfl⟩;obtain⟨m,hm⟩:∃n,data.length=n:=⟨_,rfl⟩;rw[hn]at HFw HCk ea1 F1 c1⊢;rw[hm];clear hrd hrdd hd hfw hck hl hl40 hn hm h0;go_enter Tryz.func8,Tryz.ntmps8;go_wp2_with (first|(rw[ea1,eb1])|(rw[ea1])|fail);refine(HFw.out _ ba1).mono ?_;rintro e w2 ⟨rfl,hb2⟩;have B2:=zA ba1 hb2;have c2:=(F1.step hb2).cell 0;simp only[lgz]at c2;go_wp2_with fail;refine(HCk.out _ B2).mono ?_;rintro e w3 ⟨rfl,hb3⟩;have B3:=zA B2 hb3;go_wp2_with fail;refine(HA.out _).mono ?_;rintro e w4 ⟨rfl,hb4⟩;have B4:=zA B3 hb4;go_wp2;go_returns;exact⟨rfl,B4⟩
end Go.Proofs.YtieeogndnhighaaGreat
