/- A part of the proof of L14n. No condition. -/
import Derived.Lib.MinMax
import Derived.Test.YtieeogndnhighaaGreatZL14nac
import Derived.Test.YtieeogndnhighaaGreatZL14nag
import Derived.Test.YtieeogndnhighaaGreatZL14nai
import Derived.Test.YtieeogndnhighaaGreatZL14naj
import Derived.Test.YtieeogndnhighaaGreatZL14nbb
set_option linter.all false
set_option maxRecDepth 100000
set_option maxHeartbeats 2000000
namespace Go.Proofs.YtieeogndnhighaaGreat
open Go.RowKit
def zT(c:S14.C):List Value:=[.int .i64 c.kind,.int .i64 c.bits,.int .i64 c.limit,.int .i64 c.rate,.int .i64 c.first,.int .i64 c.second]
def CV(c:S14.C):Value:=.agg (zT c).toArray
structure Six(w:World)(b:Nat)(c0 c1 c2 c3 c4 c5:Value):Prop where
 e0:w.cell? ⟨b,0,none⟩=some c0
 e1:w.cell? ⟨b,1,none⟩=some c1
 e2:w.cell? ⟨b,2,none⟩=some c2
 e3:w.cell? ⟨b,3,none⟩=some c3
 e4:w.cell? ⟨b,4,none⟩=some c4
 e5:w.cell? ⟨b,5,none⟩=some c5
theorem Blk.six{w:World}{b:Nat}{t:TypeId}{c0 c1 c2 c3 c4 c5:Value}(h:Blk w b [c0,c1,c2,c3,c4,c5] t):Six w b c0 c1 c2 c3 c4 c5:=
 ⟨h.cell 0,h.cell 1,h.cell 2,h.cell 3,h.cell 4,h.cell 5⟩
theorem zaN(n lo hi:Int)(w:World):Calls Tryz.prog 50 #[.int .i64 n,.int .i64 lo,.int .i64 hi] w fun e w'=>e = .returned (.bool (S14.has n lo hi))∧Below w.heap.size w w':=by
 unfold S14.has;by_cases h1:lo≤n
 ·have d1:decide (lo≤n)=true:=zQ h1;go_enter Tryz.func50,Tryz.ntmps50;go_wp2;go_returns;exact⟨yZ (by simp[h1]),by go_grown⟩
 ·have d1:decide (lo≤n)=false:=zL h1;go_enter Tryz.func50,Tryz.ntmps50;go_wp2;go_returns;exact⟨yZ (by simp[h1]),by go_grown⟩
theorem zaY(n lo hi:Int)(w:World):Calls Tryz.prog 51 #[.int .i64 n,.int .i64 lo,.int .i64 hi] w fun e w'=>e = .returned (.bool (S14.has n lo hi))∧Below w.heap.size w w':=by
 unfold S14.has;by_cases h1:lo≤n
 ·have d1:decide (lo≤n)=true:=zQ h1;go_enter Tryz.func51,Tryz.ntmps51;go_wp2;go_returns;exact⟨yZ (by simp[h1]),by go_grown⟩
 ·have d1:decide (lo≤n)=false:=zL h1;go_enter Tryz.func51,Tryz.ntmps51;go_wp2;go_returns;exact⟨yZ (by simp[h1]),by go_grown⟩
theorem zeM(w:World)(cs:List Value)(t:TypeId):∃wA,w.alloc (Obj.cells cs.toArray t)=wA∧Blk wA w.heap.size cs t∧Below w.heap.size w wA:=⟨_,rfl,Blk.new w cs t,(zG _ _).alloc (zE _) _⟩
theorem zdU(c:S14.C)(w:World):Calls Tryz.prog 189 #[CV c] w fun e w'=>e = .returned (.bool (S14.ctx c))∧Below w.heap.size w w':=by
 have HB:=zD fun n lo hi W=>zaN n lo hi W;obtain⟨kind,bits,limit,rate,first,second⟩:=c;obtain⟨R,hR⟩:∃R,S14.ctx ⟨kind,bits,limit,rate,first,second⟩=R:=⟨_,rfl⟩;rw[hR];unfold CV zT;by_cases z_rate:rate=0
 case neg=>
  have hf:R=false:=by rw[←hR];simp[S14.okConst,S14.okDirect,S14.okMatch,S14.okAverage,S14.okMix,S14.okRefine,S14.ctx,S14.only,z_rate]
  subst hf;clear hR;go_enter Tryz.func189,Tryz.ntmps189;go_wp2;go_returns;exact⟨rfl,by go_grown⟩
 subst z_rate;by_cases z_first:first=0
 case neg=>
  have hf:R=false:=by rw[←hR];simp[S14.okConst,S14.okDirect,S14.okMatch,S14.okAverage,S14.okMix,S14.okRefine,S14.ctx,S14.only,z_first]
  subst hf;clear hR;go_enter Tryz.func189,Tryz.ntmps189;go_wp2;go_returns;exact⟨rfl,by go_grown⟩
 subst z_first;by_cases z_second:second=0
 case neg=>
  have hf:R=false:=by rw[←hR];simp[S14.okConst,S14.okDirect,S14.okMatch,S14.okAverage,S14.okMix,S14.okRefine,S14.ctx,S14.only,z_second]
  subst hf;clear hR;go_enter Tryz.func189,Tryz.ntmps189;go_wp2;go_returns;exact⟨rfl,by go_grown⟩
 subst z_second;have hR':R=decide (bits≤16):=by rw[←hR];simp[S14.ctx,S14.only]
 subst hR';clear hR;go_enter Tryz.func189,Tryz.ntmps189;go_wp2;go_returns;exact⟨rfl,by go_grown⟩
theorem zqS(c:S14.C)(k:Int)(w:World):Calls Tryz.prog 170 #[CV c,.int .i64 k] w fun e w'=>e = .returned (.bool (S14.okConst c))∧Below w.heap.size w w':=by
 have HB:=zD fun n lo hi W=>zaN n lo hi W;obtain⟨kind,bits,limit,rate,first,second⟩:=c;obtain⟨R,hR⟩:∃R,S14.okConst ⟨kind,bits,limit,rate,first,second⟩=R:=⟨_,rfl⟩;rw[hR];unfold CV zT;by_cases z_bits:bits=0
 case neg=>
  have hf:R=false:=by rw[←hR];simp[S14.okConst,S14.okDirect,S14.okMatch,S14.okAverage,S14.okMix,S14.okRefine,S14.ctx,S14.only,z_bits]
  subst hf;clear hR;go_enter Tryz.func170,Tryz.ntmps170;go_wp2;go_returns;exact⟨rfl,by go_grown⟩
 subst z_bits;by_cases z_rate:rate=0
 case neg=>
  have hf:R=false:=by rw[←hR];simp[S14.okConst,S14.okDirect,S14.okMatch,S14.okAverage,S14.okMix,S14.okRefine,S14.ctx,S14.only,z_rate]
  subst hf;clear hR;go_enter Tryz.func170,Tryz.ntmps170;go_wp2;go_returns;exact⟨rfl,by go_grown⟩
 subst z_rate;by_cases z_first:first=0
 case neg=>
  have hf:R=false:=by rw[←hR];simp[S14.okConst,S14.okDirect,S14.okMatch,S14.okAverage,S14.okMix,S14.okRefine,S14.ctx,S14.only,z_first]
  subst hf;clear hR;go_enter Tryz.func170,Tryz.ntmps170;go_wp2;go_returns;exact⟨rfl,by go_grown⟩
 subst z_first;by_cases z_second:second=0
 case neg=>
  have hf:R=false:=by rw[←hR];simp[S14.okConst,S14.okDirect,S14.okMatch,S14.okAverage,S14.okMix,S14.okRefine,S14.ctx,S14.only,z_second]
  subst hf;clear hR;go_enter Tryz.func170,Tryz.ntmps170;go_wp2;go_returns;exact⟨rfl,by go_grown⟩
 subst z_second;obtain⟨q0,hq0⟩:∃q,S14.has limit 1 4095=q:=⟨_,rfl⟩;have hR':R=(q0):=by rw[←hR,←hq0];simp[S14.okConst,S14.okDirect,S14.okMatch,S14.okAverage,S14.okMix,S14.okRefine,S14.ctx,S14.only,Bool.and_assoc]
 clear hR;obtain⟨wA,hwA,A,hA⟩:=zeM w [.int .i64 kind,.int .i64 0,.int .i64 limit,.int .i64 0,.int .i64 0,.int .i64 0] 115;obtain⟨x0,x1,x2,x3,x4,x5⟩:=A.six;go_enter Tryz.func170,Tryz.ntmps170;go_wp2_with (rw[hwA]);refine(HB.out _ _ _ _).mono ?_;rw[hq0];rintro e w0 ⟨rfl,hb0⟩;have hB0:=zA hA hb0;replace A:=A.step hb0;clear x0 x1 x2 x3 x4 x5;obtain⟨x0,x1,x2,x3,x4,x5⟩:=A.six;cases q0 with
 | false=>
   obtain rfl:R=false:=by rw[hR'];try simp
   clear hR';go_wp2;go_returns;exact⟨rfl,hB0⟩
 | true=>
   obtain rfl:R=true:=by rw[hR'];try rfl
   clear hR';go_wp2;go_returns;exact⟨rfl,hB0⟩
theorem direct14_ok(c:S14.C)(k:Int)(w:World):Calls Tryz.prog 183 #[CV c,.int .i64 k] w fun e w'=>e = .returned (.bool (S14.okDirect c))∧Below w.heap.size w w':=by
 have HB:=zD fun n lo hi W=>zaN n lo hi W;have HC:=zD fun W=>zdU c W;obtain⟨kind,bits,limit,rate,first,second⟩:=c;obtain⟨R,hR⟩:∃R,S14.okDirect ⟨kind,bits,limit,rate,first,second⟩=R:=⟨_,rfl⟩;rw[hR];unfold CV zT at HC⊢;obtain⟨q0,hq0⟩:∃q,S14.ctx ⟨kind,bits,limit,rate,first,second⟩=q:=⟨_,rfl⟩;obtain⟨q1,hq1⟩:∃q,decide (0≤bits)=q:=⟨_,rfl⟩;obtain⟨q2,hq2⟩:∃q,S14.has limit 1 1023=q:=⟨_,rfl⟩;have hR':R=(q0&&q1&&q2):=by rw[←hR,←hq0,←hq1,←hq2];simp[S14.okConst,S14.okDirect,S14.okMatch,S14.okAverage,S14.okMix,S14.okRefine,S14.ctx,S14.only,S14.has];by_cases hz:bits≤16<;>by_cases hy:0≤bits<;>simp[hz,hy]
 clear hR;obtain⟨wA,hwA,A,hA⟩:=zeM w [.int .i64 kind,.int .i64 bits,.int .i64 limit,.int .i64 rate,.int .i64 first,.int .i64 second] 116;obtain⟨x0,x1,x2,x3,x4,x5⟩:=A.six;go_enter Tryz.func183,Tryz.ntmps183;go_wp2_with (rw[hwA]);refine(HC.out _).mono ?_;rw[hq0];rintro e w0 ⟨rfl,hb0⟩;have hB0:=zA hA hb0;replace A:=A.step hb0;clear x0 x1 x2 x3 x4 x5;obtain⟨x0,x1,x2,x3,x4,x5⟩:=A.six;cases q0 with
 | false=>
   obtain rfl:R=false:=by rw[hR'];try simp
   clear hR';go_wp2;go_returns;exact⟨rfl,hB0⟩
 | true=>
   cases q1 with
   | false=>
     obtain rfl:R=false:=by rw[hR'];try simp
     clear hR';go_wp2;go_returns;exact⟨rfl,hB0⟩
   | true=>
     go_wp2_with fail;refine(HB.out _ _ _ _).mono ?_;rw[hq2];rintro e w2 ⟨rfl,hb2⟩;have hB2:=zA hB0 hb2;replace A:=A.step hb2;clear x0 x1 x2 x3 x4 x5;obtain⟨x0,x1,x2,x3,x4,x5⟩:=A.six;cases q2 with
     | false=>
       obtain rfl:R=false:=by rw[hR'];try simp
       clear hR';go_wp2;go_returns;exact⟨rfl,hB2⟩
     | true=>
       obtain rfl:R=true:=by rw[hR'];try rfl
       clear hR';go_wp2;go_returns;exact⟨rfl,hB2⟩
theorem history14_ok(c:S14.C)(k:Int)(w:World):Calls Tryz.prog 212 #[CV c,.int .i64 k] w fun e w'=>e = .returned (.bool (S14.okDirect c))∧Below w.heap.size w w':=by
 have HB:=zD fun n lo hi W=>zaN n lo hi W;have HC:=zD fun W=>zdU c W;obtain⟨kind,bits,limit,rate,first,second⟩:=c;obtain⟨R,hR⟩:∃R,S14.okDirect ⟨kind,bits,limit,rate,first,second⟩=R:=⟨_,rfl⟩;rw[hR];unfold CV zT at HC⊢;obtain⟨q0,hq0⟩:∃q,S14.ctx ⟨kind,bits,limit,rate,first,second⟩=q:=⟨_,rfl⟩;obtain⟨q1,hq1⟩:∃q,decide (0≤bits)=q:=⟨_,rfl⟩;obtain⟨q2,hq2⟩:∃q,S14.has limit 1 1023=q:=⟨_,rfl⟩;have hR':R=(q0&&q1&&q2):=by rw[←hR,←hq0,←hq1,←hq2];simp[S14.okConst,S14.okDirect,S14.okMatch,S14.okAverage,S14.okMix,S14.okRefine,S14.ctx,S14.only,S14.has];by_cases hz:bits≤16<;>by_cases hy:0≤bits<;>simp[hz,hy]
 clear hR;obtain⟨wA,hwA,A,hA⟩:=zeM w [.int .i64 kind,.int .i64 bits,.int .i64 limit,.int .i64 rate,.int .i64 first,.int .i64 second] 117;obtain⟨x0,x1,x2,x3,x4,x5⟩:=A.six;go_enter Tryz.func212,Tryz.ntmps212;go_wp2_with (rw[hwA]);refine(HC.out _).mono ?_;rw[hq0];rintro e w0 ⟨rfl,hb0⟩;have hB0:=zA hA hb0;replace A:=A.step hb0;clear x0 x1 x2 x3 x4 x5;obtain⟨x0,x1,x2,x3,x4,x5⟩:=A.six;cases q0 with
 | false=>
   obtain rfl:R=false:=by rw[hR'];try simp
   clear hR';go_wp2;go_returns;exact⟨rfl,hB0⟩
 | true=>
   cases q1 with
   | false=>
     obtain rfl:R=false:=by rw[hR'];try simp
     clear hR';go_wp2;go_returns;exact⟨rfl,hB0⟩
   | true=>
     go_wp2_with fail;refine(HB.out _ _ _ _).mono ?_;rw[hq2];rintro e w2 ⟨rfl,hb2⟩;have hB2:=zA hB0 hb2;replace A:=A.step hb2;clear x0 x1 x2 x3 x4 x5;obtain⟨x0,x1,x2,x3,x4,x5⟩:=A.six;cases q2 with
     | false=>
       obtain rfl:R=false:=by rw[hR'];try simp
       clear hR';go_wp2;go_returns;exact⟨rfl,hB2⟩
     | true=>
       obtain rfl:R=true:=by rw[hR'];try rfl
       clear hR';go_wp2;go_returns;exact⟨rfl,hB2⟩
theorem matched14_ok(c:S14.C)(k:Int)(w:World):Calls Tryz.prog 228 #[CV c,.int .i64 k] w fun e w'=>e = .returned (.bool (S14.okMatch c))∧Below w.heap.size w w':=by
 have HB:=zD fun n lo hi W=>zaN n lo hi W;have HC:=zD fun W=>zdU c W;obtain⟨kind,bits,limit,rate,first,second⟩:=c;obtain⟨R,hR⟩:∃R,S14.okMatch ⟨kind,bits,limit,rate,first,second⟩=R:=⟨_,rfl⟩;rw[hR];unfold CV zT at HC⊢;obtain⟨q0,hq0⟩:∃q,S14.ctx ⟨kind,bits,limit,rate,first,second⟩=q:=⟨_,rfl⟩;obtain⟨q1,hq1⟩:∃q,decide (1≤bits)=q:=⟨_,rfl⟩;obtain⟨q2,hq2⟩:∃q,S14.has limit 1 32=q:=⟨_,rfl⟩;have hR':R=(q0&&q1&&q2):=by rw[←hR,←hq0,←hq1,←hq2];simp[S14.okConst,S14.okDirect,S14.okMatch,S14.okAverage,S14.okMix,S14.okRefine,S14.ctx,S14.only,S14.has];by_cases hz:bits≤16<;>by_cases hy:1≤bits<;>simp[hz,hy]
 clear hR;obtain⟨wA,hwA,A,hA⟩:=zeM w [.int .i64 kind,.int .i64 bits,.int .i64 limit,.int .i64 rate,.int .i64 first,.int .i64 second] 118;obtain⟨x0,x1,x2,x3,x4,x5⟩:=A.six;go_enter Tryz.func228,Tryz.ntmps228;go_wp2_with (rw[hwA]);refine(HC.out _).mono ?_;rw[hq0];rintro e w0 ⟨rfl,hb0⟩;have hB0:=zA hA hb0;replace A:=A.step hb0;clear x0 x1 x2 x3 x4 x5;obtain⟨x0,x1,x2,x3,x4,x5⟩:=A.six;cases q0 with
 | false=>
   obtain rfl:R=false:=by rw[hR'];try simp
   clear hR';go_wp2;go_returns;exact⟨rfl,hB0⟩
 | true=>
   cases q1 with
   | false=>
     obtain rfl:R=false:=by rw[hR'];try simp
     clear hR';go_wp2;go_returns;exact⟨rfl,hB0⟩
   | true=>
     go_wp2_with fail;refine(HB.out _ _ _ _).mono ?_;rw[hq2];rintro e w2 ⟨rfl,hb2⟩;have hB2:=zA hB0 hb2;replace A:=A.step hb2;clear x0 x1 x2 x3 x4 x5;obtain⟨x0,x1,x2,x3,x4,x5⟩:=A.six;cases q2 with
     | false=>
       obtain rfl:R=false:=by rw[hR'];try simp
       clear hR';go_wp2;go_returns;exact⟨rfl,hB2⟩
     | true=>
       obtain rfl:R=true:=by rw[hR'];try rfl
       clear hR';go_wp2;go_returns;exact⟨rfl,hB2⟩
theorem average14_ok(c:S14.C)(k:Int)(w:World)(hk:0≤k∧k≤1000):Calls Tryz.prog 255 #[CV c,.int .i64 k] w fun e w'=>e = .returned (.bool (S14.okAverage c k))∧Below w.heap.size w w':=by
 have HB:=zD fun n lo hi W=>zaN n lo hi W;obtain⟨kind,bits,limit,rate,first,second⟩:=c;obtain⟨R,hR⟩:∃R,S14.okAverage ⟨kind,bits,limit,rate,first,second⟩ k=R:=⟨_,rfl⟩;rw[hR];unfold CV zT;by_cases z_bits:bits=0
 case neg=>
  have hf:R=false:=by rw[←hR];simp[S14.okConst,S14.okDirect,S14.okMatch,S14.okAverage,S14.okMix,S14.okRefine,S14.ctx,S14.only,z_bits]
  subst hf;clear hR;go_enter Tryz.func255,Tryz.ntmps255;go_wp2;go_returns;exact⟨rfl,by go_grown⟩
 subst z_bits;by_cases z_rate:rate=0
 case neg=>
  have hf:R=false:=by rw[←hR];simp[S14.okConst,S14.okDirect,S14.okMatch,S14.okAverage,S14.okMix,S14.okRefine,S14.ctx,S14.only,z_rate]
  subst hf;clear hR;go_enter Tryz.func255,Tryz.ntmps255;go_wp2;go_returns;exact⟨rfl,by go_grown⟩
 subst z_rate;obtain⟨q0,hq0⟩:∃q,S14.has limit 0 256=q:=⟨_,rfl⟩;obtain⟨q1,hq1⟩:∃q,S14.has first 0 (k-1)=q:=⟨_,rfl⟩;obtain⟨q2,hq2⟩:∃q,S14.has second 0 (k-1)=q:=⟨_,rfl⟩;have hR':R=(q0&&q1&&q2):=by rw[←hR,←hq0,←hq1,←hq2];simp[S14.okConst,S14.okDirect,S14.okMatch,S14.okAverage,S14.okMix,S14.okRefine,S14.ctx,S14.only,Bool.and_assoc]
 clear hR;obtain⟨wA,hwA,A,hA⟩:=zeM w [.int .i64 kind,.int .i64 0,.int .i64 limit,.int .i64 0,.int .i64 first,.int .i64 second] 119;obtain⟨x0,x1,x2,x3,x4,x5⟩:=A.six;go_enter Tryz.func255,Tryz.ntmps255;go_wp2_with (rw[hwA]);refine(HB.out _ _ _ _).mono ?_;rw[hq0];rintro e w0 ⟨rfl,hb0⟩;have hB0:=zA hA hb0;replace A:=A.step hb0;clear x0 x1 x2 x3 x4 x5;obtain⟨x0,x1,x2,x3,x4,x5⟩:=A.six;cases q0 with
 | false=>
   obtain rfl:R=false:=by rw[hR'];try simp
   clear hR';go_wp2;go_returns;exact⟨rfl,hB0⟩
 | true=>
   go_wp2_with fail;refine(HB.out _ _ _ _).mono ?_;rw[hq1];rintro e w1 ⟨rfl,hb1⟩;have hB1:=zA hB0 hb1;replace A:=A.step hb1;clear x0 x1 x2 x3 x4 x5;obtain⟨x0,x1,x2,x3,x4,x5⟩:=A.six;cases q1 with
   | false=>
     obtain rfl:R=false:=by rw[hR'];try simp
     clear hR';go_wp2;go_returns;exact⟨rfl,hB1⟩
   | true=>
     go_wp2_with fail;refine(HB.out _ _ _ _).mono ?_;rw[hq2];rintro e w2 ⟨rfl,hb2⟩;have hB2:=zA hB1 hb2;replace A:=A.step hb2;clear x0 x1 x2 x3 x4 x5;obtain⟨x0,x1,x2,x3,x4,x5⟩:=A.six;cases q2 with
     | false=>
       obtain rfl:R=false:=by rw[hR'];try simp
       clear hR';go_wp2;go_returns;exact⟨rfl,hB2⟩
     | true=>
       obtain rfl:R=true:=by rw[hR'];try rfl
       clear hR';go_wp2;go_returns;exact⟨rfl,hB2⟩
theorem mixed14_ok(c:S14.C)(k:Int)(w:World)(hk:0≤k∧k≤1000):Calls Tryz.prog 262 #[CV c,.int .i64 k] w fun e w'=>e = .returned (.bool (S14.okMix c k))∧Below w.heap.size w w':=by
 have HB:=zD fun n lo hi W=>zaN n lo hi W;obtain⟨kind,bits,limit,rate,first,second⟩:=c;obtain⟨R,hR⟩:∃R,S14.okMix ⟨kind,bits,limit,rate,first,second⟩ k=R:=⟨_,rfl⟩;rw[hR];unfold CV zT;by_cases z_limit:limit=0
 case neg=>
  have hf:R=false:=by rw[←hR];simp[S14.okConst,S14.okDirect,S14.okMatch,S14.okAverage,S14.okMix,S14.okRefine,S14.ctx,S14.only,z_limit]
  subst hf;clear hR;go_enter Tryz.func262,Tryz.ntmps262;go_wp2;go_returns;exact⟨rfl,by go_grown⟩
 subst z_limit;obtain⟨q0,hq0⟩:∃q,S14.has bits 0 16=q:=⟨_,rfl⟩;obtain⟨q1,hq1⟩:∃q,S14.has rate 1 255=q:=⟨_,rfl⟩;obtain⟨q2,hq2⟩:∃q,S14.has first 0 (k-1)=q:=⟨_,rfl⟩;obtain⟨q3,hq3⟩:∃q,S14.has second first (k-1)=q:=⟨_,rfl⟩;have hR':R=(q0&&q1&&q2&&q3):=by rw[←hR,←hq0,←hq1,←hq2,←hq3];simp[S14.okConst,S14.okDirect,S14.okMatch,S14.okAverage,S14.okMix,S14.okRefine,S14.ctx,S14.only,Bool.and_assoc]
 clear hR;obtain⟨wA,hwA,A,hA⟩:=zeM w [.int .i64 kind,.int .i64 bits,.int .i64 0,.int .i64 rate,.int .i64 first,.int .i64 second] 120;obtain⟨x0,x1,x2,x3,x4,x5⟩:=A.six;go_enter Tryz.func262,Tryz.ntmps262;go_wp2_with (rw[hwA]);refine(HB.out _ _ _ _).mono ?_;rw[hq0];rintro e w0 ⟨rfl,hb0⟩;have hB0:=zA hA hb0;replace A:=A.step hb0;clear x0 x1 x2 x3 x4 x5;obtain⟨x0,x1,x2,x3,x4,x5⟩:=A.six;cases q0 with
 | false=>
   obtain rfl:R=false:=by rw[hR'];try simp
   clear hR';go_wp2;go_returns;exact⟨rfl,hB0⟩
 | true=>
   go_wp2_with fail;refine(HB.out _ _ _ _).mono ?_;rw[hq1];rintro e w1 ⟨rfl,hb1⟩;have hB1:=zA hB0 hb1;replace A:=A.step hb1;clear x0 x1 x2 x3 x4 x5;obtain⟨x0,x1,x2,x3,x4,x5⟩:=A.six;cases q1 with
   | false=>
     obtain rfl:R=false:=by rw[hR'];try simp
     clear hR';go_wp2;go_returns;exact⟨rfl,hB1⟩
   | true=>
     go_wp2_with fail;refine(HB.out _ _ _ _).mono ?_;rw[hq2];rintro e w2 ⟨rfl,hb2⟩;have hB2:=zA hB1 hb2;replace A:=A.step hb2;clear x0 x1 x2 x3 x4 x5;obtain⟨x0,x1,x2,x3,x4,x5⟩:=A.six;cases q2 with
     | false=>
       obtain rfl:R=false:=by rw[hR'];try simp
       clear hR';go_wp2;go_returns;exact⟨rfl,hB2⟩
     | true=>
       go_wp2_with fail;refine(HB.out _ _ _ _).mono ?_;rw[hq3];rintro e w3 ⟨rfl,hb3⟩;have hB3:=zA hB2 hb3;replace A:=A.step hb3;clear x0 x1 x2 x3 x4 x5;obtain⟨x0,x1,x2,x3,x4,x5⟩:=A.six;cases q3 with
       | false=>
         obtain rfl:R=false:=by rw[hR'];try simp
         clear hR';go_wp2;go_returns;exact⟨rfl,hB3⟩
       | true=>
         obtain rfl:R=true:=by rw[hR'];try rfl
         clear hR';go_wp2;go_returns;exact⟨rfl,hB3⟩
theorem refined14_ok(c:S14.C)(k:Int)(w:World)(hk:0≤k∧k≤1000):Calls Tryz.prog 283 #[CV c,.int .i64 k] w fun e w'=>e = .returned (.bool (S14.okRefine c k))∧Below w.heap.size w w':=by
 have HB:=zD fun n lo hi W=>zaN n lo hi W;obtain⟨kind,bits,limit,rate,first,second⟩:=c;obtain⟨R,hR⟩:∃R,S14.okRefine ⟨kind,bits,limit,rate,first,second⟩ k=R:=⟨_,rfl⟩;rw[hR];unfold CV zT;by_cases z_limit:limit=0
 case neg=>
  have hf:R=false:=by rw[←hR];simp[S14.okConst,S14.okDirect,S14.okMatch,S14.okAverage,S14.okMix,S14.okRefine,S14.ctx,S14.only,z_limit]
  subst hf;clear hR;go_enter Tryz.func283,Tryz.ntmps283;go_wp2;go_returns;exact⟨rfl,by go_grown⟩
 subst z_limit;by_cases z_second:second=0
 case neg=>
  have hf:R=false:=by rw[←hR];simp[S14.okConst,S14.okDirect,S14.okMatch,S14.okAverage,S14.okMix,S14.okRefine,S14.ctx,S14.only,z_second]
  subst hf;clear hR;go_enter Tryz.func283,Tryz.ntmps283;go_wp2;go_returns;exact⟨rfl,by go_grown⟩
 subst z_second;obtain⟨q0,hq0⟩:∃q,S14.has bits 0 16=q:=⟨_,rfl⟩;obtain⟨q1,hq1⟩:∃q,S14.has rate 1 255=q:=⟨_,rfl⟩;obtain⟨q2,hq2⟩:∃q,S14.has first 0 (k-1)=q:=⟨_,rfl⟩;have hR':R=(q0&&q1&&q2):=by rw[←hR,←hq0,←hq1,←hq2];simp[S14.okConst,S14.okDirect,S14.okMatch,S14.okAverage,S14.okMix,S14.okRefine,S14.ctx,S14.only,Bool.and_assoc]
 clear hR;obtain⟨wA,hwA,A,hA⟩:=zeM w [.int .i64 kind,.int .i64 bits,.int .i64 0,.int .i64 rate,.int .i64 first,.int .i64 0] 121;obtain⟨x0,x1,x2,x3,x4,x5⟩:=A.six;go_enter Tryz.func283,Tryz.ntmps283;go_wp2_with (rw[hwA]);refine(HB.out _ _ _ _).mono ?_;rw[hq0];rintro e w0 ⟨rfl,hb0⟩;have hB0:=zA hA hb0;replace A:=A.step hb0;clear x0 x1 x2 x3 x4 x5;obtain⟨x0,x1,x2,x3,x4,x5⟩:=A.six;cases q0 with
 | false=>
   obtain rfl:R=false:=by rw[hR'];try simp
   clear hR';go_wp2;go_returns;exact⟨rfl,hB0⟩
 | true=>
   go_wp2_with fail;refine(HB.out _ _ _ _).mono ?_;rw[hq1];rintro e w1 ⟨rfl,hb1⟩;have hB1:=zA hB0 hb1;replace A:=A.step hb1;clear x0 x1 x2 x3 x4 x5;obtain⟨x0,x1,x2,x3,x4,x5⟩:=A.six;cases q1 with
   | false=>
     obtain rfl:R=false:=by rw[hR'];try simp
     clear hR';go_wp2;go_returns;exact⟨rfl,hB1⟩
   | true=>
     go_wp2_with fail;refine(HB.out _ _ _ _).mono ?_;rw[hq2];rintro e w2 ⟨rfl,hb2⟩;have hB2:=zA hB1 hb2;replace A:=A.step hb2;clear x0 x1 x2 x3 x4 x5;obtain⟨x0,x1,x2,x3,x4,x5⟩:=A.six;cases q2 with
     | false=>
       obtain rfl:R=false:=by rw[hR'];try simp
       clear hR';go_wp2;go_returns;exact⟨rfl,hB2⟩
     | true=>
       obtain rfl:R=true:=by rw[hR'];try rfl
       clear hR';go_wp2;go_returns;exact⟨rfl,hB2⟩
theorem rcorrect14_0(bits limit rate first second k:Int)(w:World)(hk:0≤k∧k≤1000):Calls Tryz.prog 61 #[.agg #[.int .i64 0,.int .i64 bits,.int .i64 limit,.int .i64 rate,.int .i64 first,.int .i64 second],.int .i64 k] w fun e w'=>e = .returned (.bool (S14.okConst ⟨0,bits,limit,rate,first,second⟩))∧Below w.heap.size w w':=by
 have HB:=zD fun n lo hi W=>zaY n lo hi W;obtain⟨R,hR⟩:∃R,S14.okConst ⟨0,bits,limit,rate,first,second⟩=R:=⟨_,rfl⟩;rw[hR];by_cases z_bits:bits=0
 case neg=>
  have hf:R=false:=by rw[←hR];simp[S14.okConst,S14.ctx,S14.only,z_bits]
  subst hf;clear hR;go_enter Tryz.func61,Tryz.ntmps61;go_wp2;go_returns;exact⟨rfl,by go_grown⟩
 subst z_bits;by_cases z_rate:rate=0
 case neg=>
  have hf:R=false:=by rw[←hR];simp[S14.okConst,S14.ctx,S14.only,z_rate]
  subst hf;clear hR;go_enter Tryz.func61,Tryz.ntmps61;go_wp2;go_returns;exact⟨rfl,by go_grown⟩
 subst z_rate;by_cases z_first:first=0
 case neg=>
  have hf:R=false:=by rw[←hR];simp[S14.okConst,S14.ctx,S14.only,z_first]
  subst hf;clear hR;go_enter Tryz.func61,Tryz.ntmps61;go_wp2;go_returns;exact⟨rfl,by go_grown⟩
 subst z_first;by_cases z_second:second=0
 case neg=>
  have hf:R=false:=by rw[←hR];simp[S14.okConst,S14.ctx,S14.only,z_second]
  subst hf;clear hR;go_enter Tryz.func61,Tryz.ntmps61;go_wp2;go_returns;exact⟨rfl,by go_grown⟩
 subst z_second;obtain⟨q0,hq0⟩:∃q,S14.has limit 1 4095=q:=⟨_,rfl⟩;have hR':R=(q0):=by rw[←hR,←hq0];simp[S14.okConst,S14.ctx,S14.only,Bool.and_assoc]
 clear hR;obtain⟨wA,hwA,A,hA⟩:=zeM w [.int .i64 0,.int .i64 0,.int .i64 limit,.int .i64 0,.int .i64 0,.int .i64 0] 54;obtain⟨x0,x1,x2,x3,x4,x5⟩:=A.six;go_enter Tryz.func61,Tryz.ntmps61;go_wp2_with (rw[hwA]);refine(HB.out _ _ _ _).mono ?_;rw[hq0];rintro e w0 ⟨rfl,hb0⟩;have hB0:=zA hA hb0;replace A:=A.step hb0;clear x0 x1 x2 x3 x4 x5;obtain⟨x0,x1,x2,x3,x4,x5⟩:=A.six;cases q0 with
 | false=>
   obtain rfl:R=false:=by rw[hR'];try simp
   clear hR';go_wp2;go_returns;exact⟨rfl,hB0⟩
 | true=>
   obtain rfl:R=true:=by rw[hR'];try rfl
   clear hR';go_wp2;go_returns;exact⟨rfl,hB0⟩
theorem rcorrect14_1(bits limit rate first second k:Int)(w:World)(hk:0≤k∧k≤1000):Calls Tryz.prog 61 #[.agg #[.int .i64 1,.int .i64 bits,.int .i64 limit,.int .i64 rate,.int .i64 first,.int .i64 second],.int .i64 k] w fun e w'=>e = .returned (.bool (S14.okDirect ⟨1,bits,limit,rate,first,second⟩))∧Below w.heap.size w w':=by
 have HB:=zD fun n lo hi W=>zaY n lo hi W;obtain⟨R,hR⟩:∃R,S14.okDirect ⟨1,bits,limit,rate,first,second⟩=R:=⟨_,rfl⟩;rw[hR];by_cases z_rate:rate=0
 case neg=>
  have hf:R=false:=by rw[←hR];simp[S14.okDirect,S14.ctx,S14.only,z_rate]
  subst hf;clear hR;go_enter Tryz.func61,Tryz.ntmps61;go_wp2;go_returns;exact⟨rfl,by go_grown⟩
 subst z_rate;by_cases z_first:first=0
 case neg=>
  have hf:R=false:=by rw[←hR];simp[S14.okDirect,S14.ctx,S14.only,z_first]
  subst hf;clear hR;go_enter Tryz.func61,Tryz.ntmps61;go_wp2;go_returns;exact⟨rfl,by go_grown⟩
 subst z_first;by_cases z_second:second=0
 case neg=>
  have hf:R=false:=by rw[←hR];simp[S14.okDirect,S14.ctx,S14.only,z_second]
  subst hf;clear hR;go_enter Tryz.func61,Tryz.ntmps61;go_wp2;go_returns;exact⟨rfl,by go_grown⟩
 subst z_second;obtain⟨q0,hq0⟩:∃q,S14.has bits 0 16=q:=⟨_,rfl⟩;obtain⟨q1,hq1⟩:∃q,S14.has limit 1 1023=q:=⟨_,rfl⟩;have hR':R=(q0&&q1):=by rw[←hR,←hq0,←hq1];simp[S14.okDirect,S14.ctx,S14.only,Bool.and_assoc]
 clear hR;obtain⟨wA,hwA,A,hA⟩:=zeM w [.int .i64 1,.int .i64 bits,.int .i64 limit,.int .i64 0,.int .i64 0,.int .i64 0] 54;obtain⟨x0,x1,x2,x3,x4,x5⟩:=A.six;go_enter Tryz.func61,Tryz.ntmps61;go_wp2_with (rw[hwA]);refine(HB.out _ _ _ _).mono ?_;rw[hq0];rintro e w0 ⟨rfl,hb0⟩;have hB0:=zA hA hb0;replace A:=A.step hb0;clear x0 x1 x2 x3 x4 x5;obtain⟨x0,x1,x2,x3,x4,x5⟩:=A.six;cases q0 with
 | false=>
   obtain rfl:R=false:=by rw[hR'];try simp
   clear hR';go_wp2;go_returns;exact⟨rfl,hB0⟩
 | true=>
   go_wp2_with fail;refine(HB.out _ _ _ _).mono ?_;rw[hq1];rintro e w1 ⟨rfl,hb1⟩;have hB1:=zA hB0 hb1;replace A:=A.step hb1;clear x0 x1 x2 x3 x4 x5;obtain⟨x0,x1,x2,x3,x4,x5⟩:=A.six;cases q1 with
   | false=>
     obtain rfl:R=false:=by rw[hR'];try simp
     clear hR';go_wp2;go_returns;exact⟨rfl,hB1⟩
   | true=>
     obtain rfl:R=true:=by rw[hR'];try rfl
     clear hR';go_wp2;go_returns;exact⟨rfl,hB1⟩
theorem rcorrect14_2(bits limit rate first second k:Int)(w:World)(hk:0≤k∧k≤1000):Calls Tryz.prog 61 #[.agg #[.int .i64 2,.int .i64 bits,.int .i64 limit,.int .i64 rate,.int .i64 first,.int .i64 second],.int .i64 k] w fun e w'=>e = .returned (.bool (S14.okDirect ⟨2,bits,limit,rate,first,second⟩))∧Below w.heap.size w w':=by
 have HB:=zD fun n lo hi W=>zaY n lo hi W;obtain⟨R,hR⟩:∃R,S14.okDirect ⟨2,bits,limit,rate,first,second⟩=R:=⟨_,rfl⟩;rw[hR];by_cases z_rate:rate=0
 case neg=>
  have hf:R=false:=by rw[←hR];simp[S14.okDirect,S14.ctx,S14.only,z_rate]
  subst hf;clear hR;go_enter Tryz.func61,Tryz.ntmps61;go_wp2;go_returns;exact⟨rfl,by go_grown⟩
 subst z_rate;by_cases z_first:first=0
 case neg=>
  have hf:R=false:=by rw[←hR];simp[S14.okDirect,S14.ctx,S14.only,z_first]
  subst hf;clear hR;go_enter Tryz.func61,Tryz.ntmps61;go_wp2;go_returns;exact⟨rfl,by go_grown⟩
 subst z_first;by_cases z_second:second=0
 case neg=>
  have hf:R=false:=by rw[←hR];simp[S14.okDirect,S14.ctx,S14.only,z_second]
  subst hf;clear hR;go_enter Tryz.func61,Tryz.ntmps61;go_wp2;go_returns;exact⟨rfl,by go_grown⟩
 subst z_second;obtain⟨q0,hq0⟩:∃q,S14.has bits 0 16=q:=⟨_,rfl⟩;obtain⟨q1,hq1⟩:∃q,S14.has limit 1 1023=q:=⟨_,rfl⟩;have hR':R=(q0&&q1):=by rw[←hR,←hq0,←hq1];simp[S14.okDirect,S14.ctx,S14.only,Bool.and_assoc]
 clear hR;obtain⟨wA,hwA,A,hA⟩:=zeM w [.int .i64 2,.int .i64 bits,.int .i64 limit,.int .i64 0,.int .i64 0,.int .i64 0] 54;obtain⟨x0,x1,x2,x3,x4,x5⟩:=A.six;go_enter Tryz.func61,Tryz.ntmps61;go_wp2_with (rw[hwA]);refine(HB.out _ _ _ _).mono ?_;rw[hq0];rintro e w0 ⟨rfl,hb0⟩;have hB0:=zA hA hb0;replace A:=A.step hb0;clear x0 x1 x2 x3 x4 x5;obtain⟨x0,x1,x2,x3,x4,x5⟩:=A.six;cases q0 with
 | false=>
   obtain rfl:R=false:=by rw[hR'];try simp
   clear hR';go_wp2;go_returns;exact⟨rfl,hB0⟩
 | true=>
   go_wp2_with fail;refine(HB.out _ _ _ _).mono ?_;rw[hq1];rintro e w1 ⟨rfl,hb1⟩;have hB1:=zA hB0 hb1;replace A:=A.step hb1;clear x0 x1 x2 x3 x4 x5;obtain⟨x0,x1,x2,x3,x4,x5⟩:=A.six;cases q1 with
   | false=>
     obtain rfl:R=false:=by rw[hR'];try simp
     clear hR';go_wp2;go_returns;exact⟨rfl,hB1⟩
   | true=>
     obtain rfl:R=true:=by rw[hR'];try rfl
     clear hR';go_wp2;go_returns;exact⟨rfl,hB1⟩
theorem rcorrect14_3(bits limit rate first second k:Int)(w:World)(hk:0≤k∧k≤1000):Calls Tryz.prog 61 #[.agg #[.int .i64 3,.int .i64 bits,.int .i64 limit,.int .i64 rate,.int .i64 first,.int .i64 second],.int .i64 k] w fun e w'=>e = .returned (.bool (S14.okMatch ⟨3,bits,limit,rate,first,second⟩))∧Below w.heap.size w w':=by
 have HB:=zD fun n lo hi W=>zaY n lo hi W;obtain⟨R,hR⟩:∃R,S14.okMatch ⟨3,bits,limit,rate,first,second⟩=R:=⟨_,rfl⟩;rw[hR];by_cases z_rate:rate=0
 case neg=>
  have hf:R=false:=by rw[←hR];simp[S14.okMatch,S14.ctx,S14.only,z_rate]
  subst hf;clear hR;go_enter Tryz.func61,Tryz.ntmps61;go_wp2;go_returns;exact⟨rfl,by go_grown⟩
 subst z_rate;by_cases z_first:first=0
 case neg=>
  have hf:R=false:=by rw[←hR];simp[S14.okMatch,S14.ctx,S14.only,z_first]
  subst hf;clear hR;go_enter Tryz.func61,Tryz.ntmps61;go_wp2;go_returns;exact⟨rfl,by go_grown⟩
 subst z_first;by_cases z_second:second=0
 case neg=>
  have hf:R=false:=by rw[←hR];simp[S14.okMatch,S14.ctx,S14.only,z_second]
  subst hf;clear hR;go_enter Tryz.func61,Tryz.ntmps61;go_wp2;go_returns;exact⟨rfl,by go_grown⟩
 subst z_second;obtain⟨q0,hq0⟩:∃q,S14.has bits 1 16=q:=⟨_,rfl⟩;obtain⟨q1,hq1⟩:∃q,S14.has limit 1 32=q:=⟨_,rfl⟩;have hR':R=(q0&&q1):=by rw[←hR,←hq0,←hq1];simp[S14.okMatch,S14.ctx,S14.only,Bool.and_assoc]
 clear hR;obtain⟨wA,hwA,A,hA⟩:=zeM w [.int .i64 3,.int .i64 bits,.int .i64 limit,.int .i64 0,.int .i64 0,.int .i64 0] 54;obtain⟨x0,x1,x2,x3,x4,x5⟩:=A.six;go_enter Tryz.func61,Tryz.ntmps61;go_wp2_with (rw[hwA]);refine(HB.out _ _ _ _).mono ?_;rw[hq0];rintro e w0 ⟨rfl,hb0⟩;have hB0:=zA hA hb0;replace A:=A.step hb0;clear x0 x1 x2 x3 x4 x5;obtain⟨x0,x1,x2,x3,x4,x5⟩:=A.six;cases q0 with
 | false=>
   obtain rfl:R=false:=by rw[hR'];try simp
   clear hR';go_wp2;go_returns;exact⟨rfl,hB0⟩
 | true=>
   go_wp2_with fail;refine(HB.out _ _ _ _).mono ?_;rw[hq1];rintro e w1 ⟨rfl,hb1⟩;have hB1:=zA hB0 hb1;replace A:=A.step hb1;clear x0 x1 x2 x3 x4 x5;obtain⟨x0,x1,x2,x3,x4,x5⟩:=A.six;cases q1 with
   | false=>
     obtain rfl:R=false:=by rw[hR'];try simp
     clear hR';go_wp2;go_returns;exact⟨rfl,hB1⟩
   | true=>
     obtain rfl:R=true:=by rw[hR'];try rfl
     clear hR';go_wp2;go_returns;exact⟨rfl,hB1⟩
theorem rcorrect14_4(bits limit rate first second k:Int)(w:World)(hk:0≤k∧k≤1000):Calls Tryz.prog 61 #[.agg #[.int .i64 4,.int .i64 bits,.int .i64 limit,.int .i64 rate,.int .i64 first,.int .i64 second],.int .i64 k] w fun e w'=>e = .returned (.bool (S14.okAverage ⟨4,bits,limit,rate,first,second⟩ k))∧Below w.heap.size w w':=by
 have HB:=zD fun n lo hi W=>zaY n lo hi W;obtain⟨R,hR⟩:∃R,S14.okAverage ⟨4,bits,limit,rate,first,second⟩ k=R:=⟨_,rfl⟩;rw[hR];by_cases z_bits:bits=0
 case neg=>
  have hf:R=false:=by rw[←hR];simp[S14.okAverage,S14.ctx,S14.only,z_bits]
  subst hf;clear hR;go_enter Tryz.func61,Tryz.ntmps61;go_wp2;go_returns;exact⟨rfl,by go_grown⟩
 subst z_bits;by_cases z_rate:rate=0
 case neg=>
  have hf:R=false:=by rw[←hR];simp[S14.okAverage,S14.ctx,S14.only,z_rate]
  subst hf;clear hR;go_enter Tryz.func61,Tryz.ntmps61;go_wp2;go_returns;exact⟨rfl,by go_grown⟩
 subst z_rate;obtain⟨q0,hq0⟩:∃q,S14.has limit 0 256=q:=⟨_,rfl⟩;obtain⟨q1,hq1⟩:∃q,S14.has first 0 (k-1)=q:=⟨_,rfl⟩;obtain⟨q2,hq2⟩:∃q,S14.has second 0 (k-1)=q:=⟨_,rfl⟩;have hR':R=(q0&&q1&&q2):=by rw[←hR,←hq0,←hq1,←hq2];simp[S14.okAverage,S14.ctx,S14.only,Bool.and_assoc]
 clear hR;obtain⟨wA,hwA,A,hA⟩:=zeM w [.int .i64 4,.int .i64 0,.int .i64 limit,.int .i64 0,.int .i64 first,.int .i64 second] 54;obtain⟨x0,x1,x2,x3,x4,x5⟩:=A.six;go_enter Tryz.func61,Tryz.ntmps61;go_wp2_with (rw[hwA]);refine(HB.out _ _ _ _).mono ?_;rw[hq0];rintro e w0 ⟨rfl,hb0⟩;have hB0:=zA hA hb0;replace A:=A.step hb0;clear x0 x1 x2 x3 x4 x5;obtain⟨x0,x1,x2,x3,x4,x5⟩:=A.six;cases q0 with
 | false=>
   obtain rfl:R=false:=by rw[hR'];try simp
   clear hR';go_wp2;go_returns;exact⟨rfl,hB0⟩
 | true=>
   go_wp2_with fail;refine(HB.out _ _ _ _).mono ?_;rw[hq1];rintro e w1 ⟨rfl,hb1⟩;have hB1:=zA hB0 hb1;replace A:=A.step hb1;clear x0 x1 x2 x3 x4 x5;obtain⟨x0,x1,x2,x3,x4,x5⟩:=A.six;cases q1 with
   | false=>
     obtain rfl:R=false:=by rw[hR'];try simp
     clear hR';go_wp2;go_returns;exact⟨rfl,hB1⟩
   | true=>
     go_wp2_with fail;refine(HB.out _ _ _ _).mono ?_;rw[hq2];rintro e w2 ⟨rfl,hb2⟩;have hB2:=zA hB1 hb2;replace A:=A.step hb2;clear x0 x1 x2 x3 x4 x5;obtain⟨x0,x1,x2,x3,x4,x5⟩:=A.six;cases q2 with
     | false=>
       obtain rfl:R=false:=by rw[hR'];try simp
       clear hR';go_wp2;go_returns;exact⟨rfl,hB2⟩
     | true=>
       obtain rfl:R=true:=by rw[hR'];try rfl
       clear hR';go_wp2;go_returns;exact⟨rfl,hB2⟩
theorem rcorrect14_5(bits limit rate first second k:Int)(w:World)(hk:0≤k∧k≤1000):Calls Tryz.prog 61 #[.agg #[.int .i64 5,.int .i64 bits,.int .i64 limit,.int .i64 rate,.int .i64 first,.int .i64 second],.int .i64 k] w fun e w'=>e = .returned (.bool (S14.okMix ⟨5,bits,limit,rate,first,second⟩ k))∧Below w.heap.size w w':=by
 have HB:=zD fun n lo hi W=>zaY n lo hi W;obtain⟨R,hR⟩:∃R,S14.okMix ⟨5,bits,limit,rate,first,second⟩ k=R:=⟨_,rfl⟩;rw[hR];by_cases z_limit:limit=0
 case neg=>
  have hf:R=false:=by rw[←hR];simp[S14.okMix,S14.ctx,S14.only,z_limit]
  subst hf;clear hR;go_enter Tryz.func61,Tryz.ntmps61;go_wp2;go_returns;exact⟨rfl,by go_grown⟩
 subst z_limit;obtain⟨q0,hq0⟩:∃q,S14.has bits 0 16=q:=⟨_,rfl⟩;obtain⟨q1,hq1⟩:∃q,S14.has rate 1 255=q:=⟨_,rfl⟩;obtain⟨q2,hq2⟩:∃q,S14.has first 0 (k-1)=q:=⟨_,rfl⟩;obtain⟨q3,hq3⟩:∃q,S14.has second first (k-1)=q:=⟨_,rfl⟩;have hR':R=(q0&&q1&&q2&&q3):=by rw[←hR,←hq0,←hq1,←hq2,←hq3];simp[S14.okMix,S14.ctx,S14.only,Bool.and_assoc]
 clear hR;obtain⟨wA,hwA,A,hA⟩:=zeM w [.int .i64 5,.int .i64 bits,.int .i64 0,.int .i64 rate,.int .i64 first,.int .i64 second] 54;obtain⟨x0,x1,x2,x3,x4,x5⟩:=A.six;go_enter Tryz.func61,Tryz.ntmps61;go_wp2_with (rw[hwA]);refine(HB.out _ _ _ _).mono ?_;rw[hq0];rintro e w0 ⟨rfl,hb0⟩;have hB0:=zA hA hb0;replace A:=A.step hb0;clear x0 x1 x2 x3 x4 x5;obtain⟨x0,x1,x2,x3,x4,x5⟩:=A.six;cases q0 with
 | false=>
   obtain rfl:R=false:=by rw[hR'];try simp
   clear hR';go_wp2;go_returns;exact⟨rfl,hB0⟩
 | true=>
   go_wp2_with fail;refine(HB.out _ _ _ _).mono ?_;rw[hq1];rintro e w1 ⟨rfl,hb1⟩;have hB1:=zA hB0 hb1;replace A:=A.step hb1;clear x0 x1 x2 x3 x4 x5;obtain⟨x0,x1,x2,x3,x4,x5⟩:=A.six;cases q1 with
   | false=>
     obtain rfl:R=false:=by rw[hR'];try simp
     clear hR';go_wp2;go_returns;exact⟨rfl,hB1⟩
   | true=>
     go_wp2_with fail;refine(HB.out _ _ _ _).mono ?_;rw[hq2];rintro e w2 ⟨rfl,hb2⟩;have hB2:=zA hB1 hb2;replace A:=A.step hb2;clear x0 x1 x2 x3 x4 x5;obtain⟨x0,x1,x2,x3,x4,x5⟩:=A.six;cases q2 with
     | false=>
       obtain rfl:R=false:=by rw[hR'];try simp
       clear hR';go_wp2;go_returns;exact⟨rfl,hB2⟩
     | true=>
       go_wp2_with fail;refine(HB.out _ _ _ _).mono ?_;rw[hq3];rintro e w3 ⟨rfl,hb3⟩;have hB3:=zA hB2 hb3;replace A:=A.step hb3;clear x0 x1 x2 x3 x4 x5;obtain⟨x0,x1,x2,x3,x4,x5⟩:=A.six;cases q3 with
       | false=>
         obtain rfl:R=false:=by rw[hR'];try simp
         clear hR';go_wp2;go_returns;exact⟨rfl,hB3⟩
       | true=>
         obtain rfl:R=true:=by rw[hR'];try rfl
         clear hR';go_wp2;go_returns;exact⟨rfl,hB3⟩
theorem rcorrect14_6(bits limit rate first second k:Int)(w:World)(hk:0≤k∧k≤1000):Calls Tryz.prog 61 #[.agg #[.int .i64 6,.int .i64 bits,.int .i64 limit,.int .i64 rate,.int .i64 first,.int .i64 second],.int .i64 k] w fun e w'=>e = .returned (.bool (S14.okRefine ⟨6,bits,limit,rate,first,second⟩ k))∧Below w.heap.size w w':=by
 have HB:=zD fun n lo hi W=>zaY n lo hi W;obtain⟨R,hR⟩:∃R,S14.okRefine ⟨6,bits,limit,rate,first,second⟩ k=R:=⟨_,rfl⟩;rw[hR];by_cases z_limit:limit=0
 case neg=>
  have hf:R=false:=by rw[←hR];simp[S14.okRefine,S14.ctx,S14.only,z_limit]
  subst hf;clear hR;go_enter Tryz.func61,Tryz.ntmps61;go_wp2;go_returns;exact⟨rfl,by go_grown⟩
 subst z_limit;by_cases z_second:second=0
 case neg=>
  have hf:R=false:=by rw[←hR];simp[S14.okRefine,S14.ctx,S14.only,z_second]
  subst hf;clear hR;go_enter Tryz.func61,Tryz.ntmps61;go_wp2;go_returns;exact⟨rfl,by go_grown⟩
 subst z_second;obtain⟨q0,hq0⟩:∃q,S14.has bits 0 16=q:=⟨_,rfl⟩;obtain⟨q1,hq1⟩:∃q,S14.has rate 1 255=q:=⟨_,rfl⟩;obtain⟨q2,hq2⟩:∃q,S14.has first 0 (k-1)=q:=⟨_,rfl⟩;have hR':R=(q0&&q1&&q2):=by rw[←hR,←hq0,←hq1,←hq2];simp[S14.okRefine,S14.ctx,S14.only,Bool.and_assoc]
 clear hR;obtain⟨wA,hwA,A,hA⟩:=zeM w [.int .i64 6,.int .i64 bits,.int .i64 0,.int .i64 rate,.int .i64 first,.int .i64 0] 54;obtain⟨x0,x1,x2,x3,x4,x5⟩:=A.six;go_enter Tryz.func61,Tryz.ntmps61;go_wp2_with (rw[hwA]);refine(HB.out _ _ _ _).mono ?_;rw[hq0];rintro e w0 ⟨rfl,hb0⟩;have hB0:=zA hA hb0;replace A:=A.step hb0;clear x0 x1 x2 x3 x4 x5;obtain⟨x0,x1,x2,x3,x4,x5⟩:=A.six;cases q0 with
 | false=>
   obtain rfl:R=false:=by rw[hR'];try simp
   clear hR';go_wp2;go_returns;exact⟨rfl,hB0⟩
 | true=>
   go_wp2_with fail;refine(HB.out _ _ _ _).mono ?_;rw[hq1];rintro e w1 ⟨rfl,hb1⟩;have hB1:=zA hB0 hb1;replace A:=A.step hb1;clear x0 x1 x2 x3 x4 x5;obtain⟨x0,x1,x2,x3,x4,x5⟩:=A.six;cases q1 with
   | false=>
     obtain rfl:R=false:=by rw[hR'];try simp
     clear hR';go_wp2;go_returns;exact⟨rfl,hB1⟩
   | true=>
     go_wp2_with fail;refine(HB.out _ _ _ _).mono ?_;rw[hq2];rintro e w2 ⟨rfl,hb2⟩;have hB2:=zA hB1 hb2;replace A:=A.step hb2;clear x0 x1 x2 x3 x4 x5;obtain⟨x0,x1,x2,x3,x4,x5⟩:=A.six;cases q2 with
     | false=>
       obtain rfl:R=false:=by rw[hR'];try simp
       clear hR';go_wp2;go_returns;exact⟨rfl,hB2⟩
     | true=>
       obtain rfl:R=true:=by rw[hR'];try rfl
       clear hR';go_wp2;go_returns;exact⟨rfl,hB2⟩
theorem zoN(c:S14.C)(k:Int)(w:World)(hk:0≤k∧k≤1000):Calls Tryz.prog 61 #[CV c,.int .i64 k] w fun e w'=>e = .returned (.bool (S14.ok c k))∧Below w.heap.size w w':=by
 obtain⟨kind,bits,limit,rate,first,second⟩:=c;unfold S14.ok CV zT;simp only;by_cases k0:kind=0
 ·subst k0;rw[zU rfl];exact rcorrect14_0 bits limit rate first second k w hk
 rw[zK k0];by_cases k1:kind=1
 ·subst k1;rw[zU rfl];exact rcorrect14_1 bits limit rate first second k w hk
 rw[zK k1];by_cases k2:kind=2
 ·subst k2;rw[zU rfl];exact rcorrect14_2 bits limit rate first second k w hk
 rw[zK k2];by_cases k3:kind=3
 ·subst k3;rw[zU rfl];exact rcorrect14_3 bits limit rate first second k w hk
 rw[zK k3];by_cases k4:kind=4
 ·subst k4;rw[zU rfl];exact rcorrect14_4 bits limit rate first second k w hk
 rw[zK k4];by_cases k5:kind=5
 ·subst k5;rw[zU rfl];exact rcorrect14_5 bits limit rate first second k w hk
 rw[zK k5];by_cases k6:kind=6
 ·subst k6;rw[zU rfl];exact rcorrect14_6 bits limit rate first second k w hk
 rw[zK k6];have e0:(kind==0)=false:=by simp[k0]
 have e1:(kind==1)=false:=by simp[k1]
 have e2:(kind==2)=false:=by simp[k2]
 have e3:(kind==3)=false:=by simp[k3]
 have e4:(kind==4)=false:=by simp[k4]
 have e5:(kind==5)=false:=by simp[k5]
 have e6:(kind==6)=false:=by simp[k6]
 go_enter Tryz.func61,Tryz.ntmps61;go_wp2;go_returns;exact⟨rfl,by go_grown⟩
def OfV(c:S14.C):Value:=
 if c.kind=0 then .iface 115 (CV c)else if c.kind=1 then .iface 116 (CV c)else if c.kind=2 then .iface 117 (CV c)else if c.kind=3 then .iface 118 (CV c)
 else if c.kind=4 then .iface 119 (CV c)else if c.kind=5 then .iface 120 (CV c)else if c.kind=6 then .iface 121 (CV c)else .nilIface
theorem zfJ(c:S14.C)(w:World):Calls Tryz.prog 43 #[CV c] w fun e w'=>e = .returned (OfV c)∧Below w.heap.size w w':=by
 obtain⟨kind,bits,limit,rate,first,second⟩:=c;unfold OfV CV zT;simp only;by_cases k0:kind=0
 ·subst k0;rw[zU rfl];go_enter Tryz.func43,Tryz.ntmps43;go_wp2;go_returns;exact⟨rfl,by go_grown⟩
 rw[zK k0];have e0:(kind==0)=false:=by simp[k0]
 by_cases k1:kind=1
 ·subst k1;rw[zU rfl];go_enter Tryz.func43,Tryz.ntmps43;go_wp2;go_returns;exact⟨rfl,by go_grown⟩
 rw[zK k1];have e1:(kind==1)=false:=by simp[k1]
 by_cases k2:kind=2
 ·subst k2;rw[zU rfl];go_enter Tryz.func43,Tryz.ntmps43;go_wp2;go_returns;exact⟨rfl,by go_grown⟩
 rw[zK k2];have e2:(kind==2)=false:=by simp[k2]
 by_cases k3:kind=3
 ·subst k3;rw[zU rfl];go_enter Tryz.func43,Tryz.ntmps43;go_wp2;go_returns;exact⟨rfl,by go_grown⟩
 rw[zK k3];have e3:(kind==3)=false:=by simp[k3]
 by_cases k4:kind=4
 ·subst k4;rw[zU rfl];go_enter Tryz.func43,Tryz.ntmps43;go_wp2;go_returns;exact⟨rfl,by go_grown⟩
 rw[zK k4];have e4:(kind==4)=false:=by simp[k4]
 by_cases k5:kind=5
 ·subst k5;rw[zU rfl];go_enter Tryz.func43,Tryz.ntmps43;go_wp2;go_returns;exact⟨rfl,by go_grown⟩
 rw[zK k5];have e5:(kind==5)=false:=by simp[k5]
 by_cases k6:kind=6
 ·subst k6;rw[zU rfl];go_enter Tryz.func43,Tryz.ntmps43;go_wp2;go_returns;exact⟨rfl,by go_grown⟩
 rw[zK k6];have e6:(kind==6)=false:=by simp[k6]
 go_enter Tryz.func43,Tryz.ntmps43;go_wp2;go_returns;exact⟨rfl,by go_grown⟩
def zcS(l:List S14.C):List Value:=(l.map zT).flatten
theorem yT(l:List S14.C):(zcS l).length=6*l.length:=by
 induction l with
 | nil=>rfl
 | cons x xs ih=>simp[zcS,zT]at *;omega
theorem zoC:∀(l:List S14.C) {i j:Nat} {x:S14.C},l[i]? = some x→j<6→(zcS l)[6*i+j]? = (zT x)[j]?
 | [],i,j,x,h,_=>by simp at h
 | y::l,0,j,x,h,hj=>by
   obtain rfl:y=x:=by simpa using h
   show(zT y++zcS l)[6*0+j]? = _;rw[Nat.mul_zero,yV,zfB (by simp[zT];omega)]
 | y::l,i+1,j,x,h,hj=>by
   show(zT y++zcS l)[6*(i+1)+j]? = _;rw[yP (by simp[zT];omega)];have e:6*(i+1)+j-(zT y).length=6*i+j:=by simp[zT];omega
   rw[e];exact zoC l (by simpa using h) hj
structure Elem14(w:World)(g q:Nat)(x:S14.C):Prop where
 e0:w.cell? ⟨g,q,none⟩=some (.int .i64 x.kind)
 e1:w.cell? ⟨g,q+1,none⟩=some (.int .i64 x.bits)
 e2:w.cell? ⟨g,q+2,none⟩=some (.int .i64 x.limit)
 e3:w.cell? ⟨g,q+3,none⟩=some (.int .i64 x.rate)
 e4:w.cell? ⟨g,q+4,none⟩=some (.int .i64 x.first)
 e5:w.cell? ⟨g,q+5,none⟩=some (.int .i64 x.second)
theorem zhK{w:World}{g o:Nat}{l:List S14.C}(h:w.rangeAt g o (zcS l)){k:Nat}{x:S14.C}(hx:l[k]? = some x):Elem14 w g (o+k*6) x:=by
 have key:∀j v,j<6→(zT x)[j]? = some v→w.cell? ⟨g,o+k*6+j,none⟩=some v:=fun j v hj hv=>by
  have:=h (6*k+j) v ((zoC l hx hj).trans hv);rw[show o+(6*k+j)=o+k*6+j by omega]at this;exact this
 exact⟨key 0 _ (by omega) rfl,key 1 _ (by omega) rfl,key 2 _ (by omega) rfl,key 3 _ (by omega) rfl,key 4 _ (by omega) rfl,key 5 _ (by omega) rfl⟩
theorem S14.allOk_iff(l:List S14.C):S14.allOk l=true↔∀(k:Nat) (x:S14.C),l[k]? = some x→S14.ok x (k:Int)=true:=by
 unfold S14.allOk;rw[List.all_eq_true];constructor
 ·intro h k x hx;have hk:=(List.getElem?_eq_some_iff.1 hx).1;have:=h k (List.mem_range.2 hk);rw[List.getD,hx]at this;exact this
 ·intro h k hk;rw[List.mem_range]at hk;rw[List.getD,zI hk];exact h k _ (zI hk)
theorem S14.check_few{l:List S14.C}(h:S14.has (l.length:Int) 1 16=false):S14.check l=6:=by
 unfold S14.check;unfold S14.has at h;rw[zU (by have:=of_decide_eq_false h;omega)]
theorem S14.check_at{l:List S14.C}(h:S14.has (l.length:Int) 1 16=true){k:Nat}{x:S14.C}(hx:l[k]? = some x)(hf:S14.ok x (k:Int)=false):S14.check l=22:=by
 have h1:=of_decide_eq_true h;have h2:S14.allOk l≠true:=fun e=>by rw[(S14.allOk_iff l).1 e k x hx]at hf;cases hf
 unfold S14.check;rw[zK (by omega),zK h2]
theorem S14.check_ok{l:List S14.C}(h:S14.has (l.length:Int) 1 16=true)(hf:∀(k:Nat) (x:S14.C),l[k]? = some x→S14.ok x (k:Int)=true):S14.check l=0:=by
 have h1:=of_decide_eq_true h;unfold S14.check;rw[zK (by omega),zU ((S14.allOk_iff l).2 hf)]
theorem zgH(l:List S14.C)(a:Option Addr)(cap:Nat)(w:World)(hl:l.length≤4611686018427387904)(hrd:Rd w a (zcS l)) :
 Calls Tryz.prog 29 #[.slice a l.length cap] w fun e w'=>e = .returned (.int .i64 (S14.check l))∧Below w.heap.size w w':=by
 obtain⟨R,hR⟩:∃R,S14.check l=R:=⟨_,rfl⟩;rw[hR];by_cases h1:l.length<1
 ·have hr:R=6:=by rw[←hR];exact S14.check_few (by unfold S14.has;exact zL (by omega))
  subst hr;have d1:decide ((l.length:Int)<1)=true:=zQ (by omega);clear hR h1;go_enter Tryz.func29,Tryz.ntmps29;go_wp2;go_returns;exact⟨rfl,zG _ _⟩
 have d1:decide ((l.length:Int)<1)=false:=zL (by omega);by_cases h2:16<l.length
 ·have hr:R=6:=by rw[←hR];exact S14.check_few (by unfold S14.has;exact zL (by omega))
  subst hr;have d2:decide (16<(l.length:Int))=true:=zQ (by omega);clear hR h1 h2;go_enter Tryz.func29,Tryz.ntmps29;go_wp2;go_returns;exact⟨rfl,zG _ _⟩
 have d2:decide (16<(l.length:Int))=false:=zL (by omega);have hh:S14.has (l.length:Int) 1 16=true:=by unfold S14.has;exact zQ (by omega)
 have HC:=zD fun(x:S14.C) (k:Nat) W (hk:k≤16)=>(show Calls Tryz.prog 61 #[.agg #[.int .i64 x.kind,.int .i64 x.bits,.int .i64 x.limit,.int .i64 x.rate,.int .i64 x.first,.int .i64 x.second],.int .i64 (k:Int)] W _ from zoN x (k:Int) W (by omega));have HA:=zD fun(k:Nat) (x:S14.C) hx hf=>hR.symm.trans (S14.check_at hh (k:=k) (x:=x) hx hf);have HZ:=zD fun hf=>hR.symm.trans (S14.check_ok hh hf);have hl16:l.length≤16:=by omega
 have Hrd:=zD hrd;clear hR h1 h2 hh hrd;go_enter Tryz.func29,Tryz.ntmps29;go_wp2_with fail;go_loopw [3] (fun i wr=>∃k:Nat,k≤l.length∧i = .int .i64 (k:Int)∧RowKit.Hid (∀(j:Nat) (x:S14.C),j<k→l[j]? = some x→S14.ok x (j:Int)=true)∧Below w.heap.size w wr) (fun i _=>l.length-(intOf i).toNat)
 case atStart=>exact⟨0,by omega,rfl,zD (fun j x hj=>by omega),zG _ _⟩
 case round=>
  obtain⟨k,hk,rfl,hall,hB⟩:=hrel;by_cases hlt:k<l.length
  ·obtain⟨x,hx⟩:∃x,l[k]? = some x:=⟨_,zI hlt⟩;obtain⟨g,o,rfl,hcs⟩:=(Hrd.out.step hB) (fun e=>by have h1:=yQ List.length e;rw[yT]at h1;simp at h1;omega);obtain⟨x0,x1,x2,x3,x4,x5⟩:=zhK hcs hx;have dk:decide ((k:Int)<(l.length:Int))=true:=zQ (by omega);have HCk:=zD fun W=>HC.out x k W (by omega);obtain⟨q,hq⟩:∃q,S14.ok x (k:Int)=q:=⟨_,rfl⟩;rw[hq]at HCk;have Hq:=zD hq;have Hx:=zD hx;clear hcs hx hq;go_wp2_with fail;refine(HCk.out _).mono ?_;rintro e w1 ⟨rfl,hb1⟩;have hB1:=zA hB hb1;cases q with
   | false=>
     have hr:=HA.out k x Hx.out Hq.out;subst hr;go_wp2_with fail;go_returns;exact⟨rfl,hB1⟩
   | true=>
     go_wp2_with fail;go_roundw
     case rel=>exact⟨k+1,by omega,by go_num,zD (fun j y hj hy=>by
      rcases Nat.lt_succ_iff_lt_or_eq.1 hj with h|rfl
      ·exact hall.out j y h hy
      ·have e:=Hx.out;rw[hy]at e;cases e;exact Hq.out),hB1⟩
     case measure=>simp[intOf]<;>omega
  ·obtain rfl:k=l.length:=by omega
   have hr:=HZ.out (fun j x hx=>hall.out j x (List.getElem?_eq_some_iff.1 hx).1 hx);subst hr;have dk:decide (((l.length:Nat):Int)<(l.length:Int))=false:=zL (by omega);go_wp2_with fail;go_returns;exact⟨rfl,hB⟩
theorem xor_u32{a b:Nat}(ha:a<4294967296)(hb:b<4294967296):bits .xor .u32 (a:Int) (b:Int)=((a ^^^ b:Nat):Int):=by
 have h1:(BitVec.ofInt 32 (a:Int)).toNat=a:=by rw[BitVec.ofInt_natCast,BitVec.toNat_ofNat];exact Nat.mod_eq_of_lt ha
 have h2:(BitVec.ofInt 32 (b:Int)).toNat=b:=by rw[BitVec.ofInt_natCast,BitVec.toNat_ofNat];exact Nat.mod_eq_of_lt hb
 show IntKind.u32.wrap ((BitVec.ofInt 32 (a:Int) ^^^ BitVec.ofInt 32 (b:Int)).toNat:Int)=_;rw[BitVec.toNat_xor,h1,h2];have h3:a ^^^ b<4294967296:=Nat.xor_lt_two_pow (n:=32) ha hb;simp only[IntKind.wrap,IntKind.bits,IntKind.signed];simp;omega
theorem hash_cast(c n f g M:Nat)(fi gi Mi:Int)(hf:(f:Int)=fi)(hg:(g:Int)=gi)(hM:(M:Int)=Mi):((c:Int)+(n:Int)*fi)%Mi*gi%Mi=(((c+n*f)%M*g%M:Nat):Int):=by
 subst hf hg hM;simp only[Int.natCast_emod,Int.natCast_mul,Int.natCast_add]
theorem zpP(a:Nat):(a:Int)/32768=((a/32768:Nat):Int):=by omega
theorem hash14_any(c n:Nat)(hc:c<4294967296)(hn:n<4294967296)(w:World):Calls Tryz.prog 107 #[.int .u32 (c:Int),.int .i64 (n:Int)] w fun e w'=>e = .returned (.int .u32 (S14.hash c n:Int))∧Below w.heap.size w w':=by
 have h0:=S14.hash0_lt c n;have hx:=zD (xor_u32 (a:=S14.hash0 c n) (b:=S14.hash0 c n/32768) h0 (Nat.lt_of_le_of_lt (Nat.div_le_self _ _) h0));go_enter Tryz.func107,Tryz.ntmps107;have hc2:=hash_cast c n S14.m1 S14.m2 4294967296 2654435769 2246822519 4294967296 rfl rfl rfl;obtain⟨x,hx0⟩:∃x,S14.hash0 c n=x:=⟨_,rfl⟩;have hS:S14.hash c n=x ^^^ x/32768:=by unfold S14.hash;rw[hx0]
 rw[show(c+n*S14.m1)%4294967296*S14.m2%4294967296=x from hx0]at hc2;rw[hx0]at hx;rw[hS];have hd:=zpP x;have hX:=hx.out;rw[←hd]at hX;clear hx0 hS h0 hx hd;go_wp2;go_returns;exact⟨rfl,zG _ _⟩
theorem rhash14_any(c n:Nat)(hc:c<4294967296)(hn:n<4294967296)(w:World):Calls Tryz.prog 74 #[.int .u32 (c:Int),.int .i64 (n:Int)] w fun e w'=>e = .returned (.int .u32 (S14.hash c n:Int))∧Below w.heap.size w w':=by
 have h0:=S14.hash0_lt c n;have hx:=zD (xor_u32 (a:=S14.hash0 c n) (b:=S14.hash0 c n/32768) h0 (Nat.lt_of_le_of_lt (Nat.div_le_self _ _) h0));go_enter Tryz.func74,Tryz.ntmps74;have hc2:=hash_cast c n S14.m1 S14.m2 4294967296 2654435769 2246822519 4294967296 rfl rfl rfl;obtain⟨x,hx0⟩:∃x,S14.hash0 c n=x:=⟨_,rfl⟩;have hS:S14.hash c n=x ^^^ x/32768:=by unfold S14.hash;rw[hx0]
 rw[show(c+n*S14.m1)%4294967296*S14.m2%4294967296=x from hx0]at hc2;rw[hx0]at hx;rw[hS];have hd:=zpP x;have hX:=hx.out;rw[←hd]at hX;clear hx0 hS h0 hx hd;go_wp2;go_returns;exact⟨rfl,zG _ _⟩
theorem zhX(l:List S14.C)(a:Option Addr)(cap:Nat)(w:World)(hl:l.length≤4611686018427387904)(hrd:Rd w a (zcS l)) :
 Calls Tryz.prog 37 #[.slice a l.length cap] w fun e w'=>e = .returned (.int .i64 (S14.check l))∧Below w.heap.size w w':=by
 have HB:=zD fun W=>zaN (l.length:Int) 1 16 W;obtain⟨R,hR⟩:∃R,S14.check l=R:=⟨_,rfl⟩;rw[hR];obtain⟨few,hfew⟩:∃q,S14.has (l.length:Int) 1 16=q:=⟨_,rfl⟩;rw[hfew]at HB;cases few with
 | false=>
   have hr:R=6:=by rw[←hR];exact S14.check_few hfew
   subst hr;clear hR hfew;go_enter Tryz.func37,Tryz.ntmps37;go_wp2_with fail;refine(HB.out _).mono ?_;rintro e w1 ⟨rfl,hb1⟩;go_wp2;go_returns;exact⟨rfl,hb1⟩
 | true=>
   have HO:=zD fun(x:S14.C) W=>(show Calls Tryz.prog 43 #[.agg #[.int .i64 x.kind,.int .i64 x.bits,.int .i64 x.limit,.int .i64 x.rate,.int .i64 x.first,.int .i64 x.second]] W _ from zfJ x W);have HA:=zD fun(k:Nat) (x:S14.C) hx hf=>hR.symm.trans (S14.check_at hfew (k:=k) (x:=x) hx hf);have HZ:=zD fun hf=>hR.symm.trans (S14.check_ok hfew hf);have hl16:l.length≤16:=by have:=of_decide_eq_true hfew;omega
   have Hrd:=zD hrd;clear hR hrd hfew;go_enter Tryz.func37,Tryz.ntmps37;go_wp2_with fail;refine(HB.out _).mono ?_;rintro e w1 ⟨rfl,hb1⟩;go_wp2_with fail;go_loopw [12] (fun i wr=>∃k:Nat,k≤l.length∧i = .int .i64 (k:Int)∧RowKit.Hid (∀(j:Nat) (x:S14.C),j<k→l[j]? = some x→S14.ok x (j:Int)=true)∧Below w.heap.size w wr) (fun i _=>l.length-(intOf i).toNat)
   case atStart=>exact⟨0,by omega,rfl,zD (fun j x hj=>by omega),hb1⟩
   case round=>
    obtain⟨k,hk,rfl,hall,hB⟩:=hrel;by_cases hlt:k<l.length
    ·obtain⟨x,hx⟩:∃x,l[k]? = some x:=⟨_,zI hlt⟩;obtain⟨g,o,rfl,hcs⟩:=(Hrd.out.step hB) (fun e=>by have h1:=yQ List.length e;rw[yT]at h1;simp at h1;omega);obtain⟨x0,x1,x2,x3,x4,x5⟩:=zhK hcs hx;have dk:decide ((k:Int)<(l.length:Int))=true:=zQ (by omega);obtain⟨q,hq⟩:∃q,S14.ok x (k:Int)=q:=⟨_,rfl⟩;have Hq:=zD hq;have Hx:=zD hx;clear hcs hx hq;go_wp2_with fail;refine(HO.out x _).mono ?_;rintro e w2 ⟨rfl,hb2⟩;have hB2:Below w.heap.size w w2:=zA (hB.alloc hB.size _) hb2;clear x0 x1 x2 x3 x4 x5;obtain⟨V,hV⟩:∃V,OfV x=V:=⟨_,rfl⟩;rw[hV];unfold OfV at hV;have hq:=Hq.out;unfold S14.ok at hq;by_cases k0:x.kind=0
     ·rw[zU k0]at hV hq;subst hV;have HK:=zD fun W=>zqS x (k:Int) W;rw[hq]at HK;clear hq;cases q with
      | false=>
        have hr:=HA.out k x Hx.out Hq.out;subst hr;go_wp2_with fail;refine(HK.out _).mono ?_;rintro e w3 ⟨rfl,hb3⟩;have hB3:=zA hB2 hb3;go_wp2_with fail;go_returns;exact⟨rfl,hB3⟩
      | true=>
        go_wp2_with fail;refine(HK.out _).mono ?_;rintro e w3 ⟨rfl,hb3⟩;have hB3:=zA hB2 hb3;go_wp2_with fail;go_roundw
        case rel=>exact⟨k+1,by omega,by go_num,zD (fun j y hj hy=>by
         rcases Nat.lt_succ_iff_lt_or_eq.1 hj with h|rfl
         ·exact hall.out j y h hy
         ·have e:=Hx.out;rw[hy]at e;cases e;exact Hq.out),hB3⟩
        case measure=>simp[intOf]<;>omega
     rw[zK k0]at hV hq;by_cases k1:x.kind=1
     ·rw[zU k1]at hV hq;subst hV;have HK:=zD fun W=>direct14_ok x (k:Int) W;rw[hq]at HK;clear hq;cases q with
      | false=>
        have hr:=HA.out k x Hx.out Hq.out;subst hr;go_wp2_with fail;refine(HK.out _).mono ?_;rintro e w3 ⟨rfl,hb3⟩;have hB3:=zA hB2 hb3;go_wp2_with fail;go_returns;exact⟨rfl,hB3⟩
      | true=>
        go_wp2_with fail;refine(HK.out _).mono ?_;rintro e w3 ⟨rfl,hb3⟩;have hB3:=zA hB2 hb3;go_wp2_with fail;go_roundw
        case rel=>exact⟨k+1,by omega,by go_num,zD (fun j y hj hy=>by
         rcases Nat.lt_succ_iff_lt_or_eq.1 hj with h|rfl
         ·exact hall.out j y h hy
         ·have e:=Hx.out;rw[hy]at e;cases e;exact Hq.out),hB3⟩
        case measure=>simp[intOf]<;>omega
     rw[zK k1]at hV hq;by_cases k2:x.kind=2
     ·rw[zU k2]at hV hq;subst hV;have HK:=zD fun W=>history14_ok x (k:Int) W;rw[hq]at HK;clear hq;cases q with
      | false=>
        have hr:=HA.out k x Hx.out Hq.out;subst hr;go_wp2_with fail;refine(HK.out _).mono ?_;rintro e w3 ⟨rfl,hb3⟩;have hB3:=zA hB2 hb3;go_wp2_with fail;go_returns;exact⟨rfl,hB3⟩
      | true=>
        go_wp2_with fail;refine(HK.out _).mono ?_;rintro e w3 ⟨rfl,hb3⟩;have hB3:=zA hB2 hb3;go_wp2_with fail;go_roundw
        case rel=>exact⟨k+1,by omega,by go_num,zD (fun j y hj hy=>by
         rcases Nat.lt_succ_iff_lt_or_eq.1 hj with h|rfl
         ·exact hall.out j y h hy
         ·have e:=Hx.out;rw[hy]at e;cases e;exact Hq.out),hB3⟩
        case measure=>simp[intOf]<;>omega
     rw[zK k2]at hV hq;by_cases k3:x.kind=3
     ·rw[zU k3]at hV hq;subst hV;have HK:=zD fun W=>matched14_ok x (k:Int) W;rw[hq]at HK;clear hq;cases q with
      | false=>
        have hr:=HA.out k x Hx.out Hq.out;subst hr;go_wp2_with fail;refine(HK.out _).mono ?_;rintro e w3 ⟨rfl,hb3⟩;have hB3:=zA hB2 hb3;go_wp2_with fail;go_returns;exact⟨rfl,hB3⟩
      | true=>
        go_wp2_with fail;refine(HK.out _).mono ?_;rintro e w3 ⟨rfl,hb3⟩;have hB3:=zA hB2 hb3;go_wp2_with fail;go_roundw
        case rel=>exact⟨k+1,by omega,by go_num,zD (fun j y hj hy=>by
         rcases Nat.lt_succ_iff_lt_or_eq.1 hj with h|rfl
         ·exact hall.out j y h hy
         ·have e:=Hx.out;rw[hy]at e;cases e;exact Hq.out),hB3⟩
        case measure=>simp[intOf]<;>omega
     rw[zK k3]at hV hq;by_cases k4:x.kind=4
     ·rw[zU k4]at hV hq;subst hV;have HK:=zD fun W=>average14_ok x (k:Int) W (by omega);rw[hq]at HK;clear hq;cases q with
      | false=>
        have hr:=HA.out k x Hx.out Hq.out;subst hr;go_wp2_with fail;refine(HK.out _).mono ?_;rintro e w3 ⟨rfl,hb3⟩;have hB3:=zA hB2 hb3;go_wp2_with fail;go_returns;exact⟨rfl,hB3⟩
      | true=>
        go_wp2_with fail;refine(HK.out _).mono ?_;rintro e w3 ⟨rfl,hb3⟩;have hB3:=zA hB2 hb3;go_wp2_with fail;go_roundw
        case rel=>exact⟨k+1,by omega,by go_num,zD (fun j y hj hy=>by
         rcases Nat.lt_succ_iff_lt_or_eq.1 hj with h|rfl
         ·exact hall.out j y h hy
         ·have e:=Hx.out;rw[hy]at e;cases e;exact Hq.out),hB3⟩
        case measure=>simp[intOf]<;>omega
     rw[zK k4]at hV hq;by_cases k5:x.kind=5
     ·rw[zU k5]at hV hq;subst hV;have HK:=zD fun W=>mixed14_ok x (k:Int) W (by omega);rw[hq]at HK;clear hq;cases q with
      | false=>
        have hr:=HA.out k x Hx.out Hq.out;subst hr;go_wp2_with fail;refine(HK.out _).mono ?_;rintro e w3 ⟨rfl,hb3⟩;have hB3:=zA hB2 hb3;go_wp2_with fail;go_returns;exact⟨rfl,hB3⟩
      | true=>
        go_wp2_with fail;refine(HK.out _).mono ?_;rintro e w3 ⟨rfl,hb3⟩;have hB3:=zA hB2 hb3;go_wp2_with fail;go_roundw
        case rel=>exact⟨k+1,by omega,by go_num,zD (fun j y hj hy=>by
         rcases Nat.lt_succ_iff_lt_or_eq.1 hj with h|rfl
         ·exact hall.out j y h hy
         ·have e:=Hx.out;rw[hy]at e;cases e;exact Hq.out),hB3⟩
        case measure=>simp[intOf]<;>omega
     rw[zK k5]at hV hq;by_cases k6:x.kind=6
     ·rw[zU k6]at hV hq;subst hV;have HK:=zD fun W=>refined14_ok x (k:Int) W (by omega);rw[hq]at HK;clear hq;cases q with
      | false=>
        have hr:=HA.out k x Hx.out Hq.out;subst hr;go_wp2_with fail;refine(HK.out _).mono ?_;rintro e w3 ⟨rfl,hb3⟩;have hB3:=zA hB2 hb3;go_wp2_with fail;go_returns;exact⟨rfl,hB3⟩
      | true=>
        go_wp2_with fail;refine(HK.out _).mono ?_;rintro e w3 ⟨rfl,hb3⟩;have hB3:=zA hB2 hb3;go_wp2_with fail;go_roundw
        case rel=>exact⟨k+1,by omega,by go_num,zD (fun j y hj hy=>by
         rcases Nat.lt_succ_iff_lt_or_eq.1 hj with h|rfl
         ·exact hall.out j y h hy
         ·have e:=Hx.out;rw[hy]at e;cases e;exact Hq.out),hB3⟩
        case measure=>simp[intOf]<;>omega
     rw[zK k6]at hV hq;subst hV hq;have hr:=HA.out k x Hx.out Hq.out;subst hr;go_wp2_with fail;go_returns;exact⟨rfl,hB2⟩
    ·obtain rfl:k=l.length:=by omega
     have hr:=HZ.out (fun j x hx=>hall.out j x (List.getElem?_eq_some_iff.1 hx).1 hx);subst hr;have dk:decide (((l.length:Nat):Int)<(l.length:Int))=false:=zL (by omega);go_wp2_with fail;go_returns;exact⟨rfl,hB⟩
theorem zdP{n:Nat}(h:n≤16):1≤2^n∧2^n≤65536:=⟨Nat.one_le_two_pow,zfQ (n:=2) (by omega) h⟩
theorem zdE(c:S14.C)(n P:Nat)(hn:n≤16)(hb:c.bits=n)(hP:2^n=P)(w:World):Calls Tryz.prog 191 #[CV c] w fun e w'=>e = .returned (.int .i64 (P:Int))∧Below w.heap.size w w':=by
 obtain⟨kind,bits,limit,rate,first,second⟩:=c;simp only at hb;subst hb;have hp:=zdP hn;rw[hP]at hp;have e1:(2:Int)^n=(P:Int):=by rw[←hP];simp
 clear hP;unfold CV zT;go_enter Tryz.func191,Tryz.ntmps191;go_wp2_with fail;go_returns;exact⟨rfl,by go_grown⟩
theorem zlF(w:World):Calls Tryz.prog 65 #[] w fun e w'=>e = .returned (.int .i64 215)∧Below w.heap.size w w':=by
 go_enter Tryz.func65,Tryz.ntmps65;go_wp2;go_returns;exact⟨rfl,by go_grown⟩
def S14.zc:S14.C:=⟨0,0,0,0,0,0⟩
theorem S14.has_iff{n lo hi:Int}:S14.has n lo hi=true↔lo≤n∧n≤hi:=by unfold S14.has;exact decide_eq_true_iff
structure S14.Is(x:S14.C)(k:Int):Prop where
 kind:x.kind=0∨x.kind=1∨x.kind=2∨x.kind=3∨x.kind=4∨x.kind=5∨x.kind=6
 bits:0≤x.bits∧x.bits≤16
 mix:x.kind=5→0≤x.first∧x.first≤x.second∧x.second≤k-1
theorem S14.ok_is{x:S14.C}{k:Int}(h:S14.ok x k=true):S14.Is x k:=by
 unfold S14.ok at h;obtain⟨kind,bits,limit,rate,first,second⟩:=x;simp only at h;by_cases k0:kind=0
 ·rw[zU k0]at h;simp[S14.okConst,S14.only,S14.has_iff]at h;exact⟨by simp only;omega,by simp only;omega,by simp only;omega⟩
 rw[zK k0]at h;by_cases k1:kind=1
 ·rw[zU k1]at h;simp[S14.okDirect,S14.only,S14.has_iff]at h;exact⟨by simp only;omega,by simp only;omega,by simp only;omega⟩
 rw[zK k1]at h;by_cases k2:kind=2
 ·rw[zU k2]at h;simp[S14.okDirect,S14.only,S14.has_iff]at h;exact⟨by simp only;omega,by simp only;omega,by simp only;omega⟩
 rw[zK k2]at h;by_cases k3:kind=3
 ·rw[zU k3]at h;simp[S14.okMatch,S14.only,S14.has_iff]at h;exact⟨by simp only;omega,by simp only;omega,by simp only;omega⟩
 rw[zK k3]at h;by_cases k4:kind=4
 ·rw[zU k4]at h;simp[S14.okAverage,S14.only,S14.has_iff]at h;exact⟨by simp only;omega,by simp only;omega,by simp only;omega⟩
 rw[zK k4]at h;by_cases k5:kind=5
 ·rw[zU k5]at h;simp[S14.okMix,S14.only,S14.has_iff]at h;exact⟨by simp only;omega,by simp only;omega,fun _=>by simp only;omega⟩
 rw[zK k5]at h;by_cases k6:kind=6
 ·rw[zU k6]at h;simp[S14.okRefine,S14.only,S14.has_iff]at h;exact⟨by simp only;omega,by simp only;omega,by simp only;omega⟩
 rw[zK k6]at h;cases h
theorem S14.check_zero{l:List S14.C}(h:S14.check l=0):1≤l.length∧l.length≤16∧∀(k:Nat) (x:S14.C),l[k]? = some x→S14.ok x (k:Int)=true:=by
 unfold S14.check at h;split at h
 ·cases h
 ·split at h
  ·rename_i h1 h2
   exact⟨by omega,by omega,(S14.allOk_iff l).1 h2⟩
  ·cases h
