/- A part of the proof of L15. No condition. -/
import Derived.Lib.MinMax
import Derived.Test.YtahaacfikalheaaGreatZL15ab
import Derived.Test.YtahaacfikalheaaGreatZL15af
import Derived.Test.YtahaacfikalheaaGreatZL15ai
import Derived.Test.YtahaacfikalheaaGreatZL15az
set_option linter.all false
set_option maxRecDepth 100000
set_option maxHeartbeats 2000000
namespace Go.Proofs.YtahaacfikalheaaGreat
open Go.RowKit
def zZ(c:S14.C):List Value:=[.int .i64 c.kind,.int .i64 c.bits,.int .i64 c.limit,.int .i64 c.rate,.int .i64 c.first,.int .i64 c.second]
def CV(c:S14.C):Value:=.agg (zZ c).toArray
structure Six(w:World)(b:Nat)(c0 c1 c2 c3 c4 c5:Value):Prop where
 e0:w.cell? ⟨b,0,none⟩=some c0
 e1:w.cell? ⟨b,1,none⟩=some c1
 e2:w.cell? ⟨b,2,none⟩=some c2
 e3:w.cell? ⟨b,3,none⟩=some c3
 e4:w.cell? ⟨b,4,none⟩=some c4
 e5:w.cell? ⟨b,5,none⟩=some c5
theorem Blk.six{w:World}{b:Nat}{t:TypeId}{c0 c1 c2 c3 c4 c5:Value}(h:Blk w b [c0,c1,c2,c3,c4,c5] t):Six w b c0 c1 c2 c3 c4 c5:=
 ⟨h.cell 0,h.cell 1,h.cell 2,h.cell 3,h.cell 4,h.cell 5⟩
theorem zbA(n lo hi:Int)(w:World):Calls Tryz.prog 37 #[.int .i64 n,.int .i64 lo,.int .i64 hi] w fun e w'=>e = .returned (.bool (S14.has n lo hi))∧Below w.heap.size w w':=by
 unfold S14.has;by_cases h1:lo≤n
 ·have d1:decide (lo≤n)=true:=zQ h1;go_enter Tryz.func37,Tryz.ntmps37;go_wp2;go_returns;exact⟨zaP (by simp[h1]),by go_grown⟩
 ·have d1:decide (lo≤n)=false:=yD h1;go_enter Tryz.func37,Tryz.ntmps37;go_wp2;go_returns;exact⟨zaP (by simp[h1]),by go_grown⟩
theorem zcG(n lo hi:Int)(w:World):Calls Tryz.prog 44 #[.int .i64 n,.int .i64 lo,.int .i64 hi] w fun e w'=>e = .returned (.bool (S14.has n lo hi))∧Below w.heap.size w w':=by
 unfold S14.has;by_cases h1:lo≤n
 ·have d1:decide (lo≤n)=true:=zQ h1;go_enter Tryz.func44,Tryz.ntmps44;go_wp2;go_returns;exact⟨zaP (by simp[h1]),by go_grown⟩
 ·have d1:decide (lo≤n)=false:=yD h1;go_enter Tryz.func44,Tryz.ntmps44;go_wp2;go_returns;exact⟨zaP (by simp[h1]),by go_grown⟩
theorem zgI(w:World)(cs:List Value)(t:TypeId):∃wA,w.alloc (Obj.cells cs.toArray t)=wA∧Blk wA w.heap.size cs t∧Below w.heap.size w wA:=⟨_,rfl,Blk.new w cs t,(zF _ _).alloc (zD _) _⟩
theorem zfI(c:S14.C)(w:World):Calls Tryz.prog 119 #[CV c] w fun e w'=>e = .returned (.bool (S14.ctx c))∧Below w.heap.size w w':=by
 have HB:=zB fun n lo hi W=>zbA n lo hi W;obtain⟨kind,bits,limit,rate,first,second⟩:=c;obtain⟨R,hR⟩:∃R,S14.ctx ⟨kind,bits,limit,rate,first,second⟩=R:=⟨_,rfl⟩;rw[hR];unfold CV zZ;by_cases z_rate:rate=0
 case neg=>
  have hf:R=false:=by rw[←hR];simp[S14.okConst,S14.okDirect,S14.okMatch,S14.okAverage,S14.okMix,S14.okRefine,S14.ctx,S14.only,z_rate]
  subst hf;clear hR;go_enter Tryz.func119,Tryz.ntmps119;go_wp2;go_returns;exact⟨rfl,by go_grown⟩
 subst z_rate;by_cases z_first:first=0
 case neg=>
  have hf:R=false:=by rw[←hR];simp[S14.okConst,S14.okDirect,S14.okMatch,S14.okAverage,S14.okMix,S14.okRefine,S14.ctx,S14.only,z_first]
  subst hf;clear hR;go_enter Tryz.func119,Tryz.ntmps119;go_wp2;go_returns;exact⟨rfl,by go_grown⟩
 subst z_first;by_cases z_second:second=0
 case neg=>
  have hf:R=false:=by rw[←hR];simp[S14.okConst,S14.okDirect,S14.okMatch,S14.okAverage,S14.okMix,S14.okRefine,S14.ctx,S14.only,z_second]
  subst hf;clear hR;go_enter Tryz.func119,Tryz.ntmps119;go_wp2;go_returns;exact⟨rfl,by go_grown⟩
 subst z_second;have hR':R=decide (bits≤16):=by rw[←hR];simp[S14.ctx,S14.only]
 subst hR';clear hR;go_enter Tryz.func119,Tryz.ntmps119;go_wp2;go_returns;exact⟨rfl,by go_grown⟩
theorem ztW(c:S14.C)(k:Int)(w:World):Calls Tryz.prog 101 #[CV c,.int .i64 k] w fun e w'=>e = .returned (.bool (S14.okConst c))∧Below w.heap.size w w':=by
 have HB:=zB fun n lo hi W=>zbA n lo hi W;obtain⟨kind,bits,limit,rate,first,second⟩:=c;obtain⟨R,hR⟩:∃R,S14.okConst ⟨kind,bits,limit,rate,first,second⟩=R:=⟨_,rfl⟩;rw[hR];unfold CV zZ;by_cases z_bits:bits=0
 case neg=>
  have hf:R=false:=by rw[←hR];simp[S14.okConst,S14.okDirect,S14.okMatch,S14.okAverage,S14.okMix,S14.okRefine,S14.ctx,S14.only,z_bits]
  subst hf;clear hR;go_enter Tryz.func101,Tryz.ntmps101;go_wp2;go_returns;exact⟨rfl,by go_grown⟩
 subst z_bits;by_cases z_rate:rate=0
 case neg=>
  have hf:R=false:=by rw[←hR];simp[S14.okConst,S14.okDirect,S14.okMatch,S14.okAverage,S14.okMix,S14.okRefine,S14.ctx,S14.only,z_rate]
  subst hf;clear hR;go_enter Tryz.func101,Tryz.ntmps101;go_wp2;go_returns;exact⟨rfl,by go_grown⟩
 subst z_rate;by_cases z_first:first=0
 case neg=>
  have hf:R=false:=by rw[←hR];simp[S14.okConst,S14.okDirect,S14.okMatch,S14.okAverage,S14.okMix,S14.okRefine,S14.ctx,S14.only,z_first]
  subst hf;clear hR;go_enter Tryz.func101,Tryz.ntmps101;go_wp2;go_returns;exact⟨rfl,by go_grown⟩
 subst z_first;by_cases z_second:second=0
 case neg=>
  have hf:R=false:=by rw[←hR];simp[S14.okConst,S14.okDirect,S14.okMatch,S14.okAverage,S14.okMix,S14.okRefine,S14.ctx,S14.only,z_second]
  subst hf;clear hR;go_enter Tryz.func101,Tryz.ntmps101;go_wp2;go_returns;exact⟨rfl,by go_grown⟩
 subst z_second;obtain⟨q0,hq0⟩:∃q,S14.has limit 1 4095=q:=⟨_,rfl⟩;have hR':R=(q0):=by rw[←hR,←hq0];simp[S14.okConst,S14.okDirect,S14.okMatch,S14.okAverage,S14.okMix,S14.okRefine,S14.ctx,S14.only,Bool.and_assoc]
 clear hR;obtain⟨wA,hwA,A,hA⟩:=zgI w [.int .i64 kind,.int .i64 0,.int .i64 limit,.int .i64 0,.int .i64 0,.int .i64 0] 111;obtain⟨x0,x1,x2,x3,x4,x5⟩:=A.six;go_enter Tryz.func101,Tryz.ntmps101;go_wp2_with (rw[hwA]);refine(HB.out _ _ _ _).mono ?_;rw[hq0];rintro e w0 ⟨rfl,hb0⟩;have hB0:=zA hA hb0;replace A:=A.step hb0;clear x0 x1 x2 x3 x4 x5;obtain⟨x0,x1,x2,x3,x4,x5⟩:=A.six;cases q0 with
 | false=>
   obtain rfl:R=false:=by rw[hR'];try simp
   clear hR';go_wp2;go_returns;exact⟨rfl,hB0⟩
 | true=>
   obtain rfl:R=true:=by rw[hR'];try rfl
   clear hR';go_wp2;go_returns;exact⟨rfl,hB0⟩
theorem direct14_ok(c:S14.C)(k:Int)(w:World):Calls Tryz.prog 113 #[CV c,.int .i64 k] w fun e w'=>e = .returned (.bool (S14.okDirect c))∧Below w.heap.size w w':=by
 have HB:=zB fun n lo hi W=>zbA n lo hi W;have HC:=zB fun W=>zfI c W;obtain⟨kind,bits,limit,rate,first,second⟩:=c;obtain⟨R,hR⟩:∃R,S14.okDirect ⟨kind,bits,limit,rate,first,second⟩=R:=⟨_,rfl⟩;rw[hR];unfold CV zZ at HC⊢;obtain⟨q0,hq0⟩:∃q,S14.ctx ⟨kind,bits,limit,rate,first,second⟩=q:=⟨_,rfl⟩;obtain⟨q1,hq1⟩:∃q,decide (0≤bits)=q:=⟨_,rfl⟩;obtain⟨q2,hq2⟩:∃q,S14.has limit 1 1023=q:=⟨_,rfl⟩;have hR':R=(q0&&q1&&q2):=by rw[←hR,←hq0,←hq1,←hq2];simp[S14.okConst,S14.okDirect,S14.okMatch,S14.okAverage,S14.okMix,S14.okRefine,S14.ctx,S14.only,S14.has];by_cases hz:bits≤16<;>by_cases hy:0≤bits<;>simp[hz,hy]
 clear hR;obtain⟨wA,hwA,A,hA⟩:=zgI w [.int .i64 kind,.int .i64 bits,.int .i64 limit,.int .i64 rate,.int .i64 first,.int .i64 second] 112;obtain⟨x0,x1,x2,x3,x4,x5⟩:=A.six;go_enter Tryz.func113,Tryz.ntmps113;go_wp2_with (rw[hwA]);refine(HC.out _).mono ?_;rw[hq0];rintro e w0 ⟨rfl,hb0⟩;have hB0:=zA hA hb0;replace A:=A.step hb0;clear x0 x1 x2 x3 x4 x5;obtain⟨x0,x1,x2,x3,x4,x5⟩:=A.six;cases q0 with
 | false=>
   obtain rfl:R=false:=by rw[hR'];try simp
   clear hR';go_wp2;go_returns;exact⟨rfl,hB0⟩
 | true=>
   cases q1 with
   | false=>
     obtain rfl:R=false:=by rw[hR'];try simp
     clear hR';go_wp2;go_returns;exact⟨rfl,hB0⟩
   | true=>
     go_wp2_with fail;refine(HB.out _ _ _ _).mono ?_;rw[hq2];rintro e w2 ⟨rfl,hb2⟩;have hB2:=zA hB0 hb2;replace A:=A.step hb2;clear x0 x1 x2 x3 x4 x5;obtain⟨x0,x1,x2,x3,x4,x5⟩:=A.six;cases q2 with
     | false=>
       obtain rfl:R=false:=by rw[hR'];try simp
       clear hR';go_wp2;go_returns;exact⟨rfl,hB2⟩
     | true=>
       obtain rfl:R=true:=by rw[hR'];try rfl
       clear hR';go_wp2;go_returns;exact⟨rfl,hB2⟩
theorem history14_ok(c:S14.C)(k:Int)(w:World):Calls Tryz.prog 142 #[CV c,.int .i64 k] w fun e w'=>e = .returned (.bool (S14.okDirect c))∧Below w.heap.size w w':=by
 have HB:=zB fun n lo hi W=>zbA n lo hi W;have HC:=zB fun W=>zfI c W;obtain⟨kind,bits,limit,rate,first,second⟩:=c;obtain⟨R,hR⟩:∃R,S14.okDirect ⟨kind,bits,limit,rate,first,second⟩=R:=⟨_,rfl⟩;rw[hR];unfold CV zZ at HC⊢;obtain⟨q0,hq0⟩:∃q,S14.ctx ⟨kind,bits,limit,rate,first,second⟩=q:=⟨_,rfl⟩;obtain⟨q1,hq1⟩:∃q,decide (0≤bits)=q:=⟨_,rfl⟩;obtain⟨q2,hq2⟩:∃q,S14.has limit 1 1023=q:=⟨_,rfl⟩;have hR':R=(q0&&q1&&q2):=by rw[←hR,←hq0,←hq1,←hq2];simp[S14.okConst,S14.okDirect,S14.okMatch,S14.okAverage,S14.okMix,S14.okRefine,S14.ctx,S14.only,S14.has];by_cases hz:bits≤16<;>by_cases hy:0≤bits<;>simp[hz,hy]
 clear hR;obtain⟨wA,hwA,A,hA⟩:=zgI w [.int .i64 kind,.int .i64 bits,.int .i64 limit,.int .i64 rate,.int .i64 first,.int .i64 second] 113;obtain⟨x0,x1,x2,x3,x4,x5⟩:=A.six;go_enter Tryz.func142,Tryz.ntmps142;go_wp2_with (rw[hwA]);refine(HC.out _).mono ?_;rw[hq0];rintro e w0 ⟨rfl,hb0⟩;have hB0:=zA hA hb0;replace A:=A.step hb0;clear x0 x1 x2 x3 x4 x5;obtain⟨x0,x1,x2,x3,x4,x5⟩:=A.six;cases q0 with
 | false=>
   obtain rfl:R=false:=by rw[hR'];try simp
   clear hR';go_wp2;go_returns;exact⟨rfl,hB0⟩
 | true=>
   cases q1 with
   | false=>
     obtain rfl:R=false:=by rw[hR'];try simp
     clear hR';go_wp2;go_returns;exact⟨rfl,hB0⟩
   | true=>
     go_wp2_with fail;refine(HB.out _ _ _ _).mono ?_;rw[hq2];rintro e w2 ⟨rfl,hb2⟩;have hB2:=zA hB0 hb2;replace A:=A.step hb2;clear x0 x1 x2 x3 x4 x5;obtain⟨x0,x1,x2,x3,x4,x5⟩:=A.six;cases q2 with
     | false=>
       obtain rfl:R=false:=by rw[hR'];try simp
       clear hR';go_wp2;go_returns;exact⟨rfl,hB2⟩
     | true=>
       obtain rfl:R=true:=by rw[hR'];try rfl
       clear hR';go_wp2;go_returns;exact⟨rfl,hB2⟩
theorem matched14_ok(c:S14.C)(k:Int)(w:World):Calls Tryz.prog 158 #[CV c,.int .i64 k] w fun e w'=>e = .returned (.bool (S14.okMatch c))∧Below w.heap.size w w':=by
 have HB:=zB fun n lo hi W=>zbA n lo hi W;have HC:=zB fun W=>zfI c W;obtain⟨kind,bits,limit,rate,first,second⟩:=c;obtain⟨R,hR⟩:∃R,S14.okMatch ⟨kind,bits,limit,rate,first,second⟩=R:=⟨_,rfl⟩;rw[hR];unfold CV zZ at HC⊢;obtain⟨q0,hq0⟩:∃q,S14.ctx ⟨kind,bits,limit,rate,first,second⟩=q:=⟨_,rfl⟩;obtain⟨q1,hq1⟩:∃q,decide (1≤bits)=q:=⟨_,rfl⟩;obtain⟨q2,hq2⟩:∃q,S14.has limit 1 32=q:=⟨_,rfl⟩;have hR':R=(q0&&q1&&q2):=by rw[←hR,←hq0,←hq1,←hq2];simp[S14.okConst,S14.okDirect,S14.okMatch,S14.okAverage,S14.okMix,S14.okRefine,S14.ctx,S14.only,S14.has];by_cases hz:bits≤16<;>by_cases hy:1≤bits<;>simp[hz,hy]
 clear hR;obtain⟨wA,hwA,A,hA⟩:=zgI w [.int .i64 kind,.int .i64 bits,.int .i64 limit,.int .i64 rate,.int .i64 first,.int .i64 second] 114;obtain⟨x0,x1,x2,x3,x4,x5⟩:=A.six;go_enter Tryz.func158,Tryz.ntmps158;go_wp2_with (rw[hwA]);refine(HC.out _).mono ?_;rw[hq0];rintro e w0 ⟨rfl,hb0⟩;have hB0:=zA hA hb0;replace A:=A.step hb0;clear x0 x1 x2 x3 x4 x5;obtain⟨x0,x1,x2,x3,x4,x5⟩:=A.six;cases q0 with
 | false=>
   obtain rfl:R=false:=by rw[hR'];try simp
   clear hR';go_wp2;go_returns;exact⟨rfl,hB0⟩
 | true=>
   cases q1 with
   | false=>
     obtain rfl:R=false:=by rw[hR'];try simp
     clear hR';go_wp2;go_returns;exact⟨rfl,hB0⟩
   | true=>
     go_wp2_with fail;refine(HB.out _ _ _ _).mono ?_;rw[hq2];rintro e w2 ⟨rfl,hb2⟩;have hB2:=zA hB0 hb2;replace A:=A.step hb2;clear x0 x1 x2 x3 x4 x5;obtain⟨x0,x1,x2,x3,x4,x5⟩:=A.six;cases q2 with
     | false=>
       obtain rfl:R=false:=by rw[hR'];try simp
       clear hR';go_wp2;go_returns;exact⟨rfl,hB2⟩
     | true=>
       obtain rfl:R=true:=by rw[hR'];try rfl
       clear hR';go_wp2;go_returns;exact⟨rfl,hB2⟩
theorem average14_ok(c:S14.C)(k:Int)(w:World)(hk:0≤k∧k≤1000):Calls Tryz.prog 187 #[CV c,.int .i64 k] w fun e w'=>e = .returned (.bool (S14.okAverage c k))∧Below w.heap.size w w':=by
 have HB:=zB fun n lo hi W=>zbA n lo hi W;obtain⟨kind,bits,limit,rate,first,second⟩:=c;obtain⟨R,hR⟩:∃R,S14.okAverage ⟨kind,bits,limit,rate,first,second⟩ k=R:=⟨_,rfl⟩;rw[hR];unfold CV zZ;by_cases z_bits:bits=0
 case neg=>
  have hf:R=false:=by rw[←hR];simp[S14.okConst,S14.okDirect,S14.okMatch,S14.okAverage,S14.okMix,S14.okRefine,S14.ctx,S14.only,z_bits]
  subst hf;clear hR;go_enter Tryz.func187,Tryz.ntmps187;go_wp2;go_returns;exact⟨rfl,by go_grown⟩
 subst z_bits;by_cases z_rate:rate=0
 case neg=>
  have hf:R=false:=by rw[←hR];simp[S14.okConst,S14.okDirect,S14.okMatch,S14.okAverage,S14.okMix,S14.okRefine,S14.ctx,S14.only,z_rate]
  subst hf;clear hR;go_enter Tryz.func187,Tryz.ntmps187;go_wp2;go_returns;exact⟨rfl,by go_grown⟩
 subst z_rate;obtain⟨q0,hq0⟩:∃q,S14.has limit 0 256=q:=⟨_,rfl⟩;obtain⟨q1,hq1⟩:∃q,S14.has first 0 (k-1)=q:=⟨_,rfl⟩;obtain⟨q2,hq2⟩:∃q,S14.has second 0 (k-1)=q:=⟨_,rfl⟩;have hR':R=(q0&&q1&&q2):=by rw[←hR,←hq0,←hq1,←hq2];simp[S14.okConst,S14.okDirect,S14.okMatch,S14.okAverage,S14.okMix,S14.okRefine,S14.ctx,S14.only,Bool.and_assoc]
 clear hR;obtain⟨wA,hwA,A,hA⟩:=zgI w [.int .i64 kind,.int .i64 0,.int .i64 limit,.int .i64 0,.int .i64 first,.int .i64 second] 115;obtain⟨x0,x1,x2,x3,x4,x5⟩:=A.six;go_enter Tryz.func187,Tryz.ntmps187;go_wp2_with (rw[hwA]);refine(HB.out _ _ _ _).mono ?_;rw[hq0];rintro e w0 ⟨rfl,hb0⟩;have hB0:=zA hA hb0;replace A:=A.step hb0;clear x0 x1 x2 x3 x4 x5;obtain⟨x0,x1,x2,x3,x4,x5⟩:=A.six;cases q0 with
 | false=>
   obtain rfl:R=false:=by rw[hR'];try simp
   clear hR';go_wp2;go_returns;exact⟨rfl,hB0⟩
 | true=>
   go_wp2_with fail;refine(HB.out _ _ _ _).mono ?_;rw[hq1];rintro e w1 ⟨rfl,hb1⟩;have hB1:=zA hB0 hb1;replace A:=A.step hb1;clear x0 x1 x2 x3 x4 x5;obtain⟨x0,x1,x2,x3,x4,x5⟩:=A.six;cases q1 with
   | false=>
     obtain rfl:R=false:=by rw[hR'];try simp
     clear hR';go_wp2;go_returns;exact⟨rfl,hB1⟩
   | true=>
     go_wp2_with fail;refine(HB.out _ _ _ _).mono ?_;rw[hq2];rintro e w2 ⟨rfl,hb2⟩;have hB2:=zA hB1 hb2;replace A:=A.step hb2;clear x0 x1 x2 x3 x4 x5;obtain⟨x0,x1,x2,x3,x4,x5⟩:=A.six;cases q2 with
     | false=>
       obtain rfl:R=false:=by rw[hR'];try simp
       clear hR';go_wp2;go_returns;exact⟨rfl,hB2⟩
     | true=>
       obtain rfl:R=true:=by rw[hR'];try rfl
       clear hR';go_wp2;go_returns;exact⟨rfl,hB2⟩
theorem mixed14_ok(c:S14.C)(k:Int)(w:World)(hk:0≤k∧k≤1000):Calls Tryz.prog 194 #[CV c,.int .i64 k] w fun e w'=>e = .returned (.bool (S14.okMix c k))∧Below w.heap.size w w':=by
 have HB:=zB fun n lo hi W=>zbA n lo hi W;obtain⟨kind,bits,limit,rate,first,second⟩:=c;obtain⟨R,hR⟩:∃R,S14.okMix ⟨kind,bits,limit,rate,first,second⟩ k=R:=⟨_,rfl⟩;rw[hR];unfold CV zZ;by_cases z_limit:limit=0
 case neg=>
  have hf:R=false:=by rw[←hR];simp[S14.okConst,S14.okDirect,S14.okMatch,S14.okAverage,S14.okMix,S14.okRefine,S14.ctx,S14.only,z_limit]
  subst hf;clear hR;go_enter Tryz.func194,Tryz.ntmps194;go_wp2;go_returns;exact⟨rfl,by go_grown⟩
 subst z_limit;obtain⟨q0,hq0⟩:∃q,S14.has bits 0 16=q:=⟨_,rfl⟩;obtain⟨q1,hq1⟩:∃q,S14.has rate 1 255=q:=⟨_,rfl⟩;obtain⟨q2,hq2⟩:∃q,S14.has first 0 (k-1)=q:=⟨_,rfl⟩;obtain⟨q3,hq3⟩:∃q,S14.has second first (k-1)=q:=⟨_,rfl⟩;have hR':R=(q0&&q1&&q2&&q3):=by rw[←hR,←hq0,←hq1,←hq2,←hq3];simp[S14.okConst,S14.okDirect,S14.okMatch,S14.okAverage,S14.okMix,S14.okRefine,S14.ctx,S14.only,Bool.and_assoc]
 clear hR;obtain⟨wA,hwA,A,hA⟩:=zgI w [.int .i64 kind,.int .i64 bits,.int .i64 0,.int .i64 rate,.int .i64 first,.int .i64 second] 116;obtain⟨x0,x1,x2,x3,x4,x5⟩:=A.six;go_enter Tryz.func194,Tryz.ntmps194;go_wp2_with (rw[hwA]);refine(HB.out _ _ _ _).mono ?_;rw[hq0];rintro e w0 ⟨rfl,hb0⟩;have hB0:=zA hA hb0;replace A:=A.step hb0;clear x0 x1 x2 x3 x4 x5;obtain⟨x0,x1,x2,x3,x4,x5⟩:=A.six;cases q0 with
 | false=>
   obtain rfl:R=false:=by rw[hR'];try simp
   clear hR';go_wp2;go_returns;exact⟨rfl,hB0⟩
 | true=>
   go_wp2_with fail;refine(HB.out _ _ _ _).mono ?_;rw[hq1];rintro e w1 ⟨rfl,hb1⟩;have hB1:=zA hB0 hb1;replace A:=A.step hb1;clear x0 x1 x2 x3 x4 x5;obtain⟨x0,x1,x2,x3,x4,x5⟩:=A.six;cases q1 with
   | false=>
     obtain rfl:R=false:=by rw[hR'];try simp
     clear hR';go_wp2;go_returns;exact⟨rfl,hB1⟩
   | true=>
     go_wp2_with fail;refine(HB.out _ _ _ _).mono ?_;rw[hq2];rintro e w2 ⟨rfl,hb2⟩;have hB2:=zA hB1 hb2;replace A:=A.step hb2;clear x0 x1 x2 x3 x4 x5;obtain⟨x0,x1,x2,x3,x4,x5⟩:=A.six;cases q2 with
     | false=>
       obtain rfl:R=false:=by rw[hR'];try simp
       clear hR';go_wp2;go_returns;exact⟨rfl,hB2⟩
     | true=>
       go_wp2_with fail;refine(HB.out _ _ _ _).mono ?_;rw[hq3];rintro e w3 ⟨rfl,hb3⟩;have hB3:=zA hB2 hb3;replace A:=A.step hb3;clear x0 x1 x2 x3 x4 x5;obtain⟨x0,x1,x2,x3,x4,x5⟩:=A.six;cases q3 with
       | false=>
         obtain rfl:R=false:=by rw[hR'];try simp
         clear hR';go_wp2;go_returns;exact⟨rfl,hB3⟩
       | true=>
         obtain rfl:R=true:=by rw[hR'];try rfl
         clear hR';go_wp2;go_returns;exact⟨rfl,hB3⟩
theorem refined14_ok(c:S14.C)(k:Int)(w:World)(hk:0≤k∧k≤1000):Calls Tryz.prog 215 #[CV c,.int .i64 k] w fun e w'=>e = .returned (.bool (S14.okRefine c k))∧Below w.heap.size w w':=by
 have HB:=zB fun n lo hi W=>zbA n lo hi W;obtain⟨kind,bits,limit,rate,first,second⟩:=c;obtain⟨R,hR⟩:∃R,S14.okRefine ⟨kind,bits,limit,rate,first,second⟩ k=R:=⟨_,rfl⟩;rw[hR];unfold CV zZ;by_cases z_limit:limit=0
 case neg=>
  have hf:R=false:=by rw[←hR];simp[S14.okConst,S14.okDirect,S14.okMatch,S14.okAverage,S14.okMix,S14.okRefine,S14.ctx,S14.only,z_limit]
  subst hf;clear hR;go_enter Tryz.func215,Tryz.ntmps215;go_wp2;go_returns;exact⟨rfl,by go_grown⟩
 subst z_limit;by_cases z_second:second=0
 case neg=>
  have hf:R=false:=by rw[←hR];simp[S14.okConst,S14.okDirect,S14.okMatch,S14.okAverage,S14.okMix,S14.okRefine,S14.ctx,S14.only,z_second]
  subst hf;clear hR;go_enter Tryz.func215,Tryz.ntmps215;go_wp2;go_returns;exact⟨rfl,by go_grown⟩
 subst z_second;obtain⟨q0,hq0⟩:∃q,S14.has bits 0 16=q:=⟨_,rfl⟩;obtain⟨q1,hq1⟩:∃q,S14.has rate 1 255=q:=⟨_,rfl⟩;obtain⟨q2,hq2⟩:∃q,S14.has first 0 (k-1)=q:=⟨_,rfl⟩;have hR':R=(q0&&q1&&q2):=by rw[←hR,←hq0,←hq1,←hq2];simp[S14.okConst,S14.okDirect,S14.okMatch,S14.okAverage,S14.okMix,S14.okRefine,S14.ctx,S14.only,Bool.and_assoc]
 clear hR;obtain⟨wA,hwA,A,hA⟩:=zgI w [.int .i64 kind,.int .i64 bits,.int .i64 0,.int .i64 rate,.int .i64 first,.int .i64 0] 117;obtain⟨x0,x1,x2,x3,x4,x5⟩:=A.six;go_enter Tryz.func215,Tryz.ntmps215;go_wp2_with (rw[hwA]);refine(HB.out _ _ _ _).mono ?_;rw[hq0];rintro e w0 ⟨rfl,hb0⟩;have hB0:=zA hA hb0;replace A:=A.step hb0;clear x0 x1 x2 x3 x4 x5;obtain⟨x0,x1,x2,x3,x4,x5⟩:=A.six;cases q0 with
 | false=>
   obtain rfl:R=false:=by rw[hR'];try simp
   clear hR';go_wp2;go_returns;exact⟨rfl,hB0⟩
 | true=>
   go_wp2_with fail;refine(HB.out _ _ _ _).mono ?_;rw[hq1];rintro e w1 ⟨rfl,hb1⟩;have hB1:=zA hB0 hb1;replace A:=A.step hb1;clear x0 x1 x2 x3 x4 x5;obtain⟨x0,x1,x2,x3,x4,x5⟩:=A.six;cases q1 with
   | false=>
     obtain rfl:R=false:=by rw[hR'];try simp
     clear hR';go_wp2;go_returns;exact⟨rfl,hB1⟩
   | true=>
     go_wp2_with fail;refine(HB.out _ _ _ _).mono ?_;rw[hq2];rintro e w2 ⟨rfl,hb2⟩;have hB2:=zA hB1 hb2;replace A:=A.step hb2;clear x0 x1 x2 x3 x4 x5;obtain⟨x0,x1,x2,x3,x4,x5⟩:=A.six;cases q2 with
     | false=>
       obtain rfl:R=false:=by rw[hR'];try simp
       clear hR';go_wp2;go_returns;exact⟨rfl,hB2⟩
     | true=>
       obtain rfl:R=true:=by rw[hR'];try rfl
       clear hR';go_wp2;go_returns;exact⟨rfl,hB2⟩
theorem rcorrect14_0(bits limit rate first second k:Int)(w:World)(hk:0≤k∧k≤1000):Calls Tryz.prog 23 #[.agg #[.int .i64 0,.int .i64 bits,.int .i64 limit,.int .i64 rate,.int .i64 first,.int .i64 second],.int .i64 k] w fun e w'=>e = .returned (.bool (S14.okConst ⟨0,bits,limit,rate,first,second⟩))∧Below w.heap.size w w':=by
 have HB:=zB fun n lo hi W=>zcG n lo hi W;obtain⟨R,hR⟩:∃R,S14.okConst ⟨0,bits,limit,rate,first,second⟩=R:=⟨_,rfl⟩;rw[hR];by_cases z_bits:bits=0
 case neg=>
  have hf:R=false:=by rw[←hR];simp[S14.okConst,S14.ctx,S14.only,z_bits]
  subst hf;clear hR;go_enter Tryz.func23,Tryz.ntmps23;go_wp2;go_returns;exact⟨rfl,by go_grown⟩
 subst z_bits;by_cases z_rate:rate=0
 case neg=>
  have hf:R=false:=by rw[←hR];simp[S14.okConst,S14.ctx,S14.only,z_rate]
  subst hf;clear hR;go_enter Tryz.func23,Tryz.ntmps23;go_wp2;go_returns;exact⟨rfl,by go_grown⟩
 subst z_rate;by_cases z_first:first=0
 case neg=>
  have hf:R=false:=by rw[←hR];simp[S14.okConst,S14.ctx,S14.only,z_first]
  subst hf;clear hR;go_enter Tryz.func23,Tryz.ntmps23;go_wp2;go_returns;exact⟨rfl,by go_grown⟩
 subst z_first;by_cases z_second:second=0
 case neg=>
  have hf:R=false:=by rw[←hR];simp[S14.okConst,S14.ctx,S14.only,z_second]
  subst hf;clear hR;go_enter Tryz.func23,Tryz.ntmps23;go_wp2;go_returns;exact⟨rfl,by go_grown⟩
 subst z_second;obtain⟨q0,hq0⟩:∃q,S14.has limit 1 4095=q:=⟨_,rfl⟩;have hR':R=(q0):=by rw[←hR,←hq0];simp[S14.okConst,S14.ctx,S14.only,Bool.and_assoc]
 clear hR;obtain⟨wA,hwA,A,hA⟩:=zgI w [.int .i64 0,.int .i64 0,.int .i64 limit,.int .i64 0,.int .i64 0,.int .i64 0] 37;obtain⟨x0,x1,x2,x3,x4,x5⟩:=A.six;go_enter Tryz.func23,Tryz.ntmps23;go_wp2_with (rw[hwA]);refine(HB.out _ _ _ _).mono ?_;rw[hq0];rintro e w0 ⟨rfl,hb0⟩;have hB0:=zA hA hb0;replace A:=A.step hb0;clear x0 x1 x2 x3 x4 x5;obtain⟨x0,x1,x2,x3,x4,x5⟩:=A.six;cases q0 with
 | false=>
   obtain rfl:R=false:=by rw[hR'];try simp
   clear hR';go_wp2;go_returns;exact⟨rfl,hB0⟩
 | true=>
   obtain rfl:R=true:=by rw[hR'];try rfl
   clear hR';go_wp2;go_returns;exact⟨rfl,hB0⟩
theorem rcorrect14_1(bits limit rate first second k:Int)(w:World)(hk:0≤k∧k≤1000):Calls Tryz.prog 23 #[.agg #[.int .i64 1,.int .i64 bits,.int .i64 limit,.int .i64 rate,.int .i64 first,.int .i64 second],.int .i64 k] w fun e w'=>e = .returned (.bool (S14.okDirect ⟨1,bits,limit,rate,first,second⟩))∧Below w.heap.size w w':=by
 have HB:=zB fun n lo hi W=>zcG n lo hi W;obtain⟨R,hR⟩:∃R,S14.okDirect ⟨1,bits,limit,rate,first,second⟩=R:=⟨_,rfl⟩;rw[hR];by_cases z_rate:rate=0
 case neg=>
  have hf:R=false:=by rw[←hR];simp[S14.okDirect,S14.ctx,S14.only,z_rate]
  subst hf;clear hR;go_enter Tryz.func23,Tryz.ntmps23;go_wp2;go_returns;exact⟨rfl,by go_grown⟩
 subst z_rate;by_cases z_first:first=0
 case neg=>
  have hf:R=false:=by rw[←hR];simp[S14.okDirect,S14.ctx,S14.only,z_first]
  subst hf;clear hR;go_enter Tryz.func23,Tryz.ntmps23;go_wp2;go_returns;exact⟨rfl,by go_grown⟩
 subst z_first;by_cases z_second:second=0
 case neg=>
  have hf:R=false:=by rw[←hR];simp[S14.okDirect,S14.ctx,S14.only,z_second]
  subst hf;clear hR;go_enter Tryz.func23,Tryz.ntmps23;go_wp2;go_returns;exact⟨rfl,by go_grown⟩
 subst z_second;obtain⟨q0,hq0⟩:∃q,S14.has bits 0 16=q:=⟨_,rfl⟩;obtain⟨q1,hq1⟩:∃q,S14.has limit 1 1023=q:=⟨_,rfl⟩;have hR':R=(q0&&q1):=by rw[←hR,←hq0,←hq1];simp[S14.okDirect,S14.ctx,S14.only,Bool.and_assoc]
 clear hR;obtain⟨wA,hwA,A,hA⟩:=zgI w [.int .i64 1,.int .i64 bits,.int .i64 limit,.int .i64 0,.int .i64 0,.int .i64 0] 37;obtain⟨x0,x1,x2,x3,x4,x5⟩:=A.six;go_enter Tryz.func23,Tryz.ntmps23;go_wp2_with (rw[hwA]);refine(HB.out _ _ _ _).mono ?_;rw[hq0];rintro e w0 ⟨rfl,hb0⟩;have hB0:=zA hA hb0;replace A:=A.step hb0;clear x0 x1 x2 x3 x4 x5;obtain⟨x0,x1,x2,x3,x4,x5⟩:=A.six;cases q0 with
 | false=>
   obtain rfl:R=false:=by rw[hR'];try simp
   clear hR';go_wp2;go_returns;exact⟨rfl,hB0⟩
 | true=>
   go_wp2_with fail;refine(HB.out _ _ _ _).mono ?_;rw[hq1];rintro e w1 ⟨rfl,hb1⟩;have hB1:=zA hB0 hb1;replace A:=A.step hb1;clear x0 x1 x2 x3 x4 x5;obtain⟨x0,x1,x2,x3,x4,x5⟩:=A.six;cases q1 with
   | false=>
     obtain rfl:R=false:=by rw[hR'];try simp
     clear hR';go_wp2;go_returns;exact⟨rfl,hB1⟩
   | true=>
     obtain rfl:R=true:=by rw[hR'];try rfl
     clear hR';go_wp2;go_returns;exact⟨rfl,hB1⟩
theorem rcorrect14_2(bits limit rate first second k:Int)(w:World)(hk:0≤k∧k≤1000):Calls Tryz.prog 23 #[.agg #[.int .i64 2,.int .i64 bits,.int .i64 limit,.int .i64 rate,.int .i64 first,.int .i64 second],.int .i64 k] w fun e w'=>e = .returned (.bool (S14.okDirect ⟨2,bits,limit,rate,first,second⟩))∧Below w.heap.size w w':=by
 have HB:=zB fun n lo hi W=>zcG n lo hi W;obtain⟨R,hR⟩:∃R,S14.okDirect ⟨2,bits,limit,rate,first,second⟩=R:=⟨_,rfl⟩;rw[hR];by_cases z_rate:rate=0
 case neg=>
  have hf:R=false:=by rw[←hR];simp[S14.okDirect,S14.ctx,S14.only,z_rate]
  subst hf;clear hR;go_enter Tryz.func23,Tryz.ntmps23;go_wp2;go_returns;exact⟨rfl,by go_grown⟩
 subst z_rate;by_cases z_first:first=0
 case neg=>
  have hf:R=false:=by rw[←hR];simp[S14.okDirect,S14.ctx,S14.only,z_first]
  subst hf;clear hR;go_enter Tryz.func23,Tryz.ntmps23;go_wp2;go_returns;exact⟨rfl,by go_grown⟩
 subst z_first;by_cases z_second:second=0
 case neg=>
  have hf:R=false:=by rw[←hR];simp[S14.okDirect,S14.ctx,S14.only,z_second]
  subst hf;clear hR;go_enter Tryz.func23,Tryz.ntmps23;go_wp2;go_returns;exact⟨rfl,by go_grown⟩
 subst z_second;obtain⟨q0,hq0⟩:∃q,S14.has bits 0 16=q:=⟨_,rfl⟩;obtain⟨q1,hq1⟩:∃q,S14.has limit 1 1023=q:=⟨_,rfl⟩;have hR':R=(q0&&q1):=by rw[←hR,←hq0,←hq1];simp[S14.okDirect,S14.ctx,S14.only,Bool.and_assoc]
 clear hR;obtain⟨wA,hwA,A,hA⟩:=zgI w [.int .i64 2,.int .i64 bits,.int .i64 limit,.int .i64 0,.int .i64 0,.int .i64 0] 37;obtain⟨x0,x1,x2,x3,x4,x5⟩:=A.six;go_enter Tryz.func23,Tryz.ntmps23;go_wp2_with (rw[hwA]);refine(HB.out _ _ _ _).mono ?_;rw[hq0];rintro e w0 ⟨rfl,hb0⟩;have hB0:=zA hA hb0;replace A:=A.step hb0;clear x0 x1 x2 x3 x4 x5;obtain⟨x0,x1,x2,x3,x4,x5⟩:=A.six;cases q0 with
 | false=>
   obtain rfl:R=false:=by rw[hR'];try simp
   clear hR';go_wp2;go_returns;exact⟨rfl,hB0⟩
 | true=>
   go_wp2_with fail;refine(HB.out _ _ _ _).mono ?_;rw[hq1];rintro e w1 ⟨rfl,hb1⟩;have hB1:=zA hB0 hb1;replace A:=A.step hb1;clear x0 x1 x2 x3 x4 x5;obtain⟨x0,x1,x2,x3,x4,x5⟩:=A.six;cases q1 with
   | false=>
     obtain rfl:R=false:=by rw[hR'];try simp
     clear hR';go_wp2;go_returns;exact⟨rfl,hB1⟩
   | true=>
     obtain rfl:R=true:=by rw[hR'];try rfl
     clear hR';go_wp2;go_returns;exact⟨rfl,hB1⟩
theorem rcorrect14_3(bits limit rate first second k:Int)(w:World)(hk:0≤k∧k≤1000):Calls Tryz.prog 23 #[.agg #[.int .i64 3,.int .i64 bits,.int .i64 limit,.int .i64 rate,.int .i64 first,.int .i64 second],.int .i64 k] w fun e w'=>e = .returned (.bool (S14.okMatch ⟨3,bits,limit,rate,first,second⟩))∧Below w.heap.size w w':=by
 have HB:=zB fun n lo hi W=>zcG n lo hi W;obtain⟨R,hR⟩:∃R,S14.okMatch ⟨3,bits,limit,rate,first,second⟩=R:=⟨_,rfl⟩;rw[hR];by_cases z_rate:rate=0
 case neg=>
  have hf:R=false:=by rw[←hR];simp[S14.okMatch,S14.ctx,S14.only,z_rate]
  subst hf;clear hR;go_enter Tryz.func23,Tryz.ntmps23;go_wp2;go_returns;exact⟨rfl,by go_grown⟩
 subst z_rate;by_cases z_first:first=0
 case neg=>
  have hf:R=false:=by rw[←hR];simp[S14.okMatch,S14.ctx,S14.only,z_first]
  subst hf;clear hR;go_enter Tryz.func23,Tryz.ntmps23;go_wp2;go_returns;exact⟨rfl,by go_grown⟩
 subst z_first;by_cases z_second:second=0
 case neg=>
  have hf:R=false:=by rw[←hR];simp[S14.okMatch,S14.ctx,S14.only,z_second]
  subst hf;clear hR;go_enter Tryz.func23,Tryz.ntmps23;go_wp2;go_returns;exact⟨rfl,by go_grown⟩
 subst z_second;obtain⟨q0,hq0⟩:∃q,S14.has bits 1 16=q:=⟨_,rfl⟩;obtain⟨q1,hq1⟩:∃q,S14.has limit 1 32=q:=⟨_,rfl⟩;have hR':R=(q0&&q1):=by rw[←hR,←hq0,←hq1];simp[S14.okMatch,S14.ctx,S14.only,Bool.and_assoc]
 clear hR;obtain⟨wA,hwA,A,hA⟩:=zgI w [.int .i64 3,.int .i64 bits,.int .i64 limit,.int .i64 0,.int .i64 0,.int .i64 0] 37;obtain⟨x0,x1,x2,x3,x4,x5⟩:=A.six;go_enter Tryz.func23,Tryz.ntmps23;go_wp2_with (rw[hwA]);refine(HB.out _ _ _ _).mono ?_;rw[hq0];rintro e w0 ⟨rfl,hb0⟩;have hB0:=zA hA hb0;replace A:=A.step hb0;clear x0 x1 x2 x3 x4 x5;obtain⟨x0,x1,x2,x3,x4,x5⟩:=A.six;cases q0 with
 | false=>
   obtain rfl:R=false:=by rw[hR'];try simp
   clear hR';go_wp2;go_returns;exact⟨rfl,hB0⟩
 | true=>
   go_wp2_with fail;refine(HB.out _ _ _ _).mono ?_;rw[hq1];rintro e w1 ⟨rfl,hb1⟩;have hB1:=zA hB0 hb1;replace A:=A.step hb1;clear x0 x1 x2 x3 x4 x5;obtain⟨x0,x1,x2,x3,x4,x5⟩:=A.six;cases q1 with
   | false=>
     obtain rfl:R=false:=by rw[hR'];try simp
     clear hR';go_wp2;go_returns;exact⟨rfl,hB1⟩
   | true=>
     obtain rfl:R=true:=by rw[hR'];try rfl
     clear hR';go_wp2;go_returns;exact⟨rfl,hB1⟩
theorem rcorrect14_4(bits limit rate first second k:Int)(w:World)(hk:0≤k∧k≤1000):Calls Tryz.prog 23 #[.agg #[.int .i64 4,.int .i64 bits,.int .i64 limit,.int .i64 rate,.int .i64 first,.int .i64 second],.int .i64 k] w fun e w'=>e = .returned (.bool (S14.okAverage ⟨4,bits,limit,rate,first,second⟩ k))∧Below w.heap.size w w':=by
 have HB:=zB fun n lo hi W=>zcG n lo hi W;obtain⟨R,hR⟩:∃R,S14.okAverage ⟨4,bits,limit,rate,first,second⟩ k=R:=⟨_,rfl⟩;rw[hR];by_cases z_bits:bits=0
 case neg=>
  have hf:R=false:=by rw[←hR];simp[S14.okAverage,S14.ctx,S14.only,z_bits]
  subst hf;clear hR;go_enter Tryz.func23,Tryz.ntmps23;go_wp2;go_returns;exact⟨rfl,by go_grown⟩
 subst z_bits;by_cases z_rate:rate=0
 case neg=>
  have hf:R=false:=by rw[←hR];simp[S14.okAverage,S14.ctx,S14.only,z_rate]
  subst hf;clear hR;go_enter Tryz.func23,Tryz.ntmps23;go_wp2;go_returns;exact⟨rfl,by go_grown⟩
 subst z_rate;obtain⟨q0,hq0⟩:∃q,S14.has limit 0 256=q:=⟨_,rfl⟩;obtain⟨q1,hq1⟩:∃q,S14.has first 0 (k-1)=q:=⟨_,rfl⟩;obtain⟨q2,hq2⟩:∃q,S14.has second 0 (k-1)=q:=⟨_,rfl⟩;have hR':R=(q0&&q1&&q2):=by rw[←hR,←hq0,←hq1,←hq2];simp[S14.okAverage,S14.ctx,S14.only,Bool.and_assoc]
 clear hR;obtain⟨wA,hwA,A,hA⟩:=zgI w [.int .i64 4,.int .i64 0,.int .i64 limit,.int .i64 0,.int .i64 first,.int .i64 second] 37;obtain⟨x0,x1,x2,x3,x4,x5⟩:=A.six;go_enter Tryz.func23,Tryz.ntmps23;go_wp2_with (rw[hwA]);refine(HB.out _ _ _ _).mono ?_;rw[hq0];rintro e w0 ⟨rfl,hb0⟩;have hB0:=zA hA hb0;replace A:=A.step hb0;clear x0 x1 x2 x3 x4 x5;obtain⟨x0,x1,x2,x3,x4,x5⟩:=A.six;cases q0 with
 | false=>
   obtain rfl:R=false:=by rw[hR'];try simp
   clear hR';go_wp2;go_returns;exact⟨rfl,hB0⟩
 | true=>
   go_wp2_with fail;refine(HB.out _ _ _ _).mono ?_;rw[hq1];rintro e w1 ⟨rfl,hb1⟩;have hB1:=zA hB0 hb1;replace A:=A.step hb1;clear x0 x1 x2 x3 x4 x5;obtain⟨x0,x1,x2,x3,x4,x5⟩:=A.six;cases q1 with
   | false=>
     obtain rfl:R=false:=by rw[hR'];try simp
     clear hR';go_wp2;go_returns;exact⟨rfl,hB1⟩
   | true=>
     go_wp2_with fail;refine(HB.out _ _ _ _).mono ?_;rw[hq2];rintro e w2 ⟨rfl,hb2⟩;have hB2:=zA hB1 hb2;replace A:=A.step hb2;clear x0 x1 x2 x3 x4 x5;obtain⟨x0,x1,x2,x3,x4,x5⟩:=A.six;cases q2 with
     | false=>
       obtain rfl:R=false:=by rw[hR'];try simp
       clear hR';go_wp2;go_returns;exact⟨rfl,hB2⟩
     | true=>
       obtain rfl:R=true:=by rw[hR'];try rfl
       clear hR';go_wp2;go_returns;exact⟨rfl,hB2⟩
theorem rcorrect14_5(bits limit rate first second k:Int)(w:World)(hk:0≤k∧k≤1000):Calls Tryz.prog 23 #[.agg #[.int .i64 5,.int .i64 bits,.int .i64 limit,.int .i64 rate,.int .i64 first,.int .i64 second],.int .i64 k] w fun e w'=>e = .returned (.bool (S14.okMix ⟨5,bits,limit,rate,first,second⟩ k))∧Below w.heap.size w w':=by
 have HB:=zB fun n lo hi W=>zcG n lo hi W;obtain⟨R,hR⟩:∃R,S14.okMix ⟨5,bits,limit,rate,first,second⟩ k=R:=⟨_,rfl⟩;rw[hR];by_cases z_limit:limit=0
 case neg=>
  have hf:R=false:=by rw[←hR];simp[S14.okMix,S14.ctx,S14.only,z_limit]
  subst hf;clear hR;go_enter Tryz.func23,Tryz.ntmps23;go_wp2;go_returns;exact⟨rfl,by go_grown⟩
 subst z_limit;obtain⟨q0,hq0⟩:∃q,S14.has bits 0 16=q:=⟨_,rfl⟩;obtain⟨q1,hq1⟩:∃q,S14.has rate 1 255=q:=⟨_,rfl⟩;obtain⟨q2,hq2⟩:∃q,S14.has first 0 (k-1)=q:=⟨_,rfl⟩;obtain⟨q3,hq3⟩:∃q,S14.has second first (k-1)=q:=⟨_,rfl⟩;have hR':R=(q0&&q1&&q2&&q3):=by rw[←hR,←hq0,←hq1,←hq2,←hq3];simp[S14.okMix,S14.ctx,S14.only,Bool.and_assoc]
 clear hR;obtain⟨wA,hwA,A,hA⟩:=zgI w [.int .i64 5,.int .i64 bits,.int .i64 0,.int .i64 rate,.int .i64 first,.int .i64 second] 37;obtain⟨x0,x1,x2,x3,x4,x5⟩:=A.six;go_enter Tryz.func23,Tryz.ntmps23;go_wp2_with (rw[hwA]);refine(HB.out _ _ _ _).mono ?_;rw[hq0];rintro e w0 ⟨rfl,hb0⟩;have hB0:=zA hA hb0;replace A:=A.step hb0;clear x0 x1 x2 x3 x4 x5;obtain⟨x0,x1,x2,x3,x4,x5⟩:=A.six;cases q0 with
 | false=>
   obtain rfl:R=false:=by rw[hR'];try simp
   clear hR';go_wp2;go_returns;exact⟨rfl,hB0⟩
 | true=>
   go_wp2_with fail;refine(HB.out _ _ _ _).mono ?_;rw[hq1];rintro e w1 ⟨rfl,hb1⟩;have hB1:=zA hB0 hb1;replace A:=A.step hb1;clear x0 x1 x2 x3 x4 x5;obtain⟨x0,x1,x2,x3,x4,x5⟩:=A.six;cases q1 with
   | false=>
     obtain rfl:R=false:=by rw[hR'];try simp
     clear hR';go_wp2;go_returns;exact⟨rfl,hB1⟩
   | true=>
     go_wp2_with fail;refine(HB.out _ _ _ _).mono ?_;rw[hq2];rintro e w2 ⟨rfl,hb2⟩;have hB2:=zA hB1 hb2;replace A:=A.step hb2;clear x0 x1 x2 x3 x4 x5;obtain⟨x0,x1,x2,x3,x4,x5⟩:=A.six;cases q2 with
     | false=>
       obtain rfl:R=false:=by rw[hR'];try simp
       clear hR';go_wp2;go_returns;exact⟨rfl,hB2⟩
     | true=>
       go_wp2_with fail;refine(HB.out _ _ _ _).mono ?_;rw[hq3];rintro e w3 ⟨rfl,hb3⟩;have hB3:=zA hB2 hb3;replace A:=A.step hb3;clear x0 x1 x2 x3 x4 x5;obtain⟨x0,x1,x2,x3,x4,x5⟩:=A.six;cases q3 with
       | false=>
         obtain rfl:R=false:=by rw[hR'];try simp
         clear hR';go_wp2;go_returns;exact⟨rfl,hB3⟩
       | true=>
         obtain rfl:R=true:=by rw[hR'];try rfl
         clear hR';go_wp2;go_returns;exact⟨rfl,hB3⟩
theorem rcorrect14_6(bits limit rate first second k:Int)(w:World)(hk:0≤k∧k≤1000):Calls Tryz.prog 23 #[.agg #[.int .i64 6,.int .i64 bits,.int .i64 limit,.int .i64 rate,.int .i64 first,.int .i64 second],.int .i64 k] w fun e w'=>e = .returned (.bool (S14.okRefine ⟨6,bits,limit,rate,first,second⟩ k))∧Below w.heap.size w w':=by
 have HB:=zB fun n lo hi W=>zcG n lo hi W;obtain⟨R,hR⟩:∃R,S14.okRefine ⟨6,bits,limit,rate,first,second⟩ k=R:=⟨_,rfl⟩;rw[hR];by_cases z_limit:limit=0
 case neg=>
  have hf:R=false:=by rw[←hR];simp[S14.okRefine,S14.ctx,S14.only,z_limit]
  subst hf;clear hR;go_enter Tryz.func23,Tryz.ntmps23;go_wp2;go_returns;exact⟨rfl,by go_grown⟩
 subst z_limit;by_cases z_second:second=0
 case neg=>
  have hf:R=false:=by rw[←hR];simp[S14.okRefine,S14.ctx,S14.only,z_second]
  subst hf;clear hR;go_enter Tryz.func23,Tryz.ntmps23;go_wp2;go_returns;exact⟨rfl,by go_grown⟩
 subst z_second;obtain⟨q0,hq0⟩:∃q,S14.has bits 0 16=q:=⟨_,rfl⟩;obtain⟨q1,hq1⟩:∃q,S14.has rate 1 255=q:=⟨_,rfl⟩;obtain⟨q2,hq2⟩:∃q,S14.has first 0 (k-1)=q:=⟨_,rfl⟩;have hR':R=(q0&&q1&&q2):=by rw[←hR,←hq0,←hq1,←hq2];simp[S14.okRefine,S14.ctx,S14.only,Bool.and_assoc]
 clear hR;obtain⟨wA,hwA,A,hA⟩:=zgI w [.int .i64 6,.int .i64 bits,.int .i64 0,.int .i64 rate,.int .i64 first,.int .i64 0] 37;obtain⟨x0,x1,x2,x3,x4,x5⟩:=A.six;go_enter Tryz.func23,Tryz.ntmps23;go_wp2_with (rw[hwA]);refine(HB.out _ _ _ _).mono ?_;rw[hq0];rintro e w0 ⟨rfl,hb0⟩;have hB0:=zA hA hb0;replace A:=A.step hb0;clear x0 x1 x2 x3 x4 x5;obtain⟨x0,x1,x2,x3,x4,x5⟩:=A.six;cases q0 with
 | false=>
   obtain rfl:R=false:=by rw[hR'];try simp
   clear hR';go_wp2;go_returns;exact⟨rfl,hB0⟩
 | true=>
   go_wp2_with fail;refine(HB.out _ _ _ _).mono ?_;rw[hq1];rintro e w1 ⟨rfl,hb1⟩;have hB1:=zA hB0 hb1;replace A:=A.step hb1;clear x0 x1 x2 x3 x4 x5;obtain⟨x0,x1,x2,x3,x4,x5⟩:=A.six;cases q1 with
   | false=>
     obtain rfl:R=false:=by rw[hR'];try simp
     clear hR';go_wp2;go_returns;exact⟨rfl,hB1⟩
   | true=>
     go_wp2_with fail;refine(HB.out _ _ _ _).mono ?_;rw[hq2];rintro e w2 ⟨rfl,hb2⟩;have hB2:=zA hB1 hb2;replace A:=A.step hb2;clear x0 x1 x2 x3 x4 x5;obtain⟨x0,x1,x2,x3,x4,x5⟩:=A.six;cases q2 with
     | false=>
       obtain rfl:R=false:=by rw[hR'];try simp
       clear hR';go_wp2;go_returns;exact⟨rfl,hB2⟩
     | true=>
       obtain rfl:R=true:=by rw[hR'];try rfl
       clear hR';go_wp2;go_returns;exact⟨rfl,hB2⟩
theorem zrC(c:S14.C)(k:Int)(w:World)(hk:0≤k∧k≤1000):Calls Tryz.prog 23 #[CV c,.int .i64 k] w fun e w'=>e = .returned (.bool (S14.ok c k))∧Below w.heap.size w w':=by
 obtain⟨kind,bits,limit,rate,first,second⟩:=c;unfold S14.ok CV zZ;simp only;by_cases k0:kind=0
 ·subst k0;rw[zO rfl];exact rcorrect14_0 bits limit rate first second k w hk
 rw[zG k0];by_cases k1:kind=1
 ·subst k1;rw[zO rfl];exact rcorrect14_1 bits limit rate first second k w hk
 rw[zG k1];by_cases k2:kind=2
 ·subst k2;rw[zO rfl];exact rcorrect14_2 bits limit rate first second k w hk
 rw[zG k2];by_cases k3:kind=3
 ·subst k3;rw[zO rfl];exact rcorrect14_3 bits limit rate first second k w hk
 rw[zG k3];by_cases k4:kind=4
 ·subst k4;rw[zO rfl];exact rcorrect14_4 bits limit rate first second k w hk
 rw[zG k4];by_cases k5:kind=5
 ·subst k5;rw[zO rfl];exact rcorrect14_5 bits limit rate first second k w hk
 rw[zG k5];by_cases k6:kind=6
 ·subst k6;rw[zO rfl];exact rcorrect14_6 bits limit rate first second k w hk
 rw[zG k6];have e0:(kind==0)=false:=by simp[k0]
 have e1:(kind==1)=false:=by simp[k1]
 have e2:(kind==2)=false:=by simp[k2]
 have e3:(kind==3)=false:=by simp[k3]
 have e4:(kind==4)=false:=by simp[k4]
 have e5:(kind==5)=false:=by simp[k5]
 have e6:(kind==6)=false:=by simp[k6]
 go_enter Tryz.func23,Tryz.ntmps23;go_wp2;go_returns;exact⟨rfl,by go_grown⟩
def OfV(c:S14.C):Value:=
 if c.kind=0 then .iface 111 (CV c)else if c.kind=1 then .iface 112 (CV c)else if c.kind=2 then .iface 113 (CV c)else if c.kind=3 then .iface 114 (CV c)
 else if c.kind=4 then .iface 115 (CV c)else if c.kind=5 then .iface 116 (CV c)else if c.kind=6 then .iface 117 (CV c)else .nilIface
theorem ziL(c:S14.C)(w:World):Calls Tryz.prog 26 #[CV c] w fun e w'=>e = .returned (OfV c)∧Below w.heap.size w w':=by
 obtain⟨kind,bits,limit,rate,first,second⟩:=c;unfold OfV CV zZ;simp only;by_cases k0:kind=0
 ·subst k0;rw[zO rfl];go_enter Tryz.func26,Tryz.ntmps26;go_wp2;go_returns;exact⟨rfl,by go_grown⟩
 rw[zG k0];have e0:(kind==0)=false:=by simp[k0]
 by_cases k1:kind=1
 ·subst k1;rw[zO rfl];go_enter Tryz.func26,Tryz.ntmps26;go_wp2;go_returns;exact⟨rfl,by go_grown⟩
 rw[zG k1];have e1:(kind==1)=false:=by simp[k1]
 by_cases k2:kind=2
 ·subst k2;rw[zO rfl];go_enter Tryz.func26,Tryz.ntmps26;go_wp2;go_returns;exact⟨rfl,by go_grown⟩
 rw[zG k2];have e2:(kind==2)=false:=by simp[k2]
 by_cases k3:kind=3
 ·subst k3;rw[zO rfl];go_enter Tryz.func26,Tryz.ntmps26;go_wp2;go_returns;exact⟨rfl,by go_grown⟩
 rw[zG k3];have e3:(kind==3)=false:=by simp[k3]
 by_cases k4:kind=4
 ·subst k4;rw[zO rfl];go_enter Tryz.func26,Tryz.ntmps26;go_wp2;go_returns;exact⟨rfl,by go_grown⟩
 rw[zG k4];have e4:(kind==4)=false:=by simp[k4]
 by_cases k5:kind=5
 ·subst k5;rw[zO rfl];go_enter Tryz.func26,Tryz.ntmps26;go_wp2;go_returns;exact⟨rfl,by go_grown⟩
 rw[zG k5];have e5:(kind==5)=false:=by simp[k5]
 by_cases k6:kind=6
 ·subst k6;rw[zO rfl];go_enter Tryz.func26,Tryz.ntmps26;go_wp2;go_returns;exact⟨rfl,by go_grown⟩
 rw[zG k6];have e6:(kind==6)=false:=by simp[k6]
 go_enter Tryz.func26,Tryz.ntmps26;go_wp2;go_returns;exact⟨rfl,by go_grown⟩
def zhK(l:List S14.C):List Value:=(l.map zZ).flatten
theorem zbB(l:List S14.C):(zhK l).length=6*l.length:=by
 induction l with
 | nil=>rfl
 | cons x xs ih=>simp[zhK,zZ]at *;omega
theorem Cs14_at:∀(l:List S14.C) {i j:Nat} {x:S14.C},l[i]? = some x→j<6→(zhK l)[6*i+j]? = (zZ x)[j]?
 | [],i,j,x,h,_=>by simp at h
 | y::l,0,j,x,h,hj=>by
   obtain rfl:y=x:=by simpa using h
   show(zZ y++zhK l)[6*0+j]? = _;rw[Nat.mul_zero,yK,zaN (by simp[zZ];omega)]
 | y::l,i+1,j,x,h,hj=>by
   show(zZ y++zhK l)[6*(i+1)+j]? = _;rw[yQ (by simp[zZ];omega)];have e:6*(i+1)+j-(zZ y).length=6*i+j:=by simp[zZ];omega
   rw[e];exact Cs14_at l (by simpa using h) hj
structure Elem14(w:World)(g q:Nat)(x:S14.C):Prop where
 e0:w.cell? ⟨g,q,none⟩=some (.int .i64 x.kind)
 e1:w.cell? ⟨g,q+1,none⟩=some (.int .i64 x.bits)
 e2:w.cell? ⟨g,q+2,none⟩=some (.int .i64 x.limit)
 e3:w.cell? ⟨g,q+3,none⟩=some (.int .i64 x.rate)
 e4:w.cell? ⟨g,q+4,none⟩=some (.int .i64 x.first)
 e5:w.cell? ⟨g,q+5,none⟩=some (.int .i64 x.second)
theorem zsN{w:World}{g o:Nat}{l:List S14.C}(h:w.rangeAt g o (zhK l)){k:Nat}{x:S14.C}(hx:l[k]? = some x):Elem14 w g (o+k*6) x:=by
 have key:∀j v,j<6→(zZ x)[j]? = some v→w.cell? ⟨g,o+k*6+j,none⟩=some v:=fun j v hj hv=>by
  have:=h (6*k+j) v ((Cs14_at l hx hj).trans hv);rw[show o+(6*k+j)=o+k*6+j by omega]at this;exact this
 exact⟨key 0 _ (by omega) rfl,key 1 _ (by omega) rfl,key 2 _ (by omega) rfl,key 3 _ (by omega) rfl,key 4 _ (by omega) rfl,key 5 _ (by omega) rfl⟩
theorem S14.allOk_iff(l:List S14.C):S14.allOk l=true↔∀(k:Nat) (x:S14.C),l[k]? = some x→S14.ok x (k:Int)=true:=by
 unfold S14.allOk;rw[List.all_eq_true];constructor
 ·intro h k x hx;have hk:=(List.getElem?_eq_some_iff.1 hx).1;have:=h k (List.mem_range.2 hk);rw[List.getD,hx]at this;exact this
 ·intro h k hk;rw[zfQ]at hk;rw[List.getD,zE hk];exact h k _ (zE hk)
theorem S14.check_few{l:List S14.C}(h:S14.has (l.length:Int) 1 16=false):S14.check l=6:=by
 unfold S14.check;unfold S14.has at h;rw[zO (by have:=of_decide_eq_false h;omega)]
theorem S14.check_at{l:List S14.C}(h:S14.has (l.length:Int) 1 16=true){k:Nat}{x:S14.C}(hx:l[k]? = some x)(hf:S14.ok x (k:Int)=false):S14.check l=22:=by
 have h1:=zaV h;have h2:S14.allOk l≠true:=fun e=>by rw[(S14.allOk_iff l).1 e k x hx]at hf;cases hf
 unfold S14.check;rw[zG (by omega),zG h2]
theorem S14.check_ok{l:List S14.C}(h:S14.has (l.length:Int) 1 16=true)(hf:∀(k:Nat) (x:S14.C),l[k]? = some x→S14.ok x (k:Int)=true):S14.check l=0:=by
 have h1:=zaV h;unfold S14.check;rw[zG (by omega),zO ((S14.allOk_iff l).2 hf)]
theorem rcheck14_any(l:List S14.C)(a:Option Addr)(cap:Nat)(w:World)(hl:l.length≤4611686018427387904)(hrd:Rd w a (zhK l)) :
 Calls Tryz.prog 12 #[.slice a l.length cap] w fun e w'=>e = .returned (.int .i64 (S14.check l))∧Below w.heap.size w w':=by
 obtain⟨R,hR⟩:∃R,S14.check l=R:=⟨_,rfl⟩;rw[hR];by_cases h1:l.length<1
 ·have hr:R=6:=by rw[←hR];exact S14.check_few (by unfold S14.has;exact yD (by omega))
  subst hr;have d1:decide ((l.length:Int)<1)=true:=zQ (by omega);clear hR h1;go_enter Tryz.func12,Tryz.ntmps12;go_wp2;go_returns;exact⟨rfl,zF _ _⟩
 have d1:decide ((l.length:Int)<1)=false:=yD (by omega);by_cases h2:16<l.length
 ·have hr:R=6:=by rw[←hR];exact S14.check_few (by unfold S14.has;exact yD (by omega))
  subst hr;have d2:decide (16<(l.length:Int))=true:=zQ (by omega);clear hR h1 h2;go_enter Tryz.func12,Tryz.ntmps12;go_wp2;go_returns;exact⟨rfl,zF _ _⟩
 have d2:decide (16<(l.length:Int))=false:=yD (by omega);have hh:S14.has (l.length:Int) 1 16=true:=by unfold S14.has;exact zQ (by omega)
 have HC:=zB fun(x:S14.C) (k:Nat) W (hk:k≤16)=>(show Calls Tryz.prog 23 #[.agg #[.int .i64 x.kind,.int .i64 x.bits,.int .i64 x.limit,.int .i64 x.rate,.int .i64 x.first,.int .i64 x.second],.int .i64 (k:Int)] W _ from zrC x (k:Int) W (by omega));have HA:=zB fun(k:Nat) (x:S14.C) hx hf=>hR.symm.trans (S14.check_at hh (k:=k) (x:=x) hx hf);have HZ:=zB fun hf=>hR.symm.trans (S14.check_ok hh hf);have hl16:l.length≤16:=by omega
 have Hrd:=zB hrd;clear hR h1 h2 hh hrd;go_enter Tryz.func12,Tryz.ntmps12;go_wp2_with fail;go_loopw [3] (fun i wr=>∃k:Nat,k≤l.length∧i = .int .i64 (k:Int)∧RowKit.Hid (∀(j:Nat) (x:S14.C),j<k→l[j]? = some x→S14.ok x (j:Int)=true)∧Below w.heap.size w wr) (fun i _=>l.length-(intOf i).toNat)
 case atStart=>exact⟨0,by omega,rfl,zB (fun j x hj=>by omega),zF _ _⟩
 case round=>
  obtain⟨k,hk,rfl,hall,hB⟩:=hrel;by_cases hlt:k<l.length
  ·obtain⟨x,hx⟩:∃x,l[k]? = some x:=⟨_,zE hlt⟩;obtain⟨g,o,rfl,hcs⟩:=(Hrd.out.step hB) (fun e=>by have h1:=yS List.length e;rw[zbB]at h1;simp at h1;omega);obtain⟨x0,x1,x2,x3,x4,x5⟩:=zsN hcs hx;have dk:decide ((k:Int)<(l.length:Int))=true:=zQ (by omega);have HCk:=zB fun W=>HC.out x k W (by omega);obtain⟨q,hq⟩:∃q,S14.ok x (k:Int)=q:=⟨_,rfl⟩;rw[hq]at HCk;have Hq:=zB hq;have Hx:=zB hx;clear hcs hx hq;go_wp2_with fail;refine(HCk.out _).mono ?_;rintro e w1 ⟨rfl,hb1⟩;have hB1:=zA hB hb1;cases q with
   | false=>
     have hr:=HA.out k x Hx.out Hq.out;subst hr;go_wp2_with fail;go_returns;exact⟨rfl,hB1⟩
   | true=>
     go_wp2_with fail;go_roundw
     case rel=>exact⟨k+1,by omega,by go_num,zB (fun j y hj hy=>by
      rcases Nat.lt_succ_iff_lt_or_eq.1 hj with h|rfl
      ·exact hall.out j y h hy
      ·have e:=Hx.out;rw[hy]at e;cases e;exact Hq.out),hB1⟩
     case measure=>simp[intOf]<;>omega
  ·obtain rfl:k=l.length:=by omega
   have hr:=HZ.out (fun j x hx=>hall.out j x (List.getElem?_eq_some_iff.1 hx).1 hx);subst hr;have dk:decide (((l.length:Nat):Int)<(l.length:Int))=false:=yD (by omega);go_wp2_with fail;go_returns;exact⟨rfl,hB⟩
theorem xor_u32{a b:Nat}(ha:a<4294967296)(hb:b<4294967296):bits .xor .u32 (a:Int) (b:Int)=((a ^^^ b:Nat):Int):=by
 have h1:(BitVec.ofInt 32 (a:Int)).toNat=a:=by rw[zdH,zfA];exact zcT ha
 have h2:(BitVec.ofInt 32 (b:Int)).toNat=b:=by rw[zdH,zfA];exact zcT hb
 show IntKind.u32.wrap ((BitVec.ofInt 32 (a:Int) ^^^ BitVec.ofInt 32 (b:Int)).toNat:Int)=_;rw[BitVec.toNat_xor,h1,h2];have h3:a ^^^ b<4294967296:=Nat.xor_lt_two_pow (n:=32) ha hb;simp only[IntKind.wrap,IntKind.bits,IntKind.signed];simp;omega
theorem hash_cast(c n f g M:Nat)(fi gi Mi:Int)(hf:(f:Int)=fi)(hg:(g:Int)=gi)(hM:(M:Int)=Mi):((c:Int)+(n:Int)*fi)%Mi*gi%Mi=(((c+n*f)%M*g%M:Nat):Int):=by
 subst hf hg hM;simp only[Int.natCast_emod,Int.natCast_mul,Int.natCast_add]
theorem div_cast14(a:Nat):(a:Int)/32768=((a/32768:Nat):Int):=by omega
theorem hash14_any(c n:Nat)(hc:c<4294967296)(hn:n<4294967296)(w:World):Calls Tryz.prog 69 #[.int .u32 (c:Int),.int .i64 (n:Int)] w fun e w'=>e = .returned (.int .u32 (S14.hash c n:Int))∧Below w.heap.size w w':=by
 have h0:=S14.hash0_lt c n;have hx:=zB (xor_u32 (a:=S14.hash0 c n) (b:=S14.hash0 c n/32768) h0 (Nat.lt_of_le_of_lt (Nat.div_le_self _ _) h0));go_enter Tryz.func69,Tryz.ntmps69;have hc2:=hash_cast c n S14.m1 S14.m2 4294967296 2654435769 2246822519 4294967296 rfl rfl rfl;obtain⟨x,hx0⟩:∃x,S14.hash0 c n=x:=⟨_,rfl⟩;have hS:S14.hash c n=x ^^^ x/32768:=by unfold S14.hash;rw[hx0]
 rw[show(c+n*S14.m1)%4294967296*S14.m2%4294967296=x from hx0]at hc2;rw[hx0]at hx;rw[hS];have hd:=div_cast14 x;have hX:=hx.out;rw[←hd]at hX;clear hx0 hS h0 hx hd;go_wp2;go_returns;exact⟨rfl,zF _ _⟩
theorem zqL(l:List S14.C)(a:Option Addr)(cap:Nat)(w:World)(hl:l.length≤4611686018427387904)(hrd:Rd w a (zhK l)) :
 Calls Tryz.prog 24 #[.slice a l.length cap] w fun e w'=>e = .returned (.int .i64 (S14.check l))∧Below w.heap.size w w':=by
 have HB:=zB fun W=>zbA (l.length:Int) 1 16 W;obtain⟨R,hR⟩:∃R,S14.check l=R:=⟨_,rfl⟩;rw[hR];obtain⟨few,hfew⟩:∃q,S14.has (l.length:Int) 1 16=q:=⟨_,rfl⟩;rw[hfew]at HB;cases few with
 | false=>
   have hr:R=6:=by rw[←hR];exact S14.check_few hfew
   subst hr;clear hR hfew;go_enter Tryz.func24,Tryz.ntmps24;go_wp2_with fail;refine(HB.out _).mono ?_;rintro e w1 ⟨rfl,hb1⟩;go_wp2;go_returns;exact⟨rfl,hb1⟩
 | true=>
   have HO:=zB fun(x:S14.C) W=>(show Calls Tryz.prog 26 #[.agg #[.int .i64 x.kind,.int .i64 x.bits,.int .i64 x.limit,.int .i64 x.rate,.int .i64 x.first,.int .i64 x.second]] W _ from ziL x W);have HA:=zB fun(k:Nat) (x:S14.C) hx hf=>hR.symm.trans (S14.check_at hfew (k:=k) (x:=x) hx hf);have HZ:=zB fun hf=>hR.symm.trans (S14.check_ok hfew hf);have hl16:l.length≤16:=by have:=zaV hfew;omega
   have Hrd:=zB hrd;clear hR hrd hfew;go_enter Tryz.func24,Tryz.ntmps24;go_wp2_with fail;refine(HB.out _).mono ?_;rintro e w1 ⟨rfl,hb1⟩;go_wp2_with fail;go_loopw [12] (fun i wr=>∃k:Nat,k≤l.length∧i = .int .i64 (k:Int)∧RowKit.Hid (∀(j:Nat) (x:S14.C),j<k→l[j]? = some x→S14.ok x (j:Int)=true)∧Below w.heap.size w wr) (fun i _=>l.length-(intOf i).toNat)
   case atStart=>exact⟨0,by omega,rfl,zB (fun j x hj=>by omega),hb1⟩
   case round=>
    obtain⟨k,hk,rfl,hall,hB⟩:=hrel;by_cases hlt:k<l.length
    ·obtain⟨x,hx⟩:∃x,l[k]? = some x:=⟨_,zE hlt⟩;obtain⟨g,o,rfl,hcs⟩:=(Hrd.out.step hB) (fun e=>by have h1:=yS List.length e;rw[zbB]at h1;simp at h1;omega);obtain⟨x0,x1,x2,x3,x4,x5⟩:=zsN hcs hx;have dk:decide ((k:Int)<(l.length:Int))=true:=zQ (by omega);obtain⟨q,hq⟩:∃q,S14.ok x (k:Int)=q:=⟨_,rfl⟩;have Hq:=zB hq;have Hx:=zB hx;clear hcs hx hq;go_wp2_with fail;refine(HO.out x _).mono ?_;rintro e w2 ⟨rfl,hb2⟩;have hB2:Below w.heap.size w w2:=zA (hB.alloc hB.size _) hb2;clear x0 x1 x2 x3 x4 x5;obtain⟨V,hV⟩:∃V,OfV x=V:=⟨_,rfl⟩;rw[hV];unfold OfV at hV;have hq:=Hq.out;unfold S14.ok at hq;by_cases k0:x.kind=0
     ·rw[zO k0]at hV hq;subst hV;have HK:=zB fun W=>ztW x (k:Int) W;rw[hq]at HK;clear hq;cases q with
      | false=>
        have hr:=HA.out k x Hx.out Hq.out;subst hr;go_wp2_with fail;refine(HK.out _).mono ?_;rintro e w3 ⟨rfl,hb3⟩;have hB3:=zA hB2 hb3;go_wp2_with fail;go_returns;exact⟨rfl,hB3⟩
      | true=>
        go_wp2_with fail;refine(HK.out _).mono ?_;rintro e w3 ⟨rfl,hb3⟩;have hB3:=zA hB2 hb3;go_wp2_with fail;go_roundw
        case rel=>exact⟨k+1,by omega,by go_num,zB (fun j y hj hy=>by
         rcases Nat.lt_succ_iff_lt_or_eq.1 hj with h|rfl
         ·exact hall.out j y h hy
         ·have e:=Hx.out;rw[hy]at e;cases e;exact Hq.out),hB3⟩
        case measure=>simp[intOf]<;>omega
     rw[zG k0]at hV hq;by_cases k1:x.kind=1
     ·rw[zO k1]at hV hq;subst hV;have HK:=zB fun W=>direct14_ok x (k:Int) W;rw[hq]at HK;clear hq;cases q with
      | false=>
        have hr:=HA.out k x Hx.out Hq.out;subst hr;go_wp2_with fail;refine(HK.out _).mono ?_;rintro e w3 ⟨rfl,hb3⟩;have hB3:=zA hB2 hb3;go_wp2_with fail;go_returns;exact⟨rfl,hB3⟩
      | true=>
        go_wp2_with fail;refine(HK.out _).mono ?_;rintro e w3 ⟨rfl,hb3⟩;have hB3:=zA hB2 hb3;go_wp2_with fail;go_roundw
        case rel=>exact⟨k+1,by omega,by go_num,zB (fun j y hj hy=>by
         rcases Nat.lt_succ_iff_lt_or_eq.1 hj with h|rfl
         ·exact hall.out j y h hy
         ·have e:=Hx.out;rw[hy]at e;cases e;exact Hq.out),hB3⟩
        case measure=>simp[intOf]<;>omega
     rw[zG k1]at hV hq;by_cases k2:x.kind=2
     ·rw[zO k2]at hV hq;subst hV;have HK:=zB fun W=>history14_ok x (k:Int) W;rw[hq]at HK;clear hq;cases q with
      | false=>
        have hr:=HA.out k x Hx.out Hq.out;subst hr;go_wp2_with fail;refine(HK.out _).mono ?_;rintro e w3 ⟨rfl,hb3⟩;have hB3:=zA hB2 hb3;go_wp2_with fail;go_returns;exact⟨rfl,hB3⟩
      | true=>
        go_wp2_with fail;refine(HK.out _).mono ?_;rintro e w3 ⟨rfl,hb3⟩;have hB3:=zA hB2 hb3;go_wp2_with fail;go_roundw
        case rel=>exact⟨k+1,by omega,by go_num,zB (fun j y hj hy=>by
         rcases Nat.lt_succ_iff_lt_or_eq.1 hj with h|rfl
         ·exact hall.out j y h hy
         ·have e:=Hx.out;rw[hy]at e;cases e;exact Hq.out),hB3⟩
        case measure=>simp[intOf]<;>omega
     rw[zG k2]at hV hq;by_cases k3:x.kind=3
     ·rw[zO k3]at hV hq;subst hV;have HK:=zB fun W=>matched14_ok x (k:Int) W;rw[hq]at HK;clear hq;cases q with
      | false=>
        have hr:=HA.out k x Hx.out Hq.out;subst hr;go_wp2_with fail;refine(HK.out _).mono ?_;rintro e w3 ⟨rfl,hb3⟩;have hB3:=zA hB2 hb3;go_wp2_with fail;go_returns;exact⟨rfl,hB3⟩
      | true=>
        go_wp2_with fail;refine(HK.out _).mono ?_;rintro e w3 ⟨rfl,hb3⟩;have hB3:=zA hB2 hb3;go_wp2_with fail;go_roundw
        case rel=>exact⟨k+1,by omega,by go_num,zB (fun j y hj hy=>by
         rcases Nat.lt_succ_iff_lt_or_eq.1 hj with h|rfl
         ·exact hall.out j y h hy
         ·have e:=Hx.out;rw[hy]at e;cases e;exact Hq.out),hB3⟩
        case measure=>simp[intOf]<;>omega
     rw[zG k3]at hV hq;by_cases k4:x.kind=4
     ·rw[zO k4]at hV hq;subst hV;have HK:=zB fun W=>average14_ok x (k:Int) W (by omega);rw[hq]at HK;clear hq;cases q with
      | false=>
        have hr:=HA.out k x Hx.out Hq.out;subst hr;go_wp2_with fail;refine(HK.out _).mono ?_;rintro e w3 ⟨rfl,hb3⟩;have hB3:=zA hB2 hb3;go_wp2_with fail;go_returns;exact⟨rfl,hB3⟩
      | true=>
        go_wp2_with fail;refine(HK.out _).mono ?_;rintro e w3 ⟨rfl,hb3⟩;have hB3:=zA hB2 hb3;go_wp2_with fail;go_roundw
        case rel=>exact⟨k+1,by omega,by go_num,zB (fun j y hj hy=>by
         rcases Nat.lt_succ_iff_lt_or_eq.1 hj with h|rfl
         ·exact hall.out j y h hy
         ·have e:=Hx.out;rw[hy]at e;cases e;exact Hq.out),hB3⟩
        case measure=>simp[intOf]<;>omega
     rw[zG k4]at hV hq;by_cases k5:x.kind=5
     ·rw[zO k5]at hV hq;subst hV;have HK:=zB fun W=>mixed14_ok x (k:Int) W (by omega);rw[hq]at HK;clear hq;cases q with
      | false=>
        have hr:=HA.out k x Hx.out Hq.out;subst hr;go_wp2_with fail;refine(HK.out _).mono ?_;rintro e w3 ⟨rfl,hb3⟩;have hB3:=zA hB2 hb3;go_wp2_with fail;go_returns;exact⟨rfl,hB3⟩
      | true=>
        go_wp2_with fail;refine(HK.out _).mono ?_;rintro e w3 ⟨rfl,hb3⟩;have hB3:=zA hB2 hb3;go_wp2_with fail;go_roundw
        case rel=>exact⟨k+1,by omega,by go_num,zB (fun j y hj hy=>by
         rcases Nat.lt_succ_iff_lt_or_eq.1 hj with h|rfl
         ·exact hall.out j y h hy
         ·have e:=Hx.out;rw[hy]at e;cases e;exact Hq.out),hB3⟩
        case measure=>simp[intOf]<;>omega
     rw[zG k5]at hV hq;by_cases k6:x.kind=6
     ·rw[zO k6]at hV hq;subst hV;have HK:=zB fun W=>refined14_ok x (k:Int) W (by omega);rw[hq]at HK;clear hq;cases q with
      | false=>
        have hr:=HA.out k x Hx.out Hq.out;subst hr;go_wp2_with fail;refine(HK.out _).mono ?_;rintro e w3 ⟨rfl,hb3⟩;have hB3:=zA hB2 hb3;go_wp2_with fail;go_returns;exact⟨rfl,hB3⟩
      | true=>
        go_wp2_with fail;refine(HK.out _).mono ?_;rintro e w3 ⟨rfl,hb3⟩;have hB3:=zA hB2 hb3;go_wp2_with fail;go_roundw
        case rel=>exact⟨k+1,by omega,by go_num,zB (fun j y hj hy=>by
         rcases Nat.lt_succ_iff_lt_or_eq.1 hj with h|rfl
         ·exact hall.out j y h hy
         ·have e:=Hx.out;rw[hy]at e;cases e;exact Hq.out),hB3⟩
        case measure=>simp[intOf]<;>omega
     rw[zG k6]at hV hq;subst hV hq;have hr:=HA.out k x Hx.out Hq.out;subst hr;go_wp2_with fail;go_returns;exact⟨rfl,hB2⟩
    ·obtain rfl:k=l.length:=by omega
     have hr:=HZ.out (fun j x hx=>hall.out j x (List.getElem?_eq_some_iff.1 hx).1 hx);subst hr;have dk:decide (((l.length:Nat):Int)<(l.length:Int))=false:=yD (by omega);go_wp2_with fail;go_returns;exact⟨rfl,hB⟩
theorem zpC{n:Nat}(h:n≤16):1≤2^n∧2^n≤65536:=⟨Nat.one_le_two_pow,zdA (n:=2) (by omega) h⟩
theorem zeO(c:S14.C)(n P:Nat)(hn:n≤16)(hb:c.bits=n)(hP:2^n=P)(w:World):Calls Tryz.prog 121 #[CV c] w fun e w'=>e = .returned (.int .i64 (P:Int))∧Below w.heap.size w w':=by
 obtain⟨kind,bits,limit,rate,first,second⟩:=c;simp only at hb;subst hb;have hp:=zpC hn;rw[hP]at hp;have e1:(2:Int)^n=(P:Int):=by rw[←hP];simp
 clear hP;unfold CV zZ;go_enter Tryz.func121,Tryz.ntmps121;go_wp2_with fail;go_returns;exact⟨rfl,by go_grown⟩
def S14.zc:S14.C:=⟨0,0,0,0,0,0⟩
theorem S14.has_iff{n lo hi:Int}:S14.has n lo hi=true↔lo≤n∧n≤hi:=by unfold S14.has;exact decide_eq_true_iff
structure S14.Is(x:S14.C)(k:Int):Prop where
 kind:x.kind=0∨x.kind=1∨x.kind=2∨x.kind=3∨x.kind=4∨x.kind=5∨x.kind=6
 bits:0≤x.bits∧x.bits≤16
 mix:x.kind=5→0≤x.first∧x.first≤x.second∧x.second≤k-1
theorem S14.ok_is{x:S14.C}{k:Int}(h:S14.ok x k=true):S14.Is x k:=by
 unfold S14.ok at h;obtain⟨kind,bits,limit,rate,first,second⟩:=x;simp only at h;by_cases k0:kind=0
 ·rw[zO k0]at h;simp[S14.okConst,S14.only,S14.has_iff]at h;exact⟨by simp only;omega,by simp only;omega,by simp only;omega⟩
 rw[zG k0]at h;by_cases k1:kind=1
 ·rw[zO k1]at h;simp[S14.okDirect,S14.only,S14.has_iff]at h;exact⟨by simp only;omega,by simp only;omega,by simp only;omega⟩
 rw[zG k1]at h;by_cases k2:kind=2
 ·rw[zO k2]at h;simp[S14.okDirect,S14.only,S14.has_iff]at h;exact⟨by simp only;omega,by simp only;omega,by simp only;omega⟩
 rw[zG k2]at h;by_cases k3:kind=3
 ·rw[zO k3]at h;simp[S14.okMatch,S14.only,S14.has_iff]at h;exact⟨by simp only;omega,by simp only;omega,by simp only;omega⟩
 rw[zG k3]at h;by_cases k4:kind=4
 ·rw[zO k4]at h;simp[S14.okAverage,S14.only,S14.has_iff]at h;exact⟨by simp only;omega,by simp only;omega,by simp only;omega⟩
 rw[zG k4]at h;by_cases k5:kind=5
 ·rw[zO k5]at h;simp[S14.okMix,S14.only,S14.has_iff]at h;exact⟨by simp only;omega,by simp only;omega,fun _=>by simp only;omega⟩
 rw[zG k5]at h;by_cases k6:kind=6
 ·rw[zO k6]at h;simp[S14.okRefine,S14.only,S14.has_iff]at h;exact⟨by simp only;omega,by simp only;omega,by simp only;omega⟩
 rw[zG k6]at h;cases h
theorem S14.check_zero{l:List S14.C}(h:S14.check l=0):1≤l.length∧l.length≤16∧∀(k:Nat) (x:S14.C),l[k]? = some x→S14.ok x (k:Int)=true:=by
 unfold S14.check at h;split at h
 ·cases h
 ·split at h
  ·rename_i h1 h2
   exact⟨by omega,by omega,(S14.allOk_iff l).1 h2⟩
  ·cases h
