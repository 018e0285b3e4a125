/- A part of the proof that ends in L14p (W10r, W10u, W10x). No condition. -/
import Derived.Below
import Derived.BigQuiet
import Derived.Deep.Draws
import Derived.Deep.Light
import Derived.Deep.MidRow
import Derived.Deep.QuietTactic
import Derived.Handy
import Derived.Laws.AppendOwnNone
import Derived.Laws.CopyOwn
import Derived.Laws.MakeOwn
import Derived.Laws.OwnMore
import Derived.Lib.Hide
import Derived.Lib.MinMax
import Derived.Lib.SliceRun
import Derived.LoopIn
import Derived.LoopNIn
import Derived.Maps.AppendAt
import Derived.Orders
import Derived.OrdersHeld
import Derived.OwnWalkIn
import Derived.RangeFuncBound
import Derived.RangeFuncCalls
import Derived.RangeFuncLeaves
import Derived.RangeFuncNested
import Derived.Shelf.Abstract
import Derived.Shelf.RegionOpen
import Derived.Sort.BigQuietIn
import Derived.Sort.QuietIn
import Derived.StillTail
import Derived.Tactics
import Derived.TacticsInMore
import Derived.Test.YtieeogndnhighaaGreatRows
import Derived.WalkKit
import Derived.WalkLawsBesides
import Derived.WalkSpells
import Derived.Test.YtieeogndnhighaaGreatZL14paj
import Derived.Test.YtieeogndnhighaaGreatZL14pbg
set_option linter.unusedSectionVars false
set_option linter.unusedSimpArgs false
set_option linter.unusedVariables false
set_option maxRecDepth 100000
set_option maxHeartbeats 2000000
namespace Go.Proofs.YtieeogndnhighaaGreat
open Go.RowKit
def S10.setMany:List Int→Nat→List Int→List Int
 | xs,_,[]=>xs
 | xs,i,y::ys=>S10.setMany (xs.set i y) (i+1) ys
def S10.fresh(xs:List Int)(n mk:Nat):List Int:=(S10.setMany xs (16*n) (List.replicate 16 0)).set (16*n) (mk:Int)
end Go.Proofs.YtieeogndnhighaaGreat
namespace Go.Proofs.YtieeogndnhighaaGreat
open Go.RowKit
theorem OB.setCells{base b cap:Nat}:∀(ys:List Int) (i:Nat) (w:World) (xs:List Int),OB w base b cap xs→OB (w.setCells b i (Bts ys)) base b cap (S10.setMany xs i ys)
 | [],i,w,xs,h=>h
 | y::ys,i,w,xs,h=>OB.setCells ys (i+1) _ _ (h.set i y)
theorem Below.setCells{B b:Nat}(hb:B≤b):∀(vs:List Value) (i:Nat) (A w:World),Below B A w→Below B A (w.setCells b i vs)
 | [],i,A,w,h=>h
 | v::vs,i,A,w,h=>Below.setCells hb vs (i+1) A _ (h.setCell (p:=⟨b,i,none⟩) hb v)
end Go.Proofs.YtieeogndnhighaaGreat
namespace Go.Proofs.YtieeogndnhighaaGreat
open Go.RowKit
theorem TO.tab{w:World}{base b cap:Nat}{bits:Int}{xs xs':List Int}(ho:OB w base b cap xs)(hl:xs'.length=xs.length):TO w base bits xs (zlQ bits xs' (some ⟨b,0,none⟩) cap):=by
 refine .inr ⟨b,cap,?_,ho⟩;unfold zlQ;rw[hl]
end Go.Proofs.YtieeogndnhighaaGreat
namespace Go.Proofs.YtieeogndnhighaaGreat
open Go.RowKit
def S10.bad2(xs:List Int)(j:Nat):Bool:=decide (j%16≠0)&&decide (215≤xs.getD j 0)
def S10.badP(xs:List Int)(i:Nat):Bool:=(List.range i).any (S10.bad2 xs)
theorem S10.badP_succ(xs:List Int)(i:Nat):S10.badP xs (i+1)=(S10.badP xs i||S10.bad2 xs i):=by
 unfold S10.badP;rw[List.range_succ,List.any_append,List.any_cons,List.any_nil,Bool.or_false]
theorem S10.badP_mono{xs:List Int}{i k:Nat}(h:S10.bad2 xs i=true)(hi:i<k):S10.badP xs k=true:=by
 unfold S10.badP;rw[List.any_eq_true];exact⟨i,List.mem_range.2 hi,h⟩
theorem S10.mem_tail{xs:List Int}{k:Nat}{x:Int}(hl:16*k+16≤xs.length):x∈S10.tail xs k↔∃j,1≤j∧j<16∧xs.getD (16*k+j) 0=x:=by
 unfold S10.tail;constructor
 ·intro h;obtain⟨i,hi,rfl⟩:=List.mem_iff_getElem.1 h;simp only[List.length_take,List.length_drop]at hi;refine⟨i+1,by omega,by omega,?_⟩;rw[List.getElem_take,List.getElem_drop,zO,zE (by omega)];simp only[Option.getD_some]
  congr 1;omega
 ·rintro⟨j,h1,h2,rfl⟩;rw[List.mem_iff_getElem];refine⟨j-1,by simp;omega,?_⟩;rw[List.getElem_take,List.getElem_drop,zO,zE (by omega)];simp only[Option.getD_some]
  congr 1;omega
theorem S10.bad_eq{xs:List Int}{m:Nat}(hl:xs.length=16*m):S10.bad xs m=S10.badP xs (16*m):=by
 rw[Bool.eq_iff_iff];unfold S10.bad S10.badP S10.bad2;simp only[List.any_eq_true,List.mem_range,yF,yM];constructor
 ·rintro⟨k,hk,x,hx,hb⟩;obtain⟨j,h1,h2,rfl⟩:=(S10.mem_tail (by omega)).1 hx;exact⟨16*k+j,by omega,by omega,by unfold S10.bad1 at hb;simpa using hb⟩
 ·rintro⟨j,hj,h1,h2⟩
  exact⟨j/16,by omega,_,(S10.mem_tail (by omega)).2 ⟨j%16,by omega,by omega,rfl⟩,by
   have e:16*(j/16)+j%16=j:=by omega
   rw[e];unfold S10.bad1;simpa using h2⟩
theorem zmR(x:Int):IntKind.i64.wrap x=wrap64 x:=by rw[IntKind.wrap_i64];unfold wrap64;omega
theorem i64_small{x:Int}(h : -9223372036854775808≤x)(h':x<9223372036854775808):IntKind.i64.wrap x=x:=(zmR x).trans (IntWalk.wrap64_in _ ⟨by omega,by omega⟩)
theorem Bts_ix{xs:List Int}{k:Nat}(h:k<xs.length):(Bts xs)[k]? = some (.int .u8 (xs.getD k 0)):=by
 unfold Bts;rw[yR,zE h,zO,zE h];rfl
theorem znL(n:Nat)(hn:n≤16)(xs:List Int)(hl:xs.length=16*2^n)(a:Option Addr)(cap:Nat)(w:World)(hT:Tab xs a cap w) :
 Calls Tryz.prog 81 #[zlQ (n:Int) xs a cap] w fun e w'=>e = .returned (.int .i64 (if S10.badP xs xs.length then 3 else 0))∧Below w.heap.size w w':=by
 have hps:=zcH hn;have hpp:=Nat.two_pow_pos n;have HZ:=zB fun W=>zbC n (by omega) W;obtain⟨b,off,rfl,hcs⟩:=hT.rd (fun e=>by have h1:=yN List.length e;rw[zaG,hl]at h1;simp only[List.length_nil]at h1;omega);have hok:=zB hT.ok;have eLn:(xs.length:Int)=16*((2^n:Nat):Int):=by rw[hl];simp
 have eW:wrap64 (16*((2^n:Nat):Int))=xs.length:=by rw[eLn];generalize 2^n=m at hps⊢;exact IntWalk.wrap64_in _ ⟨by omega,by omega⟩
 have hLs:xs.length≤2097152:=by omega
 have b1:¬((n:Int)<0):=by omega
 have b2:¬(16<(n:Int)):=by omega
 obtain⟨res,hres⟩:∃res:Int,(if S10.badP xs xs.length then 3 else 0)=res:=⟨_,rfl⟩;rw[hres];have Hres:=zB hres;have Hs:=zB (S10.badP_succ xs);have Hm:=zB (fun i hi h=>S10.badP_mono (xs:=xs) (i:=i) (k:=xs.length) h hi);unfold zlQ;have hcap:=hT.cap;clear hT hres hl eLn hpp hps;generalize 2^n=m at *;go_enter Tryz.func81,Tryz.ntmps81;go_wp2;have hB0:Below w.heap.size w (w.alloc (Obj.cells #[.int .i64 (n:Int),.slice (some ⟨b,off,none⟩) xs.length cap] 75)):=(zI _ _).alloc (zG _) _;have a0:Blk (w.alloc (Obj.cells #[.int .i64 (n:Int),.slice (some ⟨b,off,none⟩) xs.length cap] 75)) w.heap.size [.int .i64 (n:Int),.slice (some ⟨b,off,none⟩) xs.length cap] 75:=Blk.new w _ _;generalize w.alloc (Obj.cells #[.int .i64 (n:Int),.slice (some ⟨b,off,none⟩) xs.length cap] 75)=w0 at *;have hCS:Cells w0 [(⟨w.heap.size,0,none⟩,.int .i64 (n:Int)),(⟨w.heap.size,1,none⟩,.slice (some ⟨b,off,none⟩) xs.length cap)]:=⟨a0.cell 0,a0.cell 1,yI⟩;refine zoN 8 0 [(U,[U,U,U,U,U]),(zoJ,[zoJ,zoJ,zoJ,zoJ,zoJ,U]),(U,[zoJ,zoJ,zoJ,zoJ,zoJ,zoJ,U,U])] (Keeps w0 [(⟨w.heap.size,0,none⟩,.int .i64 (n:Int)),(⟨w.heap.size,1,none⟩,.slice (some ⟨b,off,none⟩) xs.length cap)]) (by kernel_rfl) (Keeps.start hCS) (fun Y Q4 F4 hY hF=> ?_);simp only[zoL]
 repeat
  apply zD (by rw[hY];rfl)
  ·intro w2 hS2;(try simp only[Keeps,Cells]at hS2);go_simp;with_reducible rfl
  simp only[zoK]
 apply zQ (by rw[hY];rfl)
 ·go_simp;with_reducible exact⟨rfl,rfl⟩
 refine(HZ.out _).mono ?_;rintro e w1 ⟨rfl,hb1⟩;have hk1:=(Keeps.start hCS).step hb1;refine⟨_,rfl,hk1,?_⟩;simp only[zoK]
 repeat
  apply zD (by rw[hY];rfl)
  ·intro w2 hS2;(try simp only[Keeps,Cells]at hS2);go_simp;with_reducible rfl
  simp only[zoK]
 refine zT (hF.out _ _ (fun K hK=> ?_));clear hF hY;refine OnlyK.mk (hK.out _ _ ?_);clear hK;have hB1:=zA hB0 hk1.1;have a1:=a0.step hk1.1;have eW2:IntKind.i64.wrap (16*(m:Int))=xs.length:=(zmR _).trans eW;rw[eW2,bne_self_eq_false];clear hb1 hk1 hCS a0 hB0;go_wp2
 go_loopw [3] (fun i wr=>∃k:Nat,k≤xs.length∧i = .int .i64 (k:Int)∧S10.badP xs k=false∧Below w1.heap.size w1 wr)
  (fun i _=>xs.length-(intOf i).toNat)
 case atStart=>exact⟨0,by omega,rfl,rfl,zI _ _⟩
 case round=>
  obtain⟨k,hk,rfl,hno,hB⟩:=hrel;have hno':=zB hno;have hBr:=zA hB1 hB;have a2:=a1.step hB;have c0:=a2.cell 0;have c1:=a2.cell 1;simp only[zoM]at c0 c1;clear hno;by_cases hlt:k<xs.length
  ·have hcx:wr.cell? ⟨b,off+k,none⟩=some (.int .u8 (xs.getD k 0)):=zaM hcs hBr k _ (Bts_ix hlt);have hr:0≤xs.getD k 0∧xs.getD k 0<256:=by
    rw[zO,zE hlt];exact hok.out _ (zbK hlt)
   have hs:=Hs.out k;have hm:=Hm.out k hlt;have hb2:S10.bad2 xs k=(decide (k%16≠0)&&decide (215≤xs.getD k 0)):=rfl;generalize S10.bad2 xs k=bd at *;generalize xs.getD k 0=v at *;rw[hno'.out,Bool.false_or]at hs;have ev:IntKind.i64.wrap v=v:=i64_small (by omega) (by omega);have ek:((k:Int)%16=((k%16:Nat):Int)):=by omega
   have hC2:Cells wr [(⟨w.heap.size,1,none⟩,.slice (some ⟨b,off,none⟩) xs.length cap),(⟨b,off+k,none⟩,.int .u8 v)]:=⟨c1,hcx,yI⟩;by_cases hg:k%16=0
   ·have hbf:bd=false:=by rw[hb2];simp[hg]
    rw[hbf]at hs;have Hs1:=zB hs;have eg:(k:Int).tmod 16=0:=by rw[Int.tmod_eq_emod_of_nonneg (by omega)];omega
    clear hs hm hb2 hbf;go_wp2;refine zoN 13 0 [(U,[U,U,U,U,U,U,U,U,U,U]),(zoJ,[zoJ,zoJ,zoJ,zoJ,zoJ,zoJ,zoJ,zoJ,zoJ,zoJ,U]),(U,[zoJ,zoJ,zoJ,zoJ,zoJ,zoJ,zoJ,zoJ,zoJ,zoJ,zoJ,U,U])] (Keeps wr [(⟨w.heap.size,1,none⟩,.slice (some ⟨b,off,none⟩) xs.length cap),(⟨b,off+k,none⟩,.int .u8 v)]) (by kernel_rfl) (Keeps.start hC2) (fun Y Q4 F4 hY hF=> ?_);simp only[zoL]
    repeat
     apply zD (by rw[hY];rfl)
     ·intro w2 hS2;(try simp only[Keeps,Cells]at hS2);go_simp;with_reducible rfl
     simp only[zoK]
    repeat
     first
      | (apply zR (by rw[hY];rfl);simp only[zoK])
      | (refine yH (by rw[hY];rfl) (Keeps.start hC2) ?_;simp only[zoK])
    repeat
     apply zD (by rw[hY];rfl)
     ·intro w2 hS2;(try simp only[Keeps,Cells]at hS2);go_simp;with_reducible rfl
     simp only[zoK]
    refine zT (hF.out _ _ (fun K hK=> ?_));clear hF hY;refine OnlyK.mk (hK.out _ _ ?_);clear hK;have hbd:Below wr.heap.size wr wr.drew:=(Keeps.start hC2).1;generalize wr.drew=w5 at *;have hB5:=zA hB hbd;go_wp2;go_roundw
    case rel=>exact⟨k+1,by omega,by simp,Hs1.out,hB5⟩
    case measure=>simp[intOf];omega
   ·have hb3:bd=decide (215≤v):=by rw[hb2];simp[hg]
    have Hm1:=zB hm;have Hs1:=zB hs;have eg:((k:Int).tmod 16 != 0)=true:=by rw[Int.tmod_eq_emod_of_nonneg (by omega)];simp;omega
    clear hs hm hb2;go_wp2;refine zoN 13 0 [(U,[U,U,U,U,U,U,U,U,U,U]),(zoJ,[zoJ,zoJ,zoJ,zoJ,zoJ,zoJ,zoJ,zoJ,zoJ,zoJ,U]),(U,[zoJ,zoJ,zoJ,zoJ,zoJ,zoJ,zoJ,zoJ,zoJ,zoJ,zoJ,U,U])] (Keeps wr [(⟨w.heap.size,1,none⟩,.slice (some ⟨b,off,none⟩) xs.length cap),(⟨b,off+k,none⟩,.int .u8 v)]) (by kernel_rfl) (Keeps.start hC2) (fun Y Q4 F4 hY hF=> ?_);simp only[zoL]
    repeat
     apply zD (by rw[hY];rfl)
     ·intro w2 hS2;(try simp only[Keeps,Cells]at hS2);go_simp;with_reducible rfl
     simp only[zoK]
    apply zQ (by rw[hY];rfl)
    ·go_simp;with_reducible exact⟨rfl,rfl⟩
    refine(zlX _).mono ?_;rintro e w5 ⟨rfl,hb5⟩;have hk5:=(Keeps.start hC2).step hb5;refine⟨_,rfl,hk5,?_⟩;simp only[zoK]
    repeat
     apply zD (by rw[hY];rfl)
     ·intro w2 hS2;(try simp only[Keeps,Cells]at hS2);go_simp;with_reducible rfl
     simp only[zoK]
    refine zT (hF.out _ _ (fun K hK=> ?_));clear hF hY;refine OnlyK.mk (hK.out _ _ ?_);clear hK;have hB5:=zA hB hk5.1;have hB6:=zA hB1 hB5;by_cases hv:215≤v
    ·have hr3:res=3:=by rw[←Hres.out,Hm1.out (by rw[hb3];simpa using hv)];rfl
     go_wp2;go_returns;exact⟨by rw[hr3];rfl,hB6⟩
    ·have Hs2:=zB (show S10.badP xs (k+1)=false by rw[Hs1.out,hb3];simpa using hv);go_wp2;go_roundw
     case rel=>exact⟨k+1,by omega,by simp,Hs2.out,hB5⟩
     case measure=>simp[intOf];omega
  ·obtain rfl:k=xs.length:=by omega
   have hr0:res=0:=by rw[←Hres.out,hno'.out];rfl
   go_wp2;go_returns;exact⟨by rw[hr0];rfl,hBr⟩
theorem ziR(bits:Int)(xs:List Int)(a:Option Addr)(cap:Nat)(w:World)(hT:Tab xs a cap w) :
 Calls Tryz.prog 81 #[zlQ bits xs a cap] w fun e w'=>e = .returned (.int .i64 (S10.check bits xs))∧Below w.heap.size w w':=by
 by_cases h1:bits<0∨16<bits
 ·rw[S10.check_range h1];unfold zlQ;rcases h1 with h1|h1
  ·go_enter Tryz.func81,Tryz.ntmps81;go_wp2;go_returns;exact⟨rfl,by go_grown⟩
  ·have h2:¬bits<0:=by omega
   go_enter Tryz.func81,Tryz.ntmps81;go_wp2;go_returns;exact⟨rfl,by go_grown⟩
 ·by_cases h2:xs.length=16*2^bits.toNat
  ·rw[S10.check_form h1 h2];obtain⟨n,rfl⟩:=Int.eq_ofNat_of_zero_le (show 0≤bits by omega);rw[Int.toNat_natCast]at *;rw[S10.bad_eq h2,←h2];exact znL n (by omega) xs h2 a cap w hT
  ·rw[S10.check_many h1 h2];obtain⟨n,rfl⟩:=Int.eq_ofNat_of_zero_le (show 0≤bits by omega);rw[Int.toNat_natCast]at *;have hn:n≤16:=by omega
   have hps:=zcH hn;have HZ:=zB fun W=>zbC n (by omega) W;have b1:¬((n:Int)<0):=by omega
   have b2:¬(16<(n:Int)):=by omega
   generalize 2^n=m at *;have eW:IntKind.i64.wrap (16*(m:Int))=16*(m:Int):=i64_small (by omega) (by omega);have ne:((xs.length:Int) != 16*(m:Int))=true:=by simp only[bne_iff_ne,ne_eq];omega
   unfold zlQ;clear h1 h2 hps;go_enter Tryz.func81,Tryz.ntmps81;go_wp2;have hB0:Below w.heap.size w (w.alloc (Obj.cells #[.int .i64 (n:Int),.slice a xs.length cap] 75)):=(zI _ _).alloc (zG _) _;have a0:Blk (w.alloc (Obj.cells #[.int .i64 (n:Int),.slice a xs.length cap] 75)) w.heap.size [.int .i64 (n:Int),.slice a xs.length cap] 75:=Blk.new w _ _;generalize w.alloc (Obj.cells #[.int .i64 (n:Int),.slice a xs.length cap] 75)=w0 at *;have hCS:Cells w0 [(⟨w.heap.size,0,none⟩,.int .i64 (n:Int)),(⟨w.heap.size,1,none⟩,.slice a xs.length cap)]:=⟨a0.cell 0,a0.cell 1,yI⟩;refine zoN 8 0 [(U,[U,U,U,U,U]),(zoJ,[zoJ,zoJ,zoJ,zoJ,zoJ,U]),(U,[zoJ,zoJ,zoJ,zoJ,zoJ,zoJ,U,U])] (Keeps w0 [(⟨w.heap.size,0,none⟩,.int .i64 (n:Int)),(⟨w.heap.size,1,none⟩,.slice a xs.length cap)]) (by kernel_rfl) (Keeps.start hCS) (fun Y Q4 F4 hY hF=> ?_);simp only[zoL]
   repeat
    apply zD (by rw[hY];rfl)
    ·intro w2 hS2;(try simp only[Keeps,Cells]at hS2);go_simp;with_reducible rfl
    simp only[zoK]
   apply zQ (by rw[hY];rfl)
   ·go_simp;with_reducible exact⟨rfl,rfl⟩
   refine(HZ.out _).mono ?_;rintro e w1 ⟨rfl,hb1⟩;have hk1:=(Keeps.start hCS).step hb1;refine⟨_,rfl,hk1,?_⟩;simp only[zoK]
   repeat
    apply zD (by rw[hY];rfl)
    ·intro w2 hS2;(try simp only[Keeps,Cells]at hS2);go_simp;with_reducible rfl
    simp only[zoK]
   refine zT (hF.out _ _ (fun K hK=> ?_));clear hF hY;refine OnlyK.mk (hK.out _ _ ?_);clear hK;have hB1:=zA hB0 hk1.1;skip
   go_wp2;go_returns;exact⟨rfl,hB1⟩
end Go.Proofs.YtieeogndnhighaaGreat
namespace Go.Proofs.YtieeogndnhighaaGreat
open Go.RowKit
end Go.Proofs.YtieeogndnhighaaGreat
namespace Go.Proofs.YtieeogndnhighaaGreat
open Go.RowKit
end Go.Proofs.YtieeogndnhighaaGreat
namespace Go.Proofs.YtieeogndnhighaaGreat
open Go.RowKit
theorem rprio10_any(n:Nat)(xs:List Int)(k:Nat)(hn:n≤16)(hl:xs.length=16*2^n)(hk:k<2^n)(a:Option Addr)(cap:Nat)(w:World)(hT:Tab xs a cap w) :
 Calls Tryz.prog 111 #[zlQ (n:Int) xs a cap,.int .i64 (k:Int)] w fun e w'=>e = .returned (.int .i64 (S10.prio xs k))∧Below w.heap.size w w':=by
 have hps:=zcH hn;obtain⟨b,off,rfl,hcs⟩:=hT.rd (fun e=>by have h1:=yN List.length e;rw[zaG,hl]at h1;simp only[List.length_nil]at h1;omega);have hin:16*k+1<xs.length:=by omega
 have hv:=hcs (16*k+1) _ (Bts_ix hin);have hr:0≤xs.getD (16*k+1) 0∧xs.getD (16*k+1) 0<256:=by
  rw[zO,zE hin];exact hT.ok _ (zbK hin)
 unfold S10.prio;obtain⟨v,hvv⟩:∃v,xs.getD (16*k+1) 0=v:=⟨_,rfl⟩;rw[hvv]at hv hr⊢;have HP:=zB fun V=>zhP v V;obtain⟨r,hrr⟩:∃r,(if S09.found v then S09.hz v+S09.ho v else -1)=r:=⟨_,rfl⟩;rw[hrr]at HP⊢;have hbl:=zF hv;simp only at hbl;have ev:wrap64 v=v:=IntWalk.wrap64_in _ ⟨by omega,by omega⟩;have hcap:=hT.cap;have hLs:xs.length≤1048576:=by omega
 unfold zlQ;clear hl hps hk hrr hvv hT;have hv0:(w.alloc (Obj.cells #[.int .i64 (n:Int),.slice (some ⟨b,off,none⟩) xs.length cap] 75)).cell? ⟨b,off+(16*k+1),none⟩=some (.int .u8 v):=(((zI w.heap.size w).alloc (zG _) _).cell (zF hv)).trans hv;go_enter Tryz.func111,Tryz.ntmps111;go_wp2_with fail;(try rw[ev]);refine(HP.out _).mono ?_;rintro e w2 ⟨rfl,hb2⟩;have hB2:Below w.heap.size w w2:=zA ((zI _ w).alloc (zG _) _) hb2;go_wp2;go_returns;exact⟨rfl,hB2⟩
theorem znG(m:Nat)(xs:List Int)(n k:Int)(hm:m≤16)(a:Option Addr)(cap:Nat)(w:World) :
 Calls Tryz.prog 129 #[zlQ (m:Int) xs a cap,.int .i64 n,.int .i64 k] w fun e w'=>e = .returned (.bool (S10.exists (m:Int) n k))∧Below w.heap.size w w':=by
 have HZ:=zB fun W=>zbC m (by omega) W;have e:(2:Int)^m=((2^m:Nat):Int):=by simp
 have hx:S10.exists (m:Int) n k=(decide (0≤n∧n<((2^m:Nat):Int))&&decide (1≤k∧k≤15)):=by unfold S10.exists;rw[Int.toNat_natCast,e]
 rw[hx];unfold zlQ;generalize 2^m=M at *;clear e hx;by_cases h1:0≤n
 ·have e1:decide (0≤n∧n<(M:Int))=decide (n<(M:Int)):=by simp[h1]
  rw[e1];go_enter Tryz.func129,Tryz.ntmps129;go_wp2_with fail;refine(HZ.out _).mono ?_;rintro e w1 ⟨rfl,hb1⟩;have hB1:Below w.heap.size w w1:=zA (by go_grown) hb1;have z1:w.heap.size≤w1.heap.size:=hB1.size;by_cases h2:n<(M:Int)
  ·by_cases h3:1≤k
   ·go_wp2;go_returns;exact⟨by first|(simp[h2,h3];done)|(simp[h2,h3];omega),hB1⟩
   ·go_wp2;go_returns;exact⟨by first|(simp[h2,h3];done)|(simp[h2,h3];omega),hB1⟩
  ·go_wp2;go_returns;exact⟨by first|(simp[h2];done)|(simp[h2];omega),hB1⟩
 ·have e1:decide (0≤n∧n<(M:Int))=false:=by simp[h1]
  rw[e1];go_enter Tryz.func129,Tryz.ntmps129;go_wp2;go_returns;exact⟨by simp,by go_grown⟩
end Go.Proofs.YtieeogndnhighaaGreat
namespace Go.Proofs.YtieeogndnhighaaGreat
open Go.RowKit
theorem rget10_any(bits:Int)(xs:List Int)(n k:Int)(a:Option Addr)(cap:Nat)(w:World)(hT:Tab xs a cap w) :
 Calls Tryz.prog 125 #[zlQ bits xs a cap,.int .i64 n,.int .i64 k] w fun e w'=>e = .returned (.tuple #[.int .i64 (S10.getN bits xs n k),.int .i64 (S10.node bits xs n k)])∧Below w.heap.size w w':=by
 have HC:=zB fun W (h:Tab xs a cap W)=>ziR bits xs a cap W h;by_cases hc:S10.check bits xs=0
 ·obtain⟨m,rfl,hm,hl,hz2⟩:=S10.correct hc;have HX:=zB fun W=>znG m xs n k hm a cap W;have e0:S10.node (m:Int) xs n k=if S10.exists (m:Int) n k then 0 else 2:=zU hc
  rw[hc]at HC;by_cases hx:S10.exists (m:Int) n k=true
  ·have e2:S10.node (m:Int) xs n k=0:=by rw[e0,hx];rfl
   have e1:S10.getN (m:Int) xs n k=xs.getD (16*n.toNat+k.toNat) 0:=zU e2;rw[e1,e2];rw[hx]at HX;obtain⟨n',k',rfl,rfl,hn,hk1,hk2⟩:=S10.exists_at hx;have hps:=zcH hm;obtain⟨b,off,rfl,hcs⟩:=hT.rd (fun e=>by have h1:=yN List.length e;rw[zaG,hl]at h1;simp only[List.length_nil]at h1;omega);have hin:16*n'+k'<xs.length:=by omega
   have hcap:=hT.cap;have hLs:xs.length≤1048576:=by omega
   have hv:=hcs (16*n'+k') _ (Bts_ix hin);have hr:0≤xs.getD (16*n'+k') 0∧xs.getD (16*n'+k') 0<256:=by
    rw[zO,zE hin];exact hT.ok _ (zbK hin)
   simp only[Int.toNat_natCast];obtain⟨v,hvv⟩:∃v,xs.getD (16*n'+k') 0=v:=⟨_,rfl⟩;rw[hvv]at hv hr⊢;have hbl:=zF hv;simp only at hbl;have ev:wrap64 v=v:=IntWalk.wrap64_in _ ⟨by omega,by omega⟩;unfold zlQ at *;clear e0 e1 e2 hc hx hl hz2 hps hn hvv;go_enter Tryz.func125,Tryz.ntmps125;go_wp2_with fail;refine(HC.out _ (hT.step (by go_grown))).mono ?_;rintro e w1 ⟨rfl,hb1⟩;have hB1:Below w.heap.size w w1:=zA (by go_grown) hb1;have z1:w.heap.size≤w1.heap.size:=hB1.size;have hc1:Blk w1 w.heap.size [.int .i64 (m:Int),.slice (some ⟨b,off,none⟩) xs.length cap] 75:=(Blk.new w _ _).step hb1;have k1:w1.cell? ⟨w.heap.size,0,none⟩=some (.int .i64 (m:Int)):=hc1.cell 0;have k2:w1.cell? ⟨w.heap.size,1,none⟩=some (.slice (some ⟨b,off,none⟩) xs.length cap):=hc1.cell 1;go_wp2_with fail;refine(HX.out _).mono ?_;rintro e w2 ⟨rfl,hb2⟩;have hB2:Below w.heap.size w w2:=zA (by go_grown) hb2;have z2:w.heap.size≤w2.heap.size:=hB2.size;have hc3:=hc1.step hb2;have k3:w2.cell? ⟨w.heap.size,1,none⟩=some (.slice (some ⟨b,off,none⟩) xs.length cap):=hc3.cell 1;have hv2:w2.cell? ⟨b,off+(16*n'+k'),none⟩=some (.int .u8 v):=(hB2.cell (p:=⟨b,off+(16*n'+k'),none⟩) hbl).trans hv;go_wp2;go_returns;first|exact⟨rfl,hB2⟩|(refine⟨?_,hB2⟩;simp[ev])
  ·have e2:S10.node (m:Int) xs n k=2:=by rw[e0,zK hx]
   have e1:S10.getN (m:Int) xs n k=0:=zK (by rw[e2];decide);rw[e1,e2];rw[Bool.not_eq_true]at hx;rw[hx]at HX;unfold zlQ at *;clear e0 e1 e2 hc hx hl hz2;go_enter Tryz.func125,Tryz.ntmps125;go_wp2_with fail;refine(HC.out _ (hT.step (by go_grown))).mono ?_;rintro e w1 ⟨rfl,hb1⟩;have hB1:Below w.heap.size w w1:=zA (by go_grown) hb1;have z1:w.heap.size≤w1.heap.size:=hB1.size;have hc1:Blk w1 w.heap.size [.int .i64 (m:Int),.slice a xs.length cap] 75:=(Blk.new w _ _).step hb1;have k1:w1.cell? ⟨w.heap.size,0,none⟩=some (.int .i64 (m:Int)):=hc1.cell 0;have k2:w1.cell? ⟨w.heap.size,1,none⟩=some (.slice a xs.length cap):=hc1.cell 1;go_wp2_with fail;refine(HX.out _).mono ?_;rintro e w2 ⟨rfl,hb2⟩;have hB2:Below w.heap.size w w2:=zA (by go_grown) hb2;have z2:w.heap.size≤w2.heap.size:=hB2.size;go_wp2;go_returns;exact⟨rfl,hB2⟩
 ·have e2:S10.node bits xs n k=S10.check bits xs:=zK hc;have e1:S10.getN bits xs n k=0:=zK (by rw[e2];exact hc);rw[e1,e2];have hc':(S10.check bits xs != 0)=true:=by simpa using hc
  obtain⟨C,hC⟩:∃C,S10.check bits xs=C:=⟨_,rfl⟩;rw[hC]at hc' HC⊢;unfold zlQ at *;clear hc e1 e2 hC;go_enter Tryz.func125,Tryz.ntmps125;go_wp2_with fail;refine(HC.out _ (hT.step (by go_grown))).mono ?_;rintro e w1 ⟨rfl,hb1⟩;have hB1:Below w.heap.size w w1:=zA (by go_grown) hb1;have z1:w.heap.size≤w1.heap.size:=hB1.size;go_wp2;go_returns;exact⟨rfl,hB1⟩
end Go.Proofs.YtieeogndnhighaaGreat
namespace Go.Proofs.YtieeogndnhighaaGreat
open Go.RowKit
end Go.Proofs.YtieeogndnhighaaGreat
