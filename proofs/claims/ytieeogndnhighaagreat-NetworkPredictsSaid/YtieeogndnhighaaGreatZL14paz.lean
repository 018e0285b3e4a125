/- A part of the proof that ends in L14p (W10a). No condition. -/
import Derived.Below
import Derived.BigQuiet
import Derived.Deep.Draws
import Derived.Deep.Light
import Derived.Deep.MidRow
import Derived.Deep.QuietTactic
import Derived.Handy
import Derived.Laws.AppendOwnNone
import Derived.Laws.CopyOwn
import Derived.Laws.MakeOwn
import Derived.Laws.OwnMore
import Derived.Lib.Hide
import Derived.Lib.MinMax
import Derived.LoopIn
import Derived.LoopNIn
import Derived.Maps.AppendAt
import Derived.Orders
import Derived.OrdersHeld
import Derived.OwnWalkIn
import Derived.RangeFuncBound
import Derived.RangeFuncCalls
import Derived.RangeFuncLeaves
import Derived.RangeFuncNested
import Derived.Shelf.Abstract
import Derived.Shelf.RegionOpen
import Derived.Sort.BigQuietIn
import Derived.Sort.QuietIn
import Derived.StillTail
import Derived.Tactics
import Derived.TacticsInMore
import Derived.Test.YtieeogndnhighaaGreatRows
import Derived.WalkKit
import Derived.WalkLawsBesides
import Derived.WalkSpells
import Derived.Test.YtieeogndnhighaaGreatZL14pat
import Derived.Test.YtieeogndnhighaaGreatZL14pav
import Derived.Test.YtieeogndnhighaaGreatZL14paw
set_option linter.unusedSectionVars false
set_option linter.unusedSimpArgs false
set_option linter.unusedVariables false
set_option maxRecDepth 100000
set_option maxHeartbeats 2000000
namespace Go.Proofs.YtieeogndnhighaaGreat
open Go.RowKit Go.Shelf
attribute [local go_sem] Oper.semAt_some
theorem chunk1_in(n:Nat)(l Bs Bn n₀ b off m cap:Nat)(hm:16*m≤4611686018427387904)(hcap:16*m≤cap)(hbs:Bs<n₀)(hbn:Bn<n₀)(J Jx:List Nat→World→Prop)(hJd:∀pre W q,J pre W→J pre (W.drewN q))
 (hY:∀pre x W,x<m→J pre W→pre.length<m→YieldAt Fence.wide (n-1) Tryz.prog l #[.slice (some ⟨b,off+16*x,none⟩) 16 16] W fun e W'=>
   (e = .returned (.bool true)∧J (pre ++ [x]) W'∧Below n₀ W W')∨(e = .returned (.bool false)∧Jx (pre ++ [x]) W'))
 (W:World) (hBs:W.cell? ⟨Bs,0,none⟩=some (.slice (some ⟨b,off,none⟩) (16*m) cap)) (hBn:W.cell? ⟨Bn,0,none⟩=some (.int .i64 16)) (h0:J [] W) :
 CallsIn Fence.wide n Tryz.prog 149 #[.func (.yield l) #[] #[],.pointer (some ⟨Bs,0,none⟩),.pointer (some ⟨Bn,0,none⟩)] W fun e W'=>(∃v,e = .returned v)∧
  ((∃ys,ys=List.range m∧J ys W')∨(∃pre,(∃k,k≤m∧pre=List.range k)∧Jx pre W')):=by
 refine callsIn_of_wp Tryz.func149 rfl yI ?_ rfl;simp only[Tryz.ntmps149,List.size_toArray,zdB,List.length_nil,Nat.reduceAdd,Nat.reduceSub,Array.replicate_succ,Array.replicate_zero,List.push_toArray,List.append_toArray,lna,lca];gi_wp2
 gi_loopw [4] (fun i wr=>∃k:Nat,k≤m∧i = .int .i64 (16*k:Nat)∧J (List.range k) wr∧Below n₀ W wr)
  (fun i _=>16*m-(intOf i).toNat)
 case atStart=>exact⟨0,Nat.zero_le _,rfl,h0,zI _ _⟩
 case round=>
  obtain⟨k,hk,rfl,hJs,hnx⟩:=hrel;have hcs:wr.cell? ⟨Bs,0,none⟩=some (.slice (some ⟨b,off,none⟩) (16*m) cap):=(hnx.cell (p:=⟨Bs,0,none⟩) hbs).trans hBs;have hcn:wr.cell? ⟨Bn,0,none⟩=some (.int .i64 16):=(hnx.cell (p:=⟨Bn,0,none⟩) hbn).trans hBn;by_cases hlt:k<m
  ·have e5:min (16:Int) ((16*m-16*k:Nat):Int)=16:=by omega
   have e6:((16*(k:Int)+16).toNat-16*k)=16:=by omega
   gi_wp2
   gi_quiet (fail)
   obtain⟨fn,tmps,assign,body,hy,hR⟩:=hY _ k (wr.drewN nq) hlt (hJd _ _ nq hJs) (by rw[List.length_range];exact hlt);gi_wp2
   refine⟨fun h=>(by cases h),hR.mono ?_⟩;rintro e W3 (⟨rfl,hJ3,hk3⟩|⟨rfl,hJx3⟩)
   ·have hn3:Below n₀ W W3:=(zeB hnx nq).trans hk3;have hcn3:W3.cell? ⟨Bn,0,none⟩=some (.int .i64 16):=(hn3.cell (p:=⟨Bn,0,none⟩) hbn).trans hBn;gi_wp2
    go_roundw
    case rel=>exact⟨k+1,by omega,by simp;omega,by rw[List.range_succ];exact hJ3,hn3⟩
    case measure=>simp[intOf];omega
   ·gi_wp2
    refine bodyPost_ret (results_none rfl _ _ _) rfl ?_;exact⟨⟨_,rfl⟩,.inr ⟨_,⟨k+1,by omega,List.range_succ.symm⟩,hJx3⟩⟩
  ·obtain rfl:k=m:=by omega
   gi_wp2
   go_end0
   exact⟨⟨_,rfl⟩,.inl ⟨_,rfl,hJs⟩⟩
end Go.Proofs.YtieeogndnhighaaGreat
namespace Go.Proofs.YtieeogndnhighaaGreat
open Go.RowKit Go.Shelf
attribute [local go_sem] Oper.semAt_some
theorem abides_drawn{β:Type}{B:Nat}{J:β→World→Prop}(h:AbidesFrom B J):∀s W q,J s W→J s (W.drewN q):=fun s W q hs=>
 h s W _ none hs ⟨rfl,rfl,rfl,zG _,fun _ _ _=>rfl⟩ (fun r e=>by cases e)
theorem chunk_any(a:Option Addr)(n c:Nat)(w:World) :
 Calls Tryz.prog 137 #[.slice a n c,.int .i64 16] w fun e w'=>e = .returned (.func (.func 149) #[] #[.pointer (some ⟨w.heap.size,0,none⟩),.pointer (some ⟨w.heap.size+1,0,none⟩)])∧
  w'=(w.alloc (.cells #[.slice a n c] 59)).alloc (.cells #[.int .i64 16] 3):=by
 go_enter Tryz.func137,Tryz.ntmps137;go_wp2;go_returns;exact⟨rfl,rfl⟩
abbrev Below'(m:Nat):={k:Nat // k<m}
theorem chunk_stops(n:Nat)(Bs Bn n₀ b off m cap:Nat)(hm:16*m≤4611686018427387904)(hcap:16*m≤cap)(hbs:Bs<n₀)(hbn:Bn<n₀)(w:World)(hn₀:n₀≤w.heap.size)
 (hBs:w.cell? ⟨Bs,0,none⟩=some (.slice (some ⟨b,off,none⟩) (16*m) cap)) (hBn:w.cell? ⟨Bn,0,none⟩=some (.int .i64 16)) :
 SeqStopsK Fence.wide n Tryz.prog 149 #[.pointer (some ⟨Bs,0,none⟩),.pointer (some ⟨Bn,0,none⟩)] (fun k:Below' m=>#[Value.slice (some ⟨b,off+16*k.1,none⟩) 16 16]) (Below n₀)
  (fun ys=>ys.map Subtype.val=List.range m) (fun pre=>∃k,k≤m∧pre.map Subtype.val=List.range k) m w:=fun l J Jx W hW hJ hJx hY h0=>by
 refine CallsIn.mono (chunk1_in n l Bs Bn n₀ b off m cap hm hcap hbs hbn (fun p W=>∃q,q.map Subtype.val=p∧J q W) (fun p W=>∃q,q.map Subtype.val=p∧Jx q W) (fun s W q h=>by obtain⟨p,hp,h⟩:=h;exact⟨p,hp,abides_drawn hJ _ _ _ h⟩)
  (fun pre x W1 hx ⟨p,hp,h⟩ hlen=> ?_) W ((hW.cell (p:=⟨Bs,0,none⟩) (by simp;omega)).trans hBs) ((hW.cell (p:=⟨Bn,0,none⟩) (by simp;omega)).trans hBn) ⟨[],rfl,h0⟩) ?_
 ·obtain⟨fn,tmps,assign,body,hy,hR⟩:=hY p ⟨x,hx⟩ W1 h (by rw[←hp]at hlen;simpa using hlen);refine⟨fn,tmps,assign,body,hy,hR.mono ?_⟩;rintro e W' (⟨h1,h2,h3⟩|⟨h1,h2⟩)
  ·exact .inl ⟨h1,⟨_,by simp[hp],h2⟩,h3⟩
  ·exact .inr ⟨h1,_,by simp[hp],h2⟩
 ·rintro e W' ⟨h1,⟨ys,h2,q,h3,h4⟩|⟨pre,⟨k,h2,h3⟩,q,h4,h5⟩⟩
  ·exact⟨h1,.inl ⟨q,h3.trans h2,h4⟩⟩
  ·exact⟨h1,.inr ⟨q,⟨k,h2,h4.trans h3⟩,h5⟩⟩
theorem zcH{bits:Nat}(hb:bits≤16):2^bits≤65536:=Nat.pow_le_pow_right (n:=2) (by omega) hb
theorem wrap_pow{bits:Nat}(hb:bits≤16):wrap64 ((2:Int)^bits)=((2^bits:Nat):Int):=by
 have h:=zcH hb;have e:(2:Int)^bits=((2^bits:Nat):Int):=by simp
 rw[e];generalize 2^bits=N at h⊢;exact IntWalk.wrap64_in _ ⟨by omega,by omega⟩
end Go.Proofs.YtieeogndnhighaaGreat
namespace Go.Proofs.YtieeogndnhighaaGreat
open Go.RowKit
theorem zcV(n low high:Int)(w:World):Calls Tryz.prog 135 #[.int .i64 n,.int .i64 low,.int .i64 high] w fun e w'=>e = .returned (.bool (decide (low≤n∧n≤high)))∧Below w.heap.size w w':=by
 by_cases h:low≤n
 ·have e:decide (low≤n∧n≤high)=decide (n≤high):=by simp[h]
  rw[e];go_enter Tryz.func135,Tryz.ntmps135;go_wp2;go_returns;exact⟨rfl,by go_grown⟩
 ·have e:decide (low≤n∧n≤high)=false:=by simp[h]
  rw[e];go_enter Tryz.func135,Tryz.ntmps135;go_wp2;go_returns;exact⟨rfl,by go_grown⟩
theorem slot10_any(bits:Int)(b off k m cap:Nat)(hk:k<m)(hm:m≤65536)(hcap:16*m≤cap)(w:World) :
 Calls Tryz.prog 105 #[.agg #[.int .i64 bits,.slice (some ⟨b,off,none⟩) (16*m) cap],.int .i64 (k:Int)] w fun e w'=>e = .returned (.slice (some ⟨b,off+16*k,none⟩) 16 16)∧Below w.heap.size w w':=by
 go_enter Tryz.func105,Tryz.ntmps105;go_wp2;go_returns;have e:16*(k+1)-16*k=16:=by omega
 refine⟨?_,by go_grown⟩;simp[e]
theorem bad10_any(x:Int)(hx:0≤x∧x<256)(B:Nat)(w:World)(hB:w.cell? ⟨B,0,none⟩=some (.int .i64 215)):Calls Tryz.prog 139 #[.int .u8 x,.pointer (some ⟨B,0,none⟩)] w fun e w'=>e = .returned (.bool (decide (215≤x)))∧Below w.heap.size w w':=by
 have e:wrap64 x=x:=IntWalk.wrap64_in _ ⟨by omega,by omega⟩;go_enter Tryz.func139,Tryz.ntmps139;go_wp2;go_returns;refine⟨?_,by go_grown⟩;simp[e]
theorem zgS(F:FuncId)(hF:∀args w,(callFunc F args).run Tryz.prog w = .ok (.enter F args) w)(c:Value)(test:Int→Bool)(w:World)(xs:List Int)
 (hv:∀x W,x∈xs→Below w.heap.size w W→Calls Tryz.prog F #[.int .u8 x,c] W fun e w'=>e = .returned (.bool (test x))∧Below W.heap.size W w') (a:Option Addr) (cap:Nat) (hlen:xs.length≤9223372036854775807) (hrd:Rd w a (Bts xs)) :
 Calls Tryz.prog 150 #[.slice a xs.length cap,.func (.func F) #[] #[c]] w fun e w'=>∃r:Int,e = .returned (.int .i64 r)∧decide (0≤r)=xs.any test∧Below w.heap.size w w':=by
 have Hv:=zB hv;clear hv;go_enter Tryz.func150,Tryz.ntmps150;go_wp2;go_loopw [8] (fun i wr=>∃k:Nat,k≤xs.length∧i = .int .i64 k∧(xs.take k).any test=false∧Below w.heap.size w wr) (fun i _=>xs.length-(intOf i).toNat)
 case atStart=>exact⟨0,by omega,rfl,rfl,zI _ _⟩
 case round=>
  obtain⟨k,hk,rfl,hno,hB⟩:=hrel;have zr:w.heap.size≤wr.heap.size:=hB.size;have Hno:=zB hno;clear hno;by_cases hlt:k<xs.length
  ·obtain⟨g,o,rfl,hcs⟩:=(hrd.step hB).at (i:=k) (by rw[zaG];exact hlt);have hc:wr.cell? ⟨g,o+k,none⟩=some (.int .u8 xs[k]):=by rw[hcs k (by rw[zaG];exact hlt)];simp[Bts]
   have HT:=zB (Hv.out xs[k] wr (zbK hlt) hB);have Hs:=zB (zbA test xs k hlt);have Ha:=zB (zcW test xs k hlt);generalize xs[k]=x at *;clear hcs;cases ht:test x with
   | true=>
     have Hany:=zB (Ha.out ht);rw[ht]at HT;clear ht;go_wp2_with fail;refine HT.out.mono ?_;rintro e w1 ⟨rfl,hb1⟩;have hB1:=zA hB hb1;go_wp2;go_returns;exact⟨_,rfl,by rw[Hany.out];simp,hB1⟩
   | false=>
     have Hn:=zB (show(xs.take (k+1)).any test=false by rw[Hs.out,Hno.out,ht];rfl);rw[ht]at HT;clear ht;go_wp2_with fail;refine HT.out.mono ?_;rintro e w1 ⟨rfl,hb1⟩;have hB1:=zA hB hb1;go_wp2;go_roundw
     case rel=>exact⟨k+1,by omega,by go_num,Hn.out,hB1⟩
     case measure=>simp[intOf];omega
  ·obtain rfl:k=xs.length:=by omega
   go_wp2;go_returns;refine⟨_,rfl,?_,hB⟩;have:=Hno.out;rw[yZ]at this;rw[this];rfl
theorem zfB(F:FuncId)(hF:∀args w,(callFunc F args).run Tryz.prog w = .ok (.enter F args) w)(c:Value)(test:Int→Bool)(w:World)(xs:List Int)
 (hv:∀x W,x∈xs→Below w.heap.size w W→Calls Tryz.prog F #[.int .u8 x,c] W fun e w'=>e = .returned (.bool (test x))∧Below W.heap.size W w') (a:Option Addr) (cap:Nat) (hlen:xs.length≤9223372036854775807) (hrd:Rd w a (Bts xs)) :
 Calls Tryz.prog 138 #[.slice a xs.length cap,.func (.func F) #[] #[c]] w fun e w'=>e = .returned (.bool (xs.any test))∧Below w.heap.size w w':=by
 have HI:=zB (zgS F hF c test w xs hv a cap hlen hrd);clear hv;generalize xs.any test=b at *;go_enter Tryz.func138,Tryz.ntmps138;go_wp2_with fail;refine HI.out.mono ?_;rintro e w1 ⟨r,rfl,hr,hb1⟩;go_wp2;go_returns;exact⟨by first|rfl|exact yP hr,hb1⟩
end Go.Proofs.YtieeogndnhighaaGreat
