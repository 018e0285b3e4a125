/- A part of the proof of L15. No condition. -/
import Derived.Sort.BigQuietIn
import Derived.Sort.QuietIn
import Derived.Test.YtahaacfikalheaaGreatZL15au
import Derived.Test.YtahaacfikalheaaGreatZL15ax
set_option linter.all false
set_option maxRecDepth 100000
set_option maxHeartbeats 2000000
namespace Go.Proofs.YtahaacfikalheaaGreat
open Go.RowKit Go.Shelf
attribute [local go_sem] Oper.semAt_some
theorem chunk1_in(n:Nat)(l Bs Bn n₀ b off m cap:Nat)(hm:16*m≤4611686018427387904)(hcap:16*m≤cap)(hbs:Bs<n₀)(hbn:Bn<n₀)(J Jx:List Nat→World→Prop)(hJd:∀pre W q,J pre W→J pre (W.drewN q))
 (hY:∀pre x W,x<m→J pre W→pre.length<m→YieldAt Fence.wide (n-1) Tryz.prog l #[.slice (some ⟨b,off+16*x,none⟩) 16 16] W fun e W'=>
   (e = .returned (.bool true)∧J (pre ++ [x]) W'∧Below n₀ W W')∨(e = .returned (.bool false)∧Jx (pre ++ [x]) W'))
 (W:World) (hBs:W.cell? ⟨Bs,0,none⟩=some (.slice (some ⟨b,off,none⟩) (16*m) cap)) (hBn:W.cell? ⟨Bn,0,none⟩=some (.int .i64 16)) (h0:J [] W) :
 CallsIn Fence.wide n Tryz.prog 81 #[.func (.yield l) #[] #[],.pointer (some ⟨Bs,0,none⟩),.pointer (some ⟨Bn,0,none⟩)] W fun e W'=>(∃v,e = .returned v)∧
  ((∃ys,ys=List.range m∧J ys W')∨(∃pre,(∃k,k≤m∧pre=List.range k)∧Jx pre W')):=by
 refine callsIn_of_wp Tryz.func81 rfl yF ?_ rfl;simp only[Tryz.ntmps81,List.size_toArray,yO,List.length_nil,Nat.reduceAdd,Nat.reduceSub,Array.replicate_succ,Array.replicate_zero,List.push_toArray,List.append_toArray,lna,lca];gi_wp2
 gi_loopw [4] (fun i wr=>∃k:Nat,k≤m∧i = .int .i64 (16*k:Nat)∧J (List.range k) wr∧Below n₀ W wr)
  (fun i _=>16*m-(intOf i).toNat)
 case atStart=>exact⟨0,zcA _,rfl,h0,zF _ _⟩
 case round=>
  obtain⟨k,hk,rfl,hJs,hnx⟩:=hrel;have hcs:wr.cell? ⟨Bs,0,none⟩=some (.slice (some ⟨b,off,none⟩) (16*m) cap):=(hnx.cell (p:=⟨Bs,0,none⟩) hbs).trans hBs;have hcn:wr.cell? ⟨Bn,0,none⟩=some (.int .i64 16):=(hnx.cell (p:=⟨Bn,0,none⟩) hbn).trans hBn;by_cases hlt:k<m
  ·have e5:min (16:Int) ((16*m-16*k:Nat):Int)=16:=by omega
   have e6:((16*(k:Int)+16).toNat-16*k)=16:=by omega
   gi_wp2
   gi_quiet (fail)
   obtain⟨fn,tmps,assign,body,hy,hR⟩:=hY _ k (wr.drewN nq) hlt (hJd _ _ nq hJs) (by rw[List.length_range];exact hlt);gi_wp2
   refine⟨fun h=>(by cases h),hR.mono ?_⟩;rintro e W3 (⟨rfl,hJ3,hk3⟩|⟨rfl,hJx3⟩)
   ·have hn3:Below n₀ W W3:=(ziE hnx nq).trans hk3;have hcn3:W3.cell? ⟨Bn,0,none⟩=some (.int .i64 16):=(hn3.cell (p:=⟨Bn,0,none⟩) hbn).trans hBn;gi_wp2
    go_roundw
    case rel=>exact⟨k+1,by omega,by simp;omega,by rw[List.range_succ];exact hJ3,hn3⟩
    case measure=>simp[intOf];omega
   ·gi_wp2
    refine bodyPost_ret (results_none rfl _ _ _) rfl ?_;exact⟨⟨_,rfl⟩,.inr ⟨_,⟨k+1,by omega,List.range_succ.symm⟩,hJx3⟩⟩
  ·obtain rfl:k=m:=by omega
   gi_wp2
   go_end0
   exact⟨⟨_,rfl⟩,.inl ⟨_,rfl,hJs⟩⟩
end Go.Proofs.YtahaacfikalheaaGreat
namespace Go.Proofs.YtahaacfikalheaaGreat
open Go.RowKit Go.Shelf
attribute [local go_sem] Oper.semAt_some
theorem abides_drawn{β:Type}{B:Nat}{J:β→World→Prop}(h:AbidesFrom B J):∀s W q,J s W→J s (W.drewN q):=fun s W q hs=>
 h s W _ none hs ⟨rfl,rfl,rfl,zD _,fun _ _ _=>rfl⟩ (fun r e=>by cases e)
theorem chunk_any(a:Option Addr)(n c:Nat)(w:World) :
 Calls Tryz.prog 74 #[.slice a n c,.int .i64 16] w fun e w'=>e = .returned (.func (.func 81) #[] #[.pointer (some ⟨w.heap.size,0,none⟩),.pointer (some ⟨w.heap.size+1,0,none⟩)])∧
  w'=(w.alloc (.cells #[.slice a n c] 24)).alloc (.cells #[.int .i64 16] 3):=by
 go_enter Tryz.func74,Tryz.ntmps74;go_wp2;go_returns;exact⟨rfl,rfl⟩
abbrev Below'(m:Nat):={k:Nat // k<m}
theorem chunk_stops(n:Nat)(Bs Bn n₀ b off m cap:Nat)(hm:16*m≤4611686018427387904)(hcap:16*m≤cap)(hbs:Bs<n₀)(hbn:Bn<n₀)(w:World)(hn₀:n₀≤w.heap.size)
 (hBs:w.cell? ⟨Bs,0,none⟩=some (.slice (some ⟨b,off,none⟩) (16*m) cap)) (hBn:w.cell? ⟨Bn,0,none⟩=some (.int .i64 16)) :
 SeqStopsK Fence.wide n Tryz.prog 81 #[.pointer (some ⟨Bs,0,none⟩),.pointer (some ⟨Bn,0,none⟩)] (fun k:Below' m=>#[Value.slice (some ⟨b,off+16*k.1,none⟩) 16 16]) (Below n₀)
  (fun ys=>ys.map Subtype.val=List.range m) (fun pre=>∃k,k≤m∧pre.map Subtype.val=List.range k) m w:=fun l J Jx W hW hJ hJx hY h0=>by
 refine CallsIn.mono (chunk1_in n l Bs Bn n₀ b off m cap hm hcap hbs hbn (fun p W=>∃q,q.map Subtype.val=p∧J q W) (fun p W=>∃q,q.map Subtype.val=p∧Jx q W) (fun s W q h=>by obtain⟨p,hp,h⟩:=h;exact⟨p,hp,abides_drawn hJ _ _ _ h⟩)
  (fun pre x W1 hx ⟨p,hp,h⟩ hlen=> ?_) W ((hW.cell (p:=⟨Bs,0,none⟩) (by simp;omega)).trans hBs) ((hW.cell (p:=⟨Bn,0,none⟩) (by simp;omega)).trans hBn) ⟨[],rfl,h0⟩) ?_
 ·obtain⟨fn,tmps,assign,body,hy,hR⟩:=hY p ⟨x,hx⟩ W1 h (by rw[←hp]at hlen;simpa using hlen);refine⟨fn,tmps,assign,body,hy,hR.mono ?_⟩;rintro e W' (⟨h1,h2,h3⟩|⟨h1,h2⟩)
  ·exact .inl ⟨h1,⟨_,by simp[hp],h2⟩,h3⟩
  ·exact .inr ⟨h1,_,by simp[hp],h2⟩
 ·rintro e W' ⟨h1,⟨ys,h2,q,h3,h4⟩|⟨pre,⟨k,h2,h3⟩,q,h4,h5⟩⟩
  ·exact⟨h1,.inl ⟨q,h3.trans h2,h4⟩⟩
  ·exact⟨h1,.inr ⟨q,⟨k,h2,h4.trans h3⟩,h5⟩⟩
theorem zrY(bits:Int)(hash:Int)(w:World) :
 Calls Tryz.prog 64 #[.int .i64 bits,.int .u32 hash] w fun e w'=>e = .returned (.func (.func 77) #[] #[.pointer (some ⟨w.heap.size,0,none⟩),.pointer (some ⟨w.heap.size+1,0,none⟩)])∧
  w'=(w.alloc (.cells #[.int .i64 bits] 3)).alloc (.cells #[.int .u32 hash] 44):=by
 go_enter Tryz.func64,Tryz.ntmps64;go_wp2;go_returns;exact⟨rfl,rfl⟩
theorem bits_xor_nat(a b:Nat)(ha:a<9223372036854775808)(hb:b<9223372036854775808):bits .xor .i64 (a:Int) (b:Int)=((a ^^^ b:Nat):Int):=by
 have hx:a ^^^ b<2^63:=Nat.xor_lt_two_pow (by omega) (by omega);have h1:(BitVec.ofInt 64 (a:Int)).toNat=a:=by
  rw[zdH,zfA];exact zcT (by omega)
 have h2:(BitVec.ofInt 64 (b:Int)).toNat=b:=by
  rw[zdH,zfA];exact zcT (by omega)
 show IntKind.i64.wrap ((BitVec.ofInt 64 (a:Int) ^^^ BitVec.ofInt 64 (b:Int)).toNat:Int)=_;rw[BitVec.toNat_xor,h1,h2,zdU (by omega)]
theorem bits_and_nat(a b:Nat)(ha:a<9223372036854775808)(hb:b<9223372036854775808):bits .and .i64 (a:Int) (b:Int)=((a &&& b:Nat):Int):=by
 have hx:a &&& b<2^63:=Nat.and_lt_two_pow _ (by omega);have h1:(BitVec.ofInt 64 (a:Int)).toNat=a:=by
  rw[zdH,zfA];exact zcT (by omega)
 have h2:(BitVec.ofInt 64 (b:Int)).toNat=b:=by
  rw[zdH,zfA];exact zcT (by omega)
 show IntKind.i64.wrap ((BitVec.ofInt 64 (a:Int) &&& BitVec.ofInt 64 (b:Int)).toNat:Int)=_;rw[BitVec.toNat_and,h1,h2,zdU (by omega)]
theorem zcJ{bits:Nat}(hb:bits≤16):2^bits≤65536:=zdA (n:=2) (by omega) hb
theorem zsV{bits:Nat}(hb:bits≤16):wrap64 ((2:Int)^bits)=((2^bits:Nat):Int):=by
 have h:=zcJ hb;have e:(2:Int)^bits=((2^bits:Nat):Int):=by simp
 rw[e];generalize 2^bits=N at h⊢;exact IntWalk.wrap64_in _ ⟨by omega,by omega⟩
theorem first_bits{bits hash:Nat}(hb:bits≤16):Go.bits .and .i64 ((hash:Int)*2654435761%4294967296) (wrap64 (wrap64 ((2:Int)^bits)-1))=(S10.first bits hash:Int):=by
 have h:=zcJ hb;have h1:=zcB bits;rw[zsV hb];have e:wrap64 (((2^bits:Nat):Int)-1)=((2^bits-1:Nat):Int):=by
  rw[IntWalk.wrap64_in _ ⟨by omega,by omega⟩];omega
 have e2:(hash:Int)*2654435761%4294967296=((hash*2654435761%4294967296:Nat):Int):=by omega
 rw[e,e2,bits_and_nat _ _ (by omega) (by omega),Nat.and_two_pow_sub_one_eq_mod];rfl
theorem places1_in(n:Nat)(l Bs Bn n₀ bits hash:Nat)(hb:bits≤16)(hh:hash<4294967296)(hbs:Bs<n₀)(hbn:Bn<n₀)(J Jx:List Nat→World→Prop)
 (hY:∀pre (x:Nat) W,x<2^bits→J pre W→pre.length<3→YieldAt Fence.wide (n-1) Tryz.prog l #[.int .i64 (x:Int)] W fun e W'=>
   (e = .returned (.bool true)∧J (pre ++ [x]) W'∧Below n₀ W W')∨(e = .returned (.bool false)∧Jx (pre ++ [x]) W'))
 (W:World) (hBs:W.cell? ⟨Bs,0,none⟩=some (.int .i64 (bits:Int))) (hBn:W.cell? ⟨Bn,0,none⟩=some (.int .u32 (hash:Int))) (h0:J [] W) :
 CallsIn Fence.wide n Tryz.prog 77 #[.func (.yield l) #[] #[],.pointer (some ⟨Bs,0,none⟩),.pointer (some ⟨Bn,0,none⟩)] W fun e W'=>(∃v,e = .returned v)∧
  ((∃ys,ys=S10.places bits hash∧J ys W')∨(∃pre,pre <+: S10.places bits hash∧Jx pre W')):=by
 refine callsIn_of_wp Tryz.func77 rfl yF ?_ rfl;simp only[Tryz.ntmps77,List.size_toArray,yO,List.length_nil,Nat.reduceAdd,Nat.reduceSub,Array.replicate_succ,Array.replicate_zero,List.push_toArray,List.append_toArray,lna,lca];gi_wp2
 rw[first_bits hb,zsV hb];have hn:=zcJ hb;have hi:S10.first bits hash<65536:=zaF (S10.first_lt bits hash) hn;have hp:=S10.plc_succ bits hash;have hpl:=S10.plc_len bits hash;have hpp:=S10.plc_prefix bits hash;have h3:S10.plc bits hash 3=S10.places bits hash:=rfl
 have hle:∀k,k≤3→S10.plc bits hash k <+: S10.places bits hash:=fun k hk=>by
  rw[←h3];rcases(by omega:k=0∨k=1∨k=2∨k=3)with rfl|rfl|rfl|rfl
  ·exact(hpp 0).trans ((hpp 1).trans (hpp 2))
  ·exact(hpp 1).trans (hpp 2)
  ·exact hpp 2
  ·exact List.prefix_refl _
 generalize hf:S10.first bits hash=i at *;generalize hN:2^bits=N at *;have H3:=zB h3;have Hp:=zB hp;have Hl:=zB hpl;have Hle:=zB hle;clear h3 hp hpl hpp hle hf hN
 gi_loopw [15] (fun t wr=>∃k:Nat,k≤3∧t = .int .i64 (k:Int)∧J (S10.plc bits hash k) wr∧Below n₀ W wr)
  (fun t _=>3-(intOf t).toNat)
 case atStart=>exact⟨0,by omega,rfl,h0,zF _ _⟩
 case round=>
  obtain⟨k,hk,rfl,hJs,hnx⟩:=hrel;by_cases hlt:k<3
  ·have ex:Go.bits .xor .i64 (i:Int) (k:Int)=((i ^^^ k:Nat):Int):=bits_xor_nat i k (by omega) (by omega);have Hq:=zB (Hp.out k);generalize i ^^^ k=x at *;by_cases hx:x<N
   ·obtain⟨fn,tmps,assign,body,hy,hR⟩:=hY _ x wr hx hJs (Nat.lt_of_le_of_lt (Hl.out k) hlt);have Hq2:=zB (Hq.out.trans (zO hx));gi_wp2
    (try rw[hy]);refine⟨fun h=>(by cases h),hR.mono ?_⟩;rintro e W3 (⟨rfl,hJ3,hk3⟩|⟨rfl,hJx3⟩)
    ·have hn3:Below n₀ W W3:=hnx.trans hk3;gi_wp2
     go_roundw
     case rel=>exact⟨k+1,by omega,by simp,by rw[Hq2.out];exact hJ3,hn3⟩
     case measure=>simp[intOf];omega
    ·gi_wp2
     refine bodyPost_ret (results_none rfl _ _ _) rfl ?_;exact⟨⟨_,rfl⟩,.inr ⟨_,Hle.out (k+1) (by omega),by rw[Hq2.out];exact hJx3⟩⟩
   ·have Hq2:=zB (Hq.out.trans (zG hx));gi_wp2
    refine⟨fun _ h=>(by cases h),?_⟩;gi_wp2
    go_roundw
    case rel=>exact⟨k+1,by omega,by simp,by rw[Hq2.out];exact hJs,hnx⟩
    case measure=>simp[intOf];omega
  ·obtain rfl:k=3:=by omega
   gi_wp2
   go_end0
   exact⟨⟨_,rfl⟩,.inl ⟨_,H3.out,hJs⟩⟩
theorem znF(n:Nat)(Bs Bn n₀ bits hash:Nat)(hb:bits≤16)(hh:hash<4294967296)(hbs:Bs<n₀)(hbn:Bn<n₀)(w:World)(hn₀:n₀≤w.heap.size)
 (hBs:w.cell? ⟨Bs,0,none⟩=some (.int .i64 (bits:Int))) (hBn:w.cell? ⟨Bn,0,none⟩=some (.int .u32 (hash:Int))) :
 SeqStopsK Fence.wide n Tryz.prog 77 #[.pointer (some ⟨Bs,0,none⟩),.pointer (some ⟨Bn,0,none⟩)] (fun k:Below' (2^bits)=>#[Value.int .i64 (k.1:Int)]) (Below n₀)
  (fun ys=>ys.map Subtype.val=S10.places bits hash) (fun pre=>pre.map Subtype.val <+: S10.places bits hash) 3 w:=fun l J Jx W hW hJ hJx hY h0=>by
 refine CallsIn.mono (places1_in n l Bs Bn n₀ bits hash hb hh hbs hbn (fun p W=>∃q,q.map Subtype.val=p∧J q W) (fun p W=>∃q,q.map Subtype.val=p∧Jx q W)
  (fun pre x W1 hx ⟨p,hp,h⟩ hlen=> ?_) W ((hW.cell (p:=⟨Bs,0,none⟩) (by simp;omega)).trans hBs) ((hW.cell (p:=⟨Bn,0,none⟩) (by simp;omega)).trans hBn) ⟨[],rfl,h0⟩) ?_
 ·obtain⟨fn,tmps,assign,body,hy,hR⟩:=hY p ⟨x,hx⟩ W1 h (by rw[←hp]at hlen;simpa using hlen);refine⟨fn,tmps,assign,body,hy,hR.mono ?_⟩;rintro e W' (⟨h1,h2,h3⟩|⟨h1,h2⟩)
  ·exact .inl ⟨h1,⟨_,by simp[hp],h2⟩,h3⟩
  ·exact .inr ⟨h1,_,by simp[hp],h2⟩
 ·rintro e W' ⟨h1,⟨ys,h2,q,h3,h4⟩|⟨pre,h3,q,h4,h5⟩⟩
  ·exact⟨h1,.inl ⟨q,h3.trans h2,h4⟩⟩
  ·exact⟨h1,.inr ⟨q,by show q.map Subtype.val <+: _;rw[h4];exact h3,h5⟩⟩
end Go.Proofs.YtahaacfikalheaaGreat
namespace Go.Proofs.YtahaacfikalheaaGreat
open Go.RowKit
theorem zcP(n low high:Int)(w:World):Calls Tryz.prog 72 #[.int .i64 n,.int .i64 low,.int .i64 high] w fun e w'=>e = .returned (.bool (decide (low≤n∧n≤high)))∧Below w.heap.size w w':=by
 by_cases h:low≤n
 ·have e:decide (low≤n∧n≤high)=decide (n≤high):=by simp[h]
  rw[e];go_enter Tryz.func72,Tryz.ntmps72;go_wp2;go_returns;exact⟨rfl,by go_grown⟩
 ·have e:decide (low≤n∧n≤high)=false:=by simp[h]
  rw[e];go_enter Tryz.func72,Tryz.ntmps72;go_wp2;go_returns;exact⟨rfl,by go_grown⟩
theorem zsE(h:Nat)(hh:h<4294967296)(w:World):Calls Tryz.prog 68 #[.int .u32 (h:Int)] w fun e w'=>e = .returned (.int .u8 (S10.mark h:Int))∧Below w.heap.size w w':=by
 have e:(h:Int)/16777216%256=(S10.mark h:Int):=by unfold S10.mark;omega
 have e2:(h:Int)/16777216=(S10.mark h:Int):=by unfold S10.mark;omega
 go_enter Tryz.func68,Tryz.ntmps68;go_wp2;go_returns;first|exact⟨rfl,by go_grown⟩|(refine⟨?_,by go_grown⟩;simp[e,e2])
theorem zgO(bits:Int)(b off k m cap:Nat)(hk:k<m)(hm:m≤65536)(hcap:16*m≤cap)(w:World) :
 Calls Tryz.prog 67 #[.agg #[.int .i64 bits,.slice (some ⟨b,off,none⟩) (16*m) cap],.int .i64 (k:Int)] w fun e w'=>e = .returned (.slice (some ⟨b,off+16*k,none⟩) 16 16)∧Below w.heap.size w w':=by
 go_enter Tryz.func67,Tryz.ntmps67;go_wp2;go_returns;have e:16*(k+1)-16*k=16:=by omega
 refine⟨?_,by go_grown⟩;simp[e]
theorem bad10_any(x:Int)(hx:0≤x∧x<256)(B:Nat)(w:World)(hB:w.cell? ⟨B,0,none⟩=some (.int .i64 215)):Calls Tryz.prog 76 #[.int .u8 x,.pointer (some ⟨B,0,none⟩)] w fun e w'=>e = .returned (.bool (decide (215≤x)))∧Below w.heap.size w w':=by
 have e:wrap64 x=x:=IntWalk.wrap64_in _ ⟨by omega,by omega⟩;go_enter Tryz.func76,Tryz.ntmps76;go_wp2;go_returns;refine⟨?_,by go_grown⟩;simp[e]
theorem zkK(F:FuncId)(hF:∀args w,(callFunc F args).run Tryz.prog w = .ok (.enter F args) w)(c:Value)(test:Int→Bool)(w:World)(xs:List Int)
 (hv:∀x W,x∈xs→Below w.heap.size w W→Calls Tryz.prog F #[.int .u8 x,c] W fun e w'=>e = .returned (.bool (test x))∧Below W.heap.size W w') (a:Option Addr) (cap:Nat) (hlen:xs.length≤9223372036854775807) (hrd:Rd w a (Bts xs)) :
 Calls Tryz.prog 82 #[.slice a xs.length cap,.func (.func F) #[] #[c]] w fun e w'=>∃r:Int,e = .returned (.int .i64 r)∧decide (0≤r)=xs.any test∧Below w.heap.size w w':=by
 have Hv:=zB hv;clear hv;go_enter Tryz.func82,Tryz.ntmps82;go_wp2;go_loopw [8] (fun i wr=>∃k:Nat,k≤xs.length∧i = .int .i64 k∧(xs.take k).any test=false∧Below w.heap.size w wr) (fun i _=>xs.length-(intOf i).toNat)
 case atStart=>exact⟨0,by omega,rfl,rfl,zF _ _⟩
 case round=>
  obtain⟨k,hk,rfl,hno,hB⟩:=hrel;have zr:w.heap.size≤wr.heap.size:=hB.size;have Hno:=zB hno;clear hno;by_cases hlt:k<xs.length
  ·obtain⟨g,o,rfl,hcs⟩:=(hrd.step hB).at (i:=k) (by rw[zbK];exact hlt);have hc:wr.cell? ⟨g,o+k,none⟩=some (.int .u8 xs[k]):=by rw[hcs k (by rw[zbK];exact hlt)];simp[Bts]
   have HT:=zB (Hv.out xs[k] wr (zbC hlt) hB);have Hs:=zB (zeI test xs k hlt);have Ha:=zB (ziG test xs k hlt);generalize xs[k]=x at *;clear hcs;cases ht:test x with
   | true=>
     have Hany:=zB (Ha.out ht);rw[ht]at HT;clear ht;go_wp2_with fail;refine HT.out.mono ?_;rintro e w1 ⟨rfl,hb1⟩;have hB1:=zA hB hb1;go_wp2;go_returns;exact⟨_,rfl,by rw[Hany.out];simp,hB1⟩
   | false=>
     have Hn:=zB (show(xs.take (k+1)).any test=false by rw[Hs.out,Hno.out,ht];rfl);rw[ht]at HT;clear ht;go_wp2_with fail;refine HT.out.mono ?_;rintro e w1 ⟨rfl,hb1⟩;have hB1:=zA hB hb1;go_wp2;go_roundw
     case rel=>exact⟨k+1,by omega,by go_num,Hn.out,hB1⟩
     case measure=>simp[intOf];omega
  ·obtain rfl:k=xs.length:=by omega
   go_wp2;go_returns;refine⟨_,rfl,?_,hB⟩;have:=Hno.out;rw[zdT]at this;rw[this];rfl
theorem zhZ(F:FuncId)(hF:∀args w,(callFunc F args).run Tryz.prog w = .ok (.enter F args) w)(c:Value)(test:Int→Bool)(w:World)(xs:List Int)
 (hv:∀x W,x∈xs→Below w.heap.size w W→Calls Tryz.prog F #[.int .u8 x,c] W fun e w'=>e = .returned (.bool (test x))∧Below W.heap.size W w') (a:Option Addr) (cap:Nat) (hlen:xs.length≤9223372036854775807) (hrd:Rd w a (Bts xs)) :
 Calls Tryz.prog 75 #[.slice a xs.length cap,.func (.func F) #[] #[c]] w fun e w'=>e = .returned (.bool (xs.any test))∧Below w.heap.size w w':=by
 have HI:=zB (zkK F hF c test w xs hv a cap hlen hrd);clear hv;generalize xs.any test=b at *;go_enter Tryz.func75,Tryz.ntmps75;go_wp2_with fail;refine HI.out.mono ?_;rintro e w1 ⟨r,rfl,hr,hb1⟩;go_wp2;go_returns;exact⟨by first|rfl|exact zaP hr,hb1⟩
