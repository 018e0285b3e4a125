/- A part of the proof of L14l. No condition. -/
import Derived.Sort.BigQuietIn
import Derived.Sort.QuietIn
import Derived.Test.YthhgkafloejjiaaGreatZL14lau
import Derived.Test.YthhgkafloejjiaaGreatZL14lba
set_option linter.all false
set_option maxRecDepth 100000
set_option maxHeartbeats 2000000
namespace Go.Proofs.YthhgkafloejjiaaGreat
open Go.RowKit Go.Shelf
attribute [local go_sem] Oper.semAt_some
theorem chunk1_in(n:Nat)(l f c g b j m cap:Nat)(S:16*m≤4611686018427387904)(N:16*m≤cap)(H:f<g)(t:c<g)(J u:List Nat→World→Prop)(F:∀a W q,J a W→J a (W.drewN q))
 (hY:∀a x W,x<m→J a W→a.length<m→YieldAt Fence.wide (n-1) Tryz.prog l #[.slice (some ⟨b,j+16*x,none⟩) 16 16] W fun e d=>
   (e = .returned (.bool true)∧J (a ++ [x]) d∧Below g W d)∨(e = .returned (.bool false)∧u (a ++ [x]) d))
 (W:World) (I:W.cell? ⟨f,0,none⟩=some (.slice (some ⟨b,j,none⟩) (16*m) cap)) (A:W.cell? ⟨c,0,none⟩=some (.int .i64 16)) (B:J [] W) :
 CallsIn Fence.wide n Tryz.prog 118 #[.func (.yield l) #[] #[],.pointer (some ⟨f,0,none⟩),.pointer (some ⟨c,0,none⟩)] W fun e d=>(∃v,e = .returned v)∧
  ((∃w,w=List.range m∧J w d)∨(∃a,(∃k,k≤m∧a=List.range k)∧u a d)):=by
 refine callsIn_of_wp Tryz.func118 rfl zT ?_ rfl;simp only[Tryz.ntmps118,zfX,zbL,List.length_nil,Nat.reduceAdd,Nat.reduceSub,Array.replicate_succ,Array.replicate_zero,List.push_toArray,List.append_toArray,lna,lca];gi_wp2
 gi_loopw [4] (fun i wr=>∃k:Nat,k≤m∧i = .int .i64 (16*k:Nat)∧J (List.range k) wr∧Below g W wr)
  (fun i _=>16*m-(intOf i).toNat)
 case atStart=>exact⟨0,zfY _,rfl,B,zJ _ _⟩
 case round=>
  obtain⟨k,V,rfl,r,o⟩:=hrel;have T:wr.cell? ⟨f,0,none⟩=some (.slice (some ⟨b,j,none⟩) (16*m) cap):=(o.cell (p:=⟨f,0,none⟩) H).trans I;have K:wr.cell? ⟨c,0,none⟩=some (.int .i64 16):=(o.cell (p:=⟨c,0,none⟩) t).trans A;by_cases s:k<m
  ·have R:min (16:Int) ((16*m-16*k:Nat):Int)=16:=by omega
   have P:((16*(k:Int)+16).toNat-16*k)=16:=by omega
   gi_wp2
   gi_quiet (fail)
   obtain⟨O,X,U,L,Q,G⟩:=hY _ k (wr.drewN nq) s (F _ _ nq r) (by rw[List.length_range];exact s);gi_wp2
   refine⟨fun h=>(by cases h),G.mono ?_⟩;rintro e z (⟨rfl,D,E⟩|⟨rfl,C⟩)
   ·have y:Below g W z:=(zgF o nq).trans E;have M:z.cell? ⟨c,0,none⟩=some (.int .i64 16):=(y.cell (p:=⟨c,0,none⟩) t).trans A;gi_wp2
    go_roundw
    case rel=>exact⟨k+1,by omega,by simp;omega,by rw[List.range_succ];exact D,y⟩
    case measure=>simp[intOf];omega
   ·gi_wp2
    refine bodyPost_ret (results_none rfl _ _ _) rfl ?_;exact⟨⟨_,rfl⟩,.inr ⟨_,⟨k+1,by omega,List.range_succ.symm⟩,C⟩⟩
  ·obtain rfl:k=m:=by omega
   gi_wp2
   go_end0
   exact⟨⟨_,rfl⟩,.inl ⟨_,rfl,r⟩⟩
end Go.Proofs.YthhgkafloejjiaaGreat
namespace Go.Proofs.YthhgkafloejjiaaGreat
open Go.RowKit Go.Shelf
attribute [local go_sem] Oper.semAt_some
theorem abides_drawn{β:Type}{B:Nat}{J:β→World→Prop}(h:AbidesFrom B J):∀s W q,J s W→J s (W.drewN q):=fun s W q a=>
 h s W _ none a ⟨rfl,rfl,rfl,zF _,fun _ _ _=>rfl⟩ (fun r e=>by cases e)
theorem chunk_any(a:Option Addr)(n c:Nat)(w:World) :
 Calls Tryz.prog 103 #[.slice a n c,.int .i64 16] w fun e b=>e = .returned (.func (.func 118) #[] #[.pointer (some ⟨w,0,none⟩),.pointer (some ⟨w.heap.size+1,0,none⟩)])∧
  b=(w.alloc (.cells #[.slice a n c] 38)).alloc (.cells #[.int .i64 16] 3):=by
 go_enter Tryz.func103,Tryz.ntmps103;go_wp2;go_returns;exact⟨rfl,rfl⟩
abbrev Below'(m:Nat):={k:Nat // k<m}
theorem chunk_stops(n:Nat)(i d j b o m cap:Nat)(M:16*m≤4611686018427387904)(C:16*m≤cap)(O:i<j)(G:d<j)(w:World)(U:j≤w.heap.size)
 (Q:w.cell? ⟨i,0,none⟩=some (.slice (some ⟨b,o,none⟩) (16*m) cap)) (S:w.cell? ⟨d,0,none⟩=some (.int .i64 16)) :
 SeqStopsK Fence.wide n Tryz.prog 118 #[.pointer (some ⟨i,0,none⟩),.pointer (some ⟨d,0,none⟩)] (fun k:Below' m=>#[Value.slice (some ⟨b,o+16*k.1,none⟩) 16 16]) (Below j)
  (fun y=>y.map Subtype.val=List.range m) (fun t=>∃k,k≤m∧t.map Subtype.val=List.range k) m w:=fun l J H W v K T hY D=>by
 refine CallsIn.mono (chunk1_in n l i d j b o m cap M C O G (fun p W=>∃q,q.map Subtype.val=p∧J q W) (fun p W=>∃q,q.map Subtype.val=p∧H q W) (fun s W q h=>by obtain⟨p,g,h⟩:=h;exact⟨p,g,abides_drawn K _ _ _ h⟩)
  (fun t x z R ⟨p,g,h⟩ u=> ?_) W ((v.cell (p:=⟨i,0,none⟩) by7).trans Q) ((v.cell (p:=⟨d,0,none⟩) by7).trans S) ⟨[],rfl,D⟩) ?_
 ·obtain⟨E,P,N,A,F,L⟩:=hY p ⟨x,R⟩ z h (by rw[←g]at u;simpa using u);refine⟨E,P,N,A,F,L.mono ?_⟩;rintro e B (⟨c,a,f⟩|⟨c,a⟩)
  ·exact .inl ⟨c,⟨_,by simp[g],a⟩,f⟩
  ·exact .inr ⟨c,_,by simp[g],a⟩
 ·rintro e B ⟨c,⟨y,a,q,f,r⟩|⟨t,⟨k,a,f⟩,q,r,I⟩⟩
  ·exact⟨c,.inl ⟨q,f.trans a,r⟩⟩
  ·exact⟨c,.inr ⟨q,⟨k,a,r.trans f⟩,I⟩⟩
theorem zsT(a:Int)(hash:Int)(w:World) :
 Calls Tryz.prog 61 #[a,.int .u32 hash] w fun e b=>e = .returned (.func (.func 107) #[] #[.pointer (some ⟨w,0,none⟩),.pointer (some ⟨w.heap.size+1,0,none⟩)])∧
  b=(w.alloc (.cells #[a] 3)).alloc (.cells #[.int .u32 hash] 85):=by
 go_enter Tryz.func61,Tryz.ntmps61;go_wp2;go_returns;exact⟨rfl,rfl⟩
theorem zoJ(a b:Nat)(e:a<9223372036854775808)(f:b<9223372036854775808):bits .xor .i64 (a:Int) (b:Int)=((a ^^^ b:Nat):Int):=by
 have g:a ^^^ b<2^63:=Nat.xor_lt_two_pow om om;have d:(BitVec.ofInt 64 (a:Int)).toNat=a:=by
  rw[BitVec.ofInt_natCast,BitVec.toNat_ofNat];exact Nat.mod_eq_of_lt om
 have c:(BitVec.ofInt 64 (b:Int)).toNat=b:=by
  rw[BitVec.ofInt_natCast,BitVec.toNat_ofNat];exact Nat.mod_eq_of_lt om
 show IntKind.i64.wrap ((BitVec.ofInt 64 (a:Int) ^^^ BitVec.ofInt 64 (b:Int)).toNat:Int)=_;rw[BitVec.toNat_xor,d,c,zdN om]
theorem bits_and_nat(a b:Nat)(e:a<9223372036854775808)(f:b<9223372036854775808):bits .and .i64 (a:Int) (b:Int)=((a &&& b:Nat):Int):=by
 have g:a &&& b<2^63:=Nat.and_lt_two_pow _ om;have d:(BitVec.ofInt 64 (a:Int)).toNat=a:=by
  rw[BitVec.ofInt_natCast,BitVec.toNat_ofNat];exact Nat.mod_eq_of_lt om
 have c:(BitVec.ofInt 64 (b:Int)).toNat=b:=by
  rw[BitVec.ofInt_natCast,BitVec.toNat_ofNat];exact Nat.mod_eq_of_lt om
 show IntKind.i64.wrap ((BitVec.ofInt 64 (a:Int) &&& BitVec.ofInt 64 (b:Int)).toNat:Int)=_;rw[BitVec.toNat_and,d,c,zdN om]
theorem zaX{a:Nat}(b:a≤16):2^a≤65536:=zcP (n:=2) om b
theorem ztQ{a:Nat}(b:a≤16):wrap64 ((2:Int)^a)=((2^a:Nat):Int):=by
 have h:=zaX b;have e:(2:Int)^a=((2^a:Nat):Int):=by simp
 rw[e];generalize 2^a=N at h⊢;exact IntWalk.wrap64_in _ ⟨by omega,by omega⟩
theorem first_bits{a hash:Nat}(b:a≤16):Go.bits .and .i64 ((hash:Int)*2654435761%4294967296) (wrap64 (wrap64 ((2:Int)^a)-1))=(S10.first a hash:Int):=by
 have h:=zaX b;have d:=zaJ a;rw[ztQ b];have e:wrap64 (((2^a:Nat):Int)-1)=((2^a-1:Nat):Int):=by
  rw[IntWalk.wrap64_in _ ⟨by omega,by omega⟩];omega
 have c:(hash:Int)*2654435761%4294967296=((hash*2654435761%4294967296:Nat):Int):=by omega
 rw[e,c,bits_and_nat _ _ om om,Nat.and_two_pow_sub_one_eq_mod];rfl
theorem places1_in(n:Nat)(l q m f a hash:Nat)(p:a≤16)(X:hash<4294967296)(ac:q<f)(aa:m<f)(J A:List Nat→World→Prop)
 (hY:∀b (x:Nat) W,x<2^a→J b W→b.length<3→YieldAt Fence.wide (n-1) Tryz.prog l #[x] W fun e d=>
   (e = .returned (.bool true)∧J (b ++ [x]) d∧Below f W d)∨(e = .returned (.bool false)∧A (b ++ [x]) d))
 (W:World) (ae:W.cell? ⟨q,0,none⟩=some (.int .i64 (a:Int))) (af:W.cell? ⟨m,0,none⟩=some (.int .u32 (hash:Int))) (C:J [] W) :
 CallsIn Fence.wide n Tryz.prog 107 #[.func (.yield l) #[] #[],.pointer (some ⟨q,0,none⟩),.pointer (some ⟨m,0,none⟩)] W fun e d=>(∃v,e = .returned v)∧
  ((∃B,B=S10.places a hash∧J B d)∨(∃b,b <+: S10.places a hash∧A b d)):=by
 refine callsIn_of_wp Tryz.func107 rfl zT ?_ rfl;simp only[Tryz.ntmps107,zfX,zbL,List.length_nil,Nat.reduceAdd,Nat.reduceSub,Array.replicate_succ,Array.replicate_zero,List.push_toArray,List.append_toArray,lna,lca];gi_wp2
 rw[first_bits p,ztQ p];have O:=zaX p;have hi:S10.first a hash<65536:=zbA (S10.first_lt a hash) O;have u:=S10.plc_succ a hash;have y:=S10.plc_len a hash;have c:=S10.plc_prefix a hash;have o:S10.plc a hash 3=S10.places a hash:=rfl
 have z:∀k,k≤3→S10.plc a hash k <+: S10.places a hash:=fun k S=>by
  rw[←o];rcases(by omega:k=0∨k=1∨k=2∨k=3)with rfl|rfl|rfl|rfl
  ·exact(c 0).trans ((c 1).trans (c 2))
  ·exact(c 1).trans (c 2)
  ·exact c 2
  ·exact List.prefix_refl _
 generalize L:S10.first a hash=i at *;generalize H:2^a=N at *;obtain⟨R,T,M,I⟩:=zh4 o u y z;clear o u y c z L H
 gi_loopw [15] (fun t wr=>∃k:Nat,k≤3∧t = .int .i64 (k:Int)∧J (S10.plc a hash k) wr∧Below f W wr)
  (fun t _=>3-(intOf t).toNat)
 case atStart=>exact⟨0,by omega,rfl,C,zJ _ _⟩
 case round=>
  obtain⟨k,S,rfl,j,w⟩:=hrel;by_cases D:k<3
  ·have Z:Go.bits .xor .i64 (i:Int) (k:Int)=((i ^^^ k:Nat):Int):=zoJ i k om om;have s:=zC (T.out k);generalize i ^^^ k=x at *;by_cases r:x<N
   ·obtain⟨Y,ad,ab,V,G,Q⟩:=hY _ x wr r j (Nat.lt_of_le_of_lt (M.out k) D);have g:=zC (s.out.trans (zQ r));gi_wp2
    (try rw[G]);refine⟨fun h=>(by cases h),Q.mono ?_⟩;rintro e U (⟨rfl,F,K⟩|⟨rfl,E⟩)
    ·have P:Below f W U:=w.trans K;gi_wp2
     go_roundw
     case rel=>exact⟨k+1,by omega,by simp,by rw[g.out];exact F,P⟩
     case measure=>simp[intOf];omega
    ·gi_wp2
     refine bodyPost_ret (results_none rfl _ _ _) rfl ?_;exact⟨⟨_,rfl⟩,.inr ⟨_,I.out (k+1) om,by rw[g.out];exact E⟩⟩
   ·have g:=zC (s.out.trans (zG r));gi_wp2
    refine⟨fun _ h=>(by cases h),?_⟩;gi_wp2
    go_roundw
    case rel=>exact⟨k+1,by omega,by simp,by rw[g.out];exact j,w⟩
    case measure=>simp[intOf];omega
  ·obtain rfl:k=3:=by omega
   gi_wp2
   go_end0
   exact⟨⟨_,rfl⟩,.inl ⟨_,R.out,j⟩⟩
theorem znY(n:Nat)(g c i a hash:Nat)(D:a≤16)(y:hash<4294967296)(K:g<i)(E:c<i)(w:World)(R:i≤w.heap.size)
 (M:w.cell? ⟨g,0,none⟩=some (.int .i64 (a:Int))) (O:w.cell? ⟨c,0,none⟩=some (.int .u32 (hash:Int))) :
 SeqStopsK Fence.wide n Tryz.prog 107 #[.pointer (some ⟨g,0,none⟩),.pointer (some ⟨c,0,none⟩)] (fun k:Below' (2^a)=>#[Value.int .i64 (k.1:Int)]) (Below i)
  (fun t=>t.map Subtype.val=S10.places a hash) (fun o=>o.map Subtype.val <+: S10.places a hash) 3 w:=fun l J F W s Q P hY A=>by
 refine CallsIn.mono (places1_in n l g c i a hash D y K E (fun p W=>∃q,q.map Subtype.val=p∧J q W) (fun p W=>∃q,q.map Subtype.val=p∧F q W)
  (fun o x u N ⟨p,j,h⟩ r=> ?_) W ((s.cell (p:=⟨g,0,none⟩) by7).trans M) ((s.cell (p:=⟨c,0,none⟩) by7).trans O) ⟨[],rfl,A⟩) ?_
 ·obtain⟨B,L,I,v,C,H⟩:=hY p ⟨x,N⟩ u h (by rw[←j]at r;simpa using r);refine⟨B,L,I,v,C,H.mono ?_⟩;rintro e z (⟨b,d,f⟩|⟨b,d⟩)
  ·exact .inl ⟨b,⟨_,by simp[j],d⟩,f⟩
  ·exact .inr ⟨b,_,by simp[j],d⟩
 ·rintro e z ⟨b,⟨t,d,q,f,m⟩|⟨o,f,q,m,G⟩⟩
  ·exact⟨b,.inl ⟨q,f.trans d,m⟩⟩
  ·exact⟨b,.inr ⟨q,by show q.map Subtype.val <+: _;rw[m];exact f,G⟩⟩
end Go.Proofs.YthhgkafloejjiaaGreat
namespace Go.Proofs.YthhgkafloejjiaaGreat
open Go.RowKit
theorem zcT(n b a:Int)(w:World):Calls Tryz.prog 101 #[n,b,a] w fun e c=>e = .returned (.bool (decide (b≤n∧n≤a)))∧Below w w c:=by
 by_cases h:b≤n
 ·have e:decide (b≤n∧n≤a)=decide (n≤a):=by simp[h]
  rw[e];go_enter Tryz.func101,Tryz.ntmps101;exact mf4
 ·have e:decide (b≤n∧n≤a)=false:=by simp[h]
  rw[e];go_enter Tryz.func101,Tryz.ntmps101;exact mf4
theorem zsZ(h:Nat)(c:h<4294967296)(w:World):Calls Tryz.prog 65 #[.int .u32 (h:Int)] w fun e a=>e = .returned (.int .u8 (S10.mark h:Int))∧Below w w a:=by
 have e:(h:Int)/16777216%256=(S10.mark h:Int):=by unfold S10.mark;omega
 have b:(h:Int)/16777216=(S10.mark h:Int):=by unfold S10.mark;omega
 go_enter Tryz.func65,Tryz.ntmps65;go_wp2;go_returns;first|exact⟨rfl,by go_grown⟩|(refine⟨?_,by go_grown⟩;simp[e,b])
theorem zgQ(d:Int)(b a k m cap:Nat)(g:k<m)(f:m≤65536)(h:16*m≤cap)(w:World) :
 Calls Tryz.prog 64 #[.agg #[d,.slice (some ⟨b,a,none⟩) (16*m) cap],k] w fun e c=>e = .returned (.slice (some ⟨b,a+16*k,none⟩) 16 16)∧Below w w c:=by
 go_enter Tryz.func64,Tryz.ntmps64;go_wp2;go_returns;have e:16*(k+1)-16*k=16:=by omega
 refine⟨?_,by go_grown⟩;simp[e]
theorem bad10_any(x:Int)(c:0≤x∧x<256)(B:Nat)(w:World)(b:w.cell? ⟨B,0,none⟩=some (.int .i64 215)):Calls Tryz.prog 105 #[.int .u8 x,.pointer (some ⟨B,0,none⟩)] w fun e a=>e = .returned (.bool (decide (215≤x)))∧Below w w a:=by
 have e:wrap64 x=x:=IntWalk.wrap64_in _ ⟨by omega,by omega⟩;go_enter Tryz.func105,Tryz.ntmps105;go_wp2;go_returns;refine⟨?_,by go_grown⟩;simp[e]
theorem zlD(F:FuncId)(G:∀t w,(callFunc F t).run Tryz.prog w = .ok (.enter F t) w)(c:Value)(b:Int→Bool)(w:World)(xs:List Int)
 (p:∀x W,x∈xs→Below w w W→Calls Tryz.prog F #[.int .u8 x,c] W fun e j=>e = .returned (.bool (b x))∧Below W W j) (a:Option Addr) (cap:Nat) (D:xs.length≤9223372036854775807) (A:Rd w a (Bts xs)) :
 Calls Tryz.prog 119 #[.slice a xs.length cap,.func (.func F) #[] #[c]] w fun e j=>∃r:Int,e = .returned (.int .i64 r)∧decide (0≤r)=xs.any b∧Below w w j:=by
 have B:=zC p;clear p;go_enter Tryz.func119,Tryz.ntmps119;go_wp2;go_loopw [8] (fun i wr=>∃k:Nat,k≤xs.length∧i = .int .i64 k∧(xs.take k).any b=false∧Below w w wr) (fun i _=>xs.length-(intOf i).toNat)
 case atStart=>exact⟨0,by omega,rfl,rfl,zJ _ _⟩
 case round=>
  obtain⟨k,I,rfl,n,d⟩:=hrel;have H:w.heap.size≤wr.heap.size:=d.size;have q:=zC n;clear n;by_cases f:k<xs.length
  ·obtain⟨g,o,rfl,s⟩:=(A.step d).at (i:=k) (by rw[zaC];exact f);have E:wr.cell? ⟨g,o+k,none⟩=some (.int .u8 xs[k]):=by rw[s k (by rw[zaC];exact f)];simp[Bts]
   obtain⟨h,C,v⟩:=zh3 (B.out xs[k] wr (yR f) d) (zcA b xs k f) (zfA b xs k f);generalize xs[k]=x at *;clear s;cases ht:b x with
   | true=>
     have u:=zC (v.out ht);rw[ht]at h;clear ht;go_wp2_with fail;refine h.out.mono ?_;rintro e y ⟨rfl,l⟩;have m:=zA d l;go_wp2;go_returns;exact⟨_,rfl,by rw[u.out];simp,m⟩
   | false=>
     have z:=zC (show(xs.take (k+1)).any b=false by rw[C.out,q.out,ht];rfl);rw[ht]at h;clear ht;go_wp2_with fail;refine h.out.mono ?_;rintro e y ⟨rfl,l⟩;have m:=zA d l;go_wp2;go_roundw
     case rel=>exact⟨k+1,by omega,by go_num,z.out,m⟩
     case measure=>simp[intOf];omega
  ·obtain rfl:k=xs.length:=by omega
   go_wp2;go_returns;refine⟨_,rfl,?_,d⟩;have:=q.out;rw[zaD]at this;rw[this];rfl
theorem ziS(F:FuncId)(n:∀h w,(callFunc F h).run Tryz.prog w = .ok (.enter F h) w)(c:Value)(d:Int→Bool)(w:World)(xs:List Int)
 (g:∀x W,x∈xs→Below w w W→Calls Tryz.prog F #[.int .u8 x,c] W fun e f=>e = .returned (.bool (d x))∧Below W W f) (a:Option Addr) (cap:Nat) (l:xs.length≤9223372036854775807) (m:Rd w a (Bts xs)) :
 Calls Tryz.prog 104 #[.slice a xs.length cap,.func (.func F) #[] #[c]] w fun e f=>e = .returned (.bool (xs.any d))∧Below w w f:=by
 have j:=zC (zlD F n c d w xs g a cap l m);clear g;generalize xs.any d=b at *;go_enter Tryz.func104,Tryz.ntmps104;go_wp2_with fail;refine j.out.mono ?_;rintro e o ⟨r,rfl,k,i⟩;go_wp2;go_returns;exact⟨by first|rfl|exact zaA k,i⟩
