/- A part of the proof of L14l. No condition. -/
import Derived.StillTailTactics
import Derived.Test.YthhgkafloejjiaaGreatZL14lat
set_option linter.all false
set_option maxRecDepth 100000
set_option maxHeartbeats 2000000
namespace Go.Proofs.YthhgkafloejjiaaGreat
open Go.RowKit
theorem visit13_any(F:FuncId)(d:Array Value)(N:∀a b c w,(callFunc F (#[a,b,c]++d)).run Tryz.prog w = .ok (.enter F (#[a,b,c]++d)) w)(n:Nat)(y C G t v K:Nat)(m l:Nat→Int)
 (I:Nat→World→Prop) (z:∀k w f,I k w→Below w w f→I k f)
 (B:∀k w,k<n→I k w→w.cell? ⟨y,C+k,none⟩=some (.int .i64 (m k))∧w.cell? ⟨t,v+k,none⟩=some (.int .i64 (l k)))
 (x:∀k w,k<n→I k w→Calls Tryz.prog F (#[.int .i64 k,.int .i64 (m k),.int .i64 (l k)]++d) w fun e f=>e = .returned (.tuple #[])∧I (k+1) f∧∀b u,Blk w b u 268→Blk f b u 268)
 (w:World) (R:n≤9223372036854775807) (r:I 0 w) :
 Calls Tryz.prog 250 #[.agg #[.func (.func F) #[] d],.slice (some ⟨y,C,none⟩) n G,.slice (some ⟨t,v,none⟩) n K] w fun e f=>e = .returned (.tuple #[])∧I n f:=by
 obtain⟨O,o,A,L⟩:=zh4 x B z r;clear x B z r;go_enter Tryz.func250,Tryz.ntmps250;go_wp2;have Q:=Blk.new w [.func (.func F) #[] d] 268;have J:=zC (A.out 0 w _ L.out ((zJ _ _).alloc (zF _) (Obj.cells #[.func (.func F) #[] d] 268)));go_loopw [9] (fun i wr=>∃k:Nat,k≤n∧i = .int .i64 k∧I k wr∧Blk wr w [.func (.func F) #[] d] 268) (fun i _=>n-(intOf i).toNat)
 case atStart=>exact⟨0,by omega,rfl,J.out,Q⟩
 case round=>
  obtain⟨k,X,rfl,p,h⟩:=hrel;have T:=h.lt;have M:=h.cell 0;simp only[lgz]at M;have H:=zC h;clear h;have g:=zC p;clear p;by_cases j:k<n
  ·have U:(k:Int)<n:=by omega
   have Y:=(o.out k wr j g.out).1;have W:=(o.out k wr j g.out).2;go_wp2
   go_still_tail 11,zk
   obtain⟨P,S⟩:=zh2 (A.out k wr wr.drew g.out (zJ _ _).drew) (N (.int .i64 k) (.int .i64 (m k)) (.int .i64 (l k)));go_wp2_with fail;refine(O.out k _ j P.out).mono ?_;rintro e V ⟨rfl,s,q⟩;obtain⟨E,D⟩:=zh2 s (q _ _ H.out.drew);clear s q;go_wp2;go_roundw
   case rel=>exact⟨k+1,by omega,by go_num,E.out,D.out⟩
   case measure=>simp[intOf];omega
  ·obtain rfl:k=n:=by omega
   go_wp2;go_returns;exact⟨rfl,g.out⟩
def S13.mix(ws xs:List Int):Int:=S06.clip (S06.round (S13.sum ws xs) 65536)
def S13.fits(ws xs:List Int):Prop:=ws.length=xs.length∧xs.length≤16∧(∀x∈ws,-1048576≤x∧x≤1048576)∧∀x∈xs,-3071≤x∧x≤3071
theorem S13.sum_snoc:∀(d c:List Int) (u v:Int),d.length=c.length→S13.sum (d ++ [u]) (c ++ [v])=S13.sum d c+u*v
 | [],[],u,v,_=>by simp[S13.sum]
 | a::d,b::c,u,v,h=>by
   simp only[lca,S13.sum];rw[S13.sum_snoc d c u v (by simpa using h)];omega
theorem S13.getD_take(xs:List Int){k:Nat}(h:k<xs.length):xs.take (k+1)=xs.take k ++ [xs.getD k 0]:=by
 rw[List.take_succ_eq_append_getElem h,zK,zD h];rfl
theorem S13.sum_take{ws xs:List Int}(a:ws.length=xs.length){k:Nat}(h:k<xs.length) :
 S13.sum (ws.take (k+1)) (xs.take (k+1))=S13.sum (ws.take k) (xs.take k)+ws.getD k 0*xs.getD k 0:=by
 rw[S13.getD_take xs h,S13.getD_take ws om];exact S13.sum_snoc _ _ _ _ by7
theorem S13.getD_mem{P:Int→Prop}{xs:List Int}(h:∀x∈xs,P x){k:Nat}(a:k<xs.length):P (xs.getD k 0):=by
 rw[zK,zD a];exact h _ (yR a)
theorem S13.mul_abs{a b A B:Int}(k : -A≤a)(g:a≤A)(j : -B≤b)(h:b≤B) : -(A*B)≤a*b∧a*b≤A*B:=by
 have c:0≤A:=by omega
 have e:0≤B:=by omega
 rcases Int.le_total 0 a with f|f<;>rcases Int.le_total 0 b with d|d
 ·have:=Int.mul_le_mul g h d c;have:=Int.mul_nonneg f d;have:=Int.mul_nonneg c e;omega
 ·have:=Int.mul_le_mul g (show -b≤B by omega) om c;have i:=Int.mul_nonneg f (show 0≤ -b by omega);rw[Int.mul_neg]at *;have:=Int.mul_nonneg c e;omega
 ·have:=Int.mul_le_mul (show -a≤A by omega) h d c;have i:=Int.mul_nonneg (show 0≤ -a by omega) d;rw[Int.neg_mul]at *;have:=Int.mul_nonneg c e;omega
 ·have:=Int.mul_le_mul (show -a≤A by omega) (show -b≤B by omega) om c;have i:=Int.mul_nonneg (show 0≤ -a by omega) (show 0≤ -b by omega);rw[Int.neg_mul_neg]at *;have:=Int.mul_nonneg c e;omega
theorem S13.term{ws xs:List Int}(h:S13.fits ws xs){k:Nat}(e:k<xs.length) : -3220176896≤ws.getD k 0*xs.getD k 0∧ws.getD k 0*xs.getD k 0≤3220176896:=by
 obtain⟨g,f,d,c⟩:=h;have a:=S13.getD_mem (P:=fun x=> -1048576≤x∧x≤1048576) d (k:=k) om;have b:=S13.getD_mem (P:=fun x=> -3071≤x∧x≤3071) c e;exact S13.mul_abs (A:=1048576) (B:=3071) a.1 a.2 b.1 b.2
theorem S13.sum_bounds{ws xs:List Int}(h:S13.fits ws xs):∀k:Nat,k≤xs.length→ -3220176896*(k:Int)≤S13.sum (ws.take k) (xs.take k)∧S13.sum (ws.take k) (xs.take k)≤3220176896*(k:Int)
 | 0,_=>by simp[S13.sum]
 | k+1,hk=>by
   have a:=S13.sum_bounds h k om;have t:=S13.term h (k:=k) om;rw[S13.sum_take h.1 om];omega
theorem step13_any(i c a s:Int)(b:Nat)(w:World)(d:Blk w b [s] 3)(m : -9000000000000≤c*a)(h:c*a≤9000000000000)(k : -9000000000000≤s)(j:s≤9000000000000) :
 Calls Tryz.prog 253 #[i,c,a,.pointer (some ⟨b,0,none⟩)] w fun e f=>e = .returned (.tuple #[])∧f=w.setCell ⟨b,0,none⟩ (.int .i64 (s+c*a)):=by
 have o:IntKind.i64.wrap (c*a)=c*a:=IntWalk.i64_in _ om;have l:IntKind.i64.wrap (s+c*a)=s+c*a:=IntWalk.i64_in _ om;have g:=d.cell 0;have n:=d.free 0;simp only[lgz]at g;go_enter Tryz.func253,Tryz.ntmps253;go_wp2;go_returns;exact⟨rfl,rfl⟩
theorem enterMix(a b c p:Value)(w:World):(callFunc 253 #[a,b,c,p]).run Tryz.prog w = .ok (.enter 253 #[a,b,c,p]) w:=by kernel_rfl
theorem mix13_any(ws xs:List Int)(B p:Option Addr)(v E:Nat)(w:World)(g:S13.fits ws xs)(ad:1≤xs.length)(G:Rd w B (zaE ws))(y:Rd w p (zaE xs)) :
 Calls Tryz.prog 248 #[.slice B xs.length v,.slice p xs.length E] w fun e K=>e = .returned (.int .i64 (S13.mix ws xs))∧Below w w K:=by
 obtain⟨I,Q,rfl,J⟩:=G.at (i:=0) (by rw[zR,g.1];omega);obtain⟨A,D,rfl,M⟩:=y.at (i:=0) (by rw[zR];omega);have m:=g.1;have ac:=g.2.1;have l:=S13.sum_bounds g;have L:∀k W,k<xs.length→Below w w W→W.cell? ⟨I,Q+k,none⟩=some (.int .i64 (ws.getD k 0))∧W.cell? ⟨A,D+k,none⟩=some (.int .i64 (xs.getD k 0)):=by
  intro k W f F;have u:=J k (by rw[zR];omega);have H:=M k (by rw[zR];omega);rw[(F.cell (zE u)).trans u,(F.cell (zE H)).trans H];simp[zaE,zK,zD f,zD (show k<ws.length by omega)]
 have O:=zC fun W T=>visit13_any 253 #[.pointer (some ⟨w,0,none⟩)] (fun a b c W=>enterMix a b c _ W) xs.length I Q v A D E (fun k=>ws.getD k 0) (fun k=>xs.getD k 0)
  (fun k W=>Blk W w [(S13.sum (ws.take k) (xs.take k))] 3∧Below w w W) (fun k W W' h d=>⟨h.1.step d,zA h.2 d⟩) (fun k W f h=>L k W f h.2)
  (fun k W f h=>by
    have t:=S13.term g f;have s:=l k om;have e:=S13.sum_take m f;refine(step13_any k (ws.getD k 0) (xs.getD k 0) (S13.sum (ws.take k) (xs.take k)) w.heap.size W h.1 om om om om).mono ?_;rintro e' K ⟨rfl,rfl⟩;refine⟨rfl,⟨?_,h.2.setCell (zF _) _⟩,fun b cs d=> ?_⟩
    ·rw[e];exact h.1.set 0 _
    ·refine d.other _ _ _ fun X=> ?_;subst X;have P:=h.1;unfold Blk at d P;rw[P]at d;simp at d)
  W om T
 have x:=l xs.length (zF _);rw[zaD,←m,zaD]at x;have R:=zC fun W=>zjV (S13.sum ws xs) 65536 W om om om om;have Z:=zC fun W=>zmZ (S06.round (S13.sum ws xs) 65536) W;have N:S13.mix ws xs=S06.clip (S06.round (S13.sum ws xs) 65536):=rfl;have o:=Blk.new w [.int .i64 0] 3;have V:=o.free 0;have Y:=zC (show Blk (w.alloc (Obj.cells #[.int .i64 0] 3)) w.heap.size [(S13.sum (ws.take 0) (xs.take 0))] 3∧Below w w (w.alloc (Obj.cells #[.int .i64 0] 3))from⟨by simpa[S13.sum] using o,(zJ _ _).alloc (zF _) _⟩);have C:xs.take xs.length=xs:=zaD;have z:ws.take xs.length=ws:=by rw[←m,zaD]
 simp only[C,z]at O;rw[N];clear N J M L l x o V C z G y;generalize S06.clip (S06.round (S13.sum ws xs) 65536)=q at *;generalize S06.round (S13.sum ws xs) 65536=r at *;generalize xs.length=n at *;go_enter Tryz.func248,Tryz.ntmps248;go_wp2_with fail;refine(O.out _ Y.out).mono ?_;rintro e w1 ⟨rfl,j,af⟩;have U:=j.cell 0;simp only[lgz]at U;have z1:=j.lt;clear j;go_wp2_with fail;refine mnx w (R.out _) fun w2 aa ab z2=> ?_;go_wp2_with fail;refine mnx w (Z.out _) fun w3 ae S z3=> ?_;exact mf1 S
theorem S13.rows_zero{n:Int}:∀{L:List (List Int)},S13.rows n L=0→∀l∈L,(l.length:Int)=n∧l.any S13.heavy=false
 | [],_,l,b=>by simp at b
 | a::r,h,l,b=>by
   unfold S13.rows at h;split at h
   ·simp at h
   ·rename_i d
    split at h
    ·simp at h
    ·rename_i c
     rcases List.mem_cons.1 b with rfl|b
     ·exact⟨by simpa using d,by simpa using c⟩
     ·exact S13.rows_zero h l b
theorem S13.rows_of{n:Int}:∀{L:List (List Int)},(∀l∈L,(l.length:Int)=n∧l.any S13.heavy=false)→S13.rows n L=0
 | [],_=>rfl
 | a::r,h=>by
   unfold S13.rows;have b:=h a by1;rw[zG (by simpa using b.1),zG (by rw[b.2];simp)];exact S13.rows_of fun l c=>h l (by simp[c])
theorem S13.check_zero{n:Int}{L:List (List Int)}(h:S13.check 16 n L=0):1≤n∧n≤16∧1≤L.length∧L.length≤65536∧∀l∈L,(l.length:Int)=n∧l.any S13.heavy=false:=by
 unfold S13.check at h;split at h
 ·simp at h
 ·exact⟨by omega,by omega,by omega,by omega,S13.rows_zero h⟩
theorem S13.light{l:List Int}(h:l.any S13.heavy=false):∀x∈l,-1048576≤x∧x≤1048576:=by
 intro x a;rw[List.any_eq_false]at h;have:=h x a;simp[S13.heavy]at this;omega
theorem S13.weak{l:List Int}(h:l.any S13.strong=false):∀x∈l,-3071≤x∧x≤3071:=by
 intro x a;rw[List.any_eq_false]at h;have:=h x a;simp[S13.strong]at this;omega
theorem S13.usable_zero{n c:Int}{L:List (List Int)}{xs:List Int}(h:S13.usable 16 n L c xs=0) :
 S13.check 16 n L=0∧0≤c∧c<L.length∧(xs.length:Int)=n∧1≤xs.length∧xs.any S13.strong=false∧S13.fits (L.getD c.toNat []) xs:=by
 unfold S13.usable at h;split at h
 ·exact absurd h (by assumption)
 ·rename_i b
  have b:S13.check 16 n L=0:=by simpa using b
  split at h
  ·simp at h
  ·split at h
   ·simp at h
   ·rename_i i d
    split at h
    ·simp at h
    ·rename_i a
     obtain⟨j,l,k,m,e⟩:=S13.check_zero b;have a:xs.any S13.strong=false:=by simpa using a
     have d:(xs.length:Int)=n:=by simpa using d
     have f:L.getD c.toNat []∈L:=by
      rw[zK,zD (show c.toNat<L.length by omega)];exact yR _
     have g:=e _ f;refine⟨b,by omega,by omega,d,by omega,a,by omega,by omega,S13.light g.2,S13.weak a⟩
def S13.mixR(n:Int)(L:List (List Int))(c:Int)(xs:List Int):Int:=if S13.usable 16 n L c xs=0 then S13.mix (L.getD c.toNat []) xs else 0
theorem zdZ{R:List Row13}{a:Option Addr}{w:World}(e:Rd w a (R.map Row13.head))(c:∀r∈R,r.ok w){k:Nat}(b:k<R.length) :
 ∃r g o,R[k]? = some r∧a=some ⟨g,o,none⟩∧w.cell? ⟨g,o+k,none⟩=some (.slice r.a r.l.length r.cap)∧r.ok w∧(R.map Row13.l).getD k []=r.l:=by
 obtain⟨g,o,rfl,d⟩:=e.at (i:=k) (by rw[yO];exact b);refine⟨R[k],g,o,zD b,rfl,?_,c _ (yR b),?_⟩
 ·rw[d k (by rw[yO];exact b),List.getElem_map];rfl
 ·rw[zK,yI,zD b];rfl
theorem mixM13_any(n:Int)(L:List (List Int))(V:Value)(c:Int)(xs:List Int)(a:Option Addr)(cap:Nat)(w:World)(i:MixIs n L V w)(G:xs.length≤9223372036854775807)(k:Rd w a (zaE xs)) :
 Calls Tryz.prog 243 #[V,c,.slice a xs.length cap] w fun e M=>e = .returned (.tuple #[(S13.mixR n L c xs),(S13.usable 16 n L c xs)])∧Below w w M:=by
 have t:=zC fun W (h:Below w w W)=>znP n L V c xs a cap W (i.step h) G (k.step h);by_cases b:S13.usable 16 n L c xs=0
 ·obtain⟨D,A,P,k4,I,S,f⟩:=S13.usable_zero b;have j:S13.mixR n L c xs=S13.mix (L.getD c.toNat []) xs:=by unfold S13.mixR;rw[zQ b]
  rw[j];rw[b]at t⊢;obtain⟨R,Q,z,rfl,rfl,h1,X,v,C⟩:=i;obtain⟨c,rfl⟩:=Int.eq_ofNat_of_zero_le A;have H:c<R.length:=by rw[yO]at P;omega
  obtain⟨r,g,o,F,rfl,u,x,E⟩:=zdZ v C H;simp only[Int.toNat_natCast]at f⊢;rw[E]at f⊢;have B:r.l.length=xs.length:=f.1;have N:=zC fun W (h:Below w w W)=>mix13_any r.l xs r.a a r.cap cap W f I (x.2.2.step h) (k.step h);rw[B]at u;have J:=zE u;have Z:(c:Int)<R.length:=by omega
  clear v C x E f S D j b F k B;generalize S13.mix r.l xs=q at *;generalize xs.length=l at *;generalize R.length=m at *;go_enter Tryz.func243,Tryz.ntmps243;go_wp2_with fail;refine mnx w (t.out _ zo) fun d p s O=> ?_;have U:w.heap.size<d.heap.size:=by have:=p.size;simp at this;omega
  have D:d.cell? ⟨w,0,none⟩=some (.int .i64 n):=(p.cell by6).trans (by go_simp);have A:d.cell? ⟨w,1,none⟩=some (.slice (some ⟨g,o,none⟩) m z):=(p.cell by6).trans (by go_simp);have ab:d.cell? ⟨g,o+c,none⟩=some (.slice r.a l r.cap):=(s.cell J).trans u;go_wp2_with fail;refine mnx w (N.out _ s) fun w2 T K Y=> ?_;exact mf1 K
 ·have j:S13.mixR n L c xs=0:=by unfold S13.mixR;rw[zG b]
  have aa:((S13.usable 16 n L c xs:Int) != 0)=true:=by simpa using b
  rw[j];obtain⟨Q,z,rfl,m1,m2,i⟩:=mixOpen i;clear b j i k;generalize S13.usable 16 n L c xs=y at *;generalize xs.length=l at *;generalize L.length=m at *;go_enter Tryz.func243,Tryz.ntmps243;go_wp2_with fail;refine mnx w (t.out _ zo) fun d p s O=> ?_;exact mf1 s
theorem S13.any_take(f:Int→Bool)(xs:List Int)(k:Nat)(h:k<xs.length):(xs.take (k+1)).any f=((xs.take k).any f||f (xs.getD k 0)):=by
 rw[S13.getD_take xs h,List.any_append,List.any_cons,List.any_nil,Bool.or_false]
theorem zuC(n:Int)(R:List Row13)(a:Option Addr)(cap:Nat)(w:World)(hn:1≤n)(ah:n≤16)(hl:1≤R.length)(ai:R.length≤65536)(h1:R.length≤cap)(h2:cap≤9223372036854775807)
 (Y:Rd w a (R.map Row13.head)) (V:∀r∈R,r.ok w) :
 Calls Tryz.prog 74 #[.agg #[n,.slice a R.length cap]] w fun e T=>e = .returned (.int .i64 (S13.rows n (R.map Row13.l)))∧Below w w T:=by
 have e1:¬n<1:=by omega
 have e2:¬16<n:=by omega
 have e3:¬(R.length:Int)<1:=by omega
 have e4:¬(65536:Int)<R.length:=by omega
 obtain⟨b,rfl⟩:∃b:Nat,n=b:=⟨n.toNat,by omega⟩;go_enter Tryz.func74,Tryz.ntmps74;go_wp2;have W:=Blk.new w [b,.slice a R.length cap] 46;go_loopw [3] (fun i wr=>∃k:Nat,k≤R.length∧i = .int .i64 k∧S13.rows b ((R.map Row13.l).take k)=0∧Blk wr w [b,.slice a R.length cap] 46∧Below w w wr) (fun i _=>R.length-(intOf i).toNat)
 case atStart=>exact⟨0,by omega,rfl,rfl,W,by go_grown⟩
 case round=>
  obtain⟨D,rfl⟩:∃D:World,D=wr:=⟨_,rfl⟩;obtain⟨k,hk,rfl,d,t,q⟩:=hrel;have ak:=t.lt;obtain⟨c0,c1⟩:=t.c2;by_cases S:k<R.length
  ·have aa:(k:Int)<R.length:=by omega
   obtain⟨r,g,o,Z,rfl,z,v,ae⟩:=zdZ Y V S;have N:(R.map Row13.l)[k]? = some r.l:=by rw[yI,Z];rfl
   have l:=zC (S13.rows_at b N d);have C:=zE z;have A:D.cell? ⟨g,o+k,none⟩=some (.slice r.a r.l.length r.cap):=(q.cell C).trans z;obtain⟨af,G⟩:=zh2 t d;clear d N t ae z;by_cases p:(r.l.length:Int)=b
   ·have P:((r.l.length:Int) != b)=false:=by simpa using p
    have M:r.l.length=b:=by omega
    rw[M]at A P;have U:=zC v;clear v p;go_wp2;go_quiet (fail);go_wp2;go_loopw [4] (fun i wr=>∃j:Nat,j≤b∧i = .int .i64 j∧(r.l.take j).any S13.heavy=false∧Below w w wr∧Blk wr w [b,.slice (some ⟨g,o,none⟩) R.length cap] 46) (fun i _=>b-(intOf i).toNat)
    case atStart=>exact⟨0,by omega,rfl,rfl,zgF q _,af.out⟩
    case round=>
     obtain⟨j,hj,rfl,K,c,u⟩:=hrel;have aj:=u.lt;obtain⟨d0,d1⟩:=u.c2;obtain⟨J,L⟩:=zh2 u K;clear u K;by_cases al:j<b
     ·have an:(j:Int)<b:=by omega
      obtain⟨y,B,ac,O⟩:=U.out.2.2.at (i:=j) (by rw[zR];omega);rw[ac]at A;have E:w.cell? ⟨y,B+j,none⟩=some (.int .i64 (r.l.getD j 0)):=by
       rw[O j (by rw[zR];omega)];simp[zaE,zK,zD (show j<r.l.length by omega)]
      have ag:wr.cell? ⟨y,B+j,none⟩=some (.int .i64 (r.l.getD j 0)):=(c.cell (zE E)).trans E;have am:wr.cell? ⟨g,o+k,none⟩=some (.slice (some ⟨y,B,none⟩) b r.cap):=(c.cell C).trans ((q.cell C).symm.trans A);have Q:=zC (S13.any_take S13.heavy r.l j om)
      have H:S13.heavy (r.l.getD j 0)=true→r.l.any S13.heavy=true:=fun h=>by
       rw[List.any_eq_true];refine⟨r.l.getD j 0,?_,h⟩;rw[zK,zD (show j<r.l.length by omega)];exact yR _
      have X:=zC H;clear O E H;generalize r.l.getD j 0=x at *
      have bad:S13.heavy x=true→S13.rows b (R.map Row13.l)=2:=fun h=>by
       have s:S13.rows b ((R.map Row13.l).take (k+1))=2:=by rw[l.out.1,zG om,zQ (X.out h)]
       rw[l.out.2 (by rw[s];omega),s]
      have F:=zC bad;clear bad;by_cases x1:x < -1048576
      ·have m:=zC (F.out (by simp[S13.heavy];omega));go_wp2;go_returns;exact⟨zbM m.out.symm,c⟩
      ·by_cases x2:1048576<x
       ·have m:=zC (F.out (by simp[S13.heavy];omega));go_wp2;go_returns;exact⟨zbM m.out.symm,c⟩
       ·have ad:=zC (show(r.l.take (j+1)).any S13.heavy=false by rw[Q.out,L.out];simp[S13.heavy];omega);go_wp2;go_roundw
        case rel=>exact⟨j+1,by omega,by go_num,ad.out,c,J.out⟩
        case measure=>simp[intOf];omega
     ·obtain rfl:j=b:=by omega
      have ab:=zC (show S13.rows (j:Int) ((R.map Row13.l).take (k+1))=0 by
       rw[l.out.1,zG om,zG];have:=L.out;rw[←M,zaD]at this;rw[this];simp)
      go_wp2;go_roundw
      case rel=>exact⟨k+1,by omega,by go_num,ab.out,J.out,c⟩
      case measure=>simp[intOf];omega
   ·have I:S13.rows b (R.map Row13.l)=6:=by
     have s:S13.rows b ((R.map Row13.l).take (k+1))=6:=by rw[l.out.1,zQ p]
     rw[l.out.2 (by rw[s];omega),s]
    have m:=zC I;have P:((r.l.length:Int) != b)=true:=by simpa using p
    clear I p v;go_wp2;go_quiet (fail);go_wp2;go_returns;exact⟨zbM m.out.symm,zgF q _⟩
  ·obtain rfl:k=R.length:=by omega
   have aa:¬(R.length:Int)<R.length:=by omega
   rw[show(R.map Row13.l).take R.length=R.map Row13.l by rw[←yO (f:=Row13.l),zaD]]at d;have G:=zC d;clear d;go_wp2;go_returns;exact⟨zbM G.out.symm,q⟩
theorem zdH(n:Int)(L:List (List Int))(V:Value)(w:World)(o:MixIs n L V w) :
 Calls Tryz.prog 74 #[V] w fun e l=>e = .returned (.int .i64 (S13.check 16 n L))∧Below w w l:=by
 obtain⟨R,a,j,rfl,rfl,p,k,f,g⟩:=o;by_cases h:n<1∨16<n∨R.length<1∨65536<R.length
 ·have c:S13.check 16 n (R.map Row13.l)=6:=by
   unfold S13.check;rw[zQ (by rw[yO];omega)]
  rw[c];have b:n<1∨(¬n<1∧16<n)∨(¬n<1∧¬16<n∧(R.length:Int)<1)∨(¬n<1∧¬16<n∧¬(R.length:Int)<1∧(65536:Int)<R.length):=by omega
  clear h f g c;generalize R.length=m at *;rcases b with b|⟨b,d⟩|⟨b,d,i⟩|⟨b,d,i,q⟩
  all_goals
   go_enter Tryz.func74,Tryz.ntmps74;exact mf4
 ·have c:S13.check 16 n (R.map Row13.l)=S13.rows n (R.map Row13.l):=by
   unfold S13.check;rw[zG (by rw[yO];omega)]
  rw[c];exact zuC n R a j w om om om om p k f g
theorem S13.not_strong{x:Int}(h:S13.strong x=false):S06.clip x=x:=by
 simp[S13.strong]at h;exact S06.clip_in om om
theorem S13.is_strong{x:Int}(h:S13.strong x=true):S06.clip x≠x:=by
 simp[S13.strong]at h;unfold S06.clip;omega
theorem zuA(n:Int)(L:List (List Int))(ma:Option Addr)(u c:Nat)(xs:List Int)(a:Option Addr)(cap:Nat)(w:World)(hM:MixIs n L (.agg #[n,.slice ma L.length u]) w)(aN:Rd w a (zaE xs))
 (S:S13.check 16 n L=0) (hc:c<L.length) (ax:(xs.length:Int)=n) :
 Calls Tryz.prog 80 #[.agg #[n,.slice ma L.length u],c,.slice a xs.length cap] w fun e w'=>e = .returned (.tuple #[(S13.mixR n L c xs),(S13.usable 16 n L c xs)])∧Below w w w':=by
 have HC:=zC fun W (M:Below w w W)=>zdH n L _ W (hM.step M);rw[S]at HC;obtain⟨k1,k2,k3,k4,k5⟩:=S13.check_zero S;have ab:S13.usable 16 n L c xs=if xs.any S13.strong then 2 else 0:=by
  unfold S13.usable;rw[zG (by simpa using S),zG om,zG (by simpa using ax)]
 obtain⟨R,ra,rc,rfl,af,h1,h2,aF,am⟩:=hM;simp at af;obtain⟨rfl,rfl⟩:=af;rw[yO]at *;obtain⟨r,g,o,an,rfl,N,ah,aI⟩:=zdZ aF am hc;have aS:=zE N;have aW:=k5 r.l (List.mem_map.2 ⟨r,yF an,rfl⟩);have ap:S13.mixR n (R.map Row13.l) c xs=if xs.any S13.strong then 0 else S13.mix r.l xs:=by
  unfold S13.mixR;rw[ab];cases xs.any S13.strong
  ·simp only[Bool.false_eq_true,if_false,if_true,Int.toNat_natCast,aI]
  ·simp
 rw[ab,ap];obtain⟨E,hE⟩:∃E:Int,E=if xs.any S13.strong then 2 else 0:=⟨_,rfl⟩
 obtain⟨X,hX⟩:∃X:Int,X=if xs.any S13.strong then 0 else S13.mix r.l xs:=⟨_,rfl⟩
 rw[←hE,←hX];obtain⟨HE,HX⟩:=zh2 hE hX;clear hE hX;have ad:r.l.length=xs.length:=by omega
 have aj:=S13.light aW.2;have Hr:=zC ah.2.2;have i1:(c:Int)<R.length:=by omega
 have i2:¬(R.length:Int)≤c:=by omega
 have i3:((xs.length:Int) != n)=false:=by simpa using ax
 rw[ad]at N;have a4:xs.length≤16:=by omega
 clear ab ap aI aF am ah k5 S an;generalize R.length=m at *;have al:∀(j:Nat),j<xs.length→r.l.getD j 0≥ -1048576∧r.l.getD j 0≤1048576:=fun j hj=>S13.getD_mem (P:=fun x=> -1048576≤x∧x≤1048576) aj om;have aT:=zC al;clear al aj;go_enter Tryz.func80,Tryz.ntmps80;go_wp2_with fail;refine mnx w (HC.out _ zo) fun w1 O aU z1=> ?_;have a6:w.heap.size<w1.heap.size:=by have:=O.size;simp at this;omega
 have k1:w1.cell? ⟨w,0,none⟩=some (.int .i64 n):=(O.cell by6).trans (by go_simp);have k2:w1.cell? ⟨w,1,none⟩=some (.slice (some ⟨g,o,none⟩) m u):=(O.cell by6).trans (by go_simp);have aP:=zC ((Blk.new w [n,.slice (some ⟨g,o,none⟩) m u] 46).step O);go_wp2
 go_loopw [9,10] (fun s i wr=>∃k:Nat,k≤xs.length∧i = .int .i64 k∧s = .int .i64 (S13.sum (r.l.take k) (xs.take k))∧(xs.take k).any S13.strong=false∧ -3220176896*(k:Int)≤S13.sum (r.l.take k) (xs.take k)∧S13.sum (r.l.take k) (xs.take k)≤3220176896*(k:Int)∧
  Blk wr w [n,.slice (some ⟨g,o,none⟩) m u] 46∧Below w w wr) (fun _ i _=>xs.length-(intOf i).toNat)
 case atStart=>exact⟨0,by omega,rfl,by simp[S13.sum],rfl,by simp[S13.sum],by simp[S13.sum],aP.out,aU⟩
 case round=>
  obtain⟨k,hk,rfl,rfl,aq,aA,av,V,z⟩:=hrel;have az:=V.lt;obtain⟨c0,c1⟩:=V.c2;obtain⟨a3,aw⟩:=zh2 V aq;clear V aq;by_cases K:k<xs.length
  ·have aV:(k:Int)<xs.length:=by omega
   obtain⟨H,G,rfl,aC⟩:=aN.at (i:=k) (by rw[zR];omega);obtain⟨C,I,a0,ar⟩:=Hr.out.at (i:=k) (by rw[zR];omega);rw[a0]at N;have hx:w.cell? ⟨H,G+k,none⟩=some (.int .i64 (xs.getD k 0)):=by
    rw[aC k (by rw[zR];omega)];simp[zaE,zK,zD K]
   have hw:w.cell? ⟨C,I+k,none⟩=some (.int .i64 (r.l.getD k 0)):=by
    rw[ar k (by rw[zR];omega)];simp[zaE,zK,zD (show k<r.l.length by omega)]
   have T:wr.cell? ⟨H,G+k,none⟩=some (.int .i64 (xs.getD k 0)):=(z.cell (zE hx)).trans hx;have aD:wr.cell? ⟨C,I+k,none⟩=some (.int .i64 (r.l.getD k 0)):=(z.cell (zE hw)).trans hw;have ag:wr.cell? ⟨g,o+c,none⟩=some (.slice (some ⟨C,I,none⟩) xs.length r.cap):=(z.cell aS).trans N;have ai:=zC (S13.any_take S13.strong xs k K)
   have ac:S13.strong (xs.getD k 0)=true→xs.any S13.strong=true:=fun h=>by
    rw[List.any_eq_true];refine⟨xs.getD k 0,?_,h⟩;rw[zK,zD K];exact yR _
   have ay:=zC (S13.sum_take (ws:=r.l) (xs:=xs) ad K);have aE:=aT.out k K;have au:=zE aD;have aG:=zE T;have aH:=zE ag;simp only at au aG aH;clear aC ar hx hw;generalize xs.getD k 0=x at *;generalize r.l.getD k 0=y at *;generalize S13.sum (r.l.take k) (xs.take k)=s at *;have D:=zC fun W=>zfK x W;cases hst:S13.strong x with
   | true=>
     have aZ:=zC (ac hst);have a8:((S06.clip x:Int) != x)=true:=by simpa using S13.is_strong hst
     clear ac hst;go_wp2;refine zbX 10 (Keeps wr [(⟨H,G+k,none⟩,x)]) zk rfl zk (Keeps.start (by simp only[Cells];exact⟨T,zT⟩)) (fun Y F hY f=> ?_)
     repeat
      apply yN (by rw[hY];rfl)
      ·intro d ⟨l,b⟩;simp only[Cells]at b;go_simp;with_reducible rfl
      simp only[zvF]
     apply zcF (by rw[hY];rfl)
     ·intro d ⟨l,b⟩;simp only[Cells]at b;go_simp;with_reducible exact⟨rfl,rfl⟩
     ·intro d J;have b:=J.2;simp only[Cells]at b;refine(D.out _).mono ?_;rintro e w3 ⟨rfl,U⟩;exact⟨rfl,J.step U⟩
     simp only[zvF]
     repeat
      apply yN (by rw[hY];rfl)
      ·intro d ⟨l,b⟩;simp only[Cells]at b;go_simp;with_reducible rfl
      simp only[zvF]
     refine f.out _ (fun Q t=> ?_);clear f hY;have aa:Below w w Q:=zA z t.1;clear t;go_wp2;go_returns;exact⟨by rw[HE.out,HX.out,aZ.out];rfl,aa⟩
   | false=>
     have ak:=S13.not_strong hst;rw[ak]at D;have M : -3071≤x∧x≤3071:=by simp[S13.strong]at hst;omega
     have hm:=S13.mul_abs (A:=3071) (B:=1048576) M.1 M.2 aE.1 aE.2;have a1:=zC (show(xs.take (k+1)).any S13.strong=false by rw[ai.out,aw.out,hst];rfl);have e1:IntKind.i64.wrap (x*y)=x*y:=IntWalk.i64_in _ om;have e2:IntKind.i64.wrap (s+x*y)=s+x*y:=IntWalk.i64_in _ om;have aB:S13.sum (r.l.take (k+1)) (xs.take (k+1))=s+x*y:=by rw[ay.out,Int.mul_comm]
     have Z:=zC aB;have i5:(k:Int)<xs.length:=aV;have i6:(0:Int)≤(k:Int):=by omega
     have i7:(0:Int)≤(c:Int):=by omega
     clear ac hst ak aB ay ai;go_wp2;refine zbX 10 (Keeps wr [(⟨H,G+k,none⟩,x)]) zk rfl zk (Keeps.start (by simp only[Cells];exact⟨T,zT⟩)) (fun Y F hY f=> ?_)
     repeat
      apply yN (by rw[hY];rfl)
      ·intro d ⟨l,b⟩;simp only[Cells]at b;go_simp;with_reducible rfl
      simp only[zvF]
     apply zcF (by rw[hY];rfl)
     ·intro d ⟨l,b⟩;simp only[Cells]at b;go_simp;with_reducible exact⟨rfl,rfl⟩
     ·intro d J;have b:=J.2;simp only[Cells]at b;refine(D.out _).mono ?_;rintro e w3 ⟨rfl,U⟩;exact⟨rfl,J.step U⟩
     simp only[zvF]
     repeat
      apply yN (by rw[hY];rfl)
      ·intro d ⟨l,b⟩;simp only[Cells]at b;go_simp;with_reducible rfl
      simp only[zvF]
     refine f.out _ (fun Q t=> ?_);clear f hY;have v:=t.1;have aa:Below w w Q:=zA z t.1;clear t;have a2:=(v.cell aG).trans T;have aO:=(v.cell au).trans aD;have aY:=(v.cell aH).trans ag;have a7:=(v.cell (p:=⟨w,0,none⟩) az).trans c0;have aR:=(v.cell (p:=⟨w,1,none⟩) az).trans c1;have aL:=zC (a3.out.step v);go_wp2;refine zbX 16 (Keeps Q [(⟨H,G+k,none⟩,x),(⟨C,I+k,none⟩,y),(⟨g,o+c,none⟩,.slice (some ⟨C,I,none⟩) xs.length r.cap),(⟨w,1,none⟩,.slice (some ⟨g,o,none⟩) m u)]) zk rfl zk (Keeps.start (by simp only[Cells];exact⟨a2,aO,aY,aR,zT⟩)) (fun Y F hY f=> ?_)
     repeat
      apply yN (by rw[hY];rfl)
      ·intro d ⟨l,b⟩;simp only[Cells]at b;go_simp;with_reducible rfl
      simp only[zvF]
     refine f.out _ (fun w5 ae=> ?_);clear f hY;have aQ:Below w w w5:=zA aa ae.1;have aM:=zC (aL.out.step ae.1);clear ae;go_wp2;go_roundw
     case rel=>exact⟨k+1,by omega,by go_num,by rw[Z.out],a1.out,by rw[Z.out];omega,by rw[Z.out];omega,aM.out,aQ⟩
     case measure=>simp[intOf];omega
  ·obtain rfl:k=xs.length:=by omega
   have ao:S13.sum (r.l.take xs.length) (xs.take xs.length)=S13.sum r.l xs:=by rw[zaD,←ad,zaD]
   rw[ao]at aA av⊢;have aX:=zC (show xs.any S13.strong=false by have:=aw.out;rw[zaD]at this;exact this);have aK:=zC fun W=>zgL (S13.sum r.l xs) 65536 W om om om om;have D:=zC fun W=>zfK (S06.round (S13.sum r.l xs) 65536) W;have Hq:=zC (show S13.mix r.l xs=S06.clip (S06.round (S13.sum r.l xs) 65536)from rfl);generalize S06.clip (S06.round (S13.sum r.l xs) 65536)=q at *;generalize S06.round (S13.sum r.l xs) 65536=p at *;clear aA av ao;go_wp2_with fail;refine mnb z (aK.out _) fun d a5 l=> ?_;go_wp2_with fail;refine mnb l (D.out _) fun w3 U aJ=> ?_;go_wp2;go_returns;exact⟨by rw[HE.out,HX.out,aX.out,←Hq.out];rfl,aJ⟩
theorem znX(n:Int)(L:List (List Int))(V:Value)(c:Int)(xs:List Int)(a:Option Addr)(cap:Nat)(w:World)(q:MixIs n L V w)(B:xs.length≤9223372036854775807)(p:Rd w a (zaE xs)) :
 Calls Tryz.prog 80 #[V,c,.slice a xs.length cap] w fun e A=>e = .returned (.tuple #[(S13.mixR n L c xs),(S13.usable 16 n L c xs)])∧Below w w A:=by
 obtain⟨v,u,rfl,m1,m2,i⟩:=mixOpen q;by_cases b:S13.check 16 n L=0
 ·by_cases r:c<0∨(L.length:Int)≤c
  ·have j:=zC fun W (k:Below w w W)=>zdH n L _ W (i.step k);rw[b]at j;have d:S13.usable 16 n L c xs=7:=by
    unfold S13.usable;rw[zG (by simpa using b),zQ r]
   have h:S13.mixR n L c xs=0:=by unfold S13.mixR;rw[d];rfl
   rw[d,h];have t:c<0∨(¬c<0∧(L.length:Int)≤c):=by omega
   clear b r d h i p q;generalize L.length=m at *;generalize xs.length=l at *;rcases t with t|⟨t,E⟩
   all_goals
    go_enter Tryz.func80,Tryz.ntmps80;go_wp2_with fail;refine mnx w (j.out _ zo) fun f g o x=> ?_;have z:w.heap.size<f.heap.size:=by have:=g.size;simp at this;omega
    have K:f.cell? ⟨w,0,none⟩=some (.int .i64 n):=(g.cell by6).trans (by go_simp);have D:f.cell? ⟨w,1,none⟩=some (.slice v m u):=(g.cell by6).trans (by go_simp);exact mf1 o
  ·by_cases s:(xs.length:Int)=n
   ·obtain⟨c,rfl⟩:=Int.eq_ofNat_of_zero_le (show 0≤c by omega);exact zuA n L v u c xs a cap w i p b om s
   ·have j:=zC fun W (k:Below w w W)=>zdH n L _ W (i.step k);rw[b]at j;have d:S13.usable 16 n L c xs=6:=by
     unfold S13.usable;rw[zG (by simpa using b),zG r,zQ s]
    have h:S13.mixR n L c xs=0:=by unfold S13.mixR;rw[d];rfl
    rw[d,h];have F:((xs.length:Int) != n)=true:=by simpa using s
    have C:¬c<0:=by omega
    have H:¬(L.length:Int)≤c:=by omega
    clear b r d h i p s q;generalize L.length=m at *;generalize xs.length=l at *;go_enter Tryz.func80,Tryz.ntmps80;go_wp2_with fail;refine mnx w (j.out _ zo) fun f g o x=> ?_;have z:w.heap.size<f.heap.size:=by have:=g.size;simp at this;omega
    have I:f.cell? ⟨w,0,none⟩=some (.int .i64 n):=(g.cell by6).trans (by go_simp);have J:f.cell? ⟨w,1,none⟩=some (.slice v m u):=(g.cell by6).trans (by go_simp);exact mf1 o
 ·have j:=zC fun W (k:Below w w W)=>zdH n L _ W (i.step k);have d:S13.usable 16 n L c xs=S13.check 16 n L:=by unfold S13.usable;rw[zQ b]
  have h:S13.mixR n L c xs=0:=by unfold S13.mixR;rw[d,zG b]
  rw[d,h];have G:((S13.check 16 n L:Int) != 0)=true:=by simpa using b
  clear b d h i p q;generalize S13.check 16 n L=y at *;generalize L.length=m at *;generalize xs.length=l at *;go_enter Tryz.func80,Tryz.ntmps80;go_wp2_with fail;refine mnx w (j.out _ zo) fun f g o x=> ?_;exact mf1 o
theorem same13_eq(n:Int)(L:List (List Int))(T M:Value)(w:World)(ai:MixIs n L T w)(ab:MixIs n L M w) :
 Calls Tryz.prog 55 #[T,M] w fun e w'=>e = .returned (.bool true)∧Below w w w':=by
 obtain⟨h,q,g,rfl,rfl,p1,p2,ac,ag⟩:=ai;obtain⟨R2,A,d,v,rfl,q1,q2,Z,ak⟩:=ab;have z:R2.length=h.length:=by have:=yG List.length v;simpa using this.symm
 have ah:h.length≤d:=by omega
 rw[z];have ae:h.length≤9223372036854775807:=by omega
 obtain⟨m,B⟩:∃m,m=h.length:=⟨_,rfl⟩;rw[←B]at ae⊢;obtain⟨S,an,HR⟩:=zh3 B z v;clear z v ah q1 p1 B;have ar:((m:Int) != m)=false:=by simp
 have aq:((n:Int) != n)=false:=by simp
 go_enter Tryz.func55,Tryz.ntmps55;go_wp2;have ad:=(Blk.new w [n,.slice q m g] 46).alloc (Obj.cells #[n,.slice A m d] 46);have V:=Blk.new (w.alloc (Obj.cells #[n,.slice q m g] 46)) [n,.slice A m d] 46;rw[show(w.alloc (Obj.cells #[n,.slice q m g] 46)).heap.size=w.heap.size+1 by simp]at V;go_loopw [5] (fun i wr=>∃k:Nat,k≤m∧i = .int .i64 k∧Blk wr w [n,.slice q m g] 46∧Blk wr (w.heap.size+1) [n,.slice A m d] 46∧Below w w wr) (fun i _=>m-(intOf i).toNat)
 case atStart=>exact⟨0,by omega,rfl,ad,V,by go_grown⟩
 case round=>
  obtain⟨k,hk,rfl,p,a,f⟩:=hrel;have l1:=p.lt;have l2:=a.lt;have J:=p.cell 1;have K:=a.cell 1;simp only[zvH]at J K;obtain⟨am,af⟩:=zh2 p a;clear p a;by_cases H:k<m
  ·have ap:(k:Int)<m:=by omega
   have i0:(0:Int)≤(k:Int):=by omega
   obtain⟨b,r,x,_,rfl,u,o,N⟩:=zdZ ac ag (k:=k) (by rw[←S.out];exact H);obtain⟨c,t,y,_,rfl,D,P,G⟩:=zdZ Z ak (k:=k) (by rw[an.out,←S.out];exact H);have s:c.l=b.l:=by rw[←N,←G,HR.out]
   have y1:wr.cell? ⟨r,x+k,none⟩=some (.slice b.a b.l.length b.cap):=(f.cell (zE u)).trans u;have y2:wr.cell? ⟨t,y+k,none⟩=some (.slice c.a b.l.length c.cap):=by rw[←s];exact(f.cell (zE D)).trans D
   have Q:Rd w c.a (zaE b.l):=by rw[←s];exact P.2.2
   have HS:=zC fun W (I:Below w w W)=>sameInts_eq b.l b.a c.a b.cap c.cap W (by have:=o.1;have:=o.2.1;omega) (o.2.2.step I) (Q.step I);clear u D N G o P Q s;generalize b.l.length=l at *;go_wp2;refine zbX 12 (Keeps wr [(⟨w,1,none⟩,.slice (some ⟨r,x,none⟩) m g),(⟨w.heap.size+1,1,none⟩,.slice (some ⟨t,y,none⟩) m d),(⟨r,x+k,none⟩,.slice b.a l b.cap),(⟨t,y+k,none⟩,.slice c.a l c.cap)]) zk rfl zk (Keeps.start (by simp only[Cells];exact⟨J,K,y1,y2,zT⟩)) (fun Y F hY O=> ?_)
   repeat
    apply yN (by rw[hY];rfl)
    ·intro E ⟨R,a⟩;simp only[Cells]at a;go_simp;with_reducible rfl
    simp only[zvF]
   apply zcF (by rw[hY];rfl)
   ·intro E ⟨R,a⟩;simp only[Cells]at a;go_simp;with_reducible exact⟨rfl,rfl⟩
   ·intro E C;have a:=C.2;simp only[Cells]at a;refine(HS.out _ (zA f C.1)).mono ?_;rintro e w3 ⟨rfl,al⟩;exact⟨rfl,C.step al⟩
   simp only[zvF]
   repeat
    apply yN (by rw[hY];rfl)
    ·intro E ⟨R,a⟩;simp only[Cells]at a;go_simp;with_reducible rfl
    simp only[zvF]
   refine O.out _ (fun w4 j=> ?_);clear O hY;have aa:Below w w w4:=zA f j.1;have U:=am.out.step j.1;have X:=af.out.step j.1;obtain⟨ao,aj⟩:=zh2 U X;clear j U X;go_wp2;go_roundw
   case rel=>exact⟨k+1,by omega,by go_num,ao.out,aj.out,aa⟩
   case measure=>simp[intOf];omega
  ·obtain rfl:k=m:=by omega
   exact mf1 f
