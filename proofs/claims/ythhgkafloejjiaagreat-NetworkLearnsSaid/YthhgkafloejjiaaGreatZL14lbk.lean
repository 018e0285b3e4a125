/- A part of the proof of L14l. No condition. -/
import Derived.Great.BuildSlice
import Derived.Test.YthhgkafloejjiaaGreatZL14lbh
set_option linter.all false
set_option maxRecDepth 100000
set_option maxHeartbeats 2000000
namespace Go.Proofs.YthhgkafloejjiaaGreat
open Go.RowKit
theorem zoR(c:S14.C)(w:World):Calls Tryz.prog 140 #[CV c] w fun e g=>e = .returned (PV S14.P0 zfF)∧Below w w g:=by
 obtain⟨d,a⟩:=zvJ ((w.alloc (.cells (zV c).toArray 87)).alloc (.cells zP 50));have l:Blk d (w.heap.size+1) (yB S14.P0 zfF) 50:=by
  rw[←a];have h:=zfH (w.alloc (.cells (zV c).toArray 87));rwa[zY]at h
 have b:Below w w d:=by rw[←a];exact((zJ _ _).alloc (zF _) _).alloc by1 _
 have f:some 16=some (yB S14.P0 zfF).length:=rfl;unfold CV;go_enter Tryz.func140,Tryz.ntmps140;go_wp2_with (first
  | (refine zaK 50 zP zdF by3 by3 ?_;rw[a])
  | (refine st50 (.tmp 2) (.tmp 3) (yB S14.P0 zfF) l ?_ f;intro n j i m))
 have k:=lv50 j f;refine rL1 k ?_;exact⟨rfl,b.trans (yA i om b.size)⟩
theorem zhR(N:S14.N)(L:NLay)(k:Nat)(c:S14.C)(b:Value)(x:b.oneCell'=true)(bit:Int)(w:World)(C:NIs N L w)(E:k<N.parts.length)(p:S14.P)(y:Lay)(v:N.parts[k]? = some p)(z:L.ys[k]? = some y) :
 Calls Tryz.prog 141 #[CV c,VV N L k b,bit] w fun e J=>e = .returned (.tuple #[PV p y,.int .i64 0])∧Below w w J:=by
 have a:=zC fun(W:World) (I:Below w w W)=>zbO N L k b x W (C.step I) E p y v z;unfold VV at a⊢;obtain⟨j,g,f,d,A,s,B,t⟩:=zz4 N.comps.length N.parts.length N.ctxs.length N.part;rw[A,s,B,t]at a⊢;clear A s B t E C v z x;have m:some 16=some (yB p y).length:=rfl;have D:=zbC p y;have n:(yB S14.P0 zfF).length=(yB p y).length:=rfl;unfold PV at a⊢;obtain⟨Q,o⟩:=zvJ (yB p y);rw[o]at a m n D⊢;clear o;obtain⟨l,i⟩:=zvJ (((w.alloc (.cells (zV c).toArray 87)).alloc (.cells #[.slice L.a1 j L.c1,.slice L.a2 g L.c2,.slice L.a3 f L.c3,d,k,b] 68)).alloc (.cells zP 50));have O:Blk l (w.heap.size+1) [.slice L.a1 j L.c1,.slice L.a2 g L.c2,.slice L.a3 f L.c3,d,k,b] 68:=by
  rw[←i];have h:=(Blk.new (w.alloc (.cells (zV c).toArray 87)) [.slice L.a1 j L.c1,.slice L.a2 g L.c2,.slice L.a3 f L.c3,d,k,b] 68).alloc (.cells zP 50);rwa[zY]at h
 have H:Blk l (w.heap.size+1+1) (yB S14.P0 zfF) 50:=by
  rw[←i];have h:=zfH ((w.alloc (.cells (zV c).toArray 87)).alloc (.cells #[.slice L.a1 j L.c1,.slice L.a2 g L.c2,.slice L.a3 f L.c3,d,k,b] 68));rwa[zY,zY]at h
 have r:Below w w l:=by rw[←i];exact(((zJ _ _).alloc (zF _) _).alloc by1 _).alloc by7 _
 obtain⟨V,R,U,P,S,X⟩:=O.c6;unfold CV;go_enter Tryz.func141,Tryz.ntmps141;go_wp2_with (first
  | (refine zaK 50 zP zdF by3 by3 ?_;rw[i])
  | fail)
 refine(a.out _ r).mono ?_;rintro e Y ⟨rfl,q⟩;have M:=H.step q;have u:=zA r q;go_wp2_with (first
  | (refine st50 (.tmp 6) (.tmp 9) Q M ?_ m n D;intro T K F Z))
 have G:=lv50 K m;refine rL2 G ?_;exact⟨rfl,u.trans (yA F om u.size)⟩
theorem zrH(c:S14.C)(w:World):Calls Tryz.prog 227 #[CV c] w fun e g=>e = .returned (PV S14.P0 zfF)∧Below w w g:=by
 obtain⟨d,a⟩:=zvJ ((w.alloc (.cells (zV c).toArray 91)).alloc (.cells zP 50));have l:Blk d (w.heap.size+1) (yB S14.P0 zfF) 50:=by
  rw[←a];have h:=zfH (w.alloc (.cells (zV c).toArray 91));rwa[zY]at h
 have b:Below w w d:=by rw[←a];exact((zJ _ _).alloc (zF _) _).alloc by1 _
 have f:some 16=some (yB S14.P0 zfF).length:=rfl;unfold CV;go_enter Tryz.func227,Tryz.ntmps227;go_wp2_with (first
  | (refine zaK 50 zP zdF by3 by3 ?_;rw[a])
  | (refine st50 (.tmp 2) (.tmp 3) (yB S14.P0 zfF) l ?_ f;intro n j i m))
 have k:=lv50 j f;refine rL1 k ?_;exact⟨rfl,b.trans (yA i om b.size)⟩
theorem ziW(N:S14.N)(L:NLay)(k:Nat)(c:S14.C)(b:Value)(x:b.oneCell'=true)(bit:Int)(w:World)(C:NIs N L w)(E:k<N.parts.length)(p:S14.P)(y:Lay)(v:N.parts[k]? = some p)(z:L.ys[k]? = some y) :
 Calls Tryz.prog 228 #[CV c,VV N L k b,bit] w fun e J=>e = .returned (.tuple #[PV p y,.int .i64 0])∧Below w w J:=by
 have a:=zC fun(W:World) (I:Below w w W)=>zbO N L k b x W (C.step I) E p y v z;unfold VV at a⊢;obtain⟨j,g,f,d,A,s,B,t⟩:=zz4 N.comps.length N.parts.length N.ctxs.length N.part;rw[A,s,B,t]at a⊢;clear A s B t E C v z x;have m:some 16=some (yB p y).length:=rfl;have D:=zbC p y;have n:(yB S14.P0 zfF).length=(yB p y).length:=rfl;unfold PV at a⊢;obtain⟨Q,o⟩:=zvJ (yB p y);rw[o]at a m n D⊢;clear o;obtain⟨l,i⟩:=zvJ (((w.alloc (.cells (zV c).toArray 91)).alloc (.cells #[.slice L.a1 j L.c1,.slice L.a2 g L.c2,.slice L.a3 f L.c3,d,k,b] 68)).alloc (.cells zP 50));have O:Blk l (w.heap.size+1) [.slice L.a1 j L.c1,.slice L.a2 g L.c2,.slice L.a3 f L.c3,d,k,b] 68:=by
  rw[←i];have h:=(Blk.new (w.alloc (.cells (zV c).toArray 91)) [.slice L.a1 j L.c1,.slice L.a2 g L.c2,.slice L.a3 f L.c3,d,k,b] 68).alloc (.cells zP 50);rwa[zY]at h
 have H:Blk l (w.heap.size+1+1) (yB S14.P0 zfF) 50:=by
  rw[←i];have h:=zfH ((w.alloc (.cells (zV c).toArray 91)).alloc (.cells #[.slice L.a1 j L.c1,.slice L.a2 g L.c2,.slice L.a3 f L.c3,d,k,b] 68));rwa[zY,zY]at h
 have r:Below w w l:=by rw[←i];exact(((zJ _ _).alloc (zF _) _).alloc by1 _).alloc by7 _
 obtain⟨V,R,U,P,S,X⟩:=O.c6;unfold CV;go_enter Tryz.func228,Tryz.ntmps228;go_wp2_with (first
  | (refine zaK 50 zP zdF by3 by3 ?_;rw[i])
  | fail)
 refine(a.out _ r).mono ?_;rintro e Y ⟨rfl,q⟩;have M:=H.step q;have u:=zA r q;go_wp2_with (first
  | (refine st50 (.tmp 6) (.tmp 9) Q M ?_ m n D;intro T K F Z))
 have G:=lv50 K m;refine rL2 G ?_;exact⟨rfl,u.trans (yA F om u.size)⟩
theorem zrC(c:S14.C)(N:S14.N)(L:NLay)(k:Nat)(b:Value)(w:World) :
 Calls Tryz.prog 143 #[CV c,VV N L k b] w fun e d=>e = .returned (.int .i64 (S06.stretch c.limit))∧Below w w d:=by
 have a:=zC fun W=>zdA c.limit W;unfold CV zV VV;obtain⟨j,l,h,g,first,m⟩:=c;simp only at a⊢;go_enter Tryz.func143,Tryz.ntmps143;go_wp2_with fail;refine mnx w (a.out _) fun i n f _=> ?_;exact mf1 f
theorem zhU(x:Int):IntKind.i64.wrap x=(x+9223372036854775808)%18446744073709551616-9223372036854775808:=by
 simp only[IntKind.wrap,IntKind.bits,IntKind.signed];simp;omega
theorem sum3_zero(a b c:Nat)(k:a≤4611686018427387904)(i:b≤4611686018427387904)(j:c≤4611686018427387904):(IntKind.i64.wrap (IntKind.i64.wrap ((a:Int)+(b:Int))+(c:Int))==0)=decide (a+b+c=0):=by
 rw[zhU,zhU];by_cases h:a+b+c=0
 ·have d:a=0:=by omega
  have f:b=0:=by omega
  have g:c=0:=by omega
  subst d f g
  decide
 ·rw[zL h,beq_eq_false_iff_ne];intro e;omega
theorem zuJ(m:S12.M)(p:Pl)(w:World)(x:m.heads.length≤4611686018427387904)(t:m.bytes.length≤4611686018427387904)(u:m.ctrs.length≤4611686018427387904):Calls Tryz.prog 151 #[MV m p] w fun e L=>e = .returned (.bool (S14.noM m))∧Below w w L:=by
 obtain⟨q,i,heads,A,at_,r,b,c,E⟩:=m;obtain⟨R,a⟩:=zvJ (S14.noM ⟨q,i,heads,A,at_,r,b,c,E⟩);rw[a];unfold S14.noM at a;unfold MV yX;simp only at a x t u⊢;obtain⟨C,J,H,k,o,n⟩:=zz3 heads.length A.length E.length;rw[k,o,n]at a;rw[k]at x;rw[o]at t;rw[n]at u;rw[k,o,n];clear k o n;by_cases g:q=0
 ·have z:(q==0)=true:=by simp[g]
  by_cases f:i=0
  ·have F:(i==0)=true:=by simp[f]
   by_cases d:at_=0
   ·have y:(at_==0)=true:=by simp[d]
    by_cases s:r=0
    ·have D:(r==0)=true:=by simp[s]
     by_cases l:b=0
     ·have G:(b==0)=true:=by simp[l]
      by_cases j:c=0
      ·have B:(c==0)=true:=by simp[j]
       have v:=sum3_zero C J H x t u;have I:decide (C+J+H=0)=R:=by rw[←a];simp only[z,F,y,D,G,B,zaP]
       rw[I]at v;have K:=zC v;clear a g f d s l j v I;go_enter Tryz.func151,Tryz.ntmps151;go_wp2;go_returns;exact⟨zaA (by have h:=K.out;rw[zhU,zhU]at h;unfold wrap64;exact h),by go_grown⟩
      ·obtain rfl:R=false:=by rw[←a];simp[j]
       clear a;have B:(c==0)=false:=by simp[j]
       go_enter Tryz.func151,Tryz.ntmps151;exact mf4
     ·obtain rfl:R=false:=by rw[←a];simp[l]
      clear a;have G:(b==0)=false:=by simp[l]
      go_enter Tryz.func151,Tryz.ntmps151;exact mf4
    ·obtain rfl:R=false:=by rw[←a];simp[s]
     clear a;have D:(r==0)=false:=by simp[s]
     go_enter Tryz.func151,Tryz.ntmps151;exact mf4
   ·obtain rfl:R=false:=by rw[←a];simp[d]
    clear a;have y:(at_==0)=false:=by simp[d]
    go_enter Tryz.func151,Tryz.ntmps151;exact mf4
  ·obtain rfl:R=false:=by rw[←a];simp[f]
   clear a;have F:(i==0)=false:=by simp[f]
   go_enter Tryz.func151,Tryz.ntmps151;exact mf4
 ·obtain rfl:R=false:=by rw[←a];simp[g]
  clear a;have z:(q==0)=false:=by simp[g]
  go_enter Tryz.func151,Tryz.ntmps151;exact mf4
theorem zeP(p:S14.P)(y:Lay)(w:World)(aa:p.m.heads.length≤4611686018427387904)(ab:p.m.bytes.length≤4611686018427387904)(ad:p.m.ctrs.length≤4611686018427387904) :
 Calls Tryz.prog 147 #[PV p y] w fun e w'=>e = .returned (.bool (S14.bare p))∧Below w w w':=by
 have x:=zC fun W=>zuJ p.m y.pl W aa ab ad;obtain⟨R,b⟩:=zvJ (S14.bare p);rw[b];unfold S14.bare at b;obtain⟨nm,ae⟩:=zvJ (S14.noM p.m);rw[ae]at b x;unfold PV yB;unfold MV yX at x;obtain⟨af,t,sd,q,m,z,mw,ac⟩:=p;obtain⟨E,S,J,G,a,K,F,H,M⟩:=y;obtain⟨D,C,heads,Q,at_,N,O,P,L⟩:=m;simp only at b x⊢;clear aa ab ad ae;obtain⟨u,v,r,s,h1,Z,h3,Y⟩:=zz4 af.length sd.length mw.length ac.length;rw[h1,Z,h3,Y]at b;rw[h1,Z,h3,Y];clear h1 Z h3 Y;have f:Below w w (w.alloc (Obj.cells #[.slice E u S,t,.slice J v G,q,D,C,.slice a.ah heads.length a.ch,.slice a.ab Q.length a.cb,at_,N,O,P,.slice a.ac L.length a.cc,z,.slice K r F,.slice H s M] 50)):=(zJ _ _).alloc (zF _) _;have k0:=Blk.new w [.slice E u S,t,.slice J v G,q,D,C,.slice a.ah heads.length a.ch,.slice a.ab Q.length a.cb,at_,N,O,P,.slice a.ac L.length a.cc,z,.slice K r F,.slice H s M] 50;obtain⟨W1,h⟩:=zvJ (w.alloc (Obj.cells #[.slice E u S,t,.slice J v G,q,D,C,.slice a.ah heads.length a.ch,.slice a.ab Q.length a.cb,at_,N,O,P,.slice a.ac L.length a.cc,z,.slice K r F,.slice H s M] 50));rw[show(#[.slice E u S,t,.slice J v G,q,D,C,.slice a.ah heads.length a.ch,.slice a.ab Q.length a.cb,at_,N,O,P,.slice a.ac L.length a.cc,z,.slice K r F,.slice H s M]:Array Value) = [.slice E u S,.int .i64 t,.slice J v G,.int .i64 q,.int .i64 D,.int .i64 C,.slice a.ah heads.length a.ch,.slice a.ab Q.length a.cb,.int .i64 at_,.int .i64 N,.int .i64 O,.int .i64 P,.slice a.ac L.length a.cc,.int .i64 z,.slice K r F,.slice H s M].toArray from rfl]at h f;rw[h]at k0 f;obtain⟨q0,q1,q2,q3,q4,q5,q6,q7,q8,q9,ag,ah,ai,j,k,l⟩:=k0.c16;clear k0;by_cases d:u=0
 ·have e0:((u:Int)==0)=true:=by simp[d]
  by_cases g:t=0
  ·have e1:(t==0)=true:=by simp[g]
   by_cases i:v=0
   ·have e2:((v:Int)==0)=true:=by simp[i]
    by_cases o:q=0
    ·have e3:(q==0)=true:=by simp[o]
     cases nm with
     | true=>
       by_cases A:z=0
       ·have e5:(z==0)=true:=by simp[A]
        by_cases B:r=0
        ·have e6:((r:Int)==0)=true:=by simp[B]
         by_cases I:s=0
         ·have e7:((s:Int)==0)=true:=by simp[I]
          obtain rfl:R=true:=by rw[←b];simp[*]
          clear b d g i o A B I;go_enter Tryz.func147,Tryz.ntmps147;go_wp2_with (rw[h]);refine mnb f (x.out _) fun X c n=> ?_;have U:=(c.cell (zE j)).trans j;have V:=(c.cell (zE k)).trans k;have T:=(c.cell (zE l)).trans l;exact mf1 n
         ·obtain rfl:R=false:=by rw[←b];simp[I]
          have e7:((s:Int)==0)=false:=by simp[I]
          clear b d g i o A B I;go_enter Tryz.func147,Tryz.ntmps147;go_wp2_with (rw[h]);refine mnb f (x.out _) fun X c n=> ?_;have U:=(c.cell (zE j)).trans j;have V:=(c.cell (zE k)).trans k;have T:=(c.cell (zE l)).trans l;exact mf1 n
        ·obtain rfl:R=false:=by rw[←b];simp[B]
         have e6:((r:Int)==0)=false:=by simp[B]
         clear b d g i o A B;go_enter Tryz.func147,Tryz.ntmps147;go_wp2_with (rw[h]);refine mnb f (x.out _) fun X c n=> ?_;have U:=(c.cell (zE j)).trans j;have V:=(c.cell (zE k)).trans k;have T:=(c.cell (zE l)).trans l;exact mf1 n
       ·obtain rfl:R=false:=by rw[←b];simp[A]
        have e5:(z==0)=false:=by simp[A]
        clear b d g i o A;go_enter Tryz.func147,Tryz.ntmps147;go_wp2_with (rw[h]);refine mnb f (x.out _) fun X c n=> ?_;have U:=(c.cell (zE j)).trans j;have V:=(c.cell (zE k)).trans k;have T:=(c.cell (zE l)).trans l;exact mf1 n
     | false=>
       obtain rfl:R=false:=by rw[←b];simp
       clear b d g i o;go_enter Tryz.func147,Tryz.ntmps147;go_wp2_with (rw[h]);refine mnb f (x.out _) fun X c n=> ?_;have U:=(c.cell (zE j)).trans j;have V:=(c.cell (zE k)).trans k;have T:=(c.cell (zE l)).trans l;exact mf1 n
    ·obtain rfl:R=false:=by rw[←b];simp[o]
     have e3:(q==0)=false:=by simp[o]
     clear b d g i o;go_enter Tryz.func147,Tryz.ntmps147;go_wp2_with (rw[h]);exact mf2 f
   ·obtain rfl:R=false:=by rw[←b];simp[i]
    have e2:((v:Int)==0)=false:=by simp[i]
    clear b d g i;go_enter Tryz.func147,Tryz.ntmps147;go_wp2_with (rw[h]);exact mf2 f
  ·obtain rfl:R=false:=by rw[←b];simp[g]
   have e1:(t==0)=false:=by simp[g]
   clear b d g;go_enter Tryz.func147,Tryz.ntmps147;go_wp2_with (rw[h]);exact mf2 f
 ·obtain rfl:R=false:=by rw[←b];simp[d]
  have e0:((u:Int)==0)=false:=by simp[d]
  clear b d;go_enter Tryz.func147,Tryz.ntmps147;go_wp2_with (rw[h]);exact mf2 f
theorem zcB(w:World)(c:S14.C)(t:TypeId)(p:S14.P)(y:Lay):∃a,(w.alloc (.cells (zV c).toArray t)).alloc (.cells (yB p y).toArray 50)=a∧Blk a w (zV c) t∧Blk a (w.heap.size+1) (yB p y) 50∧Below w w a:=by
 refine⟨_,rfl,(Blk.new w _ _).alloc _,?_,((zJ _ _).alloc (zF _) _).alloc by1 _⟩;have h:=Blk.new (w.alloc (.cells (zV c).toArray t)) (yB p y) 50;rwa[zY]at h
theorem zhQ(c:S14.C)(p:S14.P)(y:Lay)(pt:Int)(w:World)(a:PIs p y w) :
 Calls Tryz.prog 144 #[CV c,PV p y,pt] w fun e k=>e = .returned (.bool (S14.bare p))∧Below w w k:=by
 have b:=zC fun W=>zeP p y W a.mch.lh a.mch.lb a.mch.lc;obtain⟨n,h,o,f,j⟩:=zcB w c 87 p y;have i:some 16=some (yB p y).length:=rfl;unfold PV at b⊢;unfold CV;obtain⟨Q,R,d,g⟩:=zz2 (yB p y) (S14.bare p);rw[d]at b f i h⊢;rw[g]at b⊢;clear d a g;go_enter Tryz.func144,Tryz.ntmps144;go_wp2_with (first
  | (rw[h])
  | (refine ld50 (.tmp 4) f ?_ i))
 refine mnb j (b.out _) fun m q l=> ?_;exact mf1 l
theorem ziV(c:S14.C)(p:S14.P)(y:Lay)(pt:Int)(w:World)(a:PIs p y w) :
 Calls Tryz.prog 231 #[CV c,PV p y,pt] w fun e k=>e = .returned (.bool (S14.bare p))∧Below w w k:=by
 have b:=zC fun W=>zeP p y W a.mch.lh a.mch.lb a.mch.lc;obtain⟨n,h,o,f,j⟩:=zcB w c 91 p y;have i:some 16=some (yB p y).length:=rfl;unfold PV at b⊢;unfold CV;obtain⟨Q,R,d,g⟩:=zz2 (yB p y) (S14.bare p);rw[d]at b f i h⊢;rw[g]at b⊢;clear d a g;go_enter Tryz.func231,Tryz.ntmps231;go_wp2_with (first
  | (rw[h])
  | (refine ld50 (.tmp 4) f ?_ i))
 refine mnb j (b.out _) fun m q l=> ?_;exact mf1 l
theorem zjB{x l:Int}(c : -3071≤x)(b:x≤3071)(a:0≤l) : -3071*l≤x*l∧x*l≤3071*l:=
 ⟨Int.mul_le_mul_of_nonneg_right c a,Int.mul_le_mul_of_nonneg_right b a⟩
def S14.avg(c:S14.C)(bef:List Int):Int:=S06.round (bef.getD c.first.toNat 0*c.limit+bef.getD c.second.toNat 0*(256-c.limit)) 256
theorem zgV{a:List Int}(h:∀x∈a,-3071≤x∧x≤3071)(i:Nat) : -3071≤a.getD i 0∧a.getD i 0≤3071:=by
 rw[zK];cases hh:a[i]? with
 | none=>simp
 | some x=>exact h x (yF hh)
theorem S14.avg_in{c:S14.C}{a:List Int}(h:∀x∈a,-3071≤x∧x≤3071)(e:0≤c.limit∧c.limit≤256) : -3071≤S14.avg c a∧S14.avg c a≤3071:=by
 unfold S14.avg;have d:=zgV h c.first.toNat;have b:=zgV h c.second.toNat;have m1:=zjB d.1 d.2 e.1;have m2:=zjB (l:=256-c.limit) b.1 b.2 om;generalize a.getD c.first.toNat 0*c.limit=A at *;generalize a.getD c.second.toNat 0*(256-c.limit)=B at *;unfold S06.round;split<;>omega
theorem zlJ(c:S14.C)(N:S14.N)(L:NLay)(k:Nat)(a:Option Addr)(r:Nat)(d:List Int)(w:World)(u:∀x∈d,-3071≤x∧x≤3071)(T:0≤c.limit∧c.limit≤256)(v:0≤c.first∧c.first<d.length)(z:0≤c.second∧c.second<d.length)(O:Rd w a (zaE d)) :
 Calls Tryz.prog 230 #[CV c,VV N L k (.slice a d.length r)] w fun e w'=>e = .returned (.int .i64 (S14.avg c d))∧Below w w w':=by
 obtain⟨X,ae,b,aa,first,aj⟩:=c;unfold S14.avg;simp only at T v z⊢;obtain⟨f,rfl⟩:=Int.eq_ofNat_of_zero_le v.1;obtain⟨g,rfl⟩:=Int.eq_ofNat_of_zero_le z.1;have j:f<d.length:=by omega
 have m:g<d.length:=by omega
 simp only[Int.toNat_natCast];obtain⟨h,o,rfl,A⟩:=O.at (i:=f) (by rw[zR];exact j);have q:=A f (by rw[zR];exact j);have p:=A g (by rw[zR];exact m);have G:(zaE d)[f]'(by rw[zR];exact j) = .int .i64 (d.getD f 0):=by simp[zaE,zK,j]
 have J:(zaE d)[g]'(by rw[zR];exact m) = .int .i64 (d.getD g 0):=by simp[zaE,zK,m]
 rw[G]at q;rw[J]at p;have C:=zgV u f;have s:=zgV u g;obtain⟨x,y,n,V,H,M⟩:=zz3 (d.getD f 0) (d.getD g 0) d.length;rw[V]at q C⊢;rw[H]at p s⊢;rw[M]at j m⊢;have m1:=zjB C.1 C.2 T.1;have m2:=zjB (l:=256-b) s.1 s.2 om;clear A G J V H M u O v z;have w1:IntKind.i64.wrap (x*b)=x*b:=IntWalk.i64_in _ om;have w2:IntKind.i64.wrap (256-b)=256-b:=IntWalk.i64_in _ om;have w3:IntKind.i64.wrap (y*(256-b))=y*(256-b):=IntWalk.i64_in _ om;have w4:IntKind.i64.wrap (x*b+y*(256-b))=x*b+y*(256-b):=IntWalk.i64_in _ om;have D:=zC fun W=>zjV (x*b+y*(256-b)) 256 W om om om om;obtain⟨R,P⟩:=zvJ (S06.round (x*b+y*(256-b)) 256);rw[P]at D⊢;clear P m1 m2;have ag:(f:Int)<(n:Int):=by omega
 have ai:(g:Int)<(n:Int):=by omega
 unfold CV zV VV;simp only;obtain⟨E,ac,B,Z,t⟩:=al2 w [X,ae,b,aa,f,g] [.slice L.a1 N.comps.length L.c1,.slice L.a2 N.parts.length L.c2,.slice L.a3 N.ctxs.length L.c3,N.part,k,.slice (some ⟨h,o,none⟩) n r] 91 68;have ad:=(t.cell (zE q)).trans q;have af:=(t.cell (zE p)).trans p;have S:Cells E [(⟨w,2,none⟩,b),(⟨w,4,none⟩,f),(⟨w,5,none⟩,g),(⟨w.heap.size+1,5,none⟩,.slice (some ⟨h,o,none⟩) n r),(⟨h,o+f,none⟩,x),(⟨h,o+g,none⟩,y)]:=⟨B.cell 2,B.cell 4,B.cell 5,Z.cell 5,ad,af,zT⟩;go_enter Tryz.func230,Tryz.ntmps230;go_wp2_with (rw[ac]);refine zvL 25 1 [(U,0,24),(zvE,24,1)] (Keeps E [(⟨w,2,none⟩,b),(⟨w,4,none⟩,f),(⟨w,5,none⟩,g),(⟨w.heap.size+1,5,none⟩,.slice (some ⟨h,o,none⟩) n r),(⟨h,o+f,none⟩,x),(⟨h,o+g,none⟩,y)]) (Keeps.start S) fun Y Q4 F4 hY Q=> ?_;repeat refine mrd ?_
 refine mcl ?_;refine mck (Keeps.start S) (D.out _) fun w2 ah F=> ?_;refine mdn Q fun K I=> ?_;clear Q hY;have ab:=zA t F.1;go_wp2_with fail;refine mok I ?_;clear I F;exact mf1 ab
theorem zlX:∀n:Nat,Cts (List.replicate n (32768,0))=S08.fresh n
 | 0=>rfl
 | n+1=>by
   have h:=zlX n;unfold Cts S08.fresh at *;rw[List.replicate_succ,List.replicate_succ,List.flatMap_cons,List.flatten_cons,h]
theorem Rd.keptRow{w w':World}{a:Option Addr}{vals:List Value}{b:Nat}(h:Rd w a vals)(k:w.grownBy w' (some b))(f:∀g o,a=some ⟨g,o,none⟩→g≠b):Rd w' a vals:=fun m=>by
 obtain⟨g,o,rfl,d⟩:=h m;refine⟨g,o,rfl,fun j v l=> ?_⟩;have c:=d j v l;have i:=k.block g (zE c) (fun e=>f g o rfl (by cases e;rfl));unfold World.cell? at c⊢;rw[i];exact c
theorem table14_any(n:Nat)(p:1≤n)(m:n≤65536)(w:World):Calls Tryz.prog 159 #[n] w fun e c=>∃a b,e = .returned (.slice a n b)∧(∀g o,a=some ⟨g,o,none⟩→w.heap.size≤g)∧Rd c a (Cts (List.replicate n (32768,0)))∧Below w w c:=by
 have d:=zC (table08_any (n:Int) w om om);have j:S08.tableLen (n:Int)=n:=by unfold S08.tableLen;split<;>omega
 rw[j,←zlX]at d;go_enter Tryz.func159,Tryz.ntmps159;go_wp2_with fail;refine d.out.mono ?_;rintro e q ⟨a,b,rfl,f,h,i⟩;obtain⟨k,l⟩:=zh2 h f;clear h f;go_wp2;go_returns;exact⟨a,b,rfl,l.out,k.out,i⟩
def S14.fresh1(n:Nat):S14.P:={S14.P0 with ctrs:=List.replicate n (32768,0)}
theorem PIs.fresh1{n:Nat}{w:World}{a:Option Addr}{cap:Nat}(h:Rd w a (Cts (List.replicate n (32768,0)))):PIs (S14.fresh1 n) {zfF with a1:=a,c1:=cap} w:=
 ⟨h,(PIs.zero w).tab,(PIs.zero w).mch,(PIs.zero w).mix,(PIs.zero w).apm⟩
theorem zsG(c:S14.C)(n P:Nat)(B:n≤16)(l:c.bits=n)(r:2^n=P)(w:World):Calls Tryz.prog 153 #[CV c] w fun e m=>∃y,e = .returned (PV (S14.fresh1 P) y)∧PRob 0 w.heap.size (S14.fresh1 P) y m∧Below w w m:=by
 have f:=zjY B;rw[r]at f;have J:=zC fun W=>zgR c n P B l r W;have C:=zC fun W=>table14_any P f.1 f.2 W;obtain⟨b,i⟩:=zvJ ((w.alloc (.cells (zV c).toArray 88)).alloc (.cells zP 50));have K:Blk b w (zV c) 88:=by rw[←i];exact(Blk.new w _ _).alloc _
 have x:Blk b (w.heap.size+1) (yB S14.P0 zfF) 50:=by
  rw[←i];have h:=zfH (w.alloc (.cells (zV c).toArray 88));rwa[zY]at h
 have u:Below w w b:=by rw[←i];exact((zJ _ _).alloc (zF _) _).alloc by1 _
 obtain⟨R,aa,Y,U,first,V⟩:=c;unfold CV zV at *;simp only at *;have Hb:=zC l;clear l f;obtain⟨q0,q1,q2,T,X,Q⟩:=K.c6;go_enter Tryz.func153,Tryz.ntmps153;go_wp2_with (first
  | (refine zaK 50 zP zdF by3 by3 ?_;rw[i])
  | fail)
 refine(J.out _).mono ?_;rintro e Z ⟨rfl,k⟩;go_wp2_with fail;refine(C.out _).mono ?_;rintro e F ⟨a,d,rfl,j,A,M⟩;have q:Below b b F:=zA k M;have L:=x.step q;have t:=zA u q;have s:∀v∈yB (S14.fresh1 P) {zfF with a1:=a,c1:=d},v.oneCell'=true:=zbC _ _;have z:yB (S14.fresh1 P) {zfF with a1:=a,c1:=d} = .slice a P d::(yB S14.P0 zfF).tail:=by
  unfold yB S14.fresh1;simp only[List.length_replicate];rfl
 rw[z]at s;have D:=zC A;have O:=x.lt;obtain⟨I,E⟩:=zh2 (fun g o e=>by have:=j g o e;have:=k.size;have:=u.size;exact .inr om:∀g o,a=some ⟨g,o,none⟩→g<0∨w.heap.size≤g) (fun g o e=>by have:=j g o e;have:=k.size;omega:∀g o,a=some ⟨g,o,none⟩→g≠w.heap.size+1);clear A j;go_wp2_with (first
  | (refine st50 (.tmp 2) (.tmp 7) (.slice a P d::(yB S14.P0 zfF).tail) L ?_ rfl rfl s;intro S H p sL))
 have G:=lv50 H;refine rL1 G ?_;refine⟨{zfF with a1:=a,c1:=d},?_,fun m N=>PIs.fresh1 (Rd.kept ?_ N I.out),t.trans (yA p om t.size)⟩
 ·unfold PV;rw[z]
 ·exact D.out.keptRow p E.out
theorem field_P0(v:Value)(a:List Value)(w:World):(Instr.field 50 (.agg (v::a).toArray) 0).run Tryz.prog w = .ok v w:=by
 unfold Instr.field part;simp[run_underlying Tryz.underlying50,asAgg,go_sem]
theorem Cts_ix{xs:List (Int×Int)}{k:Nat}(h:k<xs.length):(Cts xs)[k*2]? = some (.int .i64 (xs.getD k (0,0)).1)∧(Cts xs)[k*2+1]? = some (.int .i64 (xs.getD k (0,0)).2):=by
 have:=zeD h;rw[zK,zD h];exact this
theorem Cts_set:∀(a:List (Int×Int)) (k:Nat) (x:Int×Int),Cts (a.set k x)=((Cts a).set (k*2) (.int .i64 x.1)).set (k*2+1) (.int .i64 x.2)
 | [],k,x=>by simp[Cts]
 | c::a,0,x=>by simp[Cts]
 | c::a,k+1,x=>by
   have h:=Cts_set a k x
   have e:∀l:List Value,(((Value.int .i64 c.1::Value.int .i64 c.2::l).set ((k+1)*2) (.int .i64 x.1)).set ((k+1)*2+1) (.int .i64 x.2))=Value.int .i64 c.1::Value.int .i64 c.2::(l.set (k*2) (.int .i64 x.1)).set (k*2+1) (.int .i64 x.2):=fun l=>by
    rw[show(k+1)*2=k*2+1+1 by omega];rfl
   show Value.int .i64 c.1::Value.int .i64 c.2::Cts (a.set k x)=_;rw[h];exact(e (Cts a)).symm
theorem zoG(c:S14.C)(N:S14.N)(L:NLay)(k:Nat)(b:Value)(M:b.oneCell'=true)(p:S14.P)(y:Lay)(n:Nat)(w:World)(r:NIs N L w)(O:N.comps[k]? = some c)(v:N.parts[k]? = some p)(E:L.ys[k]? = some y)(hx:k<N.ctxs.length)(pt:Nat)(ab:N.part=(pt:Int))(ai:pt<4294967296)
 (hn:c.bits=(n:Int)) (ad:n≤16) (hl:p.ctrs.length=2^n) :
 Calls Tryz.prog 156 #[CV c,VV N L k b] w fun e w'=>e = .returned (.int .i64 (S14.probe p (S14.index (N.ctxs.getD k 0) pt n)))∧Below w w w':=by
 have hk:k<N.parts.length:=(List.getElem?_eq_some_iff.1 v).1;have hP:=r.ps k p y v E;have s:=S14.index_lt (N.ctxs.getD k 0) pt ad;rw[←hl]at s;obtain⟨g,o,al,I⟩:=hP.rc (fun e=>by have h:=yG List.length e;rw[yT]at h;simp at h;omega);have a:=zC fun(W:World) (B:Below w w W)=>zbO N L k b M W (r.step B) hk p y v E;have j:=zC fun(W:World) (B:Below w w W)=>zeK N L k b W (r.step B) hx pt ab ai c O n hn ad;obtain⟨i,Z⟩:=zvJ (S14.index (N.ctxs.getD k 0) pt n);rw[Z]at s j⊢;obtain⟨h0,h⟩:=Cts_ix s;have t:=I _ _ h0;have x:=I _ _ h;unfold S14.probe S14.ctr;have l:=zC fun W=>zhD (p.ctrs.getD i (0,0)).1 (p.ctrs.getD i (0,0)).2 W;obtain⟨u,hu⟩:=zvJ (p.ctrs.getD i (0,0));rw[hu]at t x l⊢;obtain⟨D,C⟩:=u;simp only at t x l⊢;obtain⟨q,hq⟩:=zvJ (S08.predict D C);have ag:=zC fun W=>zdA q W;rw[hq]at l⊢;obtain⟨R,V⟩:=zvJ (S06.stretch q);rw[V]at ag⊢;unfold PV at a;have am:∃z,yB p y = .slice (some ⟨g,o,none⟩) p.ctrs.length y.c1::z∧z.length=15:=by unfold yB;rw[al];exact⟨_,rfl,rfl⟩
 obtain⟨z,S,aq⟩:=am;rw[S]at a;obtain⟨m,hm⟩:=zvJ p.ctrs.length;rw[hm]at a s;have ao:(i:Int)<(m:Int):=by omega
 unfold CV;unfold VV at a j⊢;obtain⟨H,G,F,ac,Q,ae⟩:=zz3 N.comps.length N.parts.length N.ctxs.length;rw[ac,Q,ae,ab]at a j⊢;clear ac Q ae hm V hq hu Z S I h0 h hP r v E O hx hk hl M;obtain⟨W1,ak,_,d,f⟩:=al2 w ((zV c)) [.slice L.a1 H L.c1,.slice L.a2 G L.c2,.slice L.a3 F L.c3,pt,k,b] 88 68;have d0:=(f.cell (zE t)).trans t;have P:=(f.cell (zE x)).trans x;rw[←zcE]at P;have J:Cells W1 [(⟨w.heap.size+1,0,none⟩,.slice L.a1 H L.c1),(⟨w.heap.size+1,1,none⟩,.slice L.a2 G L.c2),(⟨w.heap.size+1,2,none⟩,.slice L.a3 F L.c3),(⟨w.heap.size+1,3,none⟩,pt),(⟨w.heap.size+1,4,none⟩,k),(⟨w.heap.size+1,5,none⟩,b),(⟨g,o+i*2,none⟩,D),(⟨g,o+i*2+1,none⟩,C)]:=⟨d.cell 0,d.cell 1,d.cell 2,d.cell 3,d.cell 4,d.cell 5,d0,P,zT⟩;go_enter Tryz.func156,Tryz.ntmps156;go_wp2_with (rw[ak]);refine zvL 9 1 [(U,0,1),(U,3,1),(zvE,1,1),(U,2,1),(zvE,4,1),(U,5,2),(zvE,7,1),(zvE,8,1)] (Keeps W1 [(⟨w.heap.size+1,0,none⟩,.slice L.a1 H L.c1),(⟨w.heap.size+1,1,none⟩,.slice L.a2 G L.c2),(⟨w.heap.size+1,2,none⟩,.slice L.a3 F L.c3),(⟨w.heap.size+1,3,none⟩,pt),(⟨w.heap.size+1,4,none⟩,k),(⟨w.heap.size+1,5,none⟩,b),(⟨g,o+i*2,none⟩,D),(⟨g,o+i*2+1,none⟩,C)]) (Keeps.start J) fun Y Q4 F4 hY X=> ?_;repeat refine mrd ?_
 refine mcl ?_;refine mck (Keeps.start J) (a.out _ (zA f (Keeps.start J).1)) fun w2 av A=> ?_;have an:=field_P0 (.slice (some ⟨g,o,none⟩) m y.c1) z;repeat refine mrd ?_
 refine mcl ?_;refine mck A (j.out _ (zA f A.1)) fun w3 au af=> ?_;repeat refine mrd ?_
 refine mcl ?_;refine mck af (l.out _) fun w4 ap ah=> ?_;refine mcl ?_;refine mck ah (ag.out _) fun w5 ar aa=> ?_;refine mdn X fun K T=> ?_;clear X hY;have aj:=zA f aa.1;go_wp2_with fail;refine mok T ?_;clear T A af ah aa;exact mf1 aj
theorem Blk.rd_take{w:World}{b n:Nat}{c vals:List Value}{t:TypeId}(h:Blk w b c t)(d:c.take n=vals):Rd w (some ⟨b,0,none⟩) vals:=fun _=>⟨b,0,rfl,fun j v a=>by
 rw[yE,h.cell];rw[←d,zbG]at a;split at a
 ·exact a
 ·cases a⟩
def S14.upd(l:List (Int×Int))(i:Nat)(bit limit:Int):List (Int×Int):=l.set i (S08.updateP (l.getD i (0,0)).1 (l.getD i (0,0)).2 bit limit,S08.updateN (l.getD i (0,0)).1 (l.getD i (0,0)).2 bit limit)
theorem zkP(xs:List (Int×Int))(i:Nat)(T:i<xs.length)(hl:xs.length≤65536)(bit c:Int)(a:Option Addr)(cap:Nat)(w:World)(F:Rd w a (Cts xs)) :
 Calls Tryz.prog 161 #[.slice a xs.length cap,i,bit,c] w fun e M=>∃s O,e = .returned (.slice s xs.length O)∧(∀g o,s=some ⟨g,o,none⟩→w.heap.size≤g)∧Rd M s (Cts (S14.upd xs i bit c))∧Below w w M:=by
 obtain⟨g,o,rfl,l⟩:=F (fun e=>by have r:=yG List.length e;rw[yT]at r;simp at r;omega);obtain⟨A,r⟩:=Cts_ix T;have t:=l _ _ A;have h:=l _ _ r;rw[←zcE]at h;have S:=zC (cloneCtrs14 (Cts xs) xs.length (by rw[yT]) (Cts14_one xs) g o cap w om om F);have f:=zC fun W=>znR (xs.getD i (0,0)).1 (xs.getD i (0,0)).2 bit c W;unfold S08.updateV at f;unfold S14.upd;have HS:=zC (fun x=>Cts_set xs i x);obtain⟨u,K⟩:=zvJ (xs.getD i (0,0));rw[K]at t h f⊢;obtain⟨D,H⟩:=u;simp only at t h f⊢;obtain⟨y,z⟩:∃q,S08.updateP D H bit c=q:=⟨_,rfl⟩;obtain⟨E,C⟩:∃q,S08.updateN D H bit c=q:=⟨_,rfl⟩;obtain⟨e',L⟩:∃q,S08.updateE D H bit c=q:=⟨_,rfl⟩;rw[z,C,L]at f;rw[z,C];obtain⟨m,Q⟩:=zvJ xs.length;rw[Q]at S T hl⊢;have ah:(i:Int)<(m:Int):=by omega
 clear z C L K A r l F Q;go_enter Tryz.func161,Tryz.ntmps161;go_wp2_with fail;refine S.out.mono ?_;rintro e w1 ⟨s,O,rfl,U,G⟩;have d0:=(G.cell (zE t)).trans t;have d1:=(G.cell (zE h)).trans h;go_wp2_with fail;refine(f.out _).mono ?_;rintro e k ⟨rfl,I⟩;have V:=yM (B:=0) U I;have Y:=zA G I;obtain⟨ac,Z⟩:=V;rcases Z with⟨_,A⟩|⟨b,ad,d,N,ab,P,ag,ai,l,R⟩
 ·omega
 simp only[Value.slice.injEq,true_and]at N;obtain⟨rfl,rfl⟩:=N;have j:Blk k b d.toList 143:=by unfold Blk;rw[Array.toArray_toList];exact P
 have af:i*2+1<d.toList.length:=by rw[Array.length_toList,l];omega
 have v:=j.set (i*2) (.int .i64 y);have J:=v.set (i*2+1) (.int .i64 E);have f0:k.cell? ⟨b,i*2,none⟩=some (d.toList[i*2]'om):=by rw[j.cell,zD]
 have f1:k.cell? ⟨b,i*2+1,none⟩=some (d.toList[i*2+1]'om):=by rw[j.cell,zD]
 have ae:(k.setCell ⟨b,i*2,none⟩ (.int .i64 y)).cell? ⟨b,i*2+1,none⟩=some (d.toList[i*2+1]'om):=by
  rw[v.cell,zgW om,zD]
 have f2:=j.free (i*2);have f3:=v.free (i*2+1);have aa:=zC (J.rd_take (n:=m*2) (vals:=Cts (xs.set i (y,E))) (by rw[List.take_set,List.take_set,R,HS.out]));have X:Below w w ((k.setCell ⟨b,i*2,none⟩ (.int .i64 y)).setCell ⟨b,i*2+1,none⟩ (.int .i64 E)):=(Y.setCell (p:=⟨b,i*2,none⟩) by7 _).setCell (p:=⟨b,i*2+1,none⟩) by7 _;clear v J R U P j;go_wp2;go_returns;exact⟨_,_,rfl,fun g o e=>by cases e;exact ab,aa.out,X⟩
theorem zsQ(xs:List (Int×Int))(i:Nat)(hi:i<xs.length)(hl:xs.length≤65536)(bit f:Int)(a:Option Addr)(cap:Nat)(w:World)(s:Rd w a (Cts xs)) :
 Calls Tryz.prog 40 #[.slice a xs.length cap,i,bit,f] w fun e R=>∃A ad,e = .returned (.slice A xs.length ad)∧(∀g o,A=some ⟨g,o,none⟩→w.heap.size≤g)∧Rd R A (Cts (S14.upd xs i bit f))∧Below w w R:=by
 obtain⟨g,o,rfl,_⟩:=s (fun e=>by have b:=yG List.length e;rw[yT]at b;simp at b;omega);obtain⟨j,b⟩:=Cts_ix hi;have n:(Cts xs).length=xs.length*2:=yT xs;have h:i*2+1<(Cts xs).length:=by omega
 have c:=fun W=>ziB (xs.getD i (0,0)).1 (xs.getD i (0,0)).2 bit f W;unfold S08.updateV at c;unfold S14.upd;have Y:=zC (fun x=>Cts_set xs i x);obtain⟨u,E⟩:=zvJ (xs.getD i (0,0));rw[E]at j b⊢;simp only[E]at c;obtain⟨F,y⟩:=u;simp only at j b c⊢;obtain⟨v,z⟩:∃q,S08.updateP F y bit f=q:=⟨_,rfl⟩;obtain⟨I,D⟩:∃q,S08.updateN F y bit f=q:=⟨_,rfl⟩;obtain⟨e',Q⟩:∃q,S08.updateE F y bit f=q:=⟨_,rfl⟩;simp only[z,D,Q]at c;rw[z,D];have c:=zC c;obtain⟨m,X⟩:=zvJ xs.length;rw[X]at n hi hl⊢;obtain⟨V,S⟩:=zvJ (Cts xs);have C:=Cts14_one xs;rw[S]at n h j b Y s C;obtain⟨aa,H1,ac,l⟩:=zh4 s C n (zZ j b);have af:(i:Int)<(m:Int):=by omega
 clear z D Q E j b s X S C n;go_enter Tryz.func40,Tryz.ntmps40;go_wp2_with (first
  | (at_builtin
     refine yQ _ _ 37 143 2 16 _ w.heap.size zoE rfl rfl _ 0 [] rfl (World.ownsRow_nil _ _ _ _) (some ⟨g,o,none⟩) m cap V rfl ac.out aa.out H1.out by5 om (zF _) ?_;intro a1 c1 w1 L O;have U:Below w w w1:=Below.grown (zJ _ _) O (zF _) (fun k e=>by cases e);simp only[yE,lna]at L⊢;obtain⟨G,rfl,K,t⟩:=Own.of_owns L om by2;have Z:=(t.cell (i:=i*2) om).trans l.out.1;have M:=(t.cell (i:=i*2+1) h).trans l.out.2;obtain⟨HO,HB⟩:=zh2 t U;clear L O t U)
  | fail)
 refine(c.out _).mono ?_;rintro e T ⟨rfl,B⟩;have d:=HO.out.step B;have P:=zA HB.out B;clear Z M;have Z:=(d.cell (i:=i*2) om).trans l.out.1;have M:=(d.cell (i:=i*2+1) h).trans l.out.2;have f0:=d.free (i*2);have f1:=d.free (i*2+1);have r:=d.set (i:=i*2) om (.int .i64 v);have N:=r.set (i:=i*2+1) (by rw[yH];exact h) (.int .i64 I);have e1:(T.setCell ⟨G,i*2,none⟩ (.int .i64 v)).cell? ⟨G,i*2+1,none⟩=some (.int .i64 y):=by
  rw[r.cell (by rw[yH];exact h),zgW om];exact l.out.2
 have e2:=r.free (i*2+1);have J:=N.rd;have H:=Y.out (v,I);simp only at H;rw[←H]at J;have ae:=zC J;have ab:Below w w ((T.setCell ⟨G,i*2,none⟩ (.int .i64 v)).setCell ⟨G,i*2+1,none⟩ (.int .i64 I)):=(P.setCell (p:=⟨G,i*2,none⟩) K _).setCell (p:=⟨G,i*2+1,none⟩) K _;clear d r N J B P H;go_wp2;go_returns;exact⟨some ⟨G,0,none⟩,c1,rfl,fun g' o' e=>by cases e;exact K,ae.out,ab⟩
theorem zaZ{P:Program}{w:World}{o:Oper}{a:Act}(T:TypeId)(x:Operand)(f:o.op = .load T x)(b:Nat)(j:a.eval x = .pointer (some ⟨b,0,none⟩))(c:List Value)(i:w.rangeAt b 0 c)(d:TypeDesc)(g:P.underlying T=some d)(e:d.isRow=true)(h:(P.info? T).map (·.size)=some c.length) :
 (execOp a.eval o).run P w = .ok (.value (.agg c.toArray)) w:=by
 unfold execOp;simp only[f,j,Instr.loadAt,Instr.sureAddr,Sem.run_bind,Sem.run_pure,Result.andThen_ok,run_loadVar_mid w b 0 T c d i g e h]
theorem zjQ(c:S14.C)(p:S14.P)(y:Lay)(pt:Int)(n P:Nat)(R:n≤16)(M:c.bits=n)(G:2^n=P)(w:World)(f:PIs p y w) :
 Calls Tryz.prog 157 #[CV c,PV p y,pt] w fun e w'=>e = .returned (.bool (S14.bare {p with ctrs:=[]}&&(decide (p.ctrs.length=P) && !p.ctrs.any (S14.badC c.limit))))∧Below w w w':=by
 have L:=zjY R;rw[G]at L;have C:=zC fun W=>zgR c n P R M G W;have j:=zC fun W=>zeP {p with ctrs:=[]} {y with a1:=none,c1:=0} W f.mch.lh f.mch.lb f.mch.lc;have k:=zC fun(W:World) (hW:Below w w W)=>zhO p.ctrs P c.limit y.a1 y.c1 W L.2 (f.rc.step hW);obtain⟨H,h,E,d,J⟩:=zcB w c 88 p y;have ad:∃b,yB p y = .slice y.a1 p.ctrs.length y.c1::b∧yB {p with ctrs:=[]} {y with a1:=none,c1:=0} = .slice none 0 0::b∧b.length=15:=⟨_,rfl,rfl,rfl⟩;obtain⟨b,I,S,ac⟩:=ad;unfold PV at j⊢;unfold CV at C⊢;rw[I]at d h⊢;rw[S]at j;obtain⟨q,Q⟩:=zvJ (S14.bare {p with ctrs:=[]});obtain⟨r,V⟩:∃r,(decide (p.ctrs.length=P) && !p.ctrs.any (S14.badC c.limit))=r:=⟨_,rfl⟩;rw[Q]at j⊢;rw[V]at k⊢;obtain⟨m,T⟩:=zvJ p.ctrs.length;rw[T]at k d h⊢;obtain⟨x,D,B,z,first,A⟩:=c;unfold zV at *;simp only at k C E h⊢;have Z:some 16=some (Value.slice none 0 0::b).length:=by rw[zbL,ac]
 clear Q V T I S M f;have O:=d.cell 0;have ab:=d.free 0;simp only[lgz]at O;have s:=d.set 0 (.slice none 0 0);rw[List.set_cons_zero]at s;have a:=E.other (w.heap.size+1) 0 (.slice none 0 0) om;have l:Below w w (H.setCell ⟨w.heap.size+1,0,none⟩ (.slice none 0 0)):=J.setCell (p:=⟨w.heap.size+1,0,none⟩) by1 _;go_enter Tryz.func157,Tryz.ntmps157;go_wp2_with (rw[h]);obtain⟨F,N⟩:=zvJ (H.setCell ⟨w.heap.size+1,0,none⟩ (.slice none 0 0));rw[N]at s a l⊢;clear N O ab E d J h;have t:Cells F [(⟨w,0,none⟩,x),(⟨w,1,none⟩,D),(⟨w,2,none⟩,B),(⟨w,3,none⟩,z),(⟨w,4,none⟩,first),(⟨w,5,none⟩,A)]:=⟨a.cell 0,a.cell 1,a.cell 2,a.cell 3,a.cell 4,a.cell 5,zT⟩;cases q with
 | false=>
   go_wp2_with fail;refine zvL 12 1 [(U,0,1),(zvE,1,1),(U,2,4),(U,7,3),(zvE,6,1),(zvE,10,1),(U,11,1)] (Keeps F [(⟨w,0,none⟩,x),(⟨w,1,none⟩,D),(⟨w,2,none⟩,B),(⟨w,3,none⟩,z),(⟨w,4,none⟩,first),(⟨w,5,none⟩,A)]) (Keeps.start t) fun Y Q4 F4 hY i=> ?_;repeat refine mrd ?_
   apply zaH (by rw[hY];rfl)
   ·intro w2 u;exact zaZ 50 (.tmp 4) by3 (w.heap.size+1) by3 (Value.slice none 0 0::b) (s.step u.1).cells _ Tryz.underlying50 rfl (info_P.trans Z)
   simp only[zvF];refine mcl ?_;refine mck (Keeps.start t) (j.out _) fun w3 ae o=> ?_;repeat refine mrd ?_
   repeat first|refine mud ?_|refine msk (o) ?_
   repeat refine mrd ?_
   refine mdn i fun K g=> ?_;clear i hY;have v:=zA l o.1;go_wp2_with fail;refine mok g ?_;clear g;exact mf1 v
 | true=>
   go_wp2_with fail;refine zvL 12 1 [(U,0,1),(zvE,1,1),(U,2,4),(U,7,3),(zvE,6,1),(zvE,10,1),(U,11,1)] (Keeps F [(⟨w,0,none⟩,x),(⟨w,1,none⟩,D),(⟨w,2,none⟩,B),(⟨w,3,none⟩,z),(⟨w,4,none⟩,first),(⟨w,5,none⟩,A)]) (Keeps.start t) fun Y Q4 F4 hY i=> ?_;repeat refine mrd ?_
   apply zaH (by rw[hY];rfl)
   ·intro w2 u;exact zaZ 50 (.tmp 4) by3 (w.heap.size+1) by3 (Value.slice none 0 0::b) (s.step u.1).cells _ Tryz.underlying50 rfl (info_P.trans Z)
   simp only[zvF];refine mcl ?_;refine mck (Keeps.start t) (j.out _) fun w3 ae o=> ?_;repeat refine mrd ?_
   refine mcl ?_;refine mck o (C.out _) fun w4 ag X=> ?_;refine mcl ?_;refine mck X (k.out _ (zA l X.1)) fun w5 af aa=> ?_;repeat refine mrd ?_
   refine mdn i fun K g=> ?_;clear i hY;have v:=zA l aa.1;go_wp2_with fail;refine mok g ?_;clear g;go_wp2;go_returns;exact⟨zaA by1,v⟩
def S14.basic(l:List S14.C):Prop:=∀c∈l,c.kind=0∨c.kind=1∨c.kind=4
def S14.freshB(c:S14.C):S14.P:=if c.kind=1 then S14.fresh1 (2^c.bits.toNat)else S14.P0
def S14.outB(N:S14.N)(k:Nat)(bef:List Int):Int:=
 if(N.comps.getD k S14.zc).kind=0 then S06.stretch (N.comps.getD k S14.zc).limit else if(N.comps.getD k S14.zc).kind=1 then S14.probe (N.parts.getD k S14.P0) (S14.at_ N k (N.comps.getD k S14.zc))else S14.avg (N.comps.getD k S14.zc) bef
def S14.learnB(N:S14.N)(bit:Int)(k:Nat):S14.P:=
 if(N.comps.getD k S14.zc).kind=1 then {N.parts.getD k S14.P0 with ctrs:=S14.upd (N.parts.getD k S14.P0).ctrs (S14.at_ N k (N.comps.getD k S14.zc)) bit (N.comps.getD k S14.zc).limit}else N.parts.getD k S14.P0
theorem yS{α:Type}{l:List α}{k:Nat}{x d:α}(h:l[k]? = some x):l.getD k d=x:=by rw[zK,h];rfl
theorem yP{b:Int}(h:0≤b):b=(b.toNat:Int):=(zgO h).symm
theorem zkA(l:List S14.C)(f:S14.basic l):ztP l S14.freshB:=fun k c g b W=>by
 have a:=S14.ok_is b;rcases f c (yF g)with h|h|h
 ·unfold FreshF S14.freshB;rw[zQ h,zG om];exact(zoR c W).mono fun e d h=>⟨zfF,h.1,PRob.zero _ _ _,h.2⟩
 ·unfold FreshF S14.freshB;rw[zG om,zQ h,zQ h];exact zsG c c.bits.toNat _ (by have:=a.bits;omega) (yP a.bits.1) rfl W
 ·unfold FreshF S14.freshB;rw[zG om,zG om,zG om,zG om,zQ h,zG om];exact(zrH c W).mono fun e d h=>⟨zfF,h.1,PRob.zero _ _ _,h.2⟩
theorem zeI(N:S14.N)(L:NLay)(w:World)(j:NIs N L w)(i:S14.basic N.comps):zeQ N L w:=fun k c p y l e f g W d=>by
 have b:=S14.ok_is e;have a:=(j.ps k p y f g).step d;rcases i c (yF l)with h|h|h
 ·unfold zhT S14.right;rw[zQ h,zQ h];exact zhQ c p y N.part W a
 ·unfold zhT S14.right;rw[zG om,zQ h,zG om,zQ h];exact zjQ c p y N.part c.bits.toNat _ (by have:=b.bits;omega) (yP b.bits.1) rfl W a
 ·unfold zhT S14.right;rw[zG om,zG om,zG om,zG om,zQ h,zG om,zG om,zG om,zG om,zQ h];exact ziV c p y N.part W a
theorem zsO{N:S14.N}{L:NLay}{w:World}(e:NIs N L w)(j:S14.checkNet N=0){k:Nat}{c:S14.C}(b:N.comps[k]? = some c) :
 ∃p y,N.parts[k]? = some p∧L.ys[k]? = some y∧PIs p y w∧k<N.parts.length∧k<N.ctxs.length∧S14.ok c (k:Int)=true∧S14.right c p N.part=true∧1≤N.part∧N.part≤255:=by
 obtain⟨h,r,m,i,l,g⟩:=S14.checkNet_zero j;obtain⟨n,o,f⟩:=S14.check_zero h;have q:=(List.getElem?_eq_some_iff.1 b).1;obtain⟨p,a⟩:∃p,N.parts[k]? = some p:=⟨_,zD om⟩;obtain⟨y,d⟩:∃y,L.ys[k]? = some y:=⟨_,zD (by rw[e.ly];omega)⟩;exact⟨p,y,a,d,e.ps k p y a d,by omega,by omega,f k c b,g k c p b a,i,l⟩
theorem zgD{c:S14.C}{p:S14.P}{pt:Int}(h:c.kind=1)(a:S14.right c p pt=true):p.ctrs.length=2^c.bits.toNat:=by
 unfold S14.right at a;rw[zG om,zQ h]at a;unfold S14.okCtrs at a;simp only[zS,yC]at a;exact a.2.1
theorem ziU{c:S14.C}{k:Int}(h:c.kind=4)(a:S14.ok c k=true):(0≤c.limit∧c.limit≤256)∧(0≤c.first∧c.first<k)∧(0≤c.second∧c.second<k):=by
 unfold S14.ok at a;rw[zG om,zG om,zG om,zG om,zQ h]at a;unfold S14.okAverage at a;simp only[zS,S14.has_iff]at a;omega
theorem zgU(N:S14.N)(L:NLay)(w:World)(g:NIs N L w)(q:S14.basic N.comps)(n:S14.checkNet N=0):zgG N L w (S14.outB N):=fun k c b t a W r s m e=>by
 obtain⟨p,y,f,o,x,A,l,i,u,v,z⟩:=zsO g n b;have j:=S14.ok_is i;unfold S14.outB;rw[yS b,yS f];rcases q c (yF b)with h|h|h
 ·unfold OutF;rw[zQ h,zQ h];exact⟨zrC c N L k _ W,S06.stretch_bounds _⟩
 ·unfold OutF;rw[zG om,zQ h,zG om,zQ h];exact⟨zoG c N L k _ rfl p y c.bits.toNat W (g.step r) b f o l N.part.toNat (yP om) om (yP j.bits.1) (by have:=j.bits;omega) (zgD h u),S06.stretch_bounds _⟩
 ·unfold OutF;have d:=ziU h i;subst m;rw[zG om,zG om,zG om,zG om,zQ h,zG om,zG om];exact⟨zlJ c N L _ a _ t W e d.1 d.2.1 d.2.2 s,S14.avg_in e d.1⟩
theorem noM_zero:S14.noM S14.zM=true:=rfl
theorem rempty14_0(c:S14.C)(p:S14.P)(y:Lay)(w:World)(P:PIs p y w)(hk:c.kind=0) :
 Calls Tryz.prog 68 #[CV c,PV p y] w fun e w'=>e = .returned (.bool (S14.bare p))∧Below w w w':=by
 have j:=zC fun(W:World) (hW:Below w w W)=>zdP p.m y.pl W (P.mch.step hW);obtain⟨R,a⟩:=zvJ (S14.bare p);rw[a];unfold S14.bare at a;try simp only at a
 obtain⟨nm,Z⟩:=zvJ (S14.noM p.m);rw[Z]at a j;clear Z;obtain⟨W1,b,l,f,d⟩:=zcB w c 56 p y;clear P;obtain⟨am,af,ag,ad,first,an⟩:=c;simp only at hk;subst hk;unfold CV PV;unfold zV at *;unfold yB at *;unfold MV yX at j;obtain⟨aa,M,sd,G,⟨ab,ae,heads,al,at_,ai,aj,ak,ah⟩,X,mw,ac⟩:=p;obtain⟨a1,c1,a2,c2,pl,a3,c3,a4,c4⟩:=y;simp only at a j b l f⊢;obtain⟨A,B,r,u,m,k,n,i⟩:=zz4 aa.length sd.length mw.length ac.length;rw[m,k,n,i]at b f;try rw[m]at a
 try rw[k]at a
 try rw[n]at a
 try rw[i]at a
 rw[m,k,n,i];clear m k n i;have h:=l.cell 0;obtain⟨H,q1,q2,K,L,D,S,U,V,Q,J,T,Y,C,E,F⟩:=f.c16;simp only[zvH]at h;by_cases s:A=0
 ·subst s;by_cases q:M=0
  ·subst q;by_cases o:B=0
   ·subst o;by_cases x:G=0
    ·subst x;go_enter Tryz.func68,Tryz.ntmps68;go_wp2_with (rw[b]);refine mnb d (j.out _ d) fun w5 I g=> ?_;have N:=l.step I;have O:=f.step I;clear h H q1 q2 K L D S U V Q J T Y C E F;have h:=N.cell 0;obtain⟨H,q1,q2,K,L,D,S,U,V,Q,J,T,Y,C,E,F⟩:=O.c16;simp only[zvH]at h;clear N O l f;cases nm with
     | false=>
       obtain rfl:R=false:=by rw[←a];simp
       clear a;go_wp2;exact mf3 g
     | true=>
       by_cases t:X=0
       ·subst t;by_cases z:r=0
        ·subst z;by_cases v:u=0
         ·subst v;obtain rfl:R=true:=by rw[←a];simp[*]
          clear a;go_wp2;exact mf3 g
         ·obtain rfl:R=false:=by rw[←a];simp[v]
          clear a;have e7:(0:Int)<(u:Int):=by omega
          have f7:((u:Int)==0)=false:=by simp[v]
          go_wp2;exact mf3 g
        ·obtain rfl:R=false:=by rw[←a];simp[z]
         clear a;have e6:(0:Int)<(r:Int):=by omega
         have f6:((r:Int)==0)=false:=by simp[z]
         go_wp2;exact mf3 g
       ·obtain rfl:R=false:=by rw[←a];simp[t]
        clear a;have e5:(X==0)=false:=by simp[t]
        go_wp2;exact mf3 g
    ·obtain rfl:R=false:=by rw[←a];simp[x]
     clear a;have e3:(G==0)=false:=by simp[x]
     go_enter Tryz.func68,Tryz.ntmps68;go_wp2_with (rw[b]);exact mf3 d
   ·obtain rfl:R=false:=by rw[←a];simp[o]
    clear a;have e2:(0:Int)<(B:Int):=by omega
    have f2:((B:Int)==0)=false:=by simp[o]
    go_enter Tryz.func68,Tryz.ntmps68;go_wp2_with (rw[b]);exact mf3 d
  ·obtain rfl:R=false:=by rw[←a];simp[q]
   clear a;have e1:(M==0)=false:=by simp[q]
   go_enter Tryz.func68,Tryz.ntmps68;go_wp2_with (rw[b]);exact mf3 d
 ·obtain rfl:R=false:=by rw[←a];simp[s]
  clear a;have e0:(0:Int)<(A:Int):=by omega
  have f0:((A:Int)==0)=false:=by simp[s]
  go_enter Tryz.func68,Tryz.ntmps68;go_wp2_with (rw[b]);exact mf3 d
theorem rempty14_1(c:S14.C)(p:S14.P)(y:Lay)(w:World)(N:PIs p y w)(hk:c.kind=1) :
 Calls Tryz.prog 68 #[CV c,PV p y] w fun e w'=>e = .returned (.bool (S14.bare {p with ctrs:=[]}))∧Below w w w':=by
 have j:=zC fun(W:World) (hW:Below w w W)=>zdP p.m y.pl W (N.mch.step hW);obtain⟨R,a⟩:=zvJ (S14.bare {p with ctrs:=[]});rw[a];unfold S14.bare at a;try simp only at a
 obtain⟨nm,X⟩:=zvJ (S14.noM p.m);rw[X]at a j;clear X;obtain⟨W1,b,l,f,d⟩:=zcB w c 56 p y;clear N;obtain⟨al,ae,af,ab,first,am⟩:=c;simp only at hk;subst hk;unfold CV PV;unfold zV at *;unfold yB at *;unfold MV yX at j;obtain⟨ctrs,K,sd,E,⟨aa,ad,heads,ak,at_,ah,ai,aj,ag⟩,U,mw,ac⟩:=p;obtain⟨a1,c1,a2,c2,pl,a3,c3,a4,c4⟩:=y;simp only at a j b l f⊢;obtain⟨l1,z,s,v,m,k,n,i⟩:=zz4 ctrs.length sd.length mw.length ac.length;rw[m,k,n,i]at b f;try rw[m]at a
 try rw[k]at a
 try rw[n]at a
 try rw[i]at a
 rw[m,k,n,i];clear m k n i;have h:=l.cell 0;obtain⟨F,Z,Y,I,J,B,P,S,T,O,H,Q,V,A,C,D⟩:=f.c16;simp only[zvH]at h;by_cases t:K=0
 ·subst t;by_cases r:z=0
  ·subst r;by_cases o:E=0
   ·subst o;go_enter Tryz.func68,Tryz.ntmps68;go_wp2_with (rw[b]);refine mnb d (j.out _ d) fun w5 G g=> ?_;have L:=l.step G;have M:=f.step G;clear h F Z Y I J B P S T O H Q V A C D;have h:=L.cell 0;obtain⟨F,Z,Y,I,J,B,P,S,T,O,H,Q,V,A,C,D⟩:=M.c16;simp only[zvH]at h;clear L M l f;cases nm with
    | false=>
      obtain rfl:R=false:=by rw[←a];simp
      clear a;go_wp2;exact mf3 g
    | true=>
      by_cases q:U=0
      ·subst q;by_cases u:s=0
       ·subst u;by_cases x:v=0
        ·subst x;obtain rfl:R=true:=by rw[←a];simp[*]
         clear a;go_wp2;exact mf3 g
        ·obtain rfl:R=false:=by rw[←a];simp[x]
         clear a;have e6:(0:Int)<(v:Int):=by omega
         have f6:((v:Int)==0)=false:=by simp[x]
         go_wp2;exact mf3 g
       ·obtain rfl:R=false:=by rw[←a];simp[u]
        clear a;have e5:(0:Int)<(s:Int):=by omega
        have f5:((s:Int)==0)=false:=by simp[u]
        go_wp2;exact mf3 g
      ·obtain rfl:R=false:=by rw[←a];simp[q]
       clear a;have e4:(U==0)=false:=by simp[q]
       go_wp2;exact mf3 g
   ·obtain rfl:R=false:=by rw[←a];simp[o]
    clear a;have e2:(E==0)=false:=by simp[o]
    go_enter Tryz.func68,Tryz.ntmps68;go_wp2_with (rw[b]);exact mf3 d
  ·obtain rfl:R=false:=by rw[←a];simp[r]
   clear a;have e1:(0:Int)<(z:Int):=by omega
   have f1:((z:Int)==0)=false:=by simp[r]
   go_enter Tryz.func68,Tryz.ntmps68;go_wp2_with (rw[b]);exact mf3 d
 ·obtain rfl:R=false:=by rw[←a];simp[t]
  clear a;have e0:(K==0)=false:=by simp[t]
  go_enter Tryz.func68,Tryz.ntmps68;go_wp2_with (rw[b]);exact mf3 d
theorem rempty14_2(c:S14.C)(p:S14.P)(y:Lay)(w:World)(H:PIs p y w)(T:c.kind=2) :
 Calls Tryz.prog 68 #[CV c,PV p y] w fun e X=>e = .returned (.bool (S14.bare {p with ctrs:=[],sb:=0,sd:=[],slot:=0}))∧Below w w X:=by
 have h:=zC fun(W:World) (V:Below w w W)=>zdP p.m y.pl W (H.mch.step V);obtain⟨R,a⟩:=zvJ (S14.bare {p with ctrs:=[],sb:=0,sd:=[],slot:=0});rw[a];unfold S14.bare at a;try simp only at a
 obtain⟨Y,P⟩:=zvJ (S14.noM p.m);rw[P]at a h;clear P;obtain⟨W1,r,j,b,B⟩:=zcB w c 56 p y;clear H;obtain⟨al,ae,af,ab,first,am⟩:=c;simp only at T;subst T;unfold CV PV;unfold zV at *;unfold yB at *;unfold MV yX at h;obtain⟨ctrs,sb,sd,slot,⟨aa,ad,heads,ak,at_,ah,ai,aj,ag⟩,N,U,Z⟩:=p;obtain⟨a1,c1,a2,c2,pl,a3,c3,a4,c4⟩:=y;simp only at a h r j b⊢;obtain⟨l1,l2,o,q,k,i,l,g⟩:=zz4 ctrs.length sd.length U.length Z.length;rw[k,i,l,g]at r b;try rw[k]at a
 try rw[i]at a
 try rw[l]at a
 try rw[g]at a
 rw[k,i,l,g];clear k i l g;have f:=j.cell 0;obtain⟨z,S,Q,D,E,u,J,L,M,I,C,K,O,t,v,x⟩:=b.c16;simp only[zvH]at f;go_enter Tryz.func68,Tryz.ntmps68;go_wp2_with (rw[r]);refine mnb B (h.out _ B) fun w5 A d=> ?_;have F:=j.step A;have G:=b.step A;clear f z S Q D E u J L M I C K O t v x;have f:=F.cell 0;obtain⟨z,S,Q,D,E,u,J,L,M,I,C,K,O,t,v,x⟩:=G.c16;simp only[zvH]at f;clear F G j b;cases Y with
 | false=>
   obtain rfl:R=false:=by rw[←a];simp
   clear a;go_wp2;exact mf3 d
 | true=>
   by_cases n:N=0
   ·subst n;by_cases m:o=0
    ·subst m;by_cases s:q=0
     ·subst s;obtain rfl:R=true:=by rw[←a];simp[*]
      clear a;go_wp2;exact mf3 d
     ·obtain rfl:R=false:=by rw[←a];simp[s]
      clear a;have e3:(0:Int)<(q:Int):=by omega
      have f3:((q:Int)==0)=false:=by simp[s]
      go_wp2;exact mf3 d
    ·obtain rfl:R=false:=by rw[←a];simp[m]
     clear a;have e2:(0:Int)<(o:Int):=by omega
     have f2:((o:Int)==0)=false:=by simp[m]
     go_wp2;exact mf3 d
   ·obtain rfl:R=false:=by rw[←a];simp[n]
    clear a;have e1:(N==0)=false:=by simp[n]
    go_wp2;exact mf3 d
theorem rempty14_3(c:S14.C)(p:S14.P)(y:Lay)(w:World)(I:PIs p y w)(D:c.kind=3) :
 Calls Tryz.prog 68 #[CV c,PV p y] w fun e H=>e = .returned (.bool (S14.bare {p with m:=S14.zM}))∧Below w w H:=by
 obtain⟨R,a⟩:=zvJ (S14.bare {p with m:=S14.zM});rw[a];unfold S14.bare at a;try simp only at a
 rw[noM_zero]at a;obtain⟨W1,b,A,s,d⟩:=zcB w c 56 p y;clear I;obtain⟨ai,X,aa,Q,first,ak⟩:=c;simp only at D;subst D;unfold CV PV;unfold zV at *;unfold yB at *;obtain⟨G,B,J,z,⟨O,S,heads,ah,at_,ae,af,ag,ad⟩,C,F,K⟩:=p;obtain⟨Z,c1,a2,c2,pl,a3,c3,a4,c4⟩:=y;simp only at a b A s⊢;obtain⟨v,x,n,r,h,g,i,f⟩:=zz4 G.length J.length F.length K.length;rw[h,g,i,f]at b s;try rw[h]at a
 try rw[g]at a
 try rw[i]at a
 try rw[f]at a
 rw[h,g,i,f];clear h g i f;have E:=A.cell 0;obtain⟨q0,q1,q2,q3,q4,N,q6,q7,q8,q9,ab,aj,al,M,P,T⟩:=s.c16;simp only[zvH]at E;by_cases o:v=0
 ·subst o;by_cases l:B=0
  ·subst l;by_cases j:x=0
   ·subst j;by_cases t:z=0
    ·subst t;by_cases k:C=0
     ·subst k;by_cases q:n=0
      ·subst q;by_cases u:r=0
       ·subst u;obtain rfl:R=true:=by rw[←a];simp[*]
        clear a;go_enter Tryz.func68,Tryz.ntmps68;go_wp2_with (rw[b]);exact mf3 d
       ·obtain rfl:R=false:=by rw[←a];simp[u]
        clear a;have e6:(0:Int)<(r:Int):=by omega
        have L:((r:Int)==0)=false:=by simp[u]
        go_enter Tryz.func68,Tryz.ntmps68;go_wp2_with (rw[b]);exact mf3 d
      ·obtain rfl:R=false:=by rw[←a];simp[q]
       clear a;have W:(0:Int)<(n:Int):=by omega
       have Y:((n:Int)==0)=false:=by simp[q]
       go_enter Tryz.func68,Tryz.ntmps68;go_wp2_with (rw[b]);exact mf3 d
     ·obtain rfl:R=false:=by rw[←a];simp[k]
      clear a;have e4:(C==0)=false:=by simp[k]
      go_enter Tryz.func68,Tryz.ntmps68;go_wp2_with (rw[b]);exact mf3 d
    ·obtain rfl:R=false:=by rw[←a];simp[t]
     clear a;have e3:(z==0)=false:=by simp[t]
     go_enter Tryz.func68,Tryz.ntmps68;go_wp2_with (rw[b]);exact mf3 d
   ·obtain rfl:R=false:=by rw[←a];simp[j]
    clear a;have e2:(0:Int)<(x:Int):=by omega
    have V:((x:Int)==0)=false:=by simp[j]
    go_enter Tryz.func68,Tryz.ntmps68;go_wp2_with (rw[b]);exact mf3 d
  ·obtain rfl:R=false:=by rw[←a];simp[l]
   clear a;have e1:(B==0)=false:=by simp[l]
   go_enter Tryz.func68,Tryz.ntmps68;go_wp2_with (rw[b]);exact mf3 d
 ·obtain rfl:R=false:=by rw[←a];simp[o]
  clear a;have U:(0:Int)<(v:Int):=by omega
  have f0:((v:Int)==0)=false:=by simp[o]
  go_enter Tryz.func68,Tryz.ntmps68;go_wp2_with (rw[b]);exact mf3 d
theorem rempty14_4(c:S14.C)(p:S14.P)(y:Lay)(w:World)(P:PIs p y w)(hk:c.kind=4) :
 Calls Tryz.prog 68 #[CV c,PV p y] w fun e w'=>e = .returned (.bool (S14.bare p))∧Below w w w':=by
 have j:=zC fun(W:World) (hW:Below w w W)=>zdP p.m y.pl W (P.mch.step hW);obtain⟨R,a⟩:=zvJ (S14.bare p);rw[a];unfold S14.bare at a;try simp only at a
 obtain⟨nm,Z⟩:=zvJ (S14.noM p.m);rw[Z]at a j;clear Z;obtain⟨W1,b,l,f,d⟩:=zcB w c 56 p y;clear P;obtain⟨am,af,ag,ad,first,an⟩:=c;simp only at hk;subst hk;unfold CV PV;unfold zV at *;unfold yB at *;unfold MV yX at j;obtain⟨aa,M,sd,G,⟨ab,ae,heads,al,at_,ai,aj,ak,ah⟩,X,mw,ac⟩:=p;obtain⟨a1,c1,a2,c2,pl,a3,c3,a4,c4⟩:=y;simp only at a j b l f⊢;obtain⟨A,B,r,u,m,k,n,i⟩:=zz4 aa.length sd.length mw.length ac.length;rw[m,k,n,i]at b f;try rw[m]at a
 try rw[k]at a
 try rw[n]at a
 try rw[i]at a
 rw[m,k,n,i];clear m k n i;have h:=l.cell 0;obtain⟨H,q1,q2,K,L,D,S,U,V,Q,J,T,Y,C,E,F⟩:=f.c16;simp only[zvH]at h;by_cases s:A=0
 ·subst s;by_cases q:M=0
  ·subst q;by_cases o:B=0
   ·subst o;by_cases x:G=0
    ·subst x;go_enter Tryz.func68,Tryz.ntmps68;go_wp2_with (rw[b]);refine mnb d (j.out _ d) fun w5 I g=> ?_;have N:=l.step I;have O:=f.step I;clear h H q1 q2 K L D S U V Q J T Y C E F;have h:=N.cell 0;obtain⟨H,q1,q2,K,L,D,S,U,V,Q,J,T,Y,C,E,F⟩:=O.c16;simp only[zvH]at h;clear N O l f;cases nm with
     | false=>
       obtain rfl:R=false:=by rw[←a];simp
       clear a;go_wp2;exact mf3 g
     | true=>
       by_cases t:X=0
       ·subst t;by_cases z:r=0
        ·subst z;by_cases v:u=0
         ·subst v;obtain rfl:R=true:=by rw[←a];simp[*]
          clear a;go_wp2;exact mf3 g
         ·obtain rfl:R=false:=by rw[←a];simp[v]
          clear a;have e7:(0:Int)<(u:Int):=by omega
          have f7:((u:Int)==0)=false:=by simp[v]
          go_wp2;exact mf3 g
        ·obtain rfl:R=false:=by rw[←a];simp[z]
         clear a;have e6:(0:Int)<(r:Int):=by omega
         have f6:((r:Int)==0)=false:=by simp[z]
         go_wp2;exact mf3 g
       ·obtain rfl:R=false:=by rw[←a];simp[t]
        clear a;have e5:(X==0)=false:=by simp[t]
        go_wp2;exact mf3 g
    ·obtain rfl:R=false:=by rw[←a];simp[x]
     clear a;have e3:(G==0)=false:=by simp[x]
     go_enter Tryz.func68,Tryz.ntmps68;go_wp2_with (rw[b]);exact mf3 d
   ·obtain rfl:R=false:=by rw[←a];simp[o]
    clear a;have e2:(0:Int)<(B:Int):=by omega
    have f2:((B:Int)==0)=false:=by simp[o]
    go_enter Tryz.func68,Tryz.ntmps68;go_wp2_with (rw[b]);exact mf3 d
  ·obtain rfl:R=false:=by rw[←a];simp[q]
   clear a;have e1:(M==0)=false:=by simp[q]
   go_enter Tryz.func68,Tryz.ntmps68;go_wp2_with (rw[b]);exact mf3 d
 ·obtain rfl:R=false:=by rw[←a];simp[s]
  clear a;have e0:(0:Int)<(A:Int):=by omega
  have f0:((A:Int)==0)=false:=by simp[s]
  go_enter Tryz.func68,Tryz.ntmps68;go_wp2_with (rw[b]);exact mf3 d
theorem rempty14_5(c:S14.C)(p:S14.P)(y:Lay)(w:World)(M:PIs p y w)(Y:c.kind=5) :
 Calls Tryz.prog 68 #[CV c,PV p y] w fun e w'=>e = .returned (.bool (S14.bare {p with mi:=0,mw:=[]}))∧Below w w w':=by
 have i:=zC fun(W:World) (hW:Below w w W)=>zdP p.m y.pl W (M.mch.step hW);obtain⟨R,a⟩:=zvJ (S14.bare {p with mi:=0,mw:=[]});rw[a];unfold S14.bare at a;try simp only at a
 obtain⟨nm,U⟩:=zvJ (S14.noM p.m);rw[U]at a i;clear U;obtain⟨W1,b,k,f,d⟩:=zcB w c 56 p y;clear M;obtain⟨al,ae,af,ab,first,am⟩:=c;simp only at Y;subst Y;unfold CV PV;unfold zV at *;unfold yB at *;unfold MV yX at i;obtain⟨Z,J,sd,D,⟨aa,ad,heads,ak,at_,ah,ai,aj,ag⟩,mi,mw,ac⟩:=p;obtain⟨a1,c1,a2,c2,pl,a3,c3,a4,c4⟩:=y;simp only at a i b k f⊢;obtain⟨u,v,l3,s,l,j,m,h⟩:=zz4 Z.length sd.length mw.length ac.length;rw[l,j,m,h]at b f;try rw[l]at a
 try rw[j]at a
 try rw[m]at a
 try rw[h]at a
 rw[l,j,m,h];clear l j m h;have g:=k.cell 0;obtain⟨E,X,V,H,I,A,O,Q,S,N,G,P,T,z,B,C⟩:=f.c16;simp only[zvH]at g;by_cases q:u=0
 ·subst q;by_cases o:J=0
  ·subst o;by_cases n:v=0
   ·subst n;by_cases t:D=0
    ·subst t;go_enter Tryz.func68,Tryz.ntmps68;go_wp2_with (rw[b]);refine mnb d (i.out _ d) fun w5 F x=> ?_;have K:=k.step F;have L:=f.step F;clear g E X V H I A O Q S N G P T z B C;have g:=K.cell 0;obtain⟨E,X,V,H,I,A,O,Q,S,N,G,P,T,z,B,C⟩:=L.c16;simp only[zvH]at g;clear K L k f;cases nm with
     | false=>
       obtain rfl:R=false:=by rw[←a];simp
       clear a;go_wp2;exact mf3 x
     | true=>
       by_cases r:s=0
       ·subst r;obtain rfl:R=true:=by rw[←a];simp[*]
        clear a;go_wp2;exact mf3 x
       ·obtain rfl:R=false:=by rw[←a];simp[r]
        clear a;have e5:(0:Int)<(s:Int):=by omega
        have f5:((s:Int)==0)=false:=by simp[r]
        go_wp2;exact mf3 x
    ·obtain rfl:R=false:=by rw[←a];simp[t]
     clear a;have e3:(D==0)=false:=by simp[t]
     go_enter Tryz.func68,Tryz.ntmps68;go_wp2_with (rw[b]);exact mf3 d
   ·obtain rfl:R=false:=by rw[←a];simp[n]
    clear a;have e2:(0:Int)<(v:Int):=by omega
    have f2:((v:Int)==0)=false:=by simp[n]
    go_enter Tryz.func68,Tryz.ntmps68;go_wp2_with (rw[b]);exact mf3 d
  ·obtain rfl:R=false:=by rw[←a];simp[o]
   clear a;have e1:(J==0)=false:=by simp[o]
   go_enter Tryz.func68,Tryz.ntmps68;go_wp2_with (rw[b]);exact mf3 d
 ·obtain rfl:R=false:=by rw[←a];simp[q]
  clear a;have e0:(0:Int)<(u:Int):=by omega
  have f0:((u:Int)==0)=false:=by simp[q]
  go_enter Tryz.func68,Tryz.ntmps68;go_wp2_with (rw[b]);exact mf3 d
theorem rempty14_6(c:S14.C)(p:S14.P)(y:Lay)(w:World)(N:PIs p y w)(hk:c.kind=6) :
 Calls Tryz.prog 68 #[CV c,PV p y] w fun e w'=>e = .returned (.bool (S14.bare {p with ac:=[]}))∧Below w w w':=by
 have i:=zC fun(W:World) (hW:Below w w W)=>zdP p.m y.pl W (N.mch.step hW);obtain⟨R,a⟩:=zvJ (S14.bare {p with ac:=[]});rw[a];unfold S14.bare at a;try simp only at a
 obtain⟨nm,X⟩:=zvJ (S14.noM p.m);rw[X]at a i;clear X;obtain⟨W1,b,k,f,d⟩:=zcB w c 56 p y;clear N;obtain⟨am,af,ag,ad,first,an⟩:=c;simp only at hk;subst hk;unfold CV PV;unfold zV at *;unfold yB at *;unfold MV yX at i;obtain⟨aa,K,sd,E,⟨ab,ae,heads,al,at_,ai,aj,ak,ah⟩,U,mw,ac⟩:=p;obtain⟨a1,c1,a2,c2,pl,a3,c3,a4,c4⟩:=y;simp only at a i b k f⊢;obtain⟨x,z,r,l4,l,j,m,h⟩:=zz4 aa.length sd.length mw.length ac.length;rw[l,j,m,h]at b f;try rw[l]at a
 try rw[j]at a
 try rw[m]at a
 try rw[h]at a
 rw[l,j,m,h];clear l j m h;have g:=k.cell 0;obtain⟨F,Z,Y,I,J,B,P,S,T,O,H,Q,V,A,C,D⟩:=f.c16;simp only[zvH]at g;by_cases s:x=0
 ·subst s;by_cases q:K=0
  ·subst q;by_cases o:z=0
   ·subst o;by_cases u:E=0
    ·subst u;go_enter Tryz.func68,Tryz.ntmps68;go_wp2_with (rw[b]);refine mnb d (i.out _ d) fun w5 G n=> ?_;have L:=k.step G;have M:=f.step G;clear g F Z Y I J B P S T O H Q V A C D;have g:=L.cell 0;obtain⟨F,Z,Y,I,J,B,P,S,T,O,H,Q,V,A,C,D⟩:=M.c16;simp only[zvH]at g;clear L M k f;cases nm with
     | false=>
       obtain rfl:R=false:=by rw[←a];simp
       clear a;go_wp2;exact mf3 n
     | true=>
       by_cases t:U=0
       ·subst t;by_cases v:r=0
        ·subst v;obtain rfl:R=true:=by rw[←a];simp[*]
         clear a;go_wp2;exact mf3 n
        ·obtain rfl:R=false:=by rw[←a];simp[v]
         clear a;have e6:(0:Int)<(r:Int):=by omega
         have f6:((r:Int)==0)=false:=by simp[v]
         go_wp2;exact mf3 n
       ·obtain rfl:R=false:=by rw[←a];simp[t]
        clear a;have e5:(U==0)=false:=by simp[t]
        go_wp2;exact mf3 n
    ·obtain rfl:R=false:=by rw[←a];simp[u]
     clear a;have e3:(E==0)=false:=by simp[u]
     go_enter Tryz.func68,Tryz.ntmps68;go_wp2_with (rw[b]);exact mf3 d
   ·obtain rfl:R=false:=by rw[←a];simp[o]
    clear a;have e2:(0:Int)<(z:Int):=by omega
    have f2:((z:Int)==0)=false:=by simp[o]
    go_enter Tryz.func68,Tryz.ntmps68;go_wp2_with (rw[b]);exact mf3 d
  ·obtain rfl:R=false:=by rw[←a];simp[q]
   clear a;have e1:(K==0)=false:=by simp[q]
   go_enter Tryz.func68,Tryz.ntmps68;go_wp2_with (rw[b]);exact mf3 d
 ·obtain rfl:R=false:=by rw[←a];simp[s]
  clear a;have e0:(0:Int)<(x:Int):=by omega
  have f0:((x:Int)==0)=false:=by simp[s]
  go_enter Tryz.func68,Tryz.ntmps68;go_wp2_with (rw[b]);exact mf3 d
theorem S14.checkNet_of{N:S14.N}(c:S14.check N.comps=0)(d:N.parts.length=N.comps.length)(e:N.ctxs.length=16)(a:1≤N.part∧N.part≤255)(b:S14.allRight N):S14.checkNet N=0:=by
 unfold S14.checkNet;rw[zG (by rw[c];simp),zG om,zG (by have:=S14.has_iff.2 a;simp[this]),zQ b]
def nK:S14.N:=⟨[cK],[S14.P0],List.replicate 16 0,1⟩
def nD:S14.N:=⟨[cD],[S14.fresh1 1],List.replicate 16 0,1⟩
def pD2:S14.P:={S14.fresh1 1 with ctrs:=[(S08.updateP 32768 0 1 255,S08.updateN 32768 0 1 255)]}
def nD2:S14.N:=⟨[cD],[pD2],List.replicate 16 0,3⟩
def nA:S14.N:=⟨[cK,cD,cA],[S14.P0,S14.fresh1 1,S14.P0],List.replicate 16 0,1⟩
theorem nK_ok:S14.checkNet nK=0:=S14.checkNet_of (by decide +kernel) rfl rfl by2 (fun k c p a b=>by
 match k,a,b with
 | 0,a,b=>cases a;cases b;decide +kernel
 | k+1,a,_=>cases a)
theorem nD_ok:S14.checkNet nD=0:=S14.checkNet_of (by decide +kernel) rfl rfl by2 (fun k c p a b=>by
 match k,a,b with
 | 0,a,b=>cases a;cases b;decide +kernel
 | k+1,a,_=>cases a)
theorem nD2_ok:S14.checkNet nD2=0:=S14.checkNet_of (by decide +kernel) rfl rfl by2 (fun k c p a b=>by
 match k,a,b with
 | 0,a,b=>cases a;cases b;decide +kernel
 | k+1,a,_=>cases a)
theorem nA_ok:S14.checkNet nA=0:=S14.checkNet_of (by decide +kernel) rfl rfl by2 (fun k c p a b=>by
 match k,a,b with
 | 0,a,b=>cases a;cases b;decide +kernel
 | 1,a,b=>cases a;cases b;decide +kernel
 | 2,a,b=>cases a;cases b;decide +kernel
 | k+3,a,_=>cases a)
theorem zuK:S14.basic nK.comps:=by unfold S14.basic;decide +kernel
theorem zgB:S14.basic nD.comps:=by unfold S14.basic;decide +kernel
theorem zkW:S14.basic nA.comps:=by unfold S14.basic;decide +kernel
theorem nK_pred:S06.squash ((S14.outs (S14.outB nK) 1).getD 0 0)=3072:=by decide +kernel
theorem nD_pred:S06.squash ((S14.outs (S14.outB nD) 1).getD 0 0)=2048:=by decide +kernel
theorem nD2_pred:S06.squash ((S14.outs (S14.outB nD2) 1).getD 0 0)=3414:=by decide +kernel
theorem nA_outs:S14.outs (S14.outB nA) 3 = [427,0,214]:=by decide +kernel
theorem nA_pred:S06.squash ((S14.outs (S14.outB nA) 3).getD 2 0)=2589:=by decide +kernel
theorem nD_next:S14.next nD.part 1=3:=by decide +kernel
