/- A part of the proof of L14l. No condition. -/
import Derived.Test.YthhgkafloejjiaaGreatZL14lal
import Derived.Test.YthhgkafloejjiaaGreatZL14laq
set_option linter.all false
set_option maxRecDepth 100000
set_option maxHeartbeats 1000000
namespace Go.Proofs.YthhgkafloejjiaaGreat
open Go.RowKit
theorem enterHeavy(args:Array Value)(w:World):(callFunc 251 args).run Tryz.prog w = .ok (.enter 251 args) w:=by kernel_rfl
theorem enterStrong(args:Array Value)(w:World):(callFunc 252 args).run Tryz.prog w = .ok (.enter 252 args) w:=by kernel_rfl
theorem zcI(x a b:Int)(w:World):Calls Tryz.prog 245 #[x,a,b] w fun e f=>e = .returned (.bool (decide (a≤x)&&decide (x≤b)))∧Below w w f:=by
 by_cases c:a≤x
 ·by_cases d:x≤b
  ·rw[zO c,zO d];go_enter Tryz.func245,Tryz.ntmps245;exact mf4
  ·rw[zO c,zL d];go_enter Tryz.func245,Tryz.ntmps245;exact mf4
 ·rw[zL c];go_enter Tryz.func245,Tryz.ntmps245;exact mf4
theorem heavy13_any(x:Int)(w:World):Calls Tryz.prog 251 #[x] w fun e d=>e = .returned (.bool (S13.heavy x))∧Below w w d:=by
 have a:S13.heavy x = !(decide (-1048576≤x)&&decide (x≤1048576)):=by unfold S13.heavy;by_cases h1 : -1048576≤x<;>by_cases c:x≤1048576<;>simp[h1,c]<;>omega
 rw[a];have g:=zC fun W=>zcI x (-1048576) 1048576 W;generalize (decide (-1048576≤x)&&decide (x≤1048576))=b at *;clear a;go_enter Tryz.func251,Tryz.ntmps251;go_wp2_with fail;refine mnx w (g.out _) fun j h f i=> ?_;exact mf1 f
theorem strong13_any(x:Int)(w:World):Calls Tryz.prog 252 #[x] w fun e d=>e = .returned (.bool (S13.strong x))∧Below w w d:=by
 have a:S13.strong x = !(decide (-3071≤x)&&decide (x≤3071)):=by unfold S13.strong;by_cases h1 : -3071≤x<;>by_cases c:x≤3071<;>simp[h1,c]<;>omega
 rw[a];have g:=zC fun W=>zcI x (-3071) 3071 W;generalize (decide (-3071≤x)&&decide (x≤3071))=b at *;clear a;go_enter Tryz.func252,Tryz.ntmps252;go_wp2_with fail;refine mnx w (g.out _) fun j h f i=> ?_;exact mf1 f
structure Row13 where
 a:Option Addr
 cap:Nat
 l:List Int
def Row13.head(r:Row13):Value:=.slice r.a r.l.length r.cap
def Row13.ok(w:World)(r:Row13):Prop:=r.l.length≤r.cap∧r.cap≤9223372036854775807∧Rd w r.a (zaE r.l)
theorem Row13.ok.step{w w':World}{r:Row13}(h:r.ok w)(a:Below w w w'):r.ok w':=⟨h.1,h.2.1,h.2.2.step a⟩
def MixIs(n:Int)(L:List (List Int))(V:Value)(w:World):Prop:=
 ∃(R:List Row13) (a:Option Addr) (cap:Nat),L=R.map Row13.l∧V = .agg #[n,.slice a R.length cap]∧R.length≤cap∧cap≤9223372036854775807∧Rd w a (R.map Row13.head)∧∀r∈R,r.ok w
theorem MixIs.step{n:Int}{L:List (List Int)}{V:Value}{w w':World}(h:MixIs n L V w)(b:Below w w w'):MixIs n L V w':=by
 obtain⟨R,a,k,j,c,f,e,g,d⟩:=h;exact⟨R,a,k,j,c,f,e,g.step b,fun r i=>(d r i).step b⟩
theorem S13.rows_take(n:Int):∀(L:List (List Int)) (k:Nat),S13.rows n (L.take k)=0→S13.rows n L=S13.rows n (L.drop k)
 | _,0,_=>by simp
 | [],k+1,_=>by simp
 | l::r,k+1,h=>by
   simp only[ltc,S13.rows]at h;simp only[ldc];split at h
   ·simp at h
   ·rename_i b
    split at h
    ·simp at h
    ·rename_i a
     rw[S13.rows,zG b,zG a];exact S13.rows_take n r k h
theorem sameInts_eq(xs:List Int)(c g:Option Addr)(n m:Nat)(w:World)(s:xs.length≤9223372036854775807)(r:Rd w c (zaE xs))(l:Rd w g (zaE xs)) :
 Calls Tryz.prog 99 #[.slice c xs.length n,.slice g xs.length m] w fun e o=>e = .returned (.bool true)∧Below w w o:=by
 go_enter Tryz.func99,Tryz.ntmps99;go_wp2;go_loopw [5] (fun i wr=>∃k:Nat,k≤xs.length∧i = .int .i64 k∧Below w w wr) (fun i _=>xs.length-(intOf i).toNat)
 case atStart=>exact⟨0,by omega,rfl,zJ _ _⟩
 case round=>
  obtain⟨k,z,rfl,a⟩:=hrel;have y:w.heap.size≤wr.heap.size:=a.size;by_cases b:k<xs.length
  ·obtain⟨j,q,rfl,d⟩:=(r.step a).at (i:=k) (by rw[zR];exact b);obtain⟨p,h,rfl,f⟩:=(l.step a).at (i:=k) (by rw[zR];exact b);have t:wr.cell? ⟨j,q+k,none⟩=some (.int .i64 xs[k]):=by rw[d k (by rw[zR];exact b)];simp[zaE]
   have v:wr.cell? ⟨p,h+k,none⟩=some (.int .i64 xs[k]):=by rw[f k (by rw[zR];exact b)];simp[zaE]
   generalize xs[k]=x at *;clear d f;have u:(k:Int)<xs.length:=by omega
   go_wp2;go_quiet (fail);go_wp2;go_roundw
   case rel=>exact⟨k+1,by omega,by go_num,zgF a _⟩
   case measure=>simp[intOf];omega
  ·obtain rfl:k=xs.length:=by omega
   exact mf1 a
theorem zaS{w:World}{k:Nat}{e t:TypeId}{n cap b:Nat}{a:Option Addr}{xs i:List Value}(h:w.ownsRow k e 1 (.slice a n cap) n xs)(g:Blk w b i t)(j:¬e=t):(Value.slice a n cap).ownBlock≠some b:=by
 intro f;rcases h.2 with⟨c,_⟩|⟨o,l,m,c,_,d,_⟩
 ·simp at c;obtain⟨rfl,_,_⟩:=c;simp[Value.ownBlock]at f
 ·simp only[Value.slice.injEq]at c;obtain⟨rfl,_,_⟩:=c;simp[Value.ownBlock]at f;subst f;unfold Blk at g;rw[g]at d;simp at d;exact j d.2.symm
theorem zrY{w w':World}{b:Nat}{e:TypeId}{a n:Nat}{v:Value}{xs:List Value}(h:w.ownsRow b e a v n xs)(c:Below w w w'):w'.ownsRow b e a v n xs:=yM (B:=0) h c
theorem yZ(w:World)(b i:Nat)(v:Value):w.grownBy (w.setCell ⟨b,i,none⟩ v) (some b):=
 ⟨rfl,rfl,rfl,by simp,fun j _ a=>heap_setCell_other w ⟨b,i,none⟩ j v (fun e=>a (by rw[e]))⟩
theorem enterBad(args:Array Value)(w:World):(callFunc 269 args).run Tryz.prog w = .ok (.enter 269 args) w:=by kernel_rfl
theorem bad11_any(x:Int)(w:World):Calls Tryz.prog 269 #[x] w fun e a=>e = .returned (.bool (S11.bad x))∧Below w w a:=by
 by_cases h:x<0
 ·have e:S11.bad x=true:=by simp[S11.bad,h]
  rw[e];go_enter Tryz.func269,Tryz.ntmps269;exact mf4
 ·have e:S11.bad x=decide (65535<x):=by simp[S11.bad];omega
  rw[e];go_enter Tryz.func269,Tryz.ntmps269;exact mf4
theorem S11.check_long{xs:List Int}(h:xs.length%33≠0∨xs.length<33∨2162688<xs.length):S11.check xs=6:=by unfold S11.check;rw[zQ h]
theorem S11.check_fit{xs:List Int}(h:¬(xs.length%33≠0∨xs.length<33∨2162688<xs.length)):S11.check xs=if xs.any S11.bad then 2 else 0:=by unfold S11.check;rw[zG h]
theorem zrF(xs:List Int)(a:Option Addr)(cap:Nat)(w:World)(h:xs.length≤9223372036854775807)(g:Rd w a (zaE xs)) :
 Calls Tryz.prog 263 #[.agg #[.slice a xs.length cap]] w fun e l=>e = .returned (.int .i64 (S11.check xs))∧Below w w l:=by
 by_cases d:xs.length%33≠0∨xs.length<33∨2162688<xs.length
 ·rw[S11.check_long d];have c:(((xs.length:Int)%33 != 0)=true)∨(((xs.length:Int)%33 != 0)=false∧(xs.length:Int)<33)∨(((xs.length:Int)%33 != 0)=false∧¬(xs.length:Int)<33∧(2162688:Int)<xs.length):=by
   by_cases o:xs.length%33=0
   ·have f:(((xs.length:Int)%33 != 0)=false):=by simp;omega
    right;by_cases i:xs.length<33
    ·left;exact⟨f,by omega⟩
    ·right;exact⟨f,by omega,by omega⟩
   ·left;simp;omega
  clear d;generalize xs.length=n at *;rcases c with c|⟨c,k⟩|⟨c,k,q⟩
  all_goals
   go_enter Tryz.func263,Tryz.ntmps263;exact mf4
 ·rw[S11.check_fit d];have o:(((xs.length:Int)%33 != 0)=false):=by simp;omega
  have f:¬(xs.length:Int)<33:=by omega
  have i:¬(2162688:Int)<xs.length:=by omega
  have m:=zC fun W (j:Below w w W)=>zdE 269 enterBad S11.bad bad11_any xs a cap W h (g.step j);clear d g;generalize xs.any S11.bad=b at *;generalize xs.length=n at *;cases b
  all_goals
   go_enter Tryz.func263,Tryz.ntmps263;go_wp2_with fail;refine mnx w (m.out _ zo) fun r t p s=> ?_;exact mf1 p
theorem znQ(xs:List Int)(a:Option Addr)(cap:Nat)(c p:Int)(w:World)(r:xs.length≤9223372036854775807)(q:Rd w a (zaE xs)) :
 Calls Tryz.prog 264 #[.agg #[.slice a xs.length cap],c,p] w fun e t=>e = .returned (.int .i64 (S11.usable xs c p))∧Below w w t:=by
 have h:=zC fun W (s:Below w w W)=>zrF xs a cap W r (q.step s);unfold S11.usable;have o:((xs.length/33:Nat):Int)=(xs.length:Int)/33:=by omega
 rw[o];clear q o;generalize S11.check xs=y at *;generalize xs.length=n at *;by_cases i:y=0
 ·subst i;rw[zG by1];by_cases k:c<0∨(n:Int)/33≤c
  ·rw[zQ k];have g:c<0∨(¬c<0∧(n:Int)/33≤c):=by omega
   clear k;rcases g with g|⟨g,m⟩
   all_goals
    go_enter Tryz.func264,Tryz.ntmps264;go_wp2_with fail;refine mnx w (h.out _ zo) fun b d f j=> ?_;have B:b.cell? ⟨w,0,none⟩=some (.slice a n cap):=(d.cell by6).trans (by go_simp);have l:w.heap.size<b.heap.size:=by have:=d.size;simp at this;omega
    exact mf1 f
  ·rw[zG k];have C:¬c<0:=by omega
   have v:¬(n:Int)/33≤c:=by omega
   clear k;have g:(p<1)∨(¬p<1∧4095<p)∨(¬p<1∧¬4095<p):=by omega
   rcases g with g|⟨g,m⟩|⟨g,m⟩
   ·rw[zQ om];go_enter Tryz.func264,Tryz.ntmps264;go_wp2_with fail;refine mnx w (h.out _ zo) fun b d f j=> ?_;have x:b.cell? ⟨w,0,none⟩=some (.slice a n cap):=(d.cell by6).trans (by go_simp);have l:w.heap.size<b.heap.size:=by have:=d.size;simp at this;omega
    exact mf1 f
   ·rw[zQ om];go_enter Tryz.func264,Tryz.ntmps264;go_wp2_with fail;refine mnx w (h.out _ zo) fun b d f j=> ?_;have z:b.cell? ⟨w,0,none⟩=some (.slice a n cap):=(d.cell by6).trans (by go_simp);have l:w.heap.size<b.heap.size:=by have:=d.size;simp at this;omega
    exact mf1 f
   ·rw[zG om];go_enter Tryz.func264,Tryz.ntmps264;go_wp2_with fail;refine mnx w (h.out _ zo) fun b d f j=> ?_;have A:b.cell? ⟨w,0,none⟩=some (.slice a n cap):=(d.cell by6).trans (by go_simp);have l:w.heap.size<b.heap.size:=by have:=d.size;simp at this;omega
    exact mf1 f
 ·rw[zQ i];have u:((y:Int) != 0)=true:=by simpa using i
  clear i;go_enter Tryz.func264,Tryz.ntmps264;go_wp2_with fail;refine mnx w (h.out _ zo) fun b d f j=> ?_;exact mf1 f
theorem S13.rows_snoc(n:Int)(L:List (List Int))(l:List Int)(h:S13.rows n L=0):S13.rows n (L ++ [l])=if(l.length:Int)≠n then 6 else if l.any S13.heavy then 2 else 0:=by
 have:=S13.rows_take n (L ++ [l]) L.length (by rw[List.take_left];exact h);rw[this,List.drop_left];rfl
theorem S13.rows_at(n:Int){L:List (List Int)}{k:Nat}{l:List Int}(b:L[k]? = some l)(h:S13.rows n (L.take k)=0) :
 S13.rows n (L.take (k+1))=(if(l.length:Int)≠n then 6 else if l.any S13.heavy then 2 else 0)∧(S13.rows n (L.take (k+1))≠0→S13.rows n L=S13.rows n (L.take (k+1))):=by
 have e:L.take (k+1)=L.take k ++ [l]:=by rw[List.take_add_one,b];rfl
 have i:=S13.rows_snoc n (L.take k) l h;rw[e,i];refine⟨rfl,fun a=> ?_⟩;have c:=S13.rows_take n L k h;have m:L.drop k=l::L.drop (k+1):=by
  obtain⟨j,g⟩:=List.getElem?_eq_some_iff.1 b;rw[←g];exact List.drop_eq_getElem_cons j
 rw[c,m,S13.rows];split
 ·rfl
 ·rename_i f
  rw[zG f]at a;split
  ·rfl
  ·rename_i d
   rw[zG d]at a;exact absurd rfl a
theorem zrE(n:Int)(L:List (List Int))(V:Value)(w:World)(hV:MixIs n L V w) :
 Calls Tryz.prog 244 #[V] w fun e w'=>e = .returned (.int .i64 (S13.check 16 n L))∧Below w w w':=by
 obtain⟨R,a,m,rfl,rfl,h1,h2,ad,P⟩:=hV;have u:=zC fun W=>zcI n 1 16 W;have z:=zC fun W=>zcI R.length 1 65536 W;by_cases O:1≤n∧n≤16
 ·rw[zO O.1,zO O.2]at u;by_cases T:(1:Int)≤R.length∧(R.length:Int)≤65536
  ·rw[zO T.1,zO T.2]at z;have d:S13.check 16 n (R.map Row13.l)=S13.rows n (R.map Row13.l):=by
    unfold S13.check;rw[zG (by rw[yO];omega)]
   rw[d];clear d;go_enter Tryz.func244,Tryz.ntmps244;go_wp2_with fail;refine mnx w (u.out _) fun h c J N=> ?_;have aa:w.heap.size<h.heap.size:=by have:=c.size;simp at this;omega
   have k1:h.cell? ⟨w,0,none⟩=some (.int .i64 n):=(c.cell by6).trans (by go_simp);have k2:h.cell? ⟨w,1,none⟩=some (.slice a R.length m):=(c.cell by6).trans (by go_simp);go_wp2_with fail;refine mnx w (z.out _) fun C A I z2=> ?_;have k3:C.cell? ⟨w,0,none⟩=some (.int .i64 n):=(A.cell by6).trans (by go_simp);have k4:C.cell? ⟨w,1,none⟩=some (.slice a R.length m):=(A.cell by6).trans (by go_simp);go_wp2;have x:Blk C w [n,.slice a R.length m] 46:=((Blk.new w [n,.slice a R.length m] _).step c).step A;go_loopw [19] (fun i wr=>∃k:Nat,k≤R.length∧i = .int .i64 k∧S13.rows n ((R.map Row13.l).take k)=0∧Blk wr w [n,.slice a R.length m] 46∧Below w w wr) (fun i _=>R.length-(intOf i).toNat)
   case atStart=>exact⟨0,by omega,rfl,rfl,x,I⟩
   case round=>
    obtain⟨k,hk,rfl,p,x,l⟩:=hrel;have af:=x.lt;have Z:=x.cell 0;simp only[lgz]at Z;by_cases B:k<R.length
    ·have ac:(k:Int)<R.length:=by omega
     obtain⟨r,y⟩:∃r,R[k]? = some r:=⟨R[k],zD B⟩;have M:(R.map Row13.l)[k]? = some r.l:=by rw[yI,y];rfl
     have Y:=S13.rows_at n M p;have G:=(P r (yF y));obtain⟨g,o,rfl,Q⟩:=(ad.step l).at (i:=k) (by rw[yO];exact B);have hc:wr.cell? ⟨g,o+k,none⟩=some (.slice r.a r.l.length r.cap):=by
      rw[Q k (by rw[yO];exact B),List.getElem_map];rw[zD B]at y;rw[zI y];rfl
     obtain⟨K,q⟩:=zh2 p Y;clear p Y Q M;by_cases F:(r.l.length:Int)=n
     ·have D:=zC fun W (j:Below w w W)=>zdE _ enterHeavy S13.heavy heavy13_any r.l r.a r.cap W (by have:=G.1;have:=G.2.1;omega) ((P r (yF y)).2.2.below j (fun b o e U=>by
       obtain⟨b',o',S,ae⟩:=G.2.2 U;rw[e]at S;cases S;cases hxs:zaE r.l with
       | nil=>exact absurd hxs U
       | cons v vs=>exact zE (ae 0 v (by rw[hxs];rfl))))
      cases hany:r.l.any S13.heavy with
      | true=>
        rw[hany]at D;have s:S13.rows n (R.map Row13.l)=2:=by
         have t:S13.rows n ((R.map Row13.l).take (k+1))=2:=by rw[q.out.1,zG (by simpa using F),zQ hany]
         rw[q.out.2 (by rw[t];omega),t]
        have H:=zC s;clear s hany;go_wp2_with fail;refine mnb l (D.out _ l) fun w3 X E=> ?_;go_wp2;go_returns;exact⟨zbM H.out.symm,E⟩
      | false=>
        rw[hany]at D;have H6:=zC (show S13.rows n ((R.map Row13.l).take (k+1))=0 by rw[q.out.1,zG (by simpa using F),zG (by rw[hany];simp)]);clear hany;go_wp2_with fail;refine mnb l (D.out _ l) fun w3 X E=> ?_;have ab:=x.step X;go_wp2;go_roundw
        case rel=>exact⟨k+1,by omega,by go_num,H6.out,ab,E⟩
        case measure=>simp[intOf];omega
     ·have s:S13.rows n (R.map Row13.l)=6:=by
       have t:S13.rows n ((R.map Row13.l).take (k+1))=6:=by rw[q.out.1,zQ F]
       rw[q.out.2 (by rw[t];omega),t]
      have H:=zC s;clear s;go_wp2;go_returns;exact⟨zbM H.out.symm,l⟩
    ·obtain rfl:k=R.length:=by omega
     have ac:¬(R.length:Int)<R.length:=by omega
     rw[show(R.map Row13.l).take R.length=R.map Row13.l by rw[←yO (f:=Row13.l),zaD]]at p;have K:=zC p;clear p;go_wp2;go_returns;exact⟨zbM K.out.symm,l⟩
  ·have d:S13.check 16 n (R.map Row13.l)=6:=by
    unfold S13.check;rw[zQ (by rw[yO];omega)]
   have j:(decide ((1:Int)≤R.length)&&decide ((R.length:Int)≤65536))=false:=by
    rw[Bool.and_eq_false_iff,decide_eq_false_iff_not,decide_eq_false_iff_not];omega
   rw[j]at z;rw[d];clear d j;go_enter Tryz.func244,Tryz.ntmps244;go_wp2_with fail;refine mnx w (u.out _) fun h c J N=> ?_;have aa:w.heap.size<h.heap.size:=by have:=c.size;simp at this;omega
   have k5:h.cell? ⟨w,0,none⟩=some (.int .i64 n):=(c.cell by6).trans (by go_simp);have k6:h.cell? ⟨w,1,none⟩=some (.slice a R.length m):=(c.cell by6).trans (by go_simp);go_wp2_with fail;refine mnx w (z.out _) fun C A I z2=> ?_;exact mf1 I
 ·have d:S13.check 16 n (R.map Row13.l)=6:=by
   unfold S13.check;rw[zQ om]
  have j:(decide (1≤n)&&decide (n≤16))=false:=by
   rw[Bool.and_eq_false_iff,decide_eq_false_iff_not,decide_eq_false_iff_not];omega
  rw[j]at u;rw[d];clear d j;go_enter Tryz.func244,Tryz.ntmps244;go_wp2_with fail;refine mnx w (u.out _) fun h c J N=> ?_;exact mf1 J
theorem mixOpen{n:Int}{L:List (List Int)}{V:Value}{w:World}(h:MixIs n L V w):∃a b,V = .agg #[n,.slice a L.length b]∧L.length≤b∧b≤9223372036854775807∧MixIs n L (.agg #[n,.slice a L.length b]) w:=by
 obtain⟨R,a,b,rfl,rfl,d,c,f,e⟩:=h;refine⟨a,b,by simp,by simpa using d,c,R,a,b,rfl,by simp,d,c,f,e⟩
theorem znP(n:Int)(L:List (List Int))(V:Value)(c:Int)(xs:List Int)(a:Option Addr)(cap:Nat)(w:World)(r:MixIs n L V w)(F:xs.length≤9223372036854775807)(C:Rd w a (zaE xs)) :
 Calls Tryz.prog 247 #[V,c,.slice a xs.length cap] w fun e G=>e = .returned (.int .i64 (S13.usable 16 n L c xs))∧Below w w G:=by
 obtain⟨o,j,rfl,m1,m2,r⟩:=mixOpen r;have u:=zC fun W (f:Below w w W)=>zrE n L _ W (r.step f);have m:=zC fun W=>zcI c 0 ((L.length:Int)-1) W;have I:=zC fun W (f:Below w w W)=>zdE _ enterStrong S13.strong strong13_any xs a cap W F (C.step f);have z:S13.usable 16 n L c xs=if S13.check 16 n L≠0 then S13.check 16 n L else if c<0∨(L.length:Int)≤c then 7 else if(xs.length:Int)≠n then 6 else if xs.any S13.strong then 2 else 0:=rfl
 rw[z];clear z r C;generalize S13.check 16 n L=y at *;generalize xs.any S13.strong=s at *;generalize xs.length=k at *;generalize L.length=l at *;by_cases p:y=0
 ·subst p;rw[zG by1];by_cases t:c<0∨(l:Int)≤c
  ·rw[zQ t];have f:(decide (0≤c)&&decide (c≤(l:Int)-1))=false:=by
    rw[Bool.and_eq_false_iff,decide_eq_false_iff_not,decide_eq_false_iff_not];omega
   rw[f]at m;clear f t;go_enter Tryz.func247,Tryz.ntmps247;go_wp2_with fail;refine mnx w (u.out _ zo) fun b d v x=> ?_;have A:w.heap.size<b.heap.size:=by have:=d.size;simp at this;omega
   have X:b.cell? ⟨w,0,none⟩=some (.int .i64 n):=(d.cell by6).trans (by go_simp);have P:b.cell? ⟨w,1,none⟩=some (.slice o l j):=(d.cell by6).trans (by go_simp);go_wp2_with fail;refine mnx w (m.out _) fun h g q B=> ?_;exact mf1 q
  ·rw[zG t];have f:(decide (0≤c)&&decide (c≤(l:Int)-1))=true:=by
    rw[zS,yC,yC];omega
   rw[f]at m;clear f t;by_cases i:(k:Int)=n
   ·rw[zG (by simpa using i)];have E:((k:Int) != n)=false:=by simpa using i
    clear i;cases s
    all_goals
     go_enter Tryz.func247,Tryz.ntmps247;go_wp2_with fail;refine mnx w (u.out _ zo) fun b d v x=> ?_;have A:w.heap.size<b.heap.size:=by have:=d.size;simp at this;omega
     have S:b.cell? ⟨w,0,none⟩=some (.int .i64 n):=(d.cell by6).trans (by go_simp);have T:b.cell? ⟨w,1,none⟩=some (.slice o l j):=(d.cell by6).trans (by go_simp);go_wp2_with fail;refine mnx w (m.out _) fun h g q B=> ?_;have H:w.heap.size<h.heap.size:=by have:=g.size;omega
     have K:h.cell? ⟨w,0,none⟩=some (.int .i64 n):=(g.cell by6).trans (by go_simp);have Z:h.cell? ⟨w,1,none⟩=some (.slice o l j):=(g.cell by6).trans (by go_simp);go_wp2_with fail;refine mnx w (I.out _ zo) fun O Y D U=> ?_;exact mf1 D
   ·rw[zQ i];have E:((k:Int) != n)=true:=by simpa using i
    clear i;go_enter Tryz.func247,Tryz.ntmps247;go_wp2_with fail;refine mnx w (u.out _ zo) fun b d v x=> ?_;have A:w.heap.size<b.heap.size:=by have:=d.size;simp at this;omega
    have M:b.cell? ⟨w,0,none⟩=some (.int .i64 n):=(d.cell by6).trans (by go_simp);have R:b.cell? ⟨w,1,none⟩=some (.slice o l j):=(d.cell by6).trans (by go_simp);go_wp2_with fail;refine mnx w (m.out _) fun h g q B=> ?_;have H:w.heap.size<h.heap.size:=by have:=g.size;omega
    have N:h.cell? ⟨w,0,none⟩=some (.int .i64 n):=(g.cell by6).trans (by go_simp);have Q:h.cell? ⟨w,1,none⟩=some (.slice o l j):=(g.cell by6).trans (by go_simp);exact mf1 q
 ·rw[zQ p];have J:((y:Int) != 0)=true:=by simpa using p
  clear p;go_enter Tryz.func247,Tryz.ntmps247;go_wp2_with fail;refine mnx w (u.out _ zo) fun b d v x=> ?_;exact mf1 v
theorem equalInts_eq(xs:List Int)(c g:Option Addr)(n m:Nat)(w:World)(s:xs.length≤4611686018427387904)(r:Rd w c (zaE xs))(l:Rd w g (zaE xs)) :
 Calls Tryz.prog 14 #[.slice c xs.length n,.slice g xs.length m] w fun e o=>e = .returned (.bool true)∧Below w w o:=by
 go_enter Tryz.func14,Tryz.ntmps14;go_wp2;go_loopw [13] (fun i wr=>∃k:Nat,k≤xs.length∧i = .int .i64 k∧Below w w wr) (fun i _=>xs.length-(intOf i).toNat)
 case atStart=>exact⟨0,by omega,rfl,zJ _ _⟩
 case round=>
  obtain⟨k,z,rfl,a⟩:=hrel;have y:w.heap.size≤wr.heap.size:=a.size;by_cases b:k<xs.length
  ·obtain⟨j,q,rfl,d⟩:=(r.step a).at (i:=k) (by rw[zR];exact b);obtain⟨p,h,rfl,f⟩:=(l.step a).at (i:=k) (by rw[zR];exact b);have t:wr.cell? ⟨j,q+k,none⟩=some (.int .i64 xs[k]):=by rw[d k (by rw[zR];exact b)];simp[zaE]
   have v:wr.cell? ⟨p,h+k,none⟩=some (.int .i64 xs[k]):=by rw[f k (by rw[zR];exact b)];simp[zaE]
   generalize xs[k]=x at *;clear d f;have u:(k:Int)<xs.length:=by omega
   go_wp2;go_quiet (fail);go_wp2;go_roundw
   case rel=>exact⟨k+1,by omega,by go_num,zgF a _⟩
   case measure=>simp[intOf];omega
  ·obtain rfl:k=xs.length:=by omega
   exact mf1 a
