/- A part of the proof of L14l. No condition. -/
import Derived.BigQuiet
import Derived.Deep.QuietTactic
import Derived.Lib.MinMax
import Derived.Test.YthhgkafloejjiaaGreatZL14lah
import Derived.Test.YthhgkafloejjiaaGreatZL14lan
import Derived.Test.YthhgkafloejjiaaGreatZL14lav
set_option linter.all false
set_option maxRecDepth 100000
set_option maxHeartbeats 2000000
namespace Go.Proofs.YthhgkafloejjiaaGreat
open Go.RowKit
def S09.err(s:Int):Int:=if S09.found s then 0 else 2
theorem S09.found_bounds{s:Int}(h:S09.found s=true):0≤s∧s<215:=zbE h
theorem S09.h_bounds(s:Int):0≤S09.hz s∧S09.hz s≤30∧0≤S09.ho s∧S09.ho s≤30∧0≤S09.hl s∧S09.hl s≤1:=by
 cases h:S09.found s with
 | false=>simp[S09.hz,S09.ho,S09.hl,h]
 | true=>
   obtain⟨a,b⟩:=S09.found_bounds h;obtain⟨n,rfl⟩:=Int.eq_ofNat_of_zero_le a;have:=S09.allStates_spec S09.state_place (s:=n) om;simp only[zS,yC]at this;simp only[S09.hz,S09.ho,S09.hl,h,if_true,Int.toNat_natCast];omega
theorem zrW(s:Int)(w:World) :
 Calls Tryz.prog 63 #[s] w fun e c=>e = .returned (.int .i64 (if S09.found s then S09.hz s+S09.ho s else -1))∧Below w w c:=by
 have a:=zC fun W=>ztA s W;obtain⟨h,j,m,k,i,n⟩:=S09.h_bounds s;cases hf:S09.found s with
 | false=>
   rw[hf]at a;clear hf;go_enter Tryz.func63,Tryz.ntmps63;go_wp2_with fail;refine mnx w (a.out _) fun f b g d=> ?_;exact mf4
 | true=>
   rw[hf]at a;clear hf;generalize S09.hz s=z at *;generalize S09.ho s=o at *;generalize S09.hl s=l at *;go_enter Tryz.func63,Tryz.ntmps63;go_wp2_with fail;refine mnx w (a.out _) fun f b g d=> ?_;exact mf4
theorem S09.fade_bounds{n:Int}(h:0≤n)(a:n≤30):0≤S09.fade n∧S09.fade n≤30:=by
 unfold S09.fade;split
 ·have e:(n-2).tdiv 3=(n-2)/3:=zaF om;rw[e];omega
 ·omega
theorem S09.bound_ge(a b:Int)(h : -1≤b) : -1≤S09.bound a b:=by
 unfold S09.bound
 (repeat' split)<;>omega
theorem next09_step0(s z o l:Int)(w:World)(b1:0≤z)(b2:z≤30)(H:0≤o)(b4:o≤30)
 (F:∀W,Calls Tryz.prog 108 #[s] W fun e r=>e = .returned (.tuple #[S09.hist z o l,.bool true])∧Below W W r) (D:S09.is (S09.z2 z o 0) (S09.o2 z o 0) 0=true) :
 Calls Tryz.prog 189 #[s,.int .i64 0] w fun e r=>e = .returned (.tuple #[(S09.idx (S09.z2 z o 0) (S09.o2 z o 0) 0),.int .i64 0])∧Below w w r:=by
 obtain⟨Z,q⟩:=zh2 F D;have ac:=S09.fade_bounds H b4;clear F D;obtain⟨c,g⟩:∃c,c=S09.fade o:=⟨_,rfl⟩;rw[←g]at ac;obtain⟨a,h⟩:∃a,a=S09.bound (min (z+1) c) (-1):=⟨_,rfl⟩;have al : -1≤a:=by rw[h];exact S09.bound_ge _ _ om
 have x:S09.z2 z o 0=min (z+1) a:=by rw[h,g];rfl
 have G:S09.o2 z o 0=min c a:=by rw[h,g];rfl
 rw[x,G]at q⊢;have t:=S09.is_place q.out;obtain⟨O,ab⟩:=zh2 h g;have ad:0≤min (z+1) a:=by obtain⟨N,o',S,k1,V,k3,k4,R,_⟩:=t;omega
 have Q:min (z+1) a≤100:=by omega
 have P:0≤min c a:=by obtain⟨N,o',S,k1,V,k3,k4,R,_⟩:=t;omega
 have aa:min c a≤100:=by omega
 clear t h g x G;have u:=zC fun W=>zsS (min (z+1) a) (min c a) 0 W ad Q P aa;rw[q.out]at u;have B:=zC fun W=>ztF o W H om;rw[←ab.out]at B;have v:=zC fun W=>zfW (min (z+1) c) W;rw[←O.out]at v;go_enter Tryz.func189,Tryz.ntmps189;go_wp2_with fail;refine mnx w (Z.out _) fun f am ae z1=> ?_;go_wp2;have af:=zC (Blk.new f (zcO z o l) 170);have L:Cells (f.alloc (Obj.cells #[z,o,l] 170)) [(⟨f,0,none⟩,z),(⟨f,1,none⟩,o)]:=by simp only[Cells];refine⟨?_,?_,zT⟩<;>go_simp
 refine zvL 7 3 [(U,0,5),(U,6,1),(zvE,5,1)] (Keeps (f.alloc (Obj.cells #[z,o,l] 170)) [(⟨f,0,none⟩,z),(⟨f,1,none⟩,o)]) (Keeps.start L) fun Y Q4 F4 hY J=> ?_;repeat refine mrd ?_
 refine mcl ?_;refine mck (Keeps.start L) (B.out _) fun w2 ah p=> ?_;refine mdn J fun K T=> ?_;clear J hY;have ai:Below w w w2:=zA zo p.1;have d:=af.out.step p.1;clear p;have j:=d.cell 0;have n:=d.cell 1;have m:=d.cell 2;have C:=d.free 0;have E:=d.free 1;have I:=d.free 2;have A:=d.lt;simp only[zcO,lgz,lgs]at j n m;go_wp2_with fail;refine mok T ?_;have y:=zC ((d.set 0 (.int .i64 (z+1))).set 1 (.int .i64 c));have k:=(d.set 0 (.int .i64 (z+1))).cell 0;have i:=((d.set 0 (.int .i64 (z+1))).set 1 (.int .i64 c)).cell 1;simp only[zcO,sC0,sCs,lgz,lgs]at k i;have zb:w.heap.size≤f.heap.size:=ae.size;go_wp2_with fail;refine mnx w (v.out _) fun w3 M ag _=> ?_;have b:=y.out.step M;clear k i j n m C E I A d y M;simp only[zcO,sC0,sCs]at b;have j:=b.cell 0;have n:=b.cell 1;have m:=b.cell 2;have C:=b.free 0;have E:=b.free 1;have I:=b.free 2;have A:=b.lt;simp only[zvH]at j n m;have k:=(b.set 0 (.int .i64 (min (z+1) a))).cell 0;have i:=((b.set 0 (.int .i64 (min (z+1) a))).set 1 (.int .i64 (min c a))).cell 1;have g2:=(((b.set 0 (.int .i64 (min (z+1) a))).set 1 (.int .i64 (min c a))).set 2 (.int .i64 0)).cell 2;simp only[sC0,sCs,lgz,lgs]at k i g2;have aj:=zC b;clear b;go_wp2_with fail;refine mnx w (u.out _) fun w4 ak X _=> ?_;exact mf1 X
theorem next09_step1(s z o l:Int)(w:World)(J:0≤z)(U:z≤30)(b3:0≤o)(b4:o≤30)
 (E:∀W,Calls Tryz.prog 108 #[s] W fun e r=>e = .returned (.tuple #[S09.hist z o l,.bool true])∧Below W W r) (D:S09.is (S09.z2 z o 1) (S09.o2 z o 1) 1=true) :
 Calls Tryz.prog 189 #[s,.int .i64 1] w fun e r=>e = .returned (.tuple #[(S09.idx (S09.z2 z o 1) (S09.o2 z o 1) 1),.int .i64 0])∧Below w w r:=by
 obtain⟨HL,q⟩:=zh2 E D;have ac:=S09.fade_bounds J U;clear E D;obtain⟨b,g⟩:∃b,b=S09.fade z:=⟨_,rfl⟩;rw[←g]at ac;obtain⟨a,h⟩:∃a,a=S09.bound (min b (o+1)) (-1):=⟨_,rfl⟩;have ak : -1≤a:=by rw[h];exact S09.bound_ge _ _ om
 have x:S09.z2 z o 1=min b a:=by rw[h,g];rfl
 have G:S09.o2 z o 1=min (o+1) a:=by rw[h,g];rfl
 rw[x,G]at q⊢;have t:=S09.is_place q.out;obtain⟨O,aa⟩:=zh2 h g;have ad:0≤min b a:=by obtain⟨N,o',T,k1,X,k3,k4,S,_⟩:=t;omega
 have R:min b a≤100:=by omega
 have P:0≤min (o+1) a:=by obtain⟨N,o',T,k1,X,k3,k4,S,_⟩:=t;omega
 have ab:min (o+1) a≤100:=by omega
 clear t h g x G;have u:=zC fun W=>zsS (min b a) (min (o+1) a) 1 W ad R P ab;rw[q.out]at u;have B:=zC fun W=>ztF z W J om;rw[←aa.out]at B;have v:=zC fun W=>zfW (min b (o+1)) W;rw[←O.out]at v;go_enter Tryz.func189,Tryz.ntmps189;go_wp2_with fail;refine mnx w (HL.out _) fun f al ae z1=> ?_;go_wp2;have af:=zC (Blk.new f (zcO z o l) 170);have L:Cells (f.alloc (Obj.cells #[z,o,l] 170)) [(⟨f,0,none⟩,z),(⟨f,1,none⟩,o)]:=by simp only[Cells];refine⟨?_,?_,zT⟩<;>go_simp
 refine zbF 7 8 2 [(.r,[true,true,false,true,true]),(.p,[false,false,false,false,false,true]),(.e,[false,false,true]),(.p,[false,false,false,false,false,false,true]),(.l,[false,false,false,false,false,false,false,true])] _ _ (Keeps (f.alloc (Obj.cells #[z,o,l] 170)) [(⟨f,0,none⟩,z),(⟨f,1,none⟩,o)]) zk (zU 8 _).symm zk zk zk zk (Keeps.start L) (fun Y Q4 F4 hY I=> ?_);simp only[zeJ,lfc,lfn,ltc,ltz,ldc,ldz,zdY,zcV,zfO,lmc,lmn,lca,lna,lan];repeat first|refine muP ?_|refine muR ?_
 refine muC ?_;refine(B.out _).mono ?_;rintro e w2 ⟨rfl,Q⟩;have i:=(Keeps.start L).step Q;refine⟨_,rfl,i,?_⟩;simp only[zvF];have ah:Below w w w2:=zA zo i.1;have d:=af.out.step i.1;clear i;have k:=d.cell 0;have p:=d.cell 1;have n:=d.cell 2;have C:=d.free 0;have F:=d.free 1;have H:=d.free 2;have A:=d.lt;simp only[zcO,lgz,lgs]at k p n;repeat first|refine muP ?_|refine muR ?_
 refine muL ?_;refine zcG (I.out _ _ (fun K V=> ?_));clear I hY;go_wp2_with fail;refine mok V ?_;have y:=zC ((d.set 0 (.int .i64 b)).set 1 (.int .i64 (o+1)));have m:=(d.set 0 (.int .i64 b)).cell 0;have j:=((d.set 0 (.int .i64 b)).set 1 (.int .i64 (o+1))).cell 1;simp only[zcO,sC0,sCs,lgz,lgs]at m j;have zb:w.heap.size≤f.heap.size:=ae.size;go_wp2_with fail;refine mnx w (v.out _) fun w3 M ag _=> ?_;have c:=y.out.step M;clear m j k p n C F H A d y M;simp only[zcO,sC0,sCs]at c;have k:=c.cell 0;have p:=c.cell 1;have n:=c.cell 2;have C:=c.free 0;have F:=c.free 1;have H:=c.free 2;have A:=c.lt;simp only[zvH]at k p n;have m:=(c.set 0 (.int .i64 (min b a))).cell 0;have j:=((c.set 0 (.int .i64 (min b a))).set 1 (.int .i64 (min (o+1) a))).cell 1;have g2:=(((c.set 0 (.int .i64 (min b a))).set 1 (.int .i64 (min (o+1) a))).set 2 (.int .i64 1)).cell 2;simp only[sC0,sCs,lgz,lgs]at m j g2;have ai:=zC c;clear c;go_wp2_with fail;refine mnx w (u.out _) fun w4 aj Z _=> ?_;exact mf1 Z
theorem S09.next_ok{s:Int}(b:S09.found s=true):S09.is (S09.z2 (S09.hz s) (S09.ho s) 0) (S09.o2 (S09.hz s) (S09.ho s) 0) 0=true∧S09.is (S09.z2 (S09.hz s) (S09.ho s) 1) (S09.o2 (S09.hz s) (S09.ho s) 1) 1=true:=by
 obtain⟨a,c⟩:=S09.found_bounds b;obtain⟨n,rfl⟩:=Int.eq_ofNat_of_zero_le a;exact⟨S09.allStates_spec S09.next_is0 (s:=n) om,S09.allStates_spec S09.next_is1 (s:=n) om⟩
def S09.nextS(s b:Int):Int:=if S09.found s then(if b=0∨b=1 then S09.next s b else 0)else 0
def S09.nextE(s b:Int):Int:=if S09.found s then(if b=0∨b=1 then 0 else 1)else 2
theorem next09_any(s b:Int)(w:World) :
 Calls Tryz.prog 189 #[s,b] w fun e n=>e = .returned (.tuple #[(S09.nextS s b),(S09.nextE s b)])∧Below w w n:=by
 obtain⟨l,i,k,j,r,t⟩:=S09.h_bounds s;have d:=zC fun W=>ztA s W;cases hf:S09.found s with
 | false=>
   have a:S09.nextS s b=0:=by simp[S09.nextS,hf]
   have c:S09.nextE s b=2:=by simp[S09.nextE,hf]
   rw[hf]at d;rw[a,c];clear a c hf;go_enter Tryz.func189,Tryz.ntmps189;go_wp2_with fail;refine mnx w (d.out _) fun m p q o=> ?_;go_wp2;all_goals go_returns
   all_goals exact⟨rfl,by go_grown⟩
 | true=>
   have h:=S09.next_ok hf;rw[hf]at d;by_cases f:b=0
   ·subst f;have a:S09.nextS s 0=S09.idx (S09.z2 (S09.hz s) (S09.ho s) 0) (S09.o2 (S09.hz s) (S09.ho s) 0) 0:=by simp[S09.nextS,hf,S09.next]
    have c:S09.nextE s 0=0:=by simp[S09.nextE,hf]
    rw[a,c];exact next09_step0 s _ _ _ w l i k j d.out h.1
   ·by_cases g:b=1
    ·subst g;have a:S09.nextS s 1=S09.idx (S09.z2 (S09.hz s) (S09.ho s) 1) (S09.o2 (S09.hz s) (S09.ho s) 1) 1:=by simp[S09.nextS,hf,S09.next]
     have c:S09.nextE s 1=0:=by simp[S09.nextE,hf]
     rw[a,c];exact next09_step1 s _ _ _ w l i k j d.out h.2
    ·have a:S09.nextS s b=0:=by simp[S09.nextS,f,g]
     have c:S09.nextE s b=1:=by simp[S09.nextE,hf,f,g]
     rw[a,c];clear a c h hf;have u:((b:Int) != 0)=true:=by simpa using f
     have v:((b:Int) != 1)=true:=by simpa using g
     go_enter Tryz.func189,Tryz.ntmps189;go_wp2_with fail;refine mnx w (d.out _) fun m p q o=> ?_;go_wp2;all_goals go_returns
     all_goals exact⟨rfl,by go_grown⟩
theorem ziD(s:Int)(w:World) :
 Calls Tryz.prog 84 #[s] w fun e w'=>e = .returned (.tuple #[(S09.hz s),(S09.ho s),(S09.hl s),(S09.err s)])∧Below w w w':=by
 have J:(s<0∨215≤s)→S09.hz s=0∧S09.ho s=0∧S09.hl s=0∧S09.err s=2:=fun h=>by
  have x:S09.found s=false:=zL om;simp[S09.hz,S09.ho,S09.hl,S09.err,x]
 have N:∀t o l:Nat,t≤30→o≤t→l<2→S09.ok t o l=true→(S09.cnt t o l:Int)=s→S09.hz s=(t:Int)-o∧S09.ho s=o∧S09.hl s=l∧S09.err s=0:=fun t o l P K Q g e=>by
  have hc:=S09.cnt_lt P K Q g;obtain⟨C,H,B⟩:=S09.at_cnt P K Q g;rw[e]at C H B;have x:S09.found s=true:=zO om;exact⟨C,H,B,by simp[S09.err,x]⟩
 obtain⟨af,U⟩:=zh2 J N;clear J N;go_enter Tryz.func84,Tryz.ntmps84;go_wp2;go_loopw [6,7] (fun k t wr=>∃T:Nat,T≤31∧t = .int .i64 T∧k = .int .i64 (S09.cT T)∧(s<0∨(S09.cT T:Int)≤s)∧Below w w wr) (fun _ t _=>31-(intOf t).toNat)
 case atStart=>exact⟨0,by omega,rfl,rfl,by simp only[S09.cT];omega,zJ _ _⟩
 case round=>
  obtain⟨S,rfl⟩:∃S:World,S=wr:=⟨_,rfl⟩;obtain⟨T,V,rfl,rfl,hs,G⟩:=hrel;have al:=S09.cT_le V;by_cases ae:T≤30
  ·have d1:decide ((T:Int)≤30)=true:=by simp;omega
   go_wp2;go_loopw [6,8] (fun k c wr=>∃O:Nat,O≤T+1∧c = .int .i64 O∧k = .int .i64 (S09.cO T (S09.cT T) O)∧(s<0∨(S09.cO T (S09.cT T) O:Int)≤s)∧Below w w wr) (fun _ c _=>32-(intOf c).toNat)
   case atStart=>exact⟨0,by omega,rfl,rfl,hs,G⟩
   case round=>
    obtain⟨E,rfl⟩:∃E:World,E=wr:=⟨_,rfl⟩;obtain⟨O,hO,rfl,rfl,y,I⟩:=hrel;have ai:=S09.cO_le T (S09.cT T) O;by_cases X:O≤T
    ·have d2:decide ((O:Int)≤(T:Int))=true:=by simp;omega
     have z:=zC (show S09.cO T (S09.cT T) (O+1)=S09.cL T O (S09.cO T (S09.cT T) O) 2 from rfl);obtain⟨a,v⟩:∃b,b=S09.cO T (S09.cT T) O:=⟨_,rfl⟩;have ak:=zC v;rw[←v]at y ai z⊢;clear v;go_wp2;go_loopw [6,9] (fun k c wr=>∃L:Nat,L≤2∧c = .int .i64 L∧k = .int .i64 (S09.cL T O a L)∧(s<0∨(S09.cL T O a L:Int)≤s)∧Below w w wr) (fun _ c _=>2-(intOf c).toNat)
     case atStart=>exact⟨0,by omega,rfl,rfl,y,I⟩
     case round=>
      obtain⟨L,hL,rfl,rfl,M,n⟩:=hrel;have am:=S09.cL_le T O a L;by_cases Y:L<2
      ·have Z:=zC (show S09.cL T O a L=S09.cnt T O L by rw[ak.out];rfl);have d:S09.cL T O a (L+1)=S09.cL T O a L+(if S09.ok T O L then 1 else 0):=rfl;have f:=zC fun W=>zhC ((T:Int)-O) O L W;have g:S09.is ((T:Int)-O) O L=S09.ok T O L:=rfl;rw[g]at f;cases hk:S09.ok T O L with
       | false=>
         rw[hk]at f d;have i:=zC (show S09.cL T O a (L+1)=S09.cL T O a L from d);clear d g hk;generalize S09.cL T O a L=D at *;go_wp2_with fail;refine mnb n (f.out _) fun F R j=> ?_;go_wp2;go_roundw
         case rel=>exact⟨L+1,by omega,by go_num,by rw[i.out],by rw[i.out];exact M,j⟩
         case measure=>simp[intOf];omega
       | true=>
         rw[hk]at f d;obtain⟨i,A⟩:=zh2 (show S09.cL T O a (L+1)=S09.cL T O a L+1 from d) (U.out T O L ae X Y hk);rw[←Z.out]at A;clear d g hk;by_cases m:(S09.cL T O a L:Int)=s
         ·have hq:=A.out m;obtain⟨u,r,p,q⟩:=hq;have ah:((S09.cL T O a L:Int)==s)=true:=by simpa using m
          obtain⟨ac,aj,ag,ad⟩:=zh4 u r p q;clear m u r p q;generalize S09.cL T O a L=D at *;go_wp2_with fail;refine mnb n (f.out _) fun F R j=> ?_;go_wp2;go_returns;rw[ac.out,aj.out,ag.out,ad.out];exact⟨rfl,j⟩
         ·have ah:((S09.cL T O a L:Int)==s)=false:=by simpa using m
          have aa:s<0∨((S09.cL T O a L+1:Nat):Int)≤s:=by omega
          clear m;generalize S09.cL T O a L=D at *;go_wp2_with fail;refine mnb n (f.out _) fun F R j=> ?_;go_wp2;go_roundw
          case rel=>exact⟨L+1,by omega,by go_num,by rw[i.out];go_num,by rw[i.out];exact aa,j⟩
          case measure=>simp[intOf];omega
      ·obtain rfl:L=2:=by omega
       go_wp2;go_roundw
       case rel=>exact⟨O+1,by omega,by go_num,by rw[z.out],by rw[z.out];exact M,n⟩
       case measure=>simp[intOf];omega
    ·obtain rfl:O=T+1:=by omega
     go_wp2;go_roundw
     case rel=>exact⟨T+1,by omega,by go_num,rfl,y,I⟩
     case measure=>simp[intOf];omega
  ·obtain rfl:T=31:=by omega
   have ab:S09.cT 31=215:=S09.cT_all;have Hq:=zC (af.out om);clear ab;go_wp2;go_returns;obtain⟨u,r,p,q⟩:=Hq.out;rw[u,r,p,q];exact⟨rfl,G⟩
def S09.stateS(z o l:Int):Int:=if l=0∨l=1 then S09.idx z o l else 0
def S09.stateE(z o l:Int):Int:=if l=0∨l=1 then(if S09.is z o l then 0 else 7)else 1
theorem zgM(w:World):Calls Tryz.prog 71 #[] w fun e a=>e = .returned (.int .i64 215)∧Below w w a:=by
 go_enter Tryz.func71,Tryz.ntmps71;exact mf4
theorem zmB(s:Int)(w:World) :
 Calls Tryz.prog 115 #[s] w fun e d=>e = .returned (.int .i64 (if S09.found s then S09.hz s+S09.ho s else -1))∧Below w w d:=by
 have b:=zC fun W=>ziD s W;obtain⟨i,k,n,m,j,p⟩:=S09.h_bounds s;cases hf:S09.found s with
 | false=>
   have a:S09.err s=2:=by simp[S09.err,hf]
   rw[a]at b;clear a hf;generalize S09.hz s=z at *;generalize S09.ho s=o at *;generalize S09.hl s=l at *;go_enter Tryz.func115,Tryz.ntmps115;go_wp2_with fail;refine mnx w (b.out _) fun g c h f=> ?_;exact mf4
 | true=>
   have a:S09.err s=0:=by simp[S09.err,hf]
   rw[a]at b;clear a hf;generalize S09.hz s=z at *;generalize S09.ho s=o at *;generalize S09.hl s=l at *;go_enter Tryz.func115,Tryz.ntmps115;go_wp2_with fail;refine mnx w (b.out _) fun g c h f=> ?_;exact mf4
theorem refStateAt09(t' o' l':Nat)(k1:t'≤30)(k2:o'≤t')(k3:l'<2)(F:S09.ok t' o' l'=true)(w:World) :
 Calls Tryz.prog 86 #[.int .i64 ((t':Int)-o'),o',l'] w fun e C=>e = .returned (.tuple #[(S09.cnt t' o' l'),.int .i64 0])∧Below w w C:=by
 have o:=zC fun W=>zhC ((t':Int)-o') o' l' W;have s:S09.is ((t':Int)-o') o' l'=S09.ok t' o' l':=rfl;rw[s,F]at o;clear s;have ad:(t':Int)-o'+o'=t':=by omega
 have K:decide ((l':Int)<0)=false:=by simp
 have M:decide ((1:Int)<(l':Int))=false:=by simp;omega
 have J:¬(l':Int)<0:=by omega
 have U:¬(1:Int)<(l':Int):=by omega
 go_enter Tryz.func86,Tryz.ntmps86;go_wp2_with fail;refine mnx w (o.out _) fun S ac I z1=> ?_;go_wp2;go_loopw [8,9] (fun k t wr=>∃T:Nat,T≤31∧t = .int .i64 T∧k = .int .i64 (S09.cT T)∧T≤t'∧Below w w wr) (fun _ t _=>31-(intOf t).toNat)
 case atStart=>exact⟨0,by omega,rfl,rfl,by omega,I⟩
 case round=>
  obtain⟨v,rfl⟩:∃v:World,v=wr:=⟨_,rfl⟩;obtain⟨T,y,rfl,rfl,hs,B⟩:=hrel;have V:=S09.cT_le y;have X:T≤30:=by omega
  have R:decide ((T:Int)≤30)=true:=by simp;omega
  go_wp2;go_loopw [8,10] (fun k c wr=>∃O:Nat,O≤T+1∧c = .int .i64 O∧k = .int .i64 (S09.cO T (S09.cT T) O)∧(T<t'∨O≤o')∧Below w w wr) (fun _ c _=>32-(intOf c).toNat)
  case atStart=>exact⟨0,by omega,rfl,rfl,by omega,B⟩
  case round=>
   obtain⟨r,rfl⟩:∃r:World,r=wr:=⟨_,rfl⟩;obtain⟨O,hO,rfl,rfl,aa,u⟩:=hrel;have D:=S09.cO_le T (S09.cT T) O;by_cases P:O≤T
   ·have N:decide ((O:Int)≤(T:Int))=true:=by simp;omega
    have x:=zC (show S09.cO T (S09.cT T) (O+1)=S09.cL T O (S09.cO T (S09.cT T) O) 2 from rfl);obtain⟨a,j⟩:∃b,b=S09.cO T (S09.cT T) O:=⟨_,rfl⟩;have G:=zC j;rw[←j]at D x⊢;clear j;go_wp2;go_loopw [8,11] (fun k c wr=>∃L:Nat,L≤2∧c = .int .i64 L∧k = .int .i64 (S09.cL T O a L)∧(T<t'∨O<o'∨L≤l')∧Below w w wr) (fun _ c _=>2-(intOf c).toNat)
    case atStart=>exact⟨0,by omega,rfl,rfl,by omega,u⟩
    case round=>
     obtain⟨L,Z,rfl,rfl,ab,h⟩:=hrel;have Y:=S09.cL_le T O a L;by_cases Q:L<2
     ·have z:=zC (show S09.cL T O a L=S09.cnt T O L by rw[G.out];rfl);have d:S09.cL T O a (L+1)=S09.cL T O a L+(if S09.ok T O L then 1 else 0):=rfl;by_cases E:T=t'∧O=o'∧L=l'
      ·obtain⟨rfl,rfl,rfl⟩:=E;clear d;generalize S09.cL T O a L=p at *;go_wp2;go_returns;exact⟨by rw[z.out];rfl,h⟩
      ·have g:=zC fun W=>zhC ((T:Int)-O) O L W;have m:S09.is ((T:Int)-O) O L=S09.ok T O L:=rfl;rw[m]at g;have n:T<t'∨O<o'∨L+1≤l':=by omega
       have q:¬T=t'∨(T=t'∧¬O=o')∨(T=t'∧O=o'∧¬L=l'):=by omega
       cases hk:S09.ok T O L with
       | false=>
         rw[hk]at g d;have i:=zC (show S09.cL T O a (L+1)=S09.cL T O a L from d);clear d m hk;generalize S09.cL T O a L=p at *;rcases q with f|⟨rfl,f⟩|⟨rfl,rfl,f⟩
         all_goals
          go_wp2_with fail;refine mnb h (g.out _) fun A H l=> ?_;go_wp2;go_roundw
          case rel=>exact⟨L+1,by omega,by go_num,by rw[i.out],n,l⟩
          case measure=>simp[intOf];omega
       | true=>
         rw[hk]at g d;have i:=zC (show S09.cL T O a (L+1)=S09.cL T O a L+1 from d);clear d m hk;generalize S09.cL T O a L=p at *;rcases q with f|⟨rfl,f⟩|⟨rfl,rfl,f⟩
         all_goals
          go_wp2_with fail;refine mnb h (g.out _) fun A H l=> ?_;go_wp2;go_roundw
          case rel=>exact⟨L+1,by omega,by go_num,by rw[i.out];go_num,n,l⟩
          case measure=>simp[intOf];omega
     ·obtain rfl:L=2:=by omega
      go_wp2;go_roundw
      case rel=>exact⟨O+1,by omega,by go_num,by rw[x.out],by omega,h⟩
      case measure=>simp[intOf];omega
   ·obtain rfl:O=T+1:=by omega
    go_wp2;go_roundw
    case rel=>exact⟨T+1,by omega,by go_num,rfl,by omega,u⟩
    case measure=>simp[intOf];omega
theorem zbN(z o l:Int)(w:World) :
 Calls Tryz.prog 86 #[z,o,l] w fun e k=>e = .returned (.tuple #[(S09.stateS z o l),(S09.stateE z o l)])∧Below w w k:=by
 by_cases c:l=0∨l=1
 ·cases hi:S09.is z o l with
  | true=>
    have a:S09.stateS z o l=S09.idx z o l:=by simp[S09.stateS,c]
    have b:S09.stateE z o l=0:=by simp[S09.stateE,c,hi]
    rw[a,b];obtain⟨f,n,i,q,j,m,rfl,rfl,rfl,p,h⟩:=S09.is_place hi;rw[h];exact refStateAt09 f n i q j m p w
  | false=>
    have a:S09.stateS z o l=0:=by simp[S09.stateS,S09.idx,hi]
    have b:S09.stateE z o l=7:=by simp[S09.stateE,c,hi]
    rw[a,b];have d:=zC fun W=>zhC z o l W;rw[hi]at d;have t:¬l<0:=by omega
    have s:¬1<l:=by omega
    clear a b hi c;go_enter Tryz.func86,Tryz.ntmps86;go_wp2_with fail;refine mnx w (d.out _) fun r x y u=> ?_;exact mf4
 ·have a:S09.stateS z o l=0:=by simp[S09.stateS,c]
  have b:S09.stateE z o l=1:=by simp[S09.stateE,c]
  rw[a,b];have g:l<0∨(¬l<0∧1<l):=by omega
  clear a b c;rcases g with g|⟨g,v⟩
  all_goals
   go_enter Tryz.func86,Tryz.ntmps86;exact mf4
def S09.rn(n c:Int):Int:=if c<n then min n (S09.bound c 0)else n
def S09.rc(n c:Int):Int:=if c<n then c else min c (S09.bound n 0)
theorem S09.ref_step:S09.allStates (fun s=>decide (S09.rn (S09.hz s+1) (S09.fade (S09.ho s))=S09.z2 (S09.hz s) (S09.ho s) 0)&&decide (S09.rc (S09.hz s+1) (S09.fade (S09.ho s))=S09.o2 (S09.hz s) (S09.ho s) 0) &&
 decide (S09.rn (S09.ho s+1) (S09.fade (S09.hz s))=S09.o2 (S09.hz s) (S09.ho s) 1)&&decide (S09.rc (S09.ho s+1) (S09.fade (S09.hz s))=S09.z2 (S09.hz s) (S09.ho s) 1))=true:=by decide +kernel
theorem zrU(s z o l:Int)(w:World)(E:0≤z)(D:z≤30)(C:0≤o)(B:o≤30)
 (x:∀W,Calls Tryz.prog 84 #[s] W fun e n=>e = .returned (.tuple #[z,o,l,.int .i64 0])∧Below W W n) :
 Calls Tryz.prog 43 #[s,.int .i64 0] w fun e n=>e = .returned (.tuple #[.int .i64 (S09.stateS (S09.rn (z+1) (S09.fade o)) (S09.rc (z+1) (S09.fade o)) 0),.int .i64 (S09.stateE (S09.rn (z+1) (S09.fade o)) (S09.rc (z+1) (S09.fade o)) 0)])∧Below w w n:=by
 have g:=zC x;clear x;have A:=S09.fade_bounds C B;by_cases y:2<o
 ·have f:S09.fade o=2+(o-2)/3:=by unfold S09.fade;rw[zQ y,zaF om]
  rw[f]at A⊢;clear f;by_cases c:2+(o-2)/3<z+1
  ·have a:S09.rn (z+1) (2+(o-2)/3)=min (z+1) (S09.bound (2+(o-2)/3) 0):=by unfold S09.rn;rw[zQ c]
   have b:S09.rc (z+1) (2+(o-2)/3)=2+(o-2)/3:=by unfold S09.rc;rw[zQ c]
   rw[a,b];clear a b;go_enter Tryz.func43,Tryz.ntmps43;go_wp2_with fail;refine mnx w (g.out _) fun i t v p=> ?_;go_wp2_with fail;refine mnx w (zaW _ _) fun r h m k=> ?_;go_wp2_with fail;refine mnx w (zbN _ _ _ _) fun j u d q=> ?_;exact mf1 d
  ·have a:S09.rn (z+1) (2+(o-2)/3)=z+1:=by unfold S09.rn;rw[zG c]
   have b:S09.rc (z+1) (2+(o-2)/3)=min (2+(o-2)/3) (S09.bound (z+1) 0):=by unfold S09.rc;rw[zG c]
   rw[a,b];clear a b;go_enter Tryz.func43,Tryz.ntmps43;go_wp2_with fail;refine mnx w (g.out _) fun i t v p=> ?_;go_wp2_with fail;refine mnx w (zaW _ _) fun r h m k=> ?_;go_wp2_with fail;refine mnx w (zbN _ _ _ _) fun j u d q=> ?_;exact mf1 d
 ·have f:S09.fade o=o:=by unfold S09.fade;rw[zG y]
  rw[f]at A⊢;clear f;by_cases c:o<z+1
  ·have a:S09.rn (z+1) o=min (z+1) (S09.bound o 0):=by unfold S09.rn;rw[zQ c]
   have b:S09.rc (z+1) o=o:=by unfold S09.rc;rw[zQ c]
   rw[a,b];clear a b;go_enter Tryz.func43,Tryz.ntmps43;go_wp2_with fail;refine mnx w (g.out _) fun i t v p=> ?_;go_wp2_with fail;refine mnx w (zaW _ _) fun r h m k=> ?_;go_wp2_with fail;refine mnx w (zbN _ _ _ _) fun j u d q=> ?_;exact mf1 d
  ·have a:S09.rn (z+1) o=z+1:=by unfold S09.rn;rw[zG c]
   have b:S09.rc (z+1) o=min o (S09.bound (z+1) 0):=by unfold S09.rc;rw[zG c]
   rw[a,b];clear a b;go_enter Tryz.func43,Tryz.ntmps43;go_wp2_with fail;refine mnx w (g.out _) fun i t v p=> ?_;go_wp2_with fail;refine mnx w (zaW _ _) fun r h m k=> ?_;go_wp2_with fail;refine mnx w (zbN _ _ _ _) fun j u d q=> ?_;exact mf1 d
theorem ztY(s z o l:Int)(w:World)(C:0≤z)(B:z≤30)(E:0≤o)(D:o≤30)
 (x:∀W,Calls Tryz.prog 84 #[s] W fun e n=>e = .returned (.tuple #[z,o,l,.int .i64 0])∧Below W W n) :
 Calls Tryz.prog 43 #[s,.int .i64 1] w fun e n=>e = .returned (.tuple #[.int .i64 (S09.stateS (S09.rc (o+1) (S09.fade z)) (S09.rn (o+1) (S09.fade z)) 1),.int .i64 (S09.stateE (S09.rc (o+1) (S09.fade z)) (S09.rn (o+1) (S09.fade z)) 1)])∧Below w w n:=by
 have g:=zC x;clear x;have A:=S09.fade_bounds C B;by_cases y:2<z
 ·have f:S09.fade z=2+(z-2)/3:=by unfold S09.fade;rw[zQ y,zaF om]
  rw[f]at A⊢;clear f;by_cases c:2+(z-2)/3<o+1
  ·have a:S09.rn (o+1) (2+(z-2)/3)=min (o+1) (S09.bound (2+(z-2)/3) 0):=by unfold S09.rn;rw[zQ c]
   have b:S09.rc (o+1) (2+(z-2)/3)=2+(z-2)/3:=by unfold S09.rc;rw[zQ c]
   rw[a,b];clear a b;go_enter Tryz.func43,Tryz.ntmps43;go_wp2_with fail;refine mnx w (g.out _) fun i t v p=> ?_;go_wp2_with fail;refine mnx w (zaW _ _) fun r h m k=> ?_;go_wp2_with fail;refine mnx w (zbN _ _ _ _) fun j u d q=> ?_;exact mf1 d
  ·have a:S09.rn (o+1) (2+(z-2)/3)=o+1:=by unfold S09.rn;rw[zG c]
   have b:S09.rc (o+1) (2+(z-2)/3)=min (2+(z-2)/3) (S09.bound (o+1) 0):=by unfold S09.rc;rw[zG c]
   rw[a,b];clear a b;go_enter Tryz.func43,Tryz.ntmps43;go_wp2_with fail;refine mnx w (g.out _) fun i t v p=> ?_;go_wp2_with fail;refine mnx w (zaW _ _) fun r h m k=> ?_;go_wp2_with fail;refine mnx w (zbN _ _ _ _) fun j u d q=> ?_;exact mf1 d
 ·have f:S09.fade z=z:=by unfold S09.fade;rw[zG y]
  rw[f]at A⊢;clear f;by_cases c:z<o+1
  ·have a:S09.rn (o+1) z=min (o+1) (S09.bound z 0):=by unfold S09.rn;rw[zQ c]
   have b:S09.rc (o+1) z=z:=by unfold S09.rc;rw[zQ c]
   rw[a,b];clear a b;go_enter Tryz.func43,Tryz.ntmps43;go_wp2_with fail;refine mnx w (g.out _) fun i t v p=> ?_;go_wp2_with fail;refine mnx w (zaW _ _) fun r h m k=> ?_;go_wp2_with fail;refine mnx w (zbN _ _ _ _) fun j u d q=> ?_;exact mf1 d
  ·have a:S09.rn (o+1) z=o+1:=by unfold S09.rn;rw[zG c]
   have b:S09.rc (o+1) z=min z (S09.bound (o+1) 0):=by unfold S09.rc;rw[zG c]
   rw[a,b];clear a b;go_enter Tryz.func43,Tryz.ntmps43;go_wp2_with fail;refine mnx w (g.out _) fun i t v p=> ?_;go_wp2_with fail;refine mnx w (zaW _ _) fun r h m k=> ?_;go_wp2_with fail;refine mnx w (zbN _ _ _ _) fun j u d q=> ?_;exact mf1 d
theorem S09.next_state{s:Int}(a:S09.found s=true):S09.stateS (S09.rn (S09.hz s+1) (S09.fade (S09.ho s))) (S09.rc (S09.hz s+1) (S09.fade (S09.ho s))) 0=S09.nextS s 0∧
 S09.stateE (S09.rn (S09.hz s+1) (S09.fade (S09.ho s))) (S09.rc (S09.hz s+1) (S09.fade (S09.ho s))) 0=0∧
 S09.stateS (S09.rc (S09.ho s+1) (S09.fade (S09.hz s))) (S09.rn (S09.ho s+1) (S09.fade (S09.hz s))) 1=S09.nextS s 1∧
 S09.stateE (S09.rc (S09.ho s+1) (S09.fade (S09.hz s))) (S09.rn (S09.ho s+1) (S09.fade (S09.hz s))) 1=0:=by
 have b:=S09.next_ok a
 have f:(S09.rn (S09.hz s+1) (S09.fade (S09.ho s))=S09.z2 (S09.hz s) (S09.ho s) 0∧S09.rc (S09.hz s+1) (S09.fade (S09.ho s))=S09.o2 (S09.hz s) (S09.ho s) 0)∧
  S09.rn (S09.ho s+1) (S09.fade (S09.hz s))=S09.o2 (S09.hz s) (S09.ho s) 1∧S09.rc (S09.ho s+1) (S09.fade (S09.hz s))=S09.z2 (S09.hz s) (S09.ho s) 1:=by
  obtain⟨h,i⟩:=S09.found_bounds a;obtain⟨n,rfl⟩:=Int.eq_ofNat_of_zero_le h;have:=S09.allStates_spec S09.ref_step (s:=n) om;simp only[zS,yC]at this;exact⟨this.1.1,this.1.2,this.2⟩
 obtain⟨⟨d,c⟩,e,g⟩:=f;rw[d,c,e,g];refine⟨?_,?_,?_,?_⟩
 ·simp[S09.stateS,S09.nextS,a,S09.next]
 ·simp[S09.stateE,b.1]
 ·simp[S09.stateS,S09.nextS,a,S09.next]
 ·simp[S09.stateE,b.2]
theorem ztZ(s b:Int)(w:World) :
 Calls Tryz.prog 43 #[s,b] w fun e p=>e = .returned (.tuple #[(S09.nextS s b),(S09.nextE s b)])∧Below w w p:=by
 obtain⟨n,k,m,l,u,v⟩:=S09.h_bounds s;have c:=zC fun W=>ziD s W;cases hf:S09.found s with
 | false=>
   have f:S09.nextS s b=0:=by simp[S09.nextS,hf]
   have a:S09.nextE s b=2:=by simp[S09.nextE,hf]
   have d:S09.err s=2:=by simp[S09.err,hf]
   rw[d]at c;rw[f,a];clear f a d hf;go_enter Tryz.func43,Tryz.ntmps43;go_wp2_with fail;refine mnx w (c.out _) fun o r t q=> ?_;go_wp2;all_goals go_returns
   all_goals exact⟨rfl,by go_grown⟩
 | true=>
   have h:=S09.next_state hf;have d:S09.err s=0:=by simp[S09.err,hf]
   rw[d]at c;by_cases i:b=0
   ·subst i;have a:S09.nextE s 0=0:=by simp[S09.nextE,hf]
    have:=zrU s _ _ _ w n k m l c.out;rw[h.1,h.2.1]at this;rw[a];exact this
   ·by_cases j:b=1
    ·subst j;have a:S09.nextE s 1=0:=by simp[S09.nextE,hf]
     have:=ztY s _ _ _ w n k m l c.out;rw[h.2.2.1,h.2.2.2]at this;rw[a];exact this
    ·have f:S09.nextS s b=0:=by simp[S09.nextS,i,j]
     have a:S09.nextE s b=1:=by simp[S09.nextE,hf,i,j]
     rw[f,a];have g:b<0∨(¬b<0∧1<b):=by omega
     clear f a d h hf i j;rcases g with g|⟨g,x⟩
     all_goals
      go_enter Tryz.func43,Tryz.ntmps43;go_wp2_with fail;refine mnx w (c.out _) fun o r t q=> ?_;go_wp2;all_goals go_returns
      all_goals exact⟨rfl,by go_grown⟩
