/- A part of the proof of L14l. No condition. -/
import Derived.Test.YthhgkafloejjiaaGreatZL14lag
import Derived.Test.YthhgkafloejjiaaGreatZL14lai
set_option linter.all false
set_option maxRecDepth 100000
set_option maxHeartbeats 400000
namespace Go.Proofs.YthhgkafloejjiaaGreat
open Go.RowKit
namespace S08
def divs(k:Nat):Array Value:=Array.ofFn (n:=1024) fun i=>.int .i64 (if i.val<k then 2*(i.val:Int)+3 else 0)
theorem divs_size(k:Nat):(divs k).size=1024:=by unfold divs;rw[Array.size_ofFn]
theorem divs_get(k j:Nat)(h:j<1024):(divs k)[j]? = some (.int .i64 (if j<k then 2*(j:Int)+3 else 0)):=by
 unfold divs;rw[Array.getElem?_ofFn,dif_pos h]
theorem divs_set(k:Nat)(h:k<1024):(divs k).setIfInBounds k (.int .i64 (2*(k:Int)+3))=divs (k+1):=by
 refine Array.ext_getElem? fun j=> ?_;rw[Array.getElem?_setIfInBounds];by_cases b:j<1024
 ·rw[divs_get _ j b,divs_get _ j b,divs_size];by_cases e:k=j
  ·subst e;rw[zQ rfl,zQ om,zQ om]
  ·rw[zG e];by_cases a:j<k
   ·rw[zQ a,zQ om]
   ·rw[zG a,zG om]
 ·rw[zaL (by rw[divs_size];omega),zaL (by rw[divs_size];omega),divs_size];by_cases e:k=j
  ·omega
  ·rw[zG e]
theorem divs_cells(k:Nat):∀v∈(divs k).toList,v.oneCell'=true:=by
 intro v c;obtain⟨j,b⟩:=List.getElem?_of_mem c;have a:(divs k)[j]? = some v:=by simpa using b
 have:j<1024:=by have:=(Array.getElem?_eq_some_iff.1 a).1;rwa[divs_size]at this
 rw[divs_get k j this]at a;cases a;rfl
theorem divs_zero:divs 0=Array.replicate 1024 (.int .i64 0):=by
 refine Array.ext_getElem? fun j=> ?_;rw[Array.getElem?_replicate];by_cases a:j<1024
 ·rw[divs_get _ j a,zQ a,zG om]
 ·rw[zaL (by rw[divs_size];omega),zG a]
attribute [irreducible] divs
end S08
theorem divs_alloc0(w:World):(Instr.alloc 225 true (.tuple #[])).run Tryz.prog w = .ok (.pointer (some ⟨w,0,none⟩)) (w.alloc (.cells (Array.replicate 1024 (.int .i64 0)) 225)):=by kernel_rfl
theorem divs_alloc(w:World):(Instr.alloc 225 true (.tuple #[])).run Tryz.prog w = .ok (.pointer (some ⟨w,0,none⟩)) (w.alloc (.cells (S08.divs 0) 225)):=by rw[S08.divs_zero];exact divs_alloc0 w
theorem zrB:(Tryz.prog.info? 225).map (·.size)=some 1024:=by kernel_rfl
theorem divisors_any(w:World):Calls Tryz.prog 180 #[] w fun e l=>e = .returned (.agg (S08.divs 1024))∧Below w w l:=by
 go_enter Tryz.func180,Tryz.ntmps180;go_wp2_with (refine zaK 225 (S08.divs 0) divs_alloc rfl rfl ?_);go_loopw [3] (fun v wr=>∃k:Nat,k≤1024∧v = .int .i64 k∧wr.heap[w.heap.size]? = some (.cells (S08.divs 0) 225 (0,0))∧wr.heap[w.heap.size+1]? = some (.cells (S08.divs k) 225 (0,0))∧Below w w wr) (fun v _=>1024-(intOf v).toNat)
 case atStart=>exact⟨0,by omega,rfl,heap_alloc2_old _ _ _,heap_alloc2_new _ _ _,by go_grown⟩
 case round=>
  rename_i wr _
  obtain⟨k,p,rfl,b,a,i⟩:=hrel;by_cases f:k<1024
  ·have q:wr.cell? ⟨w.heap.size+1,k,none⟩=some (.int .i64 0):=by rw[cell_of_row _ _ _ _ _ _ a,S08.divs_get k k f,zG om]
   have r:wr.frozen? ⟨w.heap.size+1,k,none⟩=false:=frozen_of_row _ _ _ _ _ a;obtain⟨m,c⟩:=zh2 b a;clear b a;go_wp2;go_roundw
   case rel=>exact⟨k+1,by omega,by go_num,by rw[heap_setCell_other _ _ _ _ by1];exact m.out,by rw[heap_setCell_same _ _ _ _ _ _ c.out,S08.divs_set k f],i.setCell by1 _⟩
   case measure=>simp[intOf];omega
  ·obtain rfl:k=1024:=by omega
   have d:wr.there w.heap.size 0 (S08.divs 1024).size:=by
    rw[S08.divs_size];intro j n;rw[yE,cell_of_row _ _ _ _ _ _ b,S08.divs_get 0 j n];exact⟨rfl,frozen_of_row _ _ _ _ _ b⟩
   obtain⟨c,h⟩:=zh2 a d;clear b a d;go_wp2_with (first|(refine wpList_load_row rfl 225 _ rfl (w.heap.size+1) rfl _ _ _ _ c.out Tryz.underlying225 rfl (by rw[S08.divs_size];exact zrB) ?_)|(refine wpList_store_mid rfl 225 _ _ rfl w.heap.size 0 _ rfl rfl h.out (by rw[S08.divs_size];exact zrB) (Array.all_eq_true_iff_forall_mem.2 (fun v o=>S08.divs_cells _ v (by simpa using o))) ?_));have g:=run_loadVar_mid (P:=Tryz.prog) (wr.setCells w.heap.size 0 (S08.divs 1024).toList) w.heap.size 0 225 (S08.divs 1024).toList _ (World.rangeAt_setCells_same wr w.heap.size 0 _ (by rw[Array.length_toList];exact h.out)) Tryz.underlying225 rfl (by rw[Array.length_toList,S08.divs_size];exact zrB);rw[Array.toArray_toList]at g;refine bodyPost_ret (v:=.agg (S08.divs 1024)) ?_ rfl ⟨rfl,?_⟩
   ·simp[results,Tryz.results180,asAddr,Act.put,g]
   ·exact i.trans (zeU (zF _) _ _ _)
def S08.towards(p n target:Int):Int:=p+(2*(target-p)).tdiv (2*n+3)
theorem S08.divs_index(n:Int)(c:0≤n)(d:n≤1023)(w:World) :
 (Instr.index 225 (.agg (S08.divs 1024)) (.int .i64 n)).run Tryz.prog w = .ok (.int .i64 (2*n+3)) w:=by
 obtain⟨k,rfl⟩:=Int.eq_ofNat_of_zero_le c;have a:=S08.divs_get 1024 k om;rw[zQ om]at a;have b:(k:Int)<1024:=by omega
 simp[Instr.index,run_underlying Tryz.underlying225,asIntOf,part,isAgg,run_underlying Tryz.underlying3,sizeOf,go_sem,b,a];rw[zQ om,show Tryz.t3.size=1 from rfl,Nat.mul_one,a];rfl
theorem S08.towards_bounds{p n target:Int}(g:0≤p)(e:p≤65535)(k:0≤n)(f:0≤target)(i:target≤65535):0≤S08.towards p n target∧S08.towards p n target≤65535:=by
 obtain⟨d,b⟩:=S08.tdiv_bounds (2*(target-p)) (2*n+3) om;unfold S08.towards;generalize j:(2*(target-p)).tdiv (2*n+3)=q at *;rcases Int.le_total 0 (2*(target-p))with h|h
 ·obtain⟨a,c⟩:=d h;have:q*3≤q*(2*n+3):=Int.mul_le_mul_of_nonneg_left om a;omega
 ·obtain⟨a,c⟩:=b h;have:q*(2*n+3)≤q*3:=Int.mul_le_mul_of_nonpos_left a om;omega
def zuQ(b:Nat)(p n:Int)(w0:World)(w:World):Prop:=Below w0 w0 w∧w.cell? ⟨b,0,none⟩=some (.int .i64 p)∧w.cell? ⟨b,1,none⟩=some (.int .i64 n)
theorem zpN(p n target:Int)(b:Nat)(w:World)(C:0≤p)(s:p≤65535)(q:0≤n)(G:n≤1023)(B:0≤target)(t:target≤65535)
 (m:w.cell? ⟨b,0,none⟩=some (.int .i64 p)) (y:w.cell? ⟨b,1,none⟩=some (.int .i64 n)) (A:w.frozen? ⟨b,0,none⟩=false) :
 Calls Tryz.prog 177 #[.pointer (some ⟨b,0,none⟩),target] w fun e a=>
  e = .returned (.tuple #[])∧∃l,Below w w l∧a=l.setCell ⟨b,0,none⟩ (.int .i64 (S08.towards p n target)):=by
 go_enter Tryz.func177,Tryz.ntmps177;refine zbJ 22 4 _ _ (zuQ b p n w) zk (zU 22 _).symm rfl rfl zk ⟨(zJ _ _).drew,m,y⟩ (fun Y F hY E=> ?_);simp only[ltc,ltz,ldc,ldz]
 repeat
  apply yN by3
  ·intro j ⟨i,d,g⟩;go_simp;with_reducible rfl
  simp only[zvF]
 refine zcF (v:=.agg (S08.divs 1024)) (f:=180) (args:=#[]) by3 ?h ?c ?r;case h=>(intro j _;kernel_rfl)
 case c=>
  rintro j ⟨i,d,g⟩;refine(divisors_any j).mono ?_;rintro e I ⟨rfl,k⟩;have r:=zE d;exact⟨rfl,i.trans (k.mono i.size),by rw[k.cell r];exact d,by rw[k.cell (p:=⟨b,1,none⟩) r];exact g⟩
 simp only[zvF];have L:=S08.divs_index n q G;have J:¬(2*n+3=0):=by omega
 repeat
  apply yN by3
  ·intro j ⟨i,d,g⟩;go_simp;with_reducible rfl
  simp only[zvF]
 refine E.out _ (fun K a z D=> ?_);obtain⟨o,d,g⟩:=D;have H:a.frozen? ⟨b,0,none⟩=false:=by rw[o.frozen (p:=⟨b,0,none⟩) (zE m)];exact A
 go_wp2_with fail;refine mok z ?_;go_returns;have u:=S08.towards_bounds C s q B t;unfold S08.towards at u⊢;exact⟨rfl,a,o,yG (fun x=>a.setCell ⟨b,0,none⟩ (.int .i64 x)) (IntWalk.wrap64_in _ ⟨by omega,by omega⟩)⟩
theorem zero_any(p n:Int)(b:Nat)(w:World)(f:0≤p)(h:p≤65535)(g:0≤n)(d:n≤1023)
 (k:w.cell? ⟨b,0,none⟩=some (.int .i64 p)) (i:w.cell? ⟨b,1,none⟩=some (.int .i64 n)) (l:w.frozen? ⟨b,0,none⟩=false) :
 Calls Tryz.prog 173 #[.pointer (some ⟨b,0,none⟩)] w fun e a=>
  e = .returned (.tuple #[])∧∃c,Below w w c∧a=c.setCell ⟨b,0,none⟩ (.int .i64 (S08.towards p n 0)):=by
 go_enter Tryz.func173,Tryz.ntmps173;go_wp2_with (go_at_call 177;refine(zpN p n 0 b _ f h g d om om k i l).mono ?_;rintro e a ⟨rfl,j⟩);exact mf2 j
theorem rise_any(p n:Int)(b:Nat)(w:World)(f:0≤p)(h:p≤65535)(g:0≤n)(d:n≤1023)
 (k:w.cell? ⟨b,0,none⟩=some (.int .i64 p)) (i:w.cell? ⟨b,1,none⟩=some (.int .i64 n)) (l:w.frozen? ⟨b,0,none⟩=false) :
 Calls Tryz.prog 174 #[.pointer (some ⟨b,0,none⟩)] w fun e a=>
  e = .returned (.tuple #[])∧∃c,Below w w c∧a=c.setCell ⟨b,0,none⟩ (.int .i64 (S08.towards p n 65535)):=by
 go_enter Tryz.func174,Tryz.ntmps174;go_wp2_with (go_at_call 177;refine(zpN p n 65535 b _ f h g d om om k i l).mono ?_;rintro e a ⟨rfl,j⟩);exact mf2 j
theorem update08_err(p n bit b:Int)(w:World)(a:S08.updateE p n bit b≠0) :
 Calls Tryz.prog 167 #[.agg #[p,n],bit,b] w fun e k=>e = .returned (S08.updateV p n bit b)∧Below w w k:=by
 rw[S08.updateV_err a];by_cases g:S08.check p n b=0
 ·have d:S08.updateE p n bit b=1:=by unfold S08.updateE at a⊢;rw[zG om]at a⊢;split at a<;>simp_all
  have h:bit≠0∧bit≠1:=by unfold S08.updateE at a;rw[zG om]at a;split at a<;>simp_all
  have q:(bit==0)=false:=by simp[h.1]
  have r:(bit==1)=false:=by simp[h.2]
  rw[d];have l:=zC g;clear g d h a;go_enter Tryz.func167,Tryz.ntmps167;go_wp2_with fail;refine(zeM _ _ _ _).mono ?_;rintro e f ⟨rfl,c⟩;rw[l.out];obtain⟨i,m⟩:=zoS c;have j:w.heap.size+1<f.heap.size:=by have:=c.size;simp at this;omega
  have o:Below w w f:=zA zo c;go_wp2;exact bodyPost_ret (by simp[results,Tryz.results167,go_sem,i,j]) rfl ⟨rfl,by go_grown⟩
 ·have d:S08.updateE p n bit b=S08.check p n b:=by unfold S08.updateE;rw[zQ g]
  have q:(S08.check p n b != 0)=true:=by simp[g]
  rw[d];clear d a g;go_enter Tryz.func167,Tryz.ntmps167;go_wp2_with fail;refine(zeM _ _ _ _).mono ?_;rintro e f ⟨rfl,c⟩;obtain⟨i,m⟩:=zoS c;have j:w.heap.size+1<f.heap.size:=by have:=c.size;simp at this;omega
  have o:Below w w f:=zA zo c;go_wp2;exact bodyPost_ret (by simp[results,Tryz.results167,go_sem,i,j]) rfl ⟨rfl,by go_grown⟩
theorem update08_ok(p n bit f:Int)(w:World)(d:S08.updateE p n bit f=0) :
 Calls Tryz.prog 167 #[.agg #[p,n],bit,f] w fun e B=>e = .returned (S08.updateV p n bit f)∧Below w w B:=by
 rw[S08.updateV_ok d];have j:S08.check p n f=0:=by unfold S08.updateE at d;split at d<;>simp_all
 obtain⟨F,H,x,s,t,G⟩:=S08.check_ok j;have C:bit=0∨bit=1:=by
  unfold S08.updateE at d;rw[zG om]at d;split at d
  ·omega
  ·omega
 have u:=zC j;clear j d;rcases C with rfl|rfl
 ·have g:S08.step p n 0=S08.towards p n 0:=rfl;rw[g];clear g;go_enter Tryz.func167,Tryz.ntmps167;go_wp2_with fail;refine(zeM _ _ _ _).mono ?_;rintro e a ⟨rfl,b⟩;rw[u.out];obtain⟨l,z⟩:=zoS b;have k:w.heap.size+1<a.heap.size:=by have:=b.size;simp at this;omega
  have E:Below w w a:=zA zo b;go_wp2_with fail;refine(zero_any p n a.heap.size _ x s t om (by go_simp) (by go_simp) (by go_simp)).mono ?_;rintro e D ⟨rfl,h,c,o⟩;have m:w.heap.size<a.heap.size:=by omega
  have q:¬(a.heap.size=w.heap.size+1):=by omega
  have r:a.heap.size<h.heap.size:=by have:=c.size;simp at this;omega
  have y:Below w w h:=zA zo c;obtain⟨i,A⟩:=zoS c;subst o;go_wp2;all_goals (refine bodyPost_ret (v:=.tuple #[.agg #[(S08.towards p n 0),.int .i64 (min (n+1) f)],.int .i64 0]) ?_ rfl ⟨rfl,by go_grown⟩;simp[results,Tryz.results167,go_sem,i,l,m,k,r,q];omega)
 ·have g:S08.step p n 1=S08.towards p n 65535:=rfl;rw[g];clear g;go_enter Tryz.func167,Tryz.ntmps167;go_wp2_with fail;refine(zeM _ _ _ _).mono ?_;rintro e a ⟨rfl,b⟩;rw[u.out];obtain⟨l,z⟩:=zoS b;have k:w.heap.size+1<a.heap.size:=by have:=b.size;simp at this;omega
  have E:Below w w a:=zA zo b;go_wp2_with fail;refine(rise_any p n a.heap.size _ x s t om (by go_simp) (by go_simp) (by go_simp)).mono ?_;rintro e D ⟨rfl,h,c,o⟩;have m:w.heap.size<a.heap.size:=by omega
  have q:¬(a.heap.size=w.heap.size+1):=by omega
  have r:a.heap.size<h.heap.size:=by have:=c.size;simp at this;omega
  have y:Below w w h:=zA zo c;obtain⟨i,A⟩:=zoS c;subst o;go_wp2;all_goals (refine bodyPost_ret (v:=.tuple #[.agg #[(S08.towards p n 65535),.int .i64 (min (n+1) f)],.int .i64 0]) ?_ rfl ⟨rfl,by go_grown⟩;simp[results,Tryz.results167,go_sem,i,l,m,k,r,q];omega)
theorem znR(p n bit a:Int)(w:World) :
 Calls Tryz.prog 167 #[.agg #[p,n],bit,a] w fun e c=>e = .returned (S08.updateV p n bit a)∧Below w w c:=by
 by_cases b:S08.updateE p n bit a=0
 ·exact update08_ok p n bit a w b
 ·exact update08_err p n bit a w b
theorem zqB(p n bit b:Int)(w:World)(a:S08.updateE p n bit b≠0) :
 Calls Tryz.prog 82 #[.agg #[p,n],bit,b] w fun e k=>e = .returned (S08.updateV p n bit b)∧Below w w k:=by
 rw[S08.updateV_err a];by_cases g:S08.check p n b=0
 ·have d:S08.updateE p n bit b=1:=by unfold S08.updateE at a⊢;rw[zG om]at a⊢;split at a<;>simp_all
  have h:bit≠0∧bit≠1:=by unfold S08.updateE at a;rw[zG om]at a;split at a<;>simp_all
  have q:(bit != 0)=true:=by simp[h.1]
  have r:(bit != 1)=true:=by simp[h.2]
  rw[d];have l:=zC g;clear g d h a;go_enter Tryz.func82,Tryz.ntmps82;go_wp2_with fail;refine(zcL _ _ _ _).mono ?_;rintro e f ⟨rfl,c⟩;rw[l.out];obtain⟨i,m⟩:=zoS c;have j:w.heap.size+1<f.heap.size:=by have:=c.size;simp at this;omega
  have o:Below w w f:=zA zo c;go_wp2;exact bodyPost_ret (by simp[results,Tryz.results82,go_sem,i,j]) rfl ⟨rfl,by go_grown⟩
 ·have d:S08.updateE p n bit b=S08.check p n b:=by unfold S08.updateE;rw[zQ g]
  have q:(S08.check p n b != 0)=true:=by simp[g]
  rw[d];clear d a g;go_enter Tryz.func82,Tryz.ntmps82;go_wp2_with fail;refine(zcL _ _ _ _).mono ?_;rintro e f ⟨rfl,c⟩;obtain⟨i,m⟩:=zoS c;have j:w.heap.size+1<f.heap.size:=by have:=c.size;simp at this;omega
  have o:Below w w f:=zA zo c;go_wp2;exact bodyPost_ret (by simp[results,Tryz.results82,go_sem,i,j]) rfl ⟨rfl,by go_grown⟩
theorem zoL(p n c:Int)(w:World)(d:S08.check p n c=0) :
 Calls Tryz.prog 82 #[.agg #[p,n],.int .i64 0,c] w fun e b=>e = .returned (.tuple #[.agg #[(S08.towards p n 0),.int .i64 (min (n+1) c)],.int .i64 0])∧Below w w b:=by
 obtain⟨R,P,x,m,t,O⟩:=S08.check_ok d;obtain⟨k,y⟩:=zh2 (S08.towards_bounds (p:=p) (n:=n) (target:=0) x m t om om) d;clear d;go_enter Tryz.func82,Tryz.ntmps82;go_wp2_with fail;refine(zcL _ _ _ _).mono ?_;rintro e a ⟨rfl,h⟩;rw[y.out];obtain⟨r,H⟩:=zoS h;have i:w.heap.size+1<a.heap.size:=by have:=h.size;simp at this;omega
 have s:w.heap.size<a.heap.size:=by omega
 have E:Below w w a:=zA zo h;have l:a.cell? ⟨w,0,none⟩=some (.int .i64 p):=by go_simp
 have D:a.cell? ⟨w,1,none⟩=some (.int .i64 n):=by go_simp
 have N:IntKind.i64.wrap (2*n)=2*n:=IntWalk.i64_in _ om;have L:IntKind.i64.wrap (2*n+3)=2*n+3:=IntWalk.i64_in _ om;have G:IntKind.i64.wrap (n+1)=n+1:=IntWalk.i64_in _ om;have I:IntKind.i64.wrap (2*(-p))=2*(-p):=IntWalk.i64_in _ om;have J:¬(2*n+3=0):=by omega
 go_wp2;refine zbJ 16 2 _ _ (zuQ w.heap.size p n a) zk (zU 16 _).symm rfl rfl zk ⟨(zJ _ _).drew,l,D⟩ (fun Y F hY g=> ?_);simp only[ltc,ltz,ldc,ldz]at g⊢
 repeat
  apply yN by3
  ·intro M ⟨u,C,q⟩;go_simp;with_reducible rfl
  simp only[zvF]
 clear hY;refine g.out _ (fun K b j B=> ?_);clear g;obtain⟨f,C,q⟩:=B;obtain⟨z,Q⟩:=zoS f;have A:w.heap.size+1<b.heap.size:=zbA i f.size;have u:Below w w b:=zA E f;go_wp2;all_goals (refine mok j ?_;clear j)
 all_goals go_wp2
 all_goals
  refine bodyPost_ret (v:=.tuple #[.agg #[(S08.towards p n 0),.int .i64 (min (n+1) c)],.int .i64 0]) ?_ rfl ⟨rfl,by go_grown⟩;have o:wrap64 (p+(2 * -p).tdiv (2*n+3))=S08.towards p n 0:=by
   have e:p+(2 * -p).tdiv (2*n+3)=S08.towards p n 0:=by unfold S08.towards;rw[Int.zero_sub]
   rw[e];exact IntWalk.wrap64_in _ ⟨by have:=k.out;omega,by have:=k.out;omega⟩
  simp[results,Tryz.results82,go_sem,r,z,s,i,A,o];omega
theorem zqA(p n c:Int)(w:World)(d:S08.check p n c=0) :
 Calls Tryz.prog 82 #[.agg #[p,n],.int .i64 1,c] w fun e b=>e = .returned (.tuple #[.agg #[(S08.towards p n 65535),.int .i64 (min (n+1) c)],.int .i64 0])∧Below w w b:=by
 obtain⟨R,P,x,m,t,O⟩:=S08.check_ok d;obtain⟨k,y⟩:=zh2 (S08.towards_bounds (p:=p) (n:=n) (target:=65535) x m t om om) d;clear d;go_enter Tryz.func82,Tryz.ntmps82;go_wp2_with fail;refine(zcL _ _ _ _).mono ?_;rintro e a ⟨rfl,h⟩;rw[y.out];obtain⟨r,H⟩:=zoS h;have i:w.heap.size+1<a.heap.size:=by have:=h.size;simp at this;omega
 have s:w.heap.size<a.heap.size:=by omega
 have E:Below w w a:=zA zo h;have l:a.cell? ⟨w,0,none⟩=some (.int .i64 p):=by go_simp
 have D:a.cell? ⟨w,1,none⟩=some (.int .i64 n):=by go_simp
 have N:IntKind.i64.wrap (2*n)=2*n:=IntWalk.i64_in _ om;have L:IntKind.i64.wrap (2*n+3)=2*n+3:=IntWalk.i64_in _ om;have G:IntKind.i64.wrap (n+1)=n+1:=IntWalk.i64_in _ om;have I:IntKind.i64.wrap (2*(65535-p))=2*(65535-p):=IntWalk.i64_in _ om;have J:¬(2*n+3=0):=by omega
 go_wp2;refine zbJ 16 2 _ _ (zuQ w.heap.size p n a) zk (zU 16 _).symm rfl rfl zk ⟨(zJ _ _).drew,l,D⟩ (fun Y F hY g=> ?_);simp only[ltc,ltz,ldc,ldz]at g⊢
 repeat
  apply yN by3
  ·intro M ⟨u,C,q⟩;go_simp;with_reducible rfl
  simp only[zvF]
 clear hY;refine g.out _ (fun K b j B=> ?_);clear g;obtain⟨f,C,q⟩:=B;obtain⟨z,Q⟩:=zoS f;have A:w.heap.size+1<b.heap.size:=zbA i f.size;have u:Below w w b:=zA E f;go_wp2;all_goals (refine mok j ?_;clear j)
 all_goals go_wp2
 all_goals
  refine bodyPost_ret (v:=.tuple #[.agg #[(S08.towards p n 65535),.int .i64 (min (n+1) c)],.int .i64 0]) ?_ rfl ⟨rfl,by go_grown⟩;have o:wrap64 (p+2*(65535-p)/(2*n+3))=S08.towards p n 65535:=by
   have e:p+2*(65535-p)/(2*n+3)=S08.towards p n 65535:=by unfold S08.towards;rw[zaF om]
   rw[e];exact IntWalk.wrap64_in _ ⟨by have:=k.out;omega,by have:=k.out;omega⟩
  simp[results,Tryz.results82,go_sem,r,z,s,i,A,o];omega
theorem ziB(p n bit a:Int)(w:World) :
 Calls Tryz.prog 82 #[.agg #[p,n],bit,a] w fun e d=>e = .returned (S08.updateV p n bit a)∧Below w w d:=by
 by_cases b:S08.updateE p n bit a=0
 ·rw[S08.updateV_ok b];have c:S08.check p n a=0:=by unfold S08.updateE at b;split at b<;>simp_all
  have f:bit=0∨bit=1:=by
   unfold S08.updateE at b;rw[zG om]at b;split at b
   ·omega
   ·omega
  rcases f with rfl|rfl
  ·exact zoL p n a w c
  ·exact zqA p n a w c
 ·exact zqB p n bit a w b
