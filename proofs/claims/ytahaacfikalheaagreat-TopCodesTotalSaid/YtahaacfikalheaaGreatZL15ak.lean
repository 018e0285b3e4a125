/- A part of the proof of L15. No condition. -/
import Derived.Test.YtahaacfikalheaaGreatZL15ah
set_option linter.all false
set_option maxRecDepth 100000
set_option maxHeartbeats 400000
namespace Go.Proofs.YtahaacfikalheaaGreat
open Go.RowKit
namespace S08
def divs(k:Nat):Array Value:=Array.ofFn (n:=1024) fun i=>.int .i64 (if i.val<k then 2*(i.val:Int)+3 else 0)
theorem divs_size(k:Nat):(divs k).size=1024:=by unfold divs;rw[Array.size_ofFn]
theorem divs_get(k j:Nat)(h:j<1024):(divs k)[j]? = some (.int .i64 (if j<k then 2*(j:Int)+3 else 0)):=by
 unfold divs;rw[Array.getElem?_ofFn,dif_pos h]
theorem divs_set(k:Nat)(h:k<1024):(divs k).setIfInBounds k (.int .i64 (2*(k:Int)+3))=divs (k+1):=by
 refine Array.ext_getElem? fun j=> ?_;rw[Array.getElem?_setIfInBounds];by_cases hj:j<1024
 ·rw[divs_get _ j hj,divs_get _ j hj,divs_size];by_cases e:k=j
  ·subst e;rw[zO rfl,zO (by omega),zO (by omega)]
  ·rw[zG e];by_cases hl:j<k
   ·rw[zO hl,zO (by omega)]
   ·rw[zG hl,zG (by omega)]
 ·rw[yI (by rw[divs_size];omega),yI (by rw[divs_size];omega),divs_size];by_cases e:k=j
  ·omega
  ·rw[zG e]
theorem divs_cells(k:Nat):∀v∈(divs k).toList,v.oneCell'=true:=by
 intro v hv;obtain⟨j,hj⟩:=List.getElem?_of_mem hv;have hj':(divs k)[j]? = some v:=by simpa using hj
 have:j<1024:=by have:=(Array.getElem?_eq_some_iff.1 hj').1;rwa[divs_size]at this
 rw[divs_get k j this]at hj';cases hj';rfl
theorem divs_zero:divs 0=Array.replicate 1024 (.int .i64 0):=by
 refine Array.ext_getElem? fun j=> ?_;rw[Array.getElem?_replicate];by_cases hj:j<1024
 ·rw[divs_get _ j hj,zO hj,zG (by omega)]
 ·rw[yI (by rw[divs_size];omega),zG hj]
attribute [irreducible] divs
end S08
theorem divs_alloc0(w:World):(Instr.alloc 209 true (.tuple #[])).run Tryz.prog w = .ok (.pointer (some ⟨w.heap.size,0,none⟩)) (w.alloc (.cells (Array.replicate 1024 (.int .i64 0)) 209)):=by kernel_rfl
theorem divs_alloc(w:World):(Instr.alloc 209 true (.tuple #[])).run Tryz.prog w = .ok (.pointer (some ⟨w.heap.size,0,none⟩)) (w.alloc (.cells (S08.divs 0) 209)):=by rw[S08.divs_zero];exact divs_alloc0 w
theorem zqG:(Tryz.prog.info? 209).map (·.size)=some 1024:=by kernel_rfl
theorem divisors_any(w:World):Calls Tryz.prog 141 #[] w fun e w'=>e = .returned (.agg (S08.divs 1024))∧Below w.heap.size w w':=by
 go_enter Tryz.func141,Tryz.ntmps141;go_wp2_with (refine zaB 209 (S08.divs 0) divs_alloc rfl rfl ?_);go_loopw [3] (fun v wr=>∃k:Nat,k≤1024∧v = .int .i64 k∧wr.heap[w.heap.size]? = some (.cells (S08.divs 0) 209 (0,0))∧wr.heap[w.heap.size+1]? = some (.cells (S08.divs k) 209 (0,0))∧Below w.heap.size w wr) (fun v _=>1024-(intOf v).toNat)
 case atStart=>exact⟨0,by omega,rfl,heap_alloc2_old _ _ _,heap_alloc2_new _ _ _,by go_grown⟩
 case round=>
  rename_i wr _
  obtain⟨k,hk,rfl,h0,h1,hB⟩:=hrel;by_cases hlt:k<1024
  ·have hc:wr.cell? ⟨w.heap.size+1,k,none⟩=some (.int .i64 0):=by rw[cell_of_row _ _ _ _ _ _ h1,S08.divs_get k k hlt,zG (by omega)]
   have hf:wr.frozen? ⟨w.heap.size+1,k,none⟩=false:=frozen_of_row _ _ _ _ _ h1;have H0:=zB h0;have H1:=zB h1;clear h0 h1;go_wp2;go_roundw
   case rel=>exact⟨k+1,by omega,by go_num,by rw[heap_setCell_other _ _ _ _ (by simp)];exact H0.out,by rw[heap_setCell_same _ _ _ _ _ _ H1.out,S08.divs_set k hlt],hB.setCell (by simp) _⟩
   case measure=>simp[intOf];omega
  ·obtain rfl:k=1024:=by omega
   have ht:wr.there w.heap.size 0 (S08.divs 1024).size:=by
    rw[S08.divs_size];intro j hj;rw[yK,cell_of_row _ _ _ _ _ _ h0,S08.divs_get 0 j hj];exact⟨rfl,frozen_of_row _ _ _ _ _ h0⟩
   have H1:=zB h1;have Ht:=zB ht;clear h0 h1 ht;go_wp2_with (first|(refine wpList_load_row rfl 209 _ rfl (w.heap.size+1) rfl _ _ _ _ H1.out Tryz.underlying209 rfl (by rw[S08.divs_size];exact zqG) ?_)|(refine wpList_store_mid rfl 209 _ _ rfl w.heap.size 0 _ rfl rfl Ht.out (by rw[S08.divs_size];exact zqG) (Array.all_eq_true_iff_forall_mem.2 (fun v hv=>S08.divs_cells _ v (by simpa using hv))) ?_));have hr:=run_loadVar_mid (P:=Tryz.prog) (wr.setCells w.heap.size 0 (S08.divs 1024).toList) w.heap.size 0 209 (S08.divs 1024).toList _ (World.rangeAt_setCells_same wr w.heap.size 0 _ (by rw[Array.length_toList];exact Ht.out)) Tryz.underlying209 rfl (by rw[Array.length_toList,S08.divs_size];exact zqG);rw[Array.toArray_toList]at hr;refine bodyPost_ret (v:=.agg (S08.divs 1024)) ?_ rfl ⟨rfl,?_⟩
   ·simp[results,Tryz.results141,asAddr,Act.put,hr]
   ·exact hB.trans (zcW (zD _) _ _ _)
def S08.towards(p n target:Int):Int:=p+(2*(target-p)).tdiv (2*n+3)
theorem S08.divs_index(n:Int)(h0:0≤n)(h1:n≤1023)(w:World) :
 (Instr.index 209 (.agg (S08.divs 1024)) (.int .i64 n)).run Tryz.prog w = .ok (.int .i64 (2*n+3)) w:=by
 obtain⟨k,rfl⟩:=Int.eq_ofNat_of_zero_le h0;have hg:=S08.divs_get 1024 k (by omega);rw[zO (by omega)]at hg;have hlt:(k:Int)<1024:=by omega
 simp[Instr.index,run_underlying Tryz.underlying209,asIntOf,part,isAgg,run_underlying Tryz.underlying3,sizeOf,go_sem,hlt,hg];rw[zO (by omega),show Tryz.t3.size=1 from rfl,zaO,hg];rfl
theorem S08.towards_bounds{p n target:Int}(hp:0≤p)(hp':p≤65535)(hn:0≤n)(ht:0≤target)(ht':target≤65535):0≤S08.towards p n target∧S08.towards p n target≤65535:=by
 obtain⟨h1,h2⟩:=S08.tdiv_bounds (2*(target-p)) (2*n+3) (by omega);unfold S08.towards;generalize hq:(2*(target-p)).tdiv (2*n+3)=q at *;rcases Int.le_total 0 (2*(target-p))with h|h
 ·obtain⟨h3,h4⟩:=h1 h;have:q*3≤q*(2*n+3):=Int.mul_le_mul_of_nonneg_left (by omega) h3;omega
 ·obtain⟨h3,h4⟩:=h2 h;have:q*(2*n+3)≤q*3:=Int.mul_le_mul_of_nonpos_left h3 (by omega);omega
def keepsCtr(b:Nat)(p n:Int)(w0:World)(w:World):Prop:=Below w0.heap.size w0 w∧w.cell? ⟨b,0,none⟩=some (.int .i64 p)∧w.cell? ⟨b,1,none⟩=some (.int .i64 n)
theorem zoM(p n target:Int)(b:Nat)(w:World)(hp0:0≤p)(hp1:p≤65535)(hn0:0≤n)(hn1:n≤1023)(ht0:0≤target)(ht1:target≤65535)
 (hc0:w.cell? ⟨b,0,none⟩=some (.int .i64 p)) (hc1:w.cell? ⟨b,1,none⟩=some (.int .i64 n)) (hf:w.frozen? ⟨b,0,none⟩=false) :
 Calls Tryz.prog 138 #[.pointer (some ⟨b,0,none⟩),.int .i64 target] w fun e w'=>
  e = .returned (.tuple #[])∧∃w1,Below w.heap.size w w1∧w'=w1.setCell ⟨b,0,none⟩ (.int .i64 (S08.towards p n target)):=by
 go_enter Tryz.func138,Tryz.ntmps138;refine zfG 22 4 _ _ (keepsCtr b p n w) (by kernel_rfl) (yB 22 _).symm rfl rfl (by kernel_rfl) ⟨(zF _ _).drew,hc0,hc1⟩ (fun Y F hY hF=> ?_);simp only[ltc,ltz,ldc,ldz]
 repeat
  apply zbV (by rfl)
  ·intro w2 ⟨hB2,hS0,hS1⟩;go_simp;with_reducible rfl
  simp only[zuI]
 refine zgT (v:=.agg (S08.divs 1024)) (f:=141) (args:=#[]) (by rfl) ?h ?c ?r;case h=>(intro w2 _;kernel_rfl)
 case c=>
  rintro w2 ⟨hB2,hS0,hS1⟩;refine(divisors_any w2).mono ?_;rintro e w3 ⟨rfl,hB3⟩;have hlt0:=zL hS0;exact⟨rfl,hB2.trans (hB3.mono hB2.size),by rw[hB3.cell hlt0];exact hS0,by rw[hB3.cell (p:=⟨b,1,none⟩) hlt0];exact hS1⟩
 simp only[zuI];have hix:=S08.divs_index n hn0 hn1;have hd0:¬(2*n+3=0):=by omega
 repeat
  apply zbV (by rfl)
  ·intro w2 ⟨hB2,hS0,hS1⟩;go_simp;with_reducible rfl
  simp only[zuI]
 refine hF.out _ (fun K w' hK hS'=> ?_);obtain⟨hB,hS0,hS1⟩:=hS';have hf':w'.frozen? ⟨b,0,none⟩=false:=by rw[hB.frozen (p:=⟨b,0,none⟩) (zL hc0)];exact hf
 go_wp2_with fail;refine OnlyK.mk (hK.out _ _ ?_);go_returns;have hb:=S08.towards_bounds hp0 hp1 hn0 ht0 ht1;unfold S08.towards at hb⊢;exact⟨rfl,w',hB,yS (fun x=>w'.setCell ⟨b,0,none⟩ (.int .i64 x)) (IntWalk.wrap64_in _ ⟨by omega,by omega⟩)⟩
theorem zero_any(p n:Int)(b:Nat)(w:World)(hp0:0≤p)(hp1:p≤65535)(hn0:0≤n)(hn1:n≤1023)
 (hc0:w.cell? ⟨b,0,none⟩=some (.int .i64 p)) (hc1:w.cell? ⟨b,1,none⟩=some (.int .i64 n)) (hf:w.frozen? ⟨b,0,none⟩=false) :
 Calls Tryz.prog 134 #[.pointer (some ⟨b,0,none⟩)] w fun e w'=>
  e = .returned (.tuple #[])∧∃w1,Below w.heap.size w w1∧w'=w1.setCell ⟨b,0,none⟩ (.int .i64 (S08.towards p n 0)):=by
 go_enter Tryz.func134,Tryz.ntmps134;go_wp2_with (go_at_call 138;refine(zoM p n 0 b _ hp0 hp1 hn0 hn1 (by omega) (by omega) hc0 hc1 hf).mono ?_;rintro e w' ⟨rfl,hw⟩);go_returns;exact⟨rfl,hw⟩
theorem rise_any(p n:Int)(b:Nat)(w:World)(hp0:0≤p)(hp1:p≤65535)(hn0:0≤n)(hn1:n≤1023)
 (hc0:w.cell? ⟨b,0,none⟩=some (.int .i64 p)) (hc1:w.cell? ⟨b,1,none⟩=some (.int .i64 n)) (hf:w.frozen? ⟨b,0,none⟩=false) :
 Calls Tryz.prog 135 #[.pointer (some ⟨b,0,none⟩)] w fun e w'=>
  e = .returned (.tuple #[])∧∃w1,Below w.heap.size w w1∧w'=w1.setCell ⟨b,0,none⟩ (.int .i64 (S08.towards p n 65535)):=by
 go_enter Tryz.func135,Tryz.ntmps135;go_wp2_with (go_at_call 138;refine(zoM p n 65535 b _ hp0 hp1 hn0 hn1 (by omega) (by omega) hc0 hc1 hf).mono ?_;rintro e w' ⟨rfl,hw⟩);go_returns;exact⟨rfl,hw⟩
theorem update08_err(p n bit limit:Int)(w:World)(he:S08.updateE p n bit limit≠0) :
 Calls Tryz.prog 128 #[.agg #[.int .i64 p,.int .i64 n],.int .i64 bit,.int .i64 limit] w fun e w'=>e = .returned (S08.updateV p n bit limit)∧Below w.heap.size w w':=by
 rw[S08.updateV_err he];by_cases h0:S08.check p n limit=0
 ·have hu:S08.updateE p n bit limit=1:=by unfold S08.updateE at he⊢;rw[zG (by omega)]at he⊢;split at he<;>simp_all
  have hb:bit≠0∧bit≠1:=by unfold S08.updateE at he;rw[zG (by omega)]at he;split at he<;>simp_all
  have b0:(bit==0)=false:=by simp[hb.1]
  have b1:(bit==1)=false:=by simp[hb.2]
  rw[hu];have H0:=zB h0;clear h0 hu hb he;go_enter Tryz.func128,Tryz.ntmps128;go_wp2_with fail;refine(zeV _ _ _ _).mono ?_;rintro e w1 ⟨rfl,hb1⟩;rw[H0.out];obtain⟨hc1,hf1⟩:=bcell hb1;have hz1:w.heap.size+1<w1.heap.size:=by have:=hb1.size;simp at this;omega
  have hB1:Below w.heap.size w w1:=zA (by go_grown) hb1;go_wp2;exact bodyPost_ret (by simp[results,Tryz.results128,go_sem,hc1,hz1]) rfl ⟨rfl,by go_grown⟩
 ·have hu:S08.updateE p n bit limit=S08.check p n limit:=by unfold S08.updateE;rw[zO h0]
  have b0:(S08.check p n limit != 0)=true:=by simp[h0]
  rw[hu];clear hu he h0;go_enter Tryz.func128,Tryz.ntmps128;go_wp2_with fail;refine(zeV _ _ _ _).mono ?_;rintro e w1 ⟨rfl,hb1⟩;obtain⟨hc1,hf1⟩:=bcell hb1;have hz1:w.heap.size+1<w1.heap.size:=by have:=hb1.size;simp at this;omega
  have hB1:Below w.heap.size w w1:=zA (by go_grown) hb1;go_wp2;exact bodyPost_ret (by simp[results,Tryz.results128,go_sem,hc1,hz1]) rfl ⟨rfl,by go_grown⟩
theorem update08_ok(p n bit limit:Int)(w:World)(he:S08.updateE p n bit limit=0) :
 Calls Tryz.prog 128 #[.agg #[.int .i64 p,.int .i64 n],.int .i64 bit,.int .i64 limit] w fun e w'=>e = .returned (S08.updateV p n bit limit)∧Below w.heap.size w w':=by
 rw[S08.updateV_ok he];have hck:S08.check p n limit=0:=by unfold S08.updateE at he;split at he<;>simp_all
 obtain⟨hl0,hl1,hp0,hp1,hn0,hn1⟩:=S08.check_ok hck;have hbit:bit=0∨bit=1:=by
  unfold S08.updateE at he;rw[zG (by omega)]at he;split at he
  ·omega
  ·omega
 have H0:=zB hck;clear hck he;rcases hbit with rfl|rfl
 ·have hst:S08.step p n 0=S08.towards p n 0:=rfl;rw[hst];clear hst;go_enter Tryz.func128,Tryz.ntmps128;go_wp2_with fail;refine(zeV _ _ _ _).mono ?_;rintro e w1 ⟨rfl,hb1⟩;rw[H0.out];obtain⟨hc1,hf1⟩:=bcell hb1;have hz1:w.heap.size+1<w1.heap.size:=by have:=hb1.size;simp at this;omega
  have hB1:Below w.heap.size w w1:=zA (by go_grown) hb1;go_wp2_with fail;refine(zero_any p n w1.heap.size _ hp0 hp1 hn0 (by omega) (by go_simp) (by go_simp) (by go_simp)).mono ?_;rintro e w2 ⟨rfl,w3,hb3,hw2⟩;have hz0:w.heap.size<w1.heap.size:=by omega
  have hne:¬(w1.heap.size=w.heap.size+1):=by omega
  have hz3:w1.heap.size<w3.heap.size:=by have:=hb3.size;simp at this;omega
  have hB3:Below w.heap.size w w3:=zA (by go_grown) hb3;obtain⟨hc3,hf3⟩:=bcell hb3;subst hw2;go_wp2;all_goals (refine bodyPost_ret (v:=.tuple #[.agg #[.int .i64 (S08.towards p n 0),.int .i64 (min (n+1) limit)],.int .i64 0]) ?_ rfl ⟨rfl,by go_grown⟩;simp[results,Tryz.results128,go_sem,hc3,hc1,hz0,hz1,hz3,hne];omega)
 ·have hst:S08.step p n 1=S08.towards p n 65535:=rfl;rw[hst];clear hst;go_enter Tryz.func128,Tryz.ntmps128;go_wp2_with fail;refine(zeV _ _ _ _).mono ?_;rintro e w1 ⟨rfl,hb1⟩;rw[H0.out];obtain⟨hc1,hf1⟩:=bcell hb1;have hz1:w.heap.size+1<w1.heap.size:=by have:=hb1.size;simp at this;omega
  have hB1:Below w.heap.size w w1:=zA (by go_grown) hb1;go_wp2_with fail;refine(rise_any p n w1.heap.size _ hp0 hp1 hn0 (by omega) (by go_simp) (by go_simp) (by go_simp)).mono ?_;rintro e w2 ⟨rfl,w3,hb3,hw2⟩;have hz0:w.heap.size<w1.heap.size:=by omega
  have hne:¬(w1.heap.size=w.heap.size+1):=by omega
  have hz3:w1.heap.size<w3.heap.size:=by have:=hb3.size;simp at this;omega
  have hB3:Below w.heap.size w w3:=zA (by go_grown) hb3;obtain⟨hc3,hf3⟩:=bcell hb3;subst hw2;go_wp2;all_goals (refine bodyPost_ret (v:=.tuple #[.agg #[.int .i64 (S08.towards p n 65535),.int .i64 (min (n+1) limit)],.int .i64 0]) ?_ rfl ⟨rfl,by go_grown⟩;simp[results,Tryz.results128,go_sem,hc3,hc1,hz0,hz1,hz3,hne];omega)
theorem znC(p n bit limit:Int)(w:World) :
 Calls Tryz.prog 128 #[.agg #[.int .i64 p,.int .i64 n],.int .i64 bit,.int .i64 limit] w fun e w'=>e = .returned (S08.updateV p n bit limit)∧Below w.heap.size w w':=by
 by_cases he:S08.updateE p n bit limit=0
 ·exact update08_ok p n bit limit w he
 ·exact update08_err p n bit limit w he
