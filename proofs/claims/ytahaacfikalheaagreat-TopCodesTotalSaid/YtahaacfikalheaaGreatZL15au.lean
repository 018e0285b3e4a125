/- A part of the proof of L15. No condition. -/
import Derived.BigQuiet
import Derived.Deep.QuietTactic
import Derived.Lib.MinMax
import Derived.Test.YtahaacfikalheaaGreatZL15ag
import Derived.Test.YtahaacfikalheaaGreatZL15ai
import Derived.Test.YtahaacfikalheaaGreatZL15ap
set_option linter.all false
set_option maxRecDepth 100000
set_option maxHeartbeats 2000000
namespace Go.Proofs.YtahaacfikalheaaGreat
open Go.RowKit
theorem S09.found_bounds{s:Int}(h:S09.found s=true):0≤s∧s<215:=zaV h
theorem S09.h_bounds(s:Int):0≤S09.hz s∧S09.hz s≤30∧0≤S09.ho s∧S09.ho s≤30∧0≤S09.hl s∧S09.hl s≤1:=by
 cases h:S09.found s with
 | false=>simp[S09.hz,S09.ho,S09.hl,h]
 | true=>
   obtain⟨h0,h1⟩:=S09.found_bounds h;obtain⟨n,rfl⟩:=Int.eq_ofNat_of_zero_le h0;have:=S09.allStates_spec S09.state_place (s:=n) (by omega);simp only[zS,zY]at this;simp only[S09.hz,S09.ho,S09.hl,h,if_true,Int.toNat_natCast];omega
theorem zrD(s:Int)(w:World) :
 Calls Tryz.prog 66 #[.int .i64 s] w fun e w'=>e = .returned (.int .i64 (if S09.found s then S09.hz s+S09.ho s else -1))∧Below w.heap.size w w':=by
 have hL:=zB fun W=>zsF s W;obtain⟨b1,b2,b3,b4,b5,b6⟩:=S09.h_bounds s;cases hf:S09.found s with
 | false=>
   rw[hf]at hL;clear hf;go_enter Tryz.func66,Tryz.ntmps66;go_wp2_with fail;refine(hL.out _).mono ?_;rintro e w1 ⟨rfl,hb1⟩;have hB1:Below w.heap.size w w1:=zA (by go_grown) hb1;have z1:w.heap.size≤w1.heap.size:=hB1.size;go_wp2;go_returns;exact⟨rfl,by go_grown⟩
 | true=>
   rw[hf]at hL;clear hf;generalize S09.hz s=z at *;generalize S09.ho s=o at *;generalize S09.hl s=l at *;go_enter Tryz.func66,Tryz.ntmps66;go_wp2_with fail;refine(hL.out _).mono ?_;rintro e w1 ⟨rfl,hb1⟩;have hB1:Below w.heap.size w w1:=zA (by go_grown) hb1;have z1:w.heap.size≤w1.heap.size:=hB1.size;go_wp2;go_returns;exact⟨rfl,by go_grown⟩
theorem S09.fade_bounds{n:Int}(h:0≤n)(h':n≤30):0≤S09.fade n∧S09.fade n≤30:=by
 unfold S09.fade;split
 ·have e:(n-2).tdiv 3=(n-2)/3:=zgM (by omega);rw[e];omega
 ·omega
theorem S09.bound_ge(a other:Int)(h : -1≤other) : -1≤S09.bound a other:=by
 unfold S09.bound
 (repeat' split)<;>omega
theorem next09_step0(s z o l:Int)(w:World)(b1:0≤z)(b2:z≤30)(b3:0≤o)(b4:o≤30)
 (hL:∀W,Calls Tryz.prog 78 #[.int .i64 s] W fun e w'=>e = .returned (.tuple #[S09.hist z o l,.bool true])∧Below W.heap.size W w') (hnx:S09.is (S09.z2 z o 0) (S09.o2 z o 0) 0=true) :
 Calls Tryz.prog 150 #[.int .i64 s,.int .i64 0] w fun e w'=>e = .returned (.tuple #[.int .i64 (S09.idx (S09.z2 z o 0) (S09.o2 z o 0) 0),.int .i64 0])∧Below w.heap.size w w':=by
 have HL:=zB hL;have Hnx:=zB hnx;have hfb:=S09.fade_bounds b3 b4;clear hL hnx;obtain⟨fo,hfo⟩:∃fo,fo=S09.fade o:=⟨_,rfl⟩;rw[←hfo]at hfb;obtain⟨lim,hlim⟩:∃lim,lim=S09.bound (min (z+1) fo) (-1):=⟨_,rfl⟩;have hlb : -1≤lim:=by rw[hlim];exact S09.bound_ge _ _ (by omega)
 have e1:S09.z2 z o 0=min (z+1) lim:=by rw[hlim,hfo];rfl
 have e2:S09.o2 z o 0=min fo lim:=by rw[hlim,hfo];rfl
 rw[e1,e2]at Hnx⊢;have hbd:=S09.is_place Hnx.out;have Hlim:=zB hlim;have Hfo:=zB hfo;have hr1:0≤min (z+1) lim:=by obtain⟨t',o',l',k1,k2,k3,k4,k5,_⟩:=hbd;omega
 have hr2:min (z+1) lim≤100:=by omega
 have hr3:0≤min fo lim:=by obtain⟨t',o',l',k1,k2,k3,k4,k5,_⟩:=hbd;omega
 have hr4:min fo lim≤100:=by omega
 clear hbd hlim hfo e1 e2;have HR:=zB fun W=>zrW (min (z+1) lim) (min fo lim) 0 W hr1 hr2 hr3 hr4;rw[Hnx.out]at HR;have HF:=zB fun W=>zsK o W b3 (by omega);rw[←Hfo.out]at HF;have HBo:=zB fun W=>zfZ (min (z+1) fo) W;rw[←Hlim.out]at HBo;go_enter Tryz.func150,Tryz.ntmps150;go_wp2_with fail;refine(HL.out _).mono ?_;rintro e w1 ⟨rfl,hb1⟩;have hB1:Below w.heap.size w w1:=zA (by go_grown) hb1;have z1:w.heap.size≤w1.heap.size:=hB1.size;go_wp2;have hblk:=zB (Blk.new w1 (zcY z o l) 156);refine zjT 7 3 _ _ (Keeps (w1.alloc (Obj.cells #[.int .i64 z,.int .i64 o,.int .i64 l] 156)) [(⟨w1.heap.size,0,none⟩,.int .i64 z),(⟨w1.heap.size,1,none⟩,.int .i64 o)]) [] (by kernel_rfl) (yB 7 _).symm rfl rfl (by kernel_rfl) (Keeps.start (by simp only[Cells];refine⟨?_,?_,yF⟩<;>go_simp)) (fun Y F hY hF=> ?_);simp only[ltc,ltz,ldc,ldz]
 repeat
  first
   | (apply zgV (by rfl) (by rw[hY];rfl)
      ·intro w2 ⟨hB2,hk2⟩;simp only[Cells]at hk2;go_simp;with_reducible rfl
      simp only[zuI])
   | (apply zgW (by rfl) (by rw[hY];rfl)
      ·intro w2;go_simp;with_reducible rfl
      simp only[zuI])
 apply zrO (by rfl) (by rw[hY];rfl)
 ·intro w2 ⟨hB2,hk2⟩;simp only[Cells]at hk2;go_simp;with_reducible exact⟨rfl,rfl⟩
 ·intro w2 hS2;have hk2:=hS2.2;simp only[Cells]at hk2;refine(HF.out _).mono ?_;rintro e w3 ⟨rfl,hb3⟩;exact⟨rfl,hS2.step hb3⟩
 simp only[zuI]
 repeat
  first
   | (apply zgV (by rfl) (by rw[hY];rfl)
      ·intro w2 ⟨hB2,hk2⟩;simp only[Cells]at hk2;go_simp;with_reducible rfl
      simp only[zuI])
   | (apply zgW (by rfl) (by rw[hY];rfl)
      ·intro w2;go_simp;with_reducible rfl
      simp only[zuI])
 refine hF.out _ (fun K w2 hK hS2=> ?_);clear hF hY;have hB2:Below w.heap.size w w2:=zA (by go_grown) hS2.1;have hblk2:=hblk.out.step hS2.1;clear hS2;have c0:=hblk2.cell 0;have c1:=hblk2.cell 1;have c2:=hblk2.cell 2;have f0:=hblk2.free 0;have f1:=hblk2.free 1;have f2:=hblk2.free 2;have l2:=hblk2.lt;simp only[zcY,lgz,lgs]at c0 c1 c2;go_wp2_with fail;refine OnlyK.mk (hK.out _ _ ?_);have hblk3:=zB ((hblk2.set 0 (.int .i64 (z+1))).set 1 (.int .i64 fo));have g0:=(hblk2.set 0 (.int .i64 (z+1))).cell 0;have g1:=((hblk2.set 0 (.int .i64 (z+1))).set 1 (.int .i64 fo)).cell 1;simp only[zcY,sC0,sCs,lgz,lgs]at g0 g1;have zb:w.heap.size≤w1.heap.size:=hB1.size;go_wp2_with fail;refine(HBo.out _).mono ?_;rintro e w3 ⟨rfl,hb3⟩;have hB3:Below w.heap.size w w3:=zA (by go_grown) hb3;have hblk4:=hblk3.out.step hb3;clear g0 g1 c0 c1 c2 f0 f1 f2 l2 hblk2 hblk3 hb3;simp only[zcY,sC0,sCs]at hblk4;have c0:=hblk4.cell 0;have c1:=hblk4.cell 1;have c2:=hblk4.cell 2;have f0:=hblk4.free 0;have f1:=hblk4.free 1;have f2:=hblk4.free 2;have l2:=hblk4.lt;simp only[zuK]at c0 c1 c2;have g0:=(hblk4.set 0 (.int .i64 (min (z+1) lim))).cell 0;have g1:=((hblk4.set 0 (.int .i64 (min (z+1) lim))).set 1 (.int .i64 (min fo lim))).cell 1;have g2:=(((hblk4.set 0 (.int .i64 (min (z+1) lim))).set 1 (.int .i64 (min fo lim))).set 2 (.int .i64 0)).cell 2;simp only[sC0,sCs,lgz,lgs]at g0 g1 g2;have Hb4:=zB hblk4;clear hblk4;go_wp2_with fail;refine(HR.out _).mono ?_;rintro e w4 ⟨rfl,hb4⟩;have hB4:Below w.heap.size w w4:=zA (by go_grown) hb4;go_wp2;go_returns;exact⟨rfl,hB4⟩
theorem next09_step1(s z o l:Int)(w:World)(b1:0≤z)(b2:z≤30)(b3:0≤o)(b4:o≤30)
 (hL:∀W,Calls Tryz.prog 78 #[.int .i64 s] W fun e w'=>e = .returned (.tuple #[S09.hist z o l,.bool true])∧Below W.heap.size W w') (hnx:S09.is (S09.z2 z o 1) (S09.o2 z o 1) 1=true) :
 Calls Tryz.prog 150 #[.int .i64 s,.int .i64 1] w fun e w'=>e = .returned (.tuple #[.int .i64 (S09.idx (S09.z2 z o 1) (S09.o2 z o 1) 1),.int .i64 0])∧Below w.heap.size w w':=by
 have HL:=zB hL;have Hnx:=zB hnx;have hfb:=S09.fade_bounds b1 b2;clear hL hnx;obtain⟨fz,hfz⟩:∃fz,fz=S09.fade z:=⟨_,rfl⟩;rw[←hfz]at hfb;obtain⟨lim,hlim⟩:∃lim,lim=S09.bound (min fz (o+1)) (-1):=⟨_,rfl⟩;have hlb : -1≤lim:=by rw[hlim];exact S09.bound_ge _ _ (by omega)
 have e1:S09.z2 z o 1=min fz lim:=by rw[hlim,hfz];rfl
 have e2:S09.o2 z o 1=min (o+1) lim:=by rw[hlim,hfz];rfl
 rw[e1,e2]at Hnx⊢;have hbd:=S09.is_place Hnx.out;have Hlim:=zB hlim;have Hfz:=zB hfz;have hr1:0≤min fz lim:=by obtain⟨t',o',l',k1,k2,k3,k4,k5,_⟩:=hbd;omega
 have hr2:min fz lim≤100:=by omega
 have hr3:0≤min (o+1) lim:=by obtain⟨t',o',l',k1,k2,k3,k4,k5,_⟩:=hbd;omega
 have hr4:min (o+1) lim≤100:=by omega
 clear hbd hlim hfz e1 e2;have HR:=zB fun W=>zrW (min fz lim) (min (o+1) lim) 1 W hr1 hr2 hr3 hr4;rw[Hnx.out]at HR;have HF:=zB fun W=>zsK z W b1 (by omega);rw[←Hfz.out]at HF;have HBo:=zB fun W=>zfZ (min fz (o+1)) W;rw[←Hlim.out]at HBo;go_enter Tryz.func150,Tryz.ntmps150;go_wp2_with fail;refine(HL.out _).mono ?_;rintro e w1 ⟨rfl,hb1⟩;have hB1:Below w.heap.size w w1:=zA (by go_grown) hb1;have z1:w.heap.size≤w1.heap.size:=hB1.size;go_wp2;have hblk:=zB (Blk.new w1 (zcY z o l) 156);refine zjT 7 3 _ _ (Keeps (w1.alloc (Obj.cells #[.int .i64 z,.int .i64 o,.int .i64 l] 156)) [(⟨w1.heap.size,0,none⟩,.int .i64 z),(⟨w1.heap.size,1,none⟩,.int .i64 o)]) [5] (by kernel_rfl) (yB 7 _).symm rfl rfl (by kernel_rfl) (Keeps.start (by simp only[Cells];refine⟨?_,?_,yF⟩<;>go_simp)) (fun Y F hY hF=> ?_);simp only[ltc,ltz,ldc,ldz]
 repeat
  first
   | (apply zgV (by rfl) (by rw[hY];rfl)
      ·intro w2 ⟨hB2,hk2⟩;simp only[Cells]at hk2;go_simp;with_reducible rfl
      simp only[zuI])
   | (apply zgW (by rfl) (by rw[hY];rfl)
      ·intro w2;go_simp;with_reducible rfl
      simp only[zuI])
 apply zrO (by rfl) (by rw[hY];rfl)
 ·intro w2 ⟨hB2,hk2⟩;simp only[Cells]at hk2;go_simp;with_reducible exact⟨rfl,rfl⟩
 ·intro w2 hS2;have hk2:=hS2.2;simp only[Cells]at hk2;refine(HF.out _).mono ?_;rintro e w3 ⟨rfl,hb3⟩;exact⟨rfl,hS2.step hb3⟩
 simp only[zuI]
 repeat
  first
   | (apply zgV (by rfl) (by rw[hY];rfl)
      ·intro w2 ⟨hB2,hk2⟩;simp only[Cells]at hk2;go_simp;with_reducible rfl
      simp only[zuI])
   | (apply zgW (by rfl) (by rw[hY];rfl)
      ·intro w2;go_simp;with_reducible rfl
      simp only[zuI])
 refine hF.out _ (fun K w2 hK hS2=> ?_);clear hF hY;have hB2:Below w.heap.size w w2:=zA (by go_grown) hS2.1;have hblk2:=hblk.out.step hS2.1;clear hS2;have c0:=hblk2.cell 0;have c1:=hblk2.cell 1;have c2:=hblk2.cell 2;have f0:=hblk2.free 0;have f1:=hblk2.free 1;have f2:=hblk2.free 2;have l2:=hblk2.lt;simp only[zcY,lgz,lgs]at c0 c1 c2;go_wp2_with fail;refine OnlyK.mk (hK.out _ _ ?_);have hblk3:=zB ((hblk2.set 0 (.int .i64 fz)).set 1 (.int .i64 (o+1)));have g0:=(hblk2.set 0 (.int .i64 fz)).cell 0;have g1:=((hblk2.set 0 (.int .i64 fz)).set 1 (.int .i64 (o+1))).cell 1;simp only[zcY,sC0,sCs,lgz,lgs]at g0 g1;have zb:w.heap.size≤w1.heap.size:=hB1.size;go_wp2_with fail;refine(HBo.out _).mono ?_;rintro e w3 ⟨rfl,hb3⟩;have hB3:Below w.heap.size w w3:=zA (by go_grown) hb3;have hblk4:=hblk3.out.step hb3;clear g0 g1 c0 c1 c2 f0 f1 f2 l2 hblk2 hblk3 hb3;simp only[zcY,sC0,sCs]at hblk4;have c0:=hblk4.cell 0;have c1:=hblk4.cell 1;have c2:=hblk4.cell 2;have f0:=hblk4.free 0;have f1:=hblk4.free 1;have f2:=hblk4.free 2;have l2:=hblk4.lt;simp only[zuK]at c0 c1 c2;have g0:=(hblk4.set 0 (.int .i64 (min fz lim))).cell 0;have g1:=((hblk4.set 0 (.int .i64 (min fz lim))).set 1 (.int .i64 (min (o+1) lim))).cell 1;have g2:=(((hblk4.set 0 (.int .i64 (min fz lim))).set 1 (.int .i64 (min (o+1) lim))).set 2 (.int .i64 1)).cell 2;simp only[sC0,sCs,lgz,lgs]at g0 g1 g2;have Hb4:=zB hblk4;clear hblk4;go_wp2_with fail;refine(HR.out _).mono ?_;rintro e w4 ⟨rfl,hb4⟩;have hB4:Below w.heap.size w w4:=zA (by go_grown) hb4;go_wp2;go_returns;exact⟨rfl,hB4⟩
theorem S09.next_ok{s:Int}(hf:S09.found s=true):S09.is (S09.z2 (S09.hz s) (S09.ho s) 0) (S09.o2 (S09.hz s) (S09.ho s) 0) 0=true∧S09.is (S09.z2 (S09.hz s) (S09.ho s) 1) (S09.o2 (S09.hz s) (S09.ho s) 1) 1=true:=by
 obtain⟨h0,h1⟩:=S09.found_bounds hf;obtain⟨n,rfl⟩:=Int.eq_ofNat_of_zero_le h0;exact⟨S09.allStates_spec S09.next_is0 (s:=n) (by omega),S09.allStates_spec S09.next_is1 (s:=n) (by omega)⟩
def S09.nextS(s b:Int):Int:=if S09.found s then(if b=0∨b=1 then S09.next s b else 0)else 0
def S09.nextE(s b:Int):Int:=if S09.found s then(if b=0∨b=1 then 0 else 1)else 2
theorem next09_any(s b:Int)(w:World) :
 Calls Tryz.prog 150 #[.int .i64 s,.int .i64 b] w fun e w'=>e = .returned (.tuple #[.int .i64 (S09.nextS s b),.int .i64 (S09.nextE s b)])∧Below w.heap.size w w':=by
 obtain⟨b1,b2,b3,b4,b5,b6⟩:=S09.h_bounds s;have hL:=zB fun W=>zsF s W;cases hf:S09.found s with
 | false=>
   have e1:S09.nextS s b=0:=by simp[S09.nextS,hf]
   have e2:S09.nextE s b=2:=by simp[S09.nextE,hf]
   rw[hf]at hL;rw[e1,e2];clear e1 e2 hf;go_enter Tryz.func150,Tryz.ntmps150;go_wp2_with fail;refine(hL.out _).mono ?_;rintro e w1 ⟨rfl,hb1⟩;have hB1:Below w.heap.size w w1:=zA (by go_grown) hb1;have z1:w.heap.size≤w1.heap.size:=hB1.size;go_wp2;all_goals go_returns
   all_goals exact⟨rfl,by go_grown⟩
 | true=>
   have hn:=S09.next_ok hf;rw[hf]at hL;by_cases h0:b=0
   ·subst h0;have e1:S09.nextS s 0=S09.idx (S09.z2 (S09.hz s) (S09.ho s) 0) (S09.o2 (S09.hz s) (S09.ho s) 0) 0:=by simp[S09.nextS,hf,S09.next]
    have e2:S09.nextE s 0=0:=by simp[S09.nextE,hf]
    rw[e1,e2];exact next09_step0 s _ _ _ w b1 b2 b3 b4 hL.out hn.1
   ·by_cases h1:b=1
    ·subst h1;have e1:S09.nextS s 1=S09.idx (S09.z2 (S09.hz s) (S09.ho s) 1) (S09.o2 (S09.hz s) (S09.ho s) 1) 1:=by simp[S09.nextS,hf,S09.next]
     have e2:S09.nextE s 1=0:=by simp[S09.nextE,hf]
     rw[e1,e2];exact next09_step1 s _ _ _ w b1 b2 b3 b4 hL.out hn.2
    ·have e1:S09.nextS s b=0:=by simp[S09.nextS,h0,h1]
     have e2:S09.nextE s b=1:=by simp[S09.nextE,hf,h0,h1]
     rw[e1,e2];clear e1 e2 hn hf;have q0:((b:Int) != 0)=true:=by simpa using h0
     have q1:((b:Int) != 1)=true:=by simpa using h1
     go_enter Tryz.func150,Tryz.ntmps150;go_wp2_with fail;refine(hL.out _).mono ?_;rintro e w1 ⟨rfl,hb1⟩;have hB1:Below w.heap.size w w1:=zA (by go_grown) hb1;have z1:w.heap.size≤w1.heap.size:=hB1.size;go_wp2;all_goals go_returns
     all_goals exact⟨rfl,by go_grown⟩
