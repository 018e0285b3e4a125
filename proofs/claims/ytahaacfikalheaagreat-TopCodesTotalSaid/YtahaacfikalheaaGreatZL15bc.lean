/- A part of the proof of L15. No condition. -/
import Derived.StillTailTactics
import Derived.Test.YtahaacfikalheaaGreatZL15ay
set_option linter.all false
set_option maxRecDepth 100000
set_option maxHeartbeats 1000000
namespace Go.Proofs.YtahaacfikalheaaGreat
open Go.RowKit
theorem visit13_any(F:FuncId)(caps:Array Value)(hF:∀a b c w,(callFunc F (#[a,b,c]++caps)).run Tryz.prog w = .ok (.enter F (#[a,b,c]++caps)) w)(n:Nat)(gw ow cw gx ox cx:Nat)(wt xt:Nat→Int)
 (I:Nat→World→Prop) (hs:∀k w w',I k w→Below w.heap.size w w'→I k w')
 (hr:∀k w,k<n→I k w→w.cell? ⟨gw,ow+k,none⟩=some (.int .i64 (wt k))∧w.cell? ⟨gx,ox+k,none⟩=some (.int .i64 (xt k)))
 (hv:∀k w,k<n→I k w→Calls Tryz.prog F (#[.int .i64 k,.int .i64 (wt k),.int .i64 (xt k)]++caps) w fun e w'=>e = .returned (.tuple #[])∧I (k+1) w'∧∀b cs,Blk w b cs 255→Blk w' b cs 255)
 (w:World) (h63:n≤9223372036854775807) (h0:I 0 w) :
 Calls Tryz.prog 211 #[.agg #[.func (.func F) #[] caps],.slice (some ⟨gw,ow,none⟩) n cw,.slice (some ⟨gx,ox,none⟩) n cx] w fun e w'=>e = .returned (.tuple #[])∧I n w':=by
 have HV:=zB hv;have HR:=zB hr;have HS:=zB hs;have H0:=zB h0;clear hv hr hs h0;go_enter Tryz.func211,Tryz.ntmps211;go_wp2;have hb0:=Blk.new w [.func (.func F) #[] caps] 255;have H1:=zB (HS.out 0 w _ H0.out ((zF _ _).alloc (zD _) (Obj.cells #[.func (.func F) #[] caps] 255)));go_loopw [9] (fun i wr=>∃k:Nat,k≤n∧i = .int .i64 k∧I k wr∧Blk wr w.heap.size [.func (.func F) #[] caps] 255) (fun i _=>n-(intOf i).toNat)
 case atStart=>exact⟨0,by omega,rfl,H1.out,hb0⟩
 case round=>
  obtain⟨k,hk,rfl,hI,hbk⟩:=hrel;have hbl:=hbk.lt;have hc:=hbk.cell 0;simp only[lgz]at hc;have Hbk:=zB hbk;clear hbk;have HI:=zB hI;clear hI;by_cases hlt:k<n
  ·have hlt2:(k:Int)<n:=by omega
   have hq1:=(HR.out k wr hlt HI.out).1;have hq2:=(HR.out k wr hlt HI.out).2;go_wp2
   go_still_tail 11,(by kernel_rfl)
   have HID:=zB (HS.out k wr wr.drew HI.out (zF _ _).drew);have HFn:=zB (hF (.int .i64 k) (.int .i64 (wt k)) (.int .i64 (xt k)));go_wp2_with fail;refine(HV.out k _ hlt HID.out).mono ?_;rintro e w2 ⟨rfl,hI2,hb2⟩;have HI2:=zB hI2;have HB2:=zB (hb2 _ _ Hbk.out.drew);clear hI2 hb2;go_wp2;go_roundw
   case rel=>exact⟨k+1,by omega,by go_num,HI2.out,HB2.out⟩
   case measure=>simp[intOf];omega
  ·obtain rfl:k=n:=by omega
   go_wp2;go_returns;exact⟨rfl,HI.out⟩
def S13.mix(ws xs:List Int):Int:=S06.clip (S06.round (S13.sum ws xs) 65536)
def S13.fits(ws xs:List Int):Prop:=ws.length=xs.length∧xs.length≤16∧(∀x∈ws,-1048576≤x∧x≤1048576)∧∀x∈xs,-3071≤x∧x≤3071
theorem S13.sum_snoc:∀(ws xs:List Int) (u v:Int),ws.length=xs.length→S13.sum (ws ++ [u]) (xs ++ [v])=S13.sum ws xs+u*v
 | [],[],u,v,_=>by simp[S13.sum]
 | a::ws,b::xs,u,v,h=>by
   simp only[lca,S13.sum];rw[S13.sum_snoc ws xs u v (by simpa using h)];omega
theorem S13.getD_take(xs:List Int){k:Nat}(h:k<xs.length):xs.take (k+1)=xs.take k ++ [xs.getD k 0]:=by
 rw[List.take_succ_eq_append_getElem h,zI,zE h];rfl
theorem S13.sum_take{ws xs:List Int}(hl:ws.length=xs.length){k:Nat}(h:k<xs.length) :
 S13.sum (ws.take (k+1)) (xs.take (k+1))=S13.sum (ws.take k) (xs.take k)+ws.getD k 0*xs.getD k 0:=by
 rw[S13.getD_take xs h,S13.getD_take ws (by omega)];exact S13.sum_snoc _ _ _ _ (by simp;omega)
theorem S13.getD_mem{P:Int→Prop}{xs:List Int}(h:∀x∈xs,P x){k:Nat}(hk:k<xs.length):P (xs.getD k 0):=by
 rw[zI,zE hk];exact h _ (zbC hk)
theorem S13.mul_abs{a b A B:Int}(h1 : -A≤a)(h2:a≤A)(h3 : -B≤b)(h4:b≤B) : -(A*B)≤a*b∧a*b≤A*B:=by
 have hA:0≤A:=by omega
 have hB:0≤B:=by omega
 rcases Int.le_total 0 a with ha|ha<;>rcases Int.le_total 0 b with hb|hb
 ·have:=Int.mul_le_mul h2 h4 hb hA;have:=Int.mul_nonneg ha hb;have:=Int.mul_nonneg hA hB;omega
 ·have:=Int.mul_le_mul h2 (show -b≤B by omega) (by omega) hA;have h5:=Int.mul_nonneg ha (show 0≤ -b by omega);rw[Int.mul_neg]at *;have:=Int.mul_nonneg hA hB;omega
 ·have:=Int.mul_le_mul (show -a≤A by omega) h4 hb hA;have h5:=Int.mul_nonneg (show 0≤ -a by omega) hb;rw[Int.neg_mul]at *;have:=Int.mul_nonneg hA hB;omega
 ·have:=Int.mul_le_mul (show -a≤A by omega) (show -b≤B by omega) (by omega) hA;have h5:=Int.mul_nonneg (show 0≤ -a by omega) (show 0≤ -b by omega);rw[Int.neg_mul_neg]at *;have:=Int.mul_nonneg hA hB;omega
theorem S13.term{ws xs:List Int}(h:S13.fits ws xs){k:Nat}(hk:k<xs.length) : -3220176896≤ws.getD k 0*xs.getD k 0∧ws.getD k 0*xs.getD k 0≤3220176896:=by
 obtain⟨h1,h2,h3,h4⟩:=h;have a:=S13.getD_mem (P:=fun x=> -1048576≤x∧x≤1048576) h3 (k:=k) (by omega);have b:=S13.getD_mem (P:=fun x=> -3071≤x∧x≤3071) h4 hk;exact S13.mul_abs (A:=1048576) (B:=3071) a.1 a.2 b.1 b.2
theorem S13.sum_bounds{ws xs:List Int}(h:S13.fits ws xs):∀k:Nat,k≤xs.length→ -3220176896*(k:Int)≤S13.sum (ws.take k) (xs.take k)∧S13.sum (ws.take k) (xs.take k)≤3220176896*(k:Int)
 | 0,_=>by simp[S13.sum]
 | k+1,hk=>by
   have ih:=S13.sum_bounds h k (by omega);have t:=S13.term h (k:=k) (by omega);rw[S13.sum_take h.1 (by omega)];omega
theorem step13_any(i wt xt s:Int)(b:Nat)(w:World)(hb:Blk w b [.int .i64 s] 3)(h1 : -9000000000000≤wt*xt)(h2:wt*xt≤9000000000000)(h3 : -9000000000000≤s)(h4:s≤9000000000000) :
 Calls Tryz.prog 214 #[.int .i64 i,.int .i64 wt,.int .i64 xt,.pointer (some ⟨b,0,none⟩)] w fun e w'=>e = .returned (.tuple #[])∧w'=w.setCell ⟨b,0,none⟩ (.int .i64 (s+wt*xt)):=by
 have w1':IntKind.i64.wrap (wt*xt)=wt*xt:=IntWalk.i64_in _ (by omega);have w2':IntKind.i64.wrap (s+wt*xt)=s+wt*xt:=IntWalk.i64_in _ (by omega);have c0:=hb.cell 0;have f0:=hb.free 0;simp only[lgz]at c0;go_enter Tryz.func214,Tryz.ntmps214;go_wp2;go_returns;exact⟨rfl,rfl⟩
theorem enterMix(a b c p:Value)(w:World):(callFunc 214 #[a,b,c,p]).run Tryz.prog w = .ok (.enter 214 #[a,b,c,p]) w:=by kernel_rfl
theorem mix13_any(ws xs:List Int)(aw ax:Option Addr)(cw cx:Nat)(w:World)(hf:S13.fits ws xs)(hne:1≤xs.length)(hrw:Rd w aw (zaK ws))(hrx:Rd w ax (zaK xs)) :
 Calls Tryz.prog 209 #[.slice aw xs.length cw,.slice ax xs.length cx] w fun e w'=>e = .returned (.int .i64 (S13.mix ws xs))∧Below w.heap.size w w':=by
 obtain⟨gw,ow,rfl,hcw⟩:=hrw.at (i:=0) (by rw[yM,hf.1];omega);obtain⟨gx,ox,rfl,hcx⟩:=hrx.at (i:=0) (by rw[yM];omega);have hl:=hf.1;have hl2:=hf.2.1;have hsb:=S13.sum_bounds hf;have cells:∀k W,k<xs.length→Below w.heap.size w W→W.cell? ⟨gw,ow+k,none⟩=some (.int .i64 (ws.getD k 0))∧W.cell? ⟨gx,ox+k,none⟩=some (.int .i64 (xs.getD k 0)):=by
  intro k W hk hB;have e1:=hcw k (by rw[yM];omega);have e2:=hcx k (by rw[yM];omega);rw[(hB.cell (zL e1)).trans e1,(hB.cell (zL e2)).trans e2];simp[zaK,zI,zE hk,zE (show k<ws.length by omega)]
 have HV:=zB fun W h0=>visit13_any 214 #[.pointer (some ⟨w.heap.size,0,none⟩)] (fun a b c W=>enterMix a b c _ W) xs.length gw ow cw gx ox cx (fun k=>ws.getD k 0) (fun k=>xs.getD k 0)
  (fun k W=>Blk W w.heap.size [.int .i64 (S13.sum (ws.take k) (xs.take k))] 3∧Below w.heap.size w W) (fun k W W' h hb=>⟨h.1.step hb,zA h.2 hb⟩) (fun k W hk h=>cells k W hk h.2)
  (fun k W hk h=>by
    have t:=S13.term hf hk;have s:=hsb k (by omega);have e:=S13.sum_take hl hk;refine(step13_any k (ws.getD k 0) (xs.getD k 0) (S13.sum (ws.take k) (xs.take k)) w.heap.size W h.1 (by omega) (by omega) (by omega) (by omega)).mono ?_;rintro e' w' ⟨rfl,rfl⟩;refine⟨rfl,⟨?_,h.2.setCell (zD _) _⟩,fun b cs hb=> ?_⟩
    ·rw[e];exact h.1.set 0 _
    ·refine hb.other _ _ _ fun he=> ?_;subst he;have h1:=h.1;unfold Blk at hb h1;rw[h1]at hb;simp at hb)
  W (by omega) h0
 have hall:=hsb xs.length (zD _);rw[zdT,←hl,zdT]at hall;have HR:=zB fun W=>zjG (S13.sum ws xs) 65536 W (by omega) (by omega) (by omega) (by omega);have HC:=zB fun W=>zmG (S06.round (S13.sum ws xs) 65536) W;have hm:S13.mix ws xs=S06.clip (S06.round (S13.sum ws xs) 65536):=rfl;have hb0:=Blk.new w [.int .i64 0] 3;have f0:=hb0.free 0;have HI:=zB (show Blk (w.alloc (Obj.cells #[.int .i64 0] 3)) w.heap.size [.int .i64 (S13.sum (ws.take 0) (xs.take 0))] 3∧Below w.heap.size w (w.alloc (Obj.cells #[.int .i64 0] 3))from⟨by simpa[S13.sum] using hb0,(zF _ _).alloc (zD _) _⟩);have htl:xs.take xs.length=xs:=zdT;have htw:ws.take xs.length=ws:=by rw[←hl,zdT]
 simp only[htl,htw]at HV;rw[hm];clear hm hcw hcx cells hsb hall hb0 f0 htl htw hrw hrx;generalize S06.clip (S06.round (S13.sum ws xs) 65536)=q at *;generalize S06.round (S13.sum ws xs) 65536=r at *;generalize xs.length=n at *;go_enter Tryz.func209,Tryz.ntmps209;go_wp2_with fail;refine(HV.out _ HI.out).mono ?_;rintro e w1 ⟨rfl,hs1,hB1⟩;have c1:=hs1.cell 0;simp only[lgz]at c1;have z1:=hs1.lt;clear hs1;go_wp2_with fail;refine(HR.out _).mono ?_;rintro e w2 ⟨rfl,hb2⟩;have hB2:Below w.heap.size w w2:=zA (by go_grown) hb2;have z2:w.heap.size≤w2.heap.size:=hB2.size;go_wp2_with fail;refine(HC.out _).mono ?_;rintro e w3 ⟨rfl,hb3⟩;have hB3:Below w.heap.size w w3:=zA (by go_grown) hb3;have z3:w.heap.size≤w3.heap.size:=hB3.size;go_wp2;go_returns;exact⟨rfl,hB3⟩
theorem S13.rows_zero{n:Int}:∀{L:List (List Int)},S13.rows n L=0→∀l∈L,(l.length:Int)=n∧l.any S13.heavy=false
 | [],_,l,hl=>by simp at hl
 | a::r,h,l,hl=>by
   unfold S13.rows at h;split at h
   ·simp at h
   ·rename_i h1
    split at h
    ·simp at h
    ·rename_i h2
     rcases List.mem_cons.1 hl with rfl|hl
     ·exact⟨by simpa using h1,by simpa using h2⟩
     ·exact S13.rows_zero h l hl
theorem S13.rows_of{n:Int}:∀{L:List (List Int)},(∀l∈L,(l.length:Int)=n∧l.any S13.heavy=false)→S13.rows n L=0
 | [],_=>rfl
 | a::r,h=>by
   unfold S13.rows;have h1:=h a (by simp);rw[zG (by simpa using h1.1),zG (by rw[h1.2];simp)];exact S13.rows_of fun l hl=>h l (by simp[hl])
theorem S13.check_zero{n:Int}{L:List (List Int)}(h:S13.check 16 n L=0):1≤n∧n≤16∧1≤L.length∧L.length≤65536∧∀l∈L,(l.length:Int)=n∧l.any S13.heavy=false:=by
 unfold S13.check at h;split at h
 ·simp at h
 ·exact⟨by omega,by omega,by omega,by omega,S13.rows_zero h⟩
theorem S13.light{l:List Int}(h:l.any S13.heavy=false):∀x∈l,-1048576≤x∧x≤1048576:=by
 intro x hx;rw[List.any_eq_false]at h;have:=h x hx;simp[S13.heavy]at this;omega
theorem S13.weak{l:List Int}(h:l.any S13.strong=false):∀x∈l,-3071≤x∧x≤3071:=by
 intro x hx;rw[List.any_eq_false]at h;have:=h x hx;simp[S13.strong]at this;omega
theorem S13.usable_zero{n c:Int}{L:List (List Int)}{xs:List Int}(h:S13.usable 16 n L c xs=0) :
 S13.check 16 n L=0∧0≤c∧c<L.length∧(xs.length:Int)=n∧1≤xs.length∧xs.any S13.strong=false∧S13.fits (L.getD c.toNat []) xs:=by
 unfold S13.usable at h;split at h
 ·exact absurd h (by assumption)
 ·rename_i hc
  have hc:S13.check 16 n L=0:=by simpa using hc
  split at h
  ·simp at h
  ·split at h
   ·simp at h
   ·rename_i hr hl
    split at h
    ·simp at h
    ·rename_i hs
     obtain⟨k1,k2,k3,k4,k5⟩:=S13.check_zero hc;have hs:xs.any S13.strong=false:=by simpa using hs
     have hl:(xs.length:Int)=n:=by simpa using hl
     have hm:L.getD c.toNat []∈L:=by
      rw[zI,zE (show c.toNat<L.length by omega)];exact zbC _
     have hk:=k5 _ hm;refine⟨hc,by omega,by omega,hl,by omega,hs,by omega,by omega,S13.light hk.2,S13.weak hs⟩
def S13.mixR(n:Int)(L:List (List Int))(c:Int)(xs:List Int):Int:=if S13.usable 16 n L c xs=0 then S13.mix (L.getD c.toNat []) xs else 0
theorem row13_at{R:List Row13}{a:Option Addr}{w:World}(hrd:Rd w a (R.map Row13.head))(hok:∀r∈R,r.ok w){k:Nat}(hk:k<R.length) :
 ∃r g o,R[k]? = some r∧a=some ⟨g,o,none⟩∧w.cell? ⟨g,o+k,none⟩=some (.slice r.a r.l.length r.cap)∧r.ok w∧(R.map Row13.l).getD k []=r.l:=by
 obtain⟨g,o,rfl,hcs⟩:=hrd.at (i:=k) (by rw[zaH];exact hk);refine⟨R[k],g,o,zE hk,rfl,?_,hok _ (zbC hk),?_⟩
 ·rw[hcs k (by rw[zaH];exact hk),List.getElem_map];rfl
 ·rw[zI,zaG,zE hk];rfl
theorem mixM13_any(n:Int)(L:List (List Int))(V:Value)(c:Int)(xs:List Int)(a:Option Addr)(cap:Nat)(w:World)(hV:MixIs n L V w)(hlen:xs.length≤9223372036854775807)(hrd:Rd w a (zaK xs)) :
 Calls Tryz.prog 204 #[V,.int .i64 c,.slice a xs.length cap] w fun e w'=>e = .returned (.tuple #[.int .i64 (S13.mixR n L c xs),.int .i64 (S13.usable 16 n L c xs)])∧Below w.heap.size w w':=by
 have HU:=zB fun W (hb:Below w.heap.size w W)=>znA n L V c xs a cap W (hV.step hb) hlen (hrd.step hb);by_cases hu:S13.usable 16 n L c xs=0
 ·obtain⟨k1,k2,k3,k4,k5,k6,k7⟩:=S13.usable_zero hu;have hr:S13.mixR n L c xs=S13.mix (L.getD c.toNat []) xs:=by unfold S13.mixR;rw[zO hu]
  rw[hr];rw[hu]at HU⊢;obtain⟨R,ma,mc,rfl,rfl,h1,h2,hrm,hok⟩:=hV;obtain⟨c,rfl⟩:=Int.eq_ofNat_of_zero_le k2;have hcR:c<R.length:=by rw[zaH]at k3;omega
  obtain⟨r,g,o,hRr,rfl,hcell,hro,hgl⟩:=row13_at hrm hok hcR;simp only[Int.toNat_natCast]at k7⊢;rw[hgl]at k7⊢;have hrl:r.l.length=xs.length:=k7.1;have HM:=zB fun W (hb:Below w.heap.size w W)=>mix13_any r.l xs r.a a r.cap cap W k7 k5 (hro.2.2.step hb) (hrd.step hb);rw[hrl]at hcell;have hgb:=zL hcell;have i1:(c:Int)<R.length:=by omega
  clear hrm hok hro hgl k7 k6 k1 hr hu hRr hrd hrl;generalize S13.mix r.l xs=q at *;generalize xs.length=l at *;generalize R.length=m at *;go_enter Tryz.func204,Tryz.ntmps204;go_wp2_with fail;refine(HU.out _ (by go_grown)).mono ?_;rintro e w1 ⟨rfl,hb1⟩;have hB1:Below w.heap.size w w1:=zA (by go_grown) hb1;have z1:w.heap.size≤w1.heap.size:=hB1.size;have hs1:w.heap.size<w1.heap.size:=by have:=hb1.size;simp at this;omega
  have k1:w1.cell? ⟨w.heap.size,0,none⟩=some (.int .i64 n):=(hb1.cell (by simp<;>omega)).trans (by go_simp);have k2:w1.cell? ⟨w.heap.size,1,none⟩=some (.slice (some ⟨g,o,none⟩) m mc):=(hb1.cell (by simp<;>omega)).trans (by go_simp);have hcell1:w1.cell? ⟨g,o+c,none⟩=some (.slice r.a l r.cap):=(hB1.cell hgb).trans hcell;go_wp2_with fail;refine(HM.out _ hB1).mono ?_;rintro e w2 ⟨rfl,hb2⟩;have hB2:Below w.heap.size w w2:=zA (by go_grown) hb2;have z2:w.heap.size≤w2.heap.size:=hB2.size;go_wp2;go_returns;exact⟨rfl,hB2⟩
 ·have hr:S13.mixR n L c xs=0:=by unfold S13.mixR;rw[zG hu]
  have hu2:((S13.usable 16 n L c xs:Int) != 0)=true:=by simpa using hu
  rw[hr];obtain⟨ma,mc,rfl,m1,m2,hV⟩:=mixOpen hV;clear hu hr hV hrd;generalize S13.usable 16 n L c xs=y at *;generalize xs.length=l at *;generalize L.length=m at *;go_enter Tryz.func204,Tryz.ntmps204;go_wp2_with fail;refine(HU.out _ (by go_grown)).mono ?_;rintro e w1 ⟨rfl,hb1⟩;have hB1:Below w.heap.size w w1:=zA (by go_grown) hb1;have z1:w.heap.size≤w1.heap.size:=hB1.size;go_wp2;go_returns;exact⟨rfl,hB1⟩
