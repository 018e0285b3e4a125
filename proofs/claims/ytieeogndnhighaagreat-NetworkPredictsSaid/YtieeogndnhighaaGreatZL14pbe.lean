/- A part of the proof that ends in L14p (W13f, W13g, W13h, W13i, W13j, W13k). No condition. -/
import Derived.Below
import Derived.BigQuiet
import Derived.Deep.Draws
import Derived.Deep.Light
import Derived.Deep.MidRow
import Derived.Deep.QuietTactic
import Derived.Handy
import Derived.Laws.AppendOwnNone
import Derived.Laws.CopyOwn
import Derived.Laws.MakeOwn
import Derived.Lib.Hide
import Derived.Lib.MinMax
import Derived.Maps.AppendAt
import Derived.Orders
import Derived.OrdersHeld
import Derived.StillTailTactics
import Derived.Tactics
import Derived.Test.YtieeogndnhighaaGreatRows
import Derived.Test.YtieeogndnhighaaGreatShelf
import Derived.WalkKit
import Derived.WalkLawsBesides
import Derived.WalkSpells
import Derived.Test.YtieeogndnhighaaGreatZL14pas
import Derived.Test.YtieeogndnhighaaGreatZL14pay
set_option linter.unusedSectionVars false
set_option linter.unusedSimpArgs false
set_option linter.unusedVariables false
set_option maxRecDepth 100000
set_option maxHeartbeats 2000000
namespace Go.Proofs.YtieeogndnhighaaGreat
open Go.RowKit
theorem visit13_any(F:FuncId)(caps:Array Value)(hF:∀a b c w,(callFunc F (#[a,b,c]++caps)).run Tryz.prog w = .ok (.enter F (#[a,b,c]++caps)) w)(n:Nat)(gw ow cw gx ox cx:Nat)(wt xt:Nat→Int)
 (I:Nat→World→Prop) (hs:∀k w w',I k w→Below w.heap.size w w'→I k w')
 (hr:∀k w,k<n→I k w→w.cell? ⟨gw,ow+k,none⟩=some (.int .i64 (wt k))∧w.cell? ⟨gx,ox+k,none⟩=some (.int .i64 (xt k)))
 (hv:∀k w,k<n→I k w→Calls Tryz.prog F (#[.int .i64 k,.int .i64 (wt k),.int .i64 (xt k)]++caps) w fun e w'=>e = .returned (.tuple #[])∧I (k+1) w'∧∀b cs,Blk w b cs 294→Blk w' b cs 294)
 (w:World) (h63:n≤9223372036854775807) (h0:I 0 w) :
 Calls Tryz.prog 279 #[.agg #[.func (.func F) #[] caps],.slice (some ⟨gw,ow,none⟩) n cw,.slice (some ⟨gx,ox,none⟩) n cx] w fun e w'=>e = .returned (.tuple #[])∧I n w':=by
 have HV:=zB hv;have HR:=zB hr;have HS:=zB hs;have H0:=zB h0;clear hv hr hs h0;go_enter Tryz.func279,Tryz.ntmps279;go_wp2;have hb0:=Blk.new w [.func (.func F) #[] caps] 294;have H1:=zB (HS.out 0 w _ H0.out ((zI _ _).alloc (zG _) (Obj.cells #[.func (.func F) #[] caps] 294)));go_loopw [9] (fun i wr=>∃k:Nat,k≤n∧i = .int .i64 k∧I k wr∧Blk wr w.heap.size [.func (.func F) #[] caps] 294) (fun i _=>n-(intOf i).toNat)
 case atStart=>exact⟨0,by omega,rfl,H1.out,hb0⟩
 case round=>
  obtain⟨k,hk,rfl,hI,hbk⟩:=hrel;have hbl:=hbk.lt;have hc:=hbk.cell 0;simp only[lgz]at hc;have Hbk:=zB hbk;clear hbk;have HI:=zB hI;clear hI;by_cases hlt:k<n
  ·have hlt2:(k:Int)<n:=by omega
   have hq1:=(HR.out k wr hlt HI.out).1;have hq2:=(HR.out k wr hlt HI.out).2;go_wp2
   go_still_tail 11,(by kernel_rfl)
   have HID:=zB (HS.out k wr wr.drew HI.out (zI _ _).drew);have HFn:=zB (hF (.int .i64 k) (.int .i64 (wt k)) (.int .i64 (xt k)));go_wp2_with fail;refine(HV.out k _ hlt HID.out).mono ?_;rintro e w2 ⟨rfl,hI2,hb2⟩;have HI2:=zB hI2;have HB2:=zB (hb2 _ _ Hbk.out.drew);clear hI2 hb2;go_wp2;go_roundw
   case rel=>exact⟨k+1,by omega,by go_num,HI2.out,HB2.out⟩
   case measure=>simp[intOf];omega
  ·obtain rfl:k=n:=by omega
   go_wp2;go_returns;exact⟨rfl,HI.out⟩
def S13.mix(ws xs:List Int):Int:=S06.clip (S06.round (S13.sum ws xs) 65536)
def S13.fits(ws xs:List Int):Prop:=ws.length=xs.length∧xs.length≤16∧(∀x∈ws,-1048576≤x∧x≤1048576)∧∀x∈xs,-3071≤x∧x≤3071
theorem S13.sum_snoc:∀(ws xs:List Int) (u v:Int),ws.length=xs.length→S13.sum (ws ++ [u]) (xs ++ [v])=S13.sum ws xs+u*v
 | [],[],u,v,_=>by simp[S13.sum]
 | a::ws,b::xs,u,v,h=>by
   simp only[lca,S13.sum];rw[S13.sum_snoc ws xs u v (by simpa using h)];omega
theorem S13.getD_take(xs:List Int){k:Nat}(h:k<xs.length):xs.take (k+1)=xs.take k ++ [xs.getD k 0]:=by
 rw[List.take_succ_eq_append_getElem h,zO,zE h];rfl
theorem S13.sum_take{ws xs:List Int}(hl:ws.length=xs.length){k:Nat}(h:k<xs.length) :
 S13.sum (ws.take (k+1)) (xs.take (k+1))=S13.sum (ws.take k) (xs.take k)+ws.getD k 0*xs.getD k 0:=by
 rw[S13.getD_take xs h,S13.getD_take ws (by omega)];exact S13.sum_snoc _ _ _ _ (by simp;omega)
theorem S13.getD_mem{P:Int→Prop}{xs:List Int}(h:∀x∈xs,P x){k:Nat}(hk:k<xs.length):P (xs.getD k 0):=by
 rw[zO,zE hk];exact h _ (zbK hk)
theorem S13.mul_abs{a b A B:Int}(h1 : -A≤a)(h2:a≤A)(h3 : -B≤b)(h4:b≤B) : -(A*B)≤a*b∧a*b≤A*B:=by
 have hA:0≤A:=by omega
 have hB:0≤B:=by omega
 rcases Int.le_total 0 a with ha|ha<;>rcases Int.le_total 0 b with hb|hb
 ·have:=Int.mul_le_mul h2 h4 hb hA;have:=Int.mul_nonneg ha hb;have:=Int.mul_nonneg hA hB;omega
 ·have:=Int.mul_le_mul h2 (show -b≤B by omega) (by omega) hA;have h5:=Int.mul_nonneg ha (show 0≤ -b by omega);rw[Int.mul_neg]at *;have:=Int.mul_nonneg hA hB;omega
 ·have:=Int.mul_le_mul (show -a≤A by omega) h4 hb hA;have h5:=Int.mul_nonneg (show 0≤ -a by omega) hb;rw[Int.neg_mul]at *;have:=Int.mul_nonneg hA hB;omega
 ·have:=Int.mul_le_mul (show -a≤A by omega) (show -b≤B by omega) (by omega) hA;have h5:=Int.mul_nonneg (show 0≤ -a by omega) (show 0≤ -b by omega);rw[Int.neg_mul_neg]at *;have:=Int.mul_nonneg hA hB;omega
theorem S13.term{ws xs:List Int}(h:S13.fits ws xs){k:Nat}(hk:k<xs.length) : -3220176896≤ws.getD k 0*xs.getD k 0∧ws.getD k 0*xs.getD k 0≤3220176896:=by
 obtain⟨h1,h2,h3,h4⟩:=h;have a:=S13.getD_mem (P:=fun x=> -1048576≤x∧x≤1048576) h3 (k:=k) (by omega);have b:=S13.getD_mem (P:=fun x=> -3071≤x∧x≤3071) h4 hk;exact S13.mul_abs (A:=1048576) (B:=3071) a.1 a.2 b.1 b.2
theorem S13.sum_bounds{ws xs:List Int}(h:S13.fits ws xs):∀k:Nat,k≤xs.length→ -3220176896*(k:Int)≤S13.sum (ws.take k) (xs.take k)∧S13.sum (ws.take k) (xs.take k)≤3220176896*(k:Int)
 | 0,_=>by simp[S13.sum]
 | k+1,hk=>by
   have ih:=S13.sum_bounds h k (by omega);have t:=S13.term h (k:=k) (by omega);rw[S13.sum_take h.1 (by omega)];omega
theorem step13_any(i wt xt s:Int)(b:Nat)(w:World)(hb:Blk w b [.int .i64 s] 3)(h1 : -9000000000000≤wt*xt)(h2:wt*xt≤9000000000000)(h3 : -9000000000000≤s)(h4:s≤9000000000000) :
 Calls Tryz.prog 282 #[.int .i64 i,.int .i64 wt,.int .i64 xt,.pointer (some ⟨b,0,none⟩)] w fun e w'=>e = .returned (.tuple #[])∧w'=w.setCell ⟨b,0,none⟩ (.int .i64 (s+wt*xt)):=by
 have w1':IntKind.i64.wrap (wt*xt)=wt*xt:=IntWalk.i64_in _ (by omega);have w2':IntKind.i64.wrap (s+wt*xt)=s+wt*xt:=IntWalk.i64_in _ (by omega);have c0:=hb.cell 0;have f0:=hb.free 0;simp only[lgz]at c0;go_enter Tryz.func282,Tryz.ntmps282;go_wp2;go_returns;exact⟨rfl,rfl⟩
theorem enterMix(a b c p:Value)(w:World):(callFunc 282 #[a,b,c,p]).run Tryz.prog w = .ok (.enter 282 #[a,b,c,p]) w:=by kernel_rfl
theorem mix13_any(ws xs:List Int)(aw ax:Option Addr)(cw cx:Nat)(w:World)(hf:S13.fits ws xs)(hne:1≤xs.length)(hrw:Rd w aw (zaK ws))(hrx:Rd w ax (zaK xs)) :
 Calls Tryz.prog 277 #[.slice aw xs.length cw,.slice ax xs.length cx] w fun e w'=>e = .returned (.int .i64 (S13.mix ws xs))∧Below w.heap.size w w':=by
 obtain⟨gw,ow,rfl,hcw⟩:=hrw.at (i:=0) (by rw[yB,hf.1];omega);obtain⟨gx,ox,rfl,hcx⟩:=hrx.at (i:=0) (by rw[yB];omega);have hl:=hf.1;have hl2:=hf.2.1;have hsb:=S13.sum_bounds hf;have cells:∀k W,k<xs.length→Below w.heap.size w W→W.cell? ⟨gw,ow+k,none⟩=some (.int .i64 (ws.getD k 0))∧W.cell? ⟨gx,ox+k,none⟩=some (.int .i64 (xs.getD k 0)):=by
  intro k W hk hB;have e1:=hcw k (by rw[yB];omega);have e2:=hcx k (by rw[yB];omega);rw[(hB.cell (zF e1)).trans e1,(hB.cell (zF e2)).trans e2];simp[zaK,zO,zE hk,zE (show k<ws.length by omega)]
 have HV:=zB fun W h0=>visit13_any 282 #[.pointer (some ⟨w.heap.size,0,none⟩)] (fun a b c W=>enterMix a b c _ W) xs.length gw ow cw gx ox cx (fun k=>ws.getD k 0) (fun k=>xs.getD k 0)
  (fun k W=>Blk W w.heap.size [.int .i64 (S13.sum (ws.take k) (xs.take k))] 3∧Below w.heap.size w W) (fun k W W' h hb=>⟨h.1.step hb,zA h.2 hb⟩) (fun k W hk h=>cells k W hk h.2)
  (fun k W hk h=>by
    have t:=S13.term hf hk;have s:=hsb k (by omega);have e:=S13.sum_take hl hk;refine(step13_any k (ws.getD k 0) (xs.getD k 0) (S13.sum (ws.take k) (xs.take k)) w.heap.size W h.1 (by omega) (by omega) (by omega) (by omega)).mono ?_;rintro e' w' ⟨rfl,rfl⟩;refine⟨rfl,⟨?_,h.2.setCell (zG _) _⟩,fun b cs hb=> ?_⟩
    ·rw[e];exact h.1.set 0 _
    ·refine hb.other _ _ _ fun he=> ?_;subst he;have h1:=h.1;unfold Blk at hb h1;rw[h1]at hb;simp at hb)
  W (by omega) h0
 have hall:=hsb xs.length (zG _);rw[yZ,←hl,yZ]at hall;have HR:=zB fun W=>zjZ (S13.sum ws xs) 65536 W (by omega) (by omega) (by omega) (by omega);have HC:=zB fun W=>ziH (S06.round (S13.sum ws xs) 65536) W;have hm:S13.mix ws xs=S06.clip (S06.round (S13.sum ws xs) 65536):=rfl;have hb0:=Blk.new w [.int .i64 0] 3;have f0:=hb0.free 0;have HI:=zB (show Blk (w.alloc (Obj.cells #[.int .i64 0] 3)) w.heap.size [.int .i64 (S13.sum (ws.take 0) (xs.take 0))] 3∧Below w.heap.size w (w.alloc (Obj.cells #[.int .i64 0] 3))from⟨by simpa[S13.sum] using hb0,(zI _ _).alloc (zG _) _⟩);have htl:xs.take xs.length=xs:=yZ;have htw:ws.take xs.length=ws:=by rw[←hl,yZ]
 simp only[htl,htw]at HV;rw[hm];clear hm hcw hcx cells hsb hall hb0 f0 htl htw hrw hrx;generalize S06.clip (S06.round (S13.sum ws xs) 65536)=q at *;generalize S06.round (S13.sum ws xs) 65536=r at *;generalize xs.length=n at *;go_enter Tryz.func277,Tryz.ntmps277;go_wp2_with fail;refine(HV.out _ HI.out).mono ?_;rintro e w1 ⟨rfl,hs1,hB1⟩;have c1:=hs1.cell 0;simp only[lgz]at c1;have z1:=hs1.lt;clear hs1;go_wp2_with fail;refine(HR.out _).mono ?_;rintro e w2 ⟨rfl,hb2⟩;have hB2:Below w.heap.size w w2:=zA (by go_grown) hb2;have z2:w.heap.size≤w2.heap.size:=hB2.size;go_wp2_with fail;refine(HC.out _).mono ?_;rintro e w3 ⟨rfl,hb3⟩;have hB3:Below w.heap.size w w3:=zA (by go_grown) hb3;have z3:w.heap.size≤w3.heap.size:=hB3.size;go_wp2;go_returns;exact⟨rfl,hB3⟩
theorem S13.rows_zero{n:Int}:∀{L:List (List Int)},S13.rows n L=0→∀l∈L,(l.length:Int)=n∧l.any S13.heavy=false
 | [],_,l,hl=>by simp at hl
 | a::r,h,l,hl=>by
   unfold S13.rows at h;split at h
   ·simp at h
   ·rename_i h1
    split at h
    ·simp at h
    ·rename_i h2
     rcases List.mem_cons.1 hl with rfl|hl
     ·exact⟨by simpa using h1,by simpa using h2⟩
     ·exact S13.rows_zero h l hl
theorem S13.check_zero{n:Int}{L:List (List Int)}(h:S13.check 16 n L=0):1≤n∧n≤16∧1≤L.length∧L.length≤65536∧∀l∈L,(l.length:Int)=n∧l.any S13.heavy=false:=by
 unfold S13.check at h;split at h
 ·simp at h
 ·exact⟨by omega,by omega,by omega,by omega,S13.rows_zero h⟩
theorem S13.light{l:List Int}(h:l.any S13.heavy=false):∀x∈l,-1048576≤x∧x≤1048576:=by
 intro x hx;rw[List.any_eq_false]at h;have:=h x hx;simp[S13.heavy]at this;omega
theorem S13.weak{l:List Int}(h:l.any S13.strong=false):∀x∈l,-3071≤x∧x≤3071:=by
 intro x hx;rw[List.any_eq_false]at h;have:=h x hx;simp[S13.strong]at this;omega
theorem S13.usable_zero{n c:Int}{L:List (List Int)}{xs:List Int}(h:S13.usable 16 n L c xs=0) :
 S13.check 16 n L=0∧0≤c∧c<L.length∧(xs.length:Int)=n∧1≤xs.length∧xs.any S13.strong=false∧S13.fits (L.getD c.toNat []) xs:=by
 unfold S13.usable at h;split at h
 ·exact absurd h (by assumption)
 ·rename_i hc
  have hc:S13.check 16 n L=0:=by simpa using hc
  split at h
  ·simp at h
  ·split at h
   ·simp at h
   ·rename_i hr hl
    split at h
    ·simp at h
    ·rename_i hs
     obtain⟨k1,k2,k3,k4,k5⟩:=S13.check_zero hc;have hs:xs.any S13.strong=false:=by simpa using hs
     have hl:(xs.length:Int)=n:=by simpa using hl
     have hm:L.getD c.toNat []∈L:=by
      rw[zO,zE (show c.toNat<L.length by omega)];exact zbK _
     have hk:=k5 _ hm;refine⟨hc,by omega,by omega,hl,by omega,hs,by omega,by omega,S13.light hk.2,S13.weak hs⟩
def S13.mixR(n:Int)(L:List (List Int))(c:Int)(xs:List Int):Int:=if S13.usable 16 n L c xs=0 then S13.mix (L.getD c.toNat []) xs else 0
theorem zeC{R:List Row13}{a:Option Addr}{w:World}(hrd:Rd w a (R.map Row13.head))(hok:∀r∈R,r.ok w){k:Nat}(hk:k<R.length) :
 ∃r g o,R[k]? = some r∧a=some ⟨g,o,none⟩∧w.cell? ⟨g,o+k,none⟩=some (.slice r.a r.l.length r.cap)∧r.ok w∧(R.map Row13.l).getD k []=r.l:=by
 obtain⟨g,o,rfl,hcs⟩:=hrd.at (i:=k) (by rw[zaD];exact hk);refine⟨R[k],g,o,zE hk,rfl,?_,hok _ (zbK hk),?_⟩
 ·rw[hcs k (by rw[zaD];exact hk),List.getElem_map];rfl
 ·rw[zO,yR,zE hk];rfl
theorem mixM13_any(n:Int)(L:List (List Int))(V:Value)(c:Int)(xs:List Int)(a:Option Addr)(cap:Nat)(w:World)(hV:MixIs n L V w)(hlen:xs.length≤9223372036854775807)(hrd:Rd w a (zaK xs)) :
 Calls Tryz.prog 272 #[V,.int .i64 c,.slice a xs.length cap] w fun e w'=>e = .returned (.tuple #[.int .i64 (S13.mixR n L c xs),.int .i64 (S13.usable 16 n L c xs)])∧Below w.heap.size w w':=by
 have HU:=zB fun W (hb:Below w.heap.size w W)=>usable13_any n L V c xs a cap W (hV.step hb) hlen (hrd.step hb);by_cases hu:S13.usable 16 n L c xs=0
 ·obtain⟨k1,k2,k3,k4,k5,k6,k7⟩:=S13.usable_zero hu;have hr:S13.mixR n L c xs=S13.mix (L.getD c.toNat []) xs:=by unfold S13.mixR;rw[zU hu]
  rw[hr];rw[hu]at HU⊢;obtain⟨R,ma,mc,rfl,rfl,h1,h2,hrm,hok⟩:=hV;obtain⟨c,rfl⟩:=Int.eq_ofNat_of_zero_le k2;have hcR:c<R.length:=by rw[zaD]at k3;omega
  obtain⟨r,g,o,hRr,rfl,hcell,hro,hgl⟩:=zeC hrm hok hcR;simp only[Int.toNat_natCast]at k7⊢;rw[hgl]at k7⊢;have hrl:r.l.length=xs.length:=k7.1;have HM:=zB fun W (hb:Below w.heap.size w W)=>mix13_any r.l xs r.a a r.cap cap W k7 k5 (hro.2.2.step hb) (hrd.step hb);rw[hrl]at hcell;have hgb:=zF hcell;have i1:(c:Int)<R.length:=by omega
  clear hrm hok hro hgl k7 k6 k1 hr hu hRr hrd hrl;generalize S13.mix r.l xs=q at *;generalize xs.length=l at *;generalize R.length=m at *;go_enter Tryz.func272,Tryz.ntmps272;go_wp2_with fail;refine(HU.out _ (by go_grown)).mono ?_;rintro e w1 ⟨rfl,hb1⟩;have hB1:Below w.heap.size w w1:=zA (by go_grown) hb1;have z1:w.heap.size≤w1.heap.size:=hB1.size;have hs1:w.heap.size<w1.heap.size:=by have:=hb1.size;simp at this;omega
  have k1:w1.cell? ⟨w.heap.size,0,none⟩=some (.int .i64 n):=(hb1.cell (by simp<;>omega)).trans (by go_simp);have k2:w1.cell? ⟨w.heap.size,1,none⟩=some (.slice (some ⟨g,o,none⟩) m mc):=(hb1.cell (by simp<;>omega)).trans (by go_simp);have hcell1:w1.cell? ⟨g,o+c,none⟩=some (.slice r.a l r.cap):=(hB1.cell hgb).trans hcell;go_wp2_with fail;refine(HM.out _ hB1).mono ?_;rintro e w2 ⟨rfl,hb2⟩;have hB2:Below w.heap.size w w2:=zA (by go_grown) hb2;have z2:w.heap.size≤w2.heap.size:=hB2.size;go_wp2;go_returns;exact⟨rfl,hB2⟩
 ·have hr:S13.mixR n L c xs=0:=by unfold S13.mixR;rw[zK hu]
  have hu2:((S13.usable 16 n L c xs:Int) != 0)=true:=by simpa using hu
  rw[hr];obtain⟨ma,mc,rfl,m1,m2,hV⟩:=mixOpen hV;clear hu hr hV hrd;generalize S13.usable 16 n L c xs=y at *;generalize xs.length=l at *;generalize L.length=m at *;go_enter Tryz.func272,Tryz.ntmps272;go_wp2_with fail;refine(HU.out _ (by go_grown)).mono ?_;rintro e w1 ⟨rfl,hb1⟩;have hB1:Below w.heap.size w w1:=zA (by go_grown) hb1;have z1:w.heap.size≤w1.heap.size:=hB1.size;go_wp2;go_returns;exact⟨rfl,hB1⟩
theorem S13.any_take(f:Int→Bool)(xs:List Int)(k:Nat)(h:k<xs.length):(xs.take (k+1)).any f=((xs.take k).any f||f (xs.getD k 0)):=by
 rw[S13.getD_take xs h,List.any_append,List.any_cons,List.any_nil,Bool.or_false]
theorem znK(n:Int)(R:List Row13)(a:Option Addr)(cap:Nat)(w:World)(hn:1≤n)(hn':n≤16)(hl:1≤R.length)(hl':R.length≤65536)(h1:R.length≤cap)(h2:cap≤9223372036854775807)
 (hrd:Rd w a (R.map Row13.head)) (hok:∀r∈R,r.ok w) :
 Calls Tryz.prog 83 #[.agg #[.int .i64 n,.slice a R.length cap]] w fun e w'=>e = .returned (.int .i64 (S13.rows n (R.map Row13.l)))∧Below w.heap.size w w':=by
 have e1:¬n<1:=by omega
 have e2:¬16<n:=by omega
 have e3:¬(R.length:Int)<1:=by omega
 have e4:¬(65536:Int)<R.length:=by omega
 obtain⟨nn,rfl⟩:∃nn:Nat,n=nn:=⟨n.toNat,by omega⟩;go_enter Tryz.func83,Tryz.ntmps83;go_wp2;have hb0:=Blk.new w [.int .i64 nn,.slice a R.length cap] 79;go_loopw [3] (fun i wr=>∃k:Nat,k≤R.length∧i = .int .i64 k∧S13.rows nn ((R.map Row13.l).take k)=0∧Blk wr w.heap.size [.int .i64 nn,.slice a R.length cap] 79∧Below w.heap.size w wr) (fun i _=>R.length-(intOf i).toNat)
 case atStart=>exact⟨0,by omega,rfl,rfl,hb0,by go_grown⟩
 case round=>
  obtain⟨wo,rfl⟩:∃wo:World,wo=wr:=⟨_,rfl⟩;obtain⟨k,hk,rfl,h0,hbk,hB⟩:=hrel;have hbl:=hbk.lt;have c0:=hbk.cell 0;have c1:=hbk.cell 1;simp only[zoM]at c0 c1;by_cases hlt:k<R.length
  ·have hlt2:(k:Int)<R.length:=by omega
   obtain⟨r,g,o,hr,rfl,hcell,hro,hgl⟩:=zeC hrd hok hlt;have hrl:(R.map Row13.l)[k]? = some r.l:=by rw[yR,hr];rfl
   have Hat:=zB (S13.rows_at nn hrl h0);have hgb:=zF hcell;have hc:wo.cell? ⟨g,o+k,none⟩=some (.slice r.a r.l.length r.cap):=(hB.cell hgb).trans hcell;have Hbk:=zB hbk;have H0:=zB h0;clear h0 hrl hbk hgl hcell;by_cases hlen:(r.l.length:Int)=nn
   ·have hne:((r.l.length:Int) != nn)=false:=by simpa using hlen
    have hlenN:r.l.length=nn:=by omega
    rw[hlenN]at hc hne;have Hr:=zB hro;clear hro hlen;go_wp2;go_quiet (fail);go_wp2;go_loopw [4] (fun i wr=>∃j:Nat,j≤nn∧i = .int .i64 j∧(r.l.take j).any S13.heavy=false∧Below w.heap.size w wr∧Blk wr w.heap.size [.int .i64 nn,.slice (some ⟨g,o,none⟩) R.length cap] 79) (fun i _=>nn-(intOf i).toNat)
    case atStart=>exact⟨0,by omega,rfl,rfl,zeB hB _,Hbk.out⟩
    case round=>
     obtain⟨j,hj,rfl,hany,hB2,hbk2⟩:=hrel;have hbl2:=hbk2.lt;have d0:=hbk2.cell 0;have d1:=hbk2.cell 1;simp only[zoM]at d0 d1;have Hbk2:=zB hbk2;have Hany:=zB hany;clear hbk2 hany;by_cases hjl:j<nn
     ·have hjl2:(j:Int)<nn:=by omega
      obtain⟨g2,o2,hra,hcs⟩:=Hr.out.2.2.at (i:=j) (by rw[yB];omega);rw[hra]at hc;have hx:w.cell? ⟨g2,o2+j,none⟩=some (.int .i64 (r.l.getD j 0)):=by
       rw[hcs j (by rw[yB];omega)];simp[zaK,zO,zE (show j<r.l.length by omega)]
      have hx2:wr.cell? ⟨g2,o2+j,none⟩=some (.int .i64 (r.l.getD j 0)):=(hB2.cell (zF hx)).trans hx;have hc2:wr.cell? ⟨g,o+k,none⟩=some (.slice (some ⟨g2,o2,none⟩) nn r.cap):=(hB2.cell hgb).trans ((hB.cell hgb).symm.trans hc);have Hsn:=zB (S13.any_take S13.heavy r.l j (by omega))
      have Hin:S13.heavy (r.l.getD j 0)=true→r.l.any S13.heavy=true:=fun h=>by
       rw[List.any_eq_true];refine⟨r.l.getD j 0,?_,h⟩;rw[zO,zE (show j<r.l.length by omega)];exact zbK _
      have HIn:=zB Hin;clear hcs hx Hin;generalize r.l.getD j 0=x at *
      have bad:S13.heavy x=true→S13.rows nn (R.map Row13.l)=2:=fun h=>by
       have h6:S13.rows nn ((R.map Row13.l).take (k+1))=2:=by rw[Hat.out.1,zK (by omega),zU (HIn.out h)]
       rw[Hat.out.2 (by rw[h6];omega),h6]
      have Bad:=zB bad;clear bad;by_cases x1:x < -1048576
      ·have HE:=zB (Bad.out (by simp[S13.heavy];omega));go_wp2;go_returns;exact⟨zaV HE.out.symm,hB2⟩
      ·by_cases x2:1048576<x
       ·have HE:=zB (Bad.out (by simp[S13.heavy];omega));go_wp2;go_returns;exact⟨zaV HE.out.symm,hB2⟩
       ·have Hno:=zB (show(r.l.take (j+1)).any S13.heavy=false by rw[Hsn.out,Hany.out];simp[S13.heavy];omega);go_wp2;go_roundw
        case rel=>exact⟨j+1,by omega,by go_num,Hno.out,hB2,Hbk2.out⟩
        case measure=>simp[intOf];omega
     ·obtain rfl:j=nn:=by omega
      have Hn0:=zB (show S13.rows (j:Int) ((R.map Row13.l).take (k+1))=0 by
       rw[Hat.out.1,zK (by omega),zK];have:=Hany.out;rw[←hlenN,yZ]at this;rw[this];simp)
      go_wp2;go_roundw
      case rel=>exact⟨k+1,by omega,by go_num,Hn0.out,Hbk2.out,hB2⟩
      case measure=>simp[intOf];omega
   ·have He:S13.rows nn (R.map Row13.l)=6:=by
     have h6:S13.rows nn ((R.map Row13.l).take (k+1))=6:=by rw[Hat.out.1,zU hlen]
     rw[Hat.out.2 (by rw[h6];omega),h6]
    have HE:=zB He;have hne:((r.l.length:Int) != nn)=true:=by simpa using hlen
    clear He hlen hro;go_wp2;go_quiet (fail);go_wp2;go_returns;exact⟨zaV HE.out.symm,zeB hB _⟩
  ·obtain rfl:k=R.length:=by omega
   have hlt2:¬(R.length:Int)<R.length:=by omega
   rw[show(R.map Row13.l).take R.length=R.map Row13.l by rw[←zaD (f:=Row13.l),yZ]]at h0;have H0:=zB h0;clear h0;go_wp2;go_returns;exact⟨zaV H0.out.symm,hB⟩
theorem zbV(n:Int)(L:List (List Int))(V:Value)(w:World)(hV:MixIs n L V w) :
 Calls Tryz.prog 83 #[V] w fun e w'=>e = .returned (.int .i64 (S13.check 16 n L))∧Below w.heap.size w w':=by
 obtain⟨R,a,cap,rfl,rfl,h1,h2,hrd,hok⟩:=hV;by_cases h:n<1∨16<n∨R.length<1∨65536<R.length
 ·have hck:S13.check 16 n (R.map Row13.l)=6:=by
   unfold S13.check;rw[zU (by rw[zaD];omega)]
  rw[hck];have hw:n<1∨(¬n<1∧16<n)∨(¬n<1∧¬16<n∧(R.length:Int)<1)∨(¬n<1∧¬16<n∧¬(R.length:Int)<1∧(65536:Int)<R.length):=by omega
  clear h hrd hok hck;generalize R.length=m at *;rcases hw with hw|⟨hw,hw2⟩|⟨hw,hw2,hw3⟩|⟨hw,hw2,hw3,hw4⟩
  all_goals
   go_enter Tryz.func83,Tryz.ntmps83;go_wp2;go_returns;exact⟨rfl,by go_grown⟩
 ·have hck:S13.check 16 n (R.map Row13.l)=S13.rows n (R.map Row13.l):=by
   unfold S13.check;rw[zK (by rw[zaD];omega)]
  rw[hck];exact znK n R a cap w (by omega) (by omega) (by omega) (by omega) h1 h2 hrd hok
theorem S13.not_strong{x:Int}(h:S13.strong x=false):S06.clip x=x:=by
 simp[S13.strong]at h;exact S06.clip_in (by omega) (by omega)
theorem S13.is_strong{x:Int}(h:S13.strong x=true):S06.clip x≠x:=by
 simp[S13.strong]at h;unfold S06.clip;omega
theorem znJ(n:Int)(L:List (List Int))(ma:Option Addr)(mc c:Nat)(xs:List Int)(a:Option Addr)(cap:Nat)(w:World)(hM:MixIs n L (.agg #[.int .i64 n,.slice ma L.length mc]) w)(hrd:Rd w a (zaK xs))
 (hck:S13.check 16 n L=0) (hc:c<L.length) (hlen:(xs.length:Int)=n) :
 Calls Tryz.prog 120 #[.agg #[.int .i64 n,.slice ma L.length mc],.int .i64 c,.slice a xs.length cap] w fun e w'=>e = .returned (.tuple #[.int .i64 (S13.mixR n L c xs),.int .i64 (S13.usable 16 n L c xs)])∧Below w.heap.size w w':=by
 have HC:=zB fun W (hb:Below w.heap.size w W)=>zbV n L _ W (hM.step hb);rw[hck]at HC;obtain⟨k1,k2,k3,k4,k5⟩:=S13.check_zero hck;have hus:S13.usable 16 n L c xs=if xs.any S13.strong then 2 else 0:=by
  unfold S13.usable;rw[zK (by simpa using hck),zK (by omega),zK (by simpa using hlen)]
 obtain⟨R,ra,rc,rfl,hRV,h1,h2,hrm,hok⟩:=hM;simp at hRV;obtain⟨rfl,rfl⟩:=hRV;rw[zaD]at *;obtain⟨r,g,o,hRr,rfl,hcell,hro,hgl⟩:=zeC hrm hok hc;have hgb:=zF hcell;have hrm2:=k5 r.l (List.mem_map.2 ⟨r,yK hRr,rfl⟩);have hmx:S13.mixR n (R.map Row13.l) c xs=if xs.any S13.strong then 0 else S13.mix r.l xs:=by
  unfold S13.mixR;rw[hus];cases xs.any S13.strong
  ·simp only[Bool.false_eq_true,if_false,if_true,Int.toNat_natCast,hgl]
  ·simp
 rw[hus,hmx];obtain⟨E,hE⟩:∃E:Int,E=if xs.any S13.strong then 2 else 0:=⟨_,rfl⟩
 obtain⟨X,hX⟩:∃X:Int,X=if xs.any S13.strong then 0 else S13.mix r.l xs:=⟨_,rfl⟩
 rw[←hE,←hX];have HE:=zB hE;have HX:=zB hX;clear hE hX;have hrl:r.l.length=xs.length:=by omega
 have hlt:=S13.light hrm2.2;have Hr:=zB hro.2.2;have i1:(c:Int)<R.length:=by omega
 have i2:¬(R.length:Int)≤c:=by omega
 have i3:((xs.length:Int) != n)=false:=by simpa using hlen
 rw[hrl]at hcell;have hl16:xs.length≤16:=by omega
 clear hus hmx hgl hrm hok hro k5 hck hRr;generalize R.length=m at *;have hsel:∀(j:Nat),j<xs.length→r.l.getD j 0≥ -1048576∧r.l.getD j 0≤1048576:=fun j hj=>S13.getD_mem (P:=fun x=> -1048576≤x∧x≤1048576) hlt (by omega);have Hsel:=zB hsel;clear hsel hlt;go_enter Tryz.func120,Tryz.ntmps120;go_wp2_with fail;refine(HC.out _ (by go_grown)).mono ?_;rintro e w1 ⟨rfl,hb1⟩;have hB1:Below w.heap.size w w1:=zA (by go_grown) hb1;have z1:w.heap.size≤w1.heap.size:=hB1.size;have hs1:w.heap.size<w1.heap.size:=by have:=hb1.size;simp at this;omega
 have k1:w1.cell? ⟨w.heap.size,0,none⟩=some (.int .i64 n):=(hb1.cell (by simp<;>omega)).trans (by go_simp);have k2:w1.cell? ⟨w.heap.size,1,none⟩=some (.slice (some ⟨g,o,none⟩) m mc):=(hb1.cell (by simp<;>omega)).trans (by go_simp);have Hbk1:=zB ((Blk.new w [.int .i64 n,.slice (some ⟨g,o,none⟩) m mc] 79).step hb1);go_wp2
 go_loopw [9,10] (fun s i wr=>∃k:Nat,k≤xs.length∧i = .int .i64 k∧s = .int .i64 (S13.sum (r.l.take k) (xs.take k))∧(xs.take k).any S13.strong=false∧ -3220176896*(k:Int)≤S13.sum (r.l.take k) (xs.take k)∧S13.sum (r.l.take k) (xs.take k)≤3220176896*(k:Int)∧
  Blk wr w.heap.size [.int .i64 n,.slice (some ⟨g,o,none⟩) m mc] 79∧Below w.heap.size w wr) (fun _ i _=>xs.length-(intOf i).toNat)
 case atStart=>exact⟨0,by omega,rfl,by simp[S13.sum],rfl,by simp[S13.sum],by simp[S13.sum],Hbk1.out,hB1⟩
 case round=>
  obtain⟨k,hk,rfl,rfl,hany,hs1',hs2',hbk,hB⟩:=hrel;have hbl:=hbk.lt;have c0:=hbk.cell 0;have c1:=hbk.cell 1;simp only[zoM]at c0 c1;have Hbk:=zB hbk;have Hany:=zB hany;clear hbk hany;by_cases hkl:k<xs.length
  ·have hkl2:(k:Int)<xs.length:=by omega
   obtain⟨gx,ox,rfl,hcx⟩:=hrd.at (i:=k) (by rw[yB];omega);obtain⟨gw,ow,hra,hcw⟩:=Hr.out.at (i:=k) (by rw[yB];omega);rw[hra]at hcell;have hx:w.cell? ⟨gx,ox+k,none⟩=some (.int .i64 (xs.getD k 0)):=by
    rw[hcx k (by rw[yB];omega)];simp[zaK,zO,zE hkl]
   have hw:w.cell? ⟨gw,ow+k,none⟩=some (.int .i64 (r.l.getD k 0)):=by
    rw[hcw k (by rw[yB];omega)];simp[zaK,zO,zE (show k<r.l.length by omega)]
   have hxr:wr.cell? ⟨gx,ox+k,none⟩=some (.int .i64 (xs.getD k 0)):=(hB.cell (zF hx)).trans hx;have hwr:wr.cell? ⟨gw,ow+k,none⟩=some (.int .i64 (r.l.getD k 0)):=(hB.cell (zF hw)).trans hw;have hcr:wr.cell? ⟨g,o+c,none⟩=some (.slice (some ⟨gw,ow,none⟩) xs.length r.cap):=(hB.cell hgb).trans hcell;have Hsn:=zB (S13.any_take S13.strong xs k hkl)
   have HIn:S13.strong (xs.getD k 0)=true→xs.any S13.strong=true:=fun h=>by
    rw[List.any_eq_true];refine⟨xs.getD k 0,?_,h⟩;rw[zO,zE hkl];exact zbK _
   have HSum:=zB (S13.sum_take (ws:=r.l) (xs:=xs) hrl hkl);have hwb:=Hsel.out k hkl;have hlw:=zF hwr;have hlx:=zF hxr;have hlc:=zF hcr;simp only at hlw hlx hlc;clear hcx hcw hx hw;generalize xs.getD k 0=x at *;generalize r.l.getD k 0=wt at *;generalize S13.sum (r.l.take k) (xs.take k)=s at *;have HCl:=zB fun W=>zdA x W;cases hst:S13.strong x with
   | true=>
     have Hall:=zB (HIn hst);have hne:((S06.clip x:Int) != x)=true:=by simpa using S13.is_strong hst
     clear HIn hst;go_wp2;refine zbP 10 (Keeps wr [(⟨gx,ox+k,none⟩,.int .i64 x)]) (by kernel_rfl) rfl (by kernel_rfl) (Keeps.start (by simp only[Cells];exact⟨hxr,yI⟩)) (fun Y F hY hF=> ?_)
     repeat
      apply yX (by rw[hY];rfl)
      ·intro w2 ⟨hB2,hk2⟩;simp only[Cells]at hk2;go_simp;with_reducible rfl
      simp only[zoK]
     apply zcZ (by rw[hY];rfl)
     ·intro w2 ⟨hB2,hk2⟩;simp only[Cells]at hk2;go_simp;with_reducible exact⟨rfl,rfl⟩
     ·intro w2 hS2;have hk2:=hS2.2;simp only[Cells]at hk2;refine(HCl.out _).mono ?_;rintro e w3 ⟨rfl,hb3⟩;exact⟨rfl,hS2.step hb3⟩
     simp only[zoK]
     repeat
      apply yX (by rw[hY];rfl)
      ·intro w2 ⟨hB2,hk2⟩;simp only[Cells]at hk2;go_simp;with_reducible rfl
      simp only[zoK]
     refine hF.out _ (fun w4 hS4=> ?_);clear hF hY;have hB4:Below w.heap.size w w4:=zA hB hS4.1;clear hS4;go_wp2;go_returns;exact⟨by rw[HE.out,HX.out,Hall.out];rfl,hB4⟩
   | false=>
     have hcl:=S13.not_strong hst;rw[hcl]at HCl;have hb : -3071≤x∧x≤3071:=by simp[S13.strong]at hst;omega
     have hm:=S13.mul_abs (A:=3071) (B:=1048576) hb.1 hb.2 hwb.1 hwb.2;have Hno:=zB (show(xs.take (k+1)).any S13.strong=false by rw[Hsn.out,Hany.out,hst];rfl);have e1:IntKind.i64.wrap (x*wt)=x*wt:=IntWalk.i64_in _ (by omega);have e2:IntKind.i64.wrap (s+x*wt)=s+x*wt:=IntWalk.i64_in _ (by omega);have hms:S13.sum (r.l.take (k+1)) (xs.take (k+1))=s+x*wt:=by rw[HSum.out,Int.mul_comm]
     have Hms:=zB hms;have i5:(k:Int)<xs.length:=hkl2;have i6:(0:Int)≤(k:Int):=by omega
     have i7:(0:Int)≤(c:Int):=by omega
     clear HIn hst hcl hms HSum Hsn;go_wp2;refine zbP 10 (Keeps wr [(⟨gx,ox+k,none⟩,.int .i64 x)]) (by kernel_rfl) rfl (by kernel_rfl) (Keeps.start (by simp only[Cells];exact⟨hxr,yI⟩)) (fun Y F hY hF=> ?_)
     repeat
      apply yX (by rw[hY];rfl)
      ·intro w2 ⟨hB2,hk2⟩;simp only[Cells]at hk2;go_simp;with_reducible rfl
      simp only[zoK]
     apply zcZ (by rw[hY];rfl)
     ·intro w2 ⟨hB2,hk2⟩;simp only[Cells]at hk2;go_simp;with_reducible exact⟨rfl,rfl⟩
     ·intro w2 hS2;have hk2:=hS2.2;simp only[Cells]at hk2;refine(HCl.out _).mono ?_;rintro e w3 ⟨rfl,hb3⟩;exact⟨rfl,hS2.step hb3⟩
     simp only[zoK]
     repeat
      apply yX (by rw[hY];rfl)
      ·intro w2 ⟨hB2,hk2⟩;simp only[Cells]at hk2;go_simp;with_reducible rfl
      simp only[zoK]
     refine hF.out _ (fun w4 hS4=> ?_);clear hF hY;have hC4:=hS4.1;have hB4:Below w.heap.size w w4:=zA hB hS4.1;clear hS4;have hxr4:=(hC4.cell hlx).trans hxr;have hwr4:=(hC4.cell hlw).trans hwr;have hcr4:=(hC4.cell hlc).trans hcr;have c04:=(hC4.cell (p:=⟨w.heap.size,0,none⟩) hbl).trans c0;have c14:=(hC4.cell (p:=⟨w.heap.size,1,none⟩) hbl).trans c1;have Hbk4:=zB (Hbk.out.step hC4);go_wp2;refine zbP 16 (Keeps w4 [(⟨gx,ox+k,none⟩,.int .i64 x),(⟨gw,ow+k,none⟩,.int .i64 wt),(⟨g,o+c,none⟩,.slice (some ⟨gw,ow,none⟩) xs.length r.cap),(⟨w.heap.size,1,none⟩,.slice (some ⟨g,o,none⟩) m mc)]) (by kernel_rfl) rfl (by kernel_rfl) (Keeps.start (by simp only[Cells];exact⟨hxr4,hwr4,hcr4,c14,yI⟩)) (fun Y F hY hF=> ?_)
     repeat
      apply yX (by rw[hY];rfl)
      ·intro w2 ⟨hB2,hk2⟩;simp only[Cells]at hk2;go_simp;with_reducible rfl
      simp only[zoK]
     refine hF.out _ (fun w5 hS5=> ?_);clear hF hY;have hB5:Below w.heap.size w w5:=zA hB4 hS5.1;have Hbk5:=zB (Hbk4.out.step hS5.1);clear hS5;go_wp2;go_roundw
     case rel=>exact⟨k+1,by omega,by go_num,by rw[Hms.out],Hno.out,by rw[Hms.out];omega,by rw[Hms.out];omega,Hbk5.out,hB5⟩
     case measure=>simp[intOf];omega
  ·obtain rfl:k=xs.length:=by omega
   have etk:S13.sum (r.l.take xs.length) (xs.take xs.length)=S13.sum r.l xs:=by rw[yZ,←hrl,yZ]
   rw[etk]at hs1' hs2'⊢;have Hany2:=zB (show xs.any S13.strong=false by have:=Hany.out;rw[yZ]at this;exact this);have HRd:=zB fun W=>zfN (S13.sum r.l xs) 65536 W (by omega) (by omega) (by omega) (by omega);have HCl:=zB fun W=>zdA (S06.round (S13.sum r.l xs) 65536) W;have Hq:=zB (show S13.mix r.l xs=S06.clip (S06.round (S13.sum r.l xs) 65536)from rfl);generalize S06.clip (S06.round (S13.sum r.l xs) 65536)=q at *;generalize S06.round (S13.sum r.l xs) 65536=p at *;clear hs1' hs2' etk;go_wp2_with fail;refine(HRd.out _).mono ?_;rintro e w2 ⟨rfl,hb2⟩;have hB2:Below w.heap.size w w2:=zA hB hb2;go_wp2_with fail;refine(HCl.out _).mono ?_;rintro e w3 ⟨rfl,hb3⟩;have hB3:Below w.heap.size w w3:=zA hB2 hb3;go_wp2;go_returns;exact⟨by rw[HE.out,HX.out,Hany2.out,←Hq.out];rfl,hB3⟩
theorem refMix13_any(n:Int)(L:List (List Int))(V:Value)(c:Int)(xs:List Int)(a:Option Addr)(cap:Nat)(w:World)(hV:MixIs n L V w)(hlen:xs.length≤9223372036854775807)(hrd:Rd w a (zaK xs)) :
 Calls Tryz.prog 120 #[V,.int .i64 c,.slice a xs.length cap] w fun e w'=>e = .returned (.tuple #[.int .i64 (S13.mixR n L c xs),.int .i64 (S13.usable 16 n L c xs)])∧Below w.heap.size w w':=by
 obtain⟨ma,mc,rfl,m1,m2,hM⟩:=mixOpen hV;by_cases hck:S13.check 16 n L=0
 ·by_cases hc:c<0∨(L.length:Int)≤c
  ·have HC:=zB fun W (hb:Below w.heap.size w W)=>zbV n L _ W (hM.step hb);rw[hck]at HC;have hu:S13.usable 16 n L c xs=7:=by
    unfold S13.usable;rw[zK (by simpa using hck),zU hc]
   have hr:S13.mixR n L c xs=0:=by unfold S13.mixR;rw[hu];rfl
   rw[hu,hr];have hw:c<0∨(¬c<0∧(L.length:Int)≤c):=by omega
   clear hck hc hu hr hM hrd hV;generalize L.length=m at *;generalize xs.length=l at *;rcases hw with hw|⟨hw,hw2⟩
   all_goals
    go_enter Tryz.func120,Tryz.ntmps120;go_wp2_with fail;refine(HC.out _ (by go_grown)).mono ?_;rintro e w1 ⟨rfl,hb1⟩;have hB1:Below w.heap.size w w1:=zA (by go_grown) hb1;have z1:w.heap.size≤w1.heap.size:=hB1.size;have hs1:w.heap.size<w1.heap.size:=by have:=hb1.size;simp at this;omega
    have k1:w1.cell? ⟨w.heap.size,0,none⟩=some (.int .i64 n):=(hb1.cell (by simp<;>omega)).trans (by go_simp);have k2:w1.cell? ⟨w.heap.size,1,none⟩=some (.slice ma m mc):=(hb1.cell (by simp<;>omega)).trans (by go_simp);go_wp2;go_returns;exact⟨rfl,hB1⟩
  ·by_cases hl:(xs.length:Int)=n
   ·obtain⟨c,rfl⟩:=Int.eq_ofNat_of_zero_le (show 0≤c by omega);exact znJ n L ma mc c xs a cap w hM hrd hck (by omega) hl
   ·have HC:=zB fun W (hb:Below w.heap.size w W)=>zbV n L _ W (hM.step hb);rw[hck]at HC;have hu:S13.usable 16 n L c xs=6:=by
     unfold S13.usable;rw[zK (by simpa using hck),zK hc,zU hl]
    have hr:S13.mixR n L c xs=0:=by unfold S13.mixR;rw[hu];rfl
    rw[hu,hr];have hl2:((xs.length:Int) != n)=true:=by simpa using hl
    have hc1:¬c<0:=by omega
    have hc2:¬(L.length:Int)≤c:=by omega
    clear hck hc hu hr hM hrd hl hV;generalize L.length=m at *;generalize xs.length=l at *;go_enter Tryz.func120,Tryz.ntmps120;go_wp2_with fail;refine(HC.out _ (by go_grown)).mono ?_;rintro e w1 ⟨rfl,hb1⟩;have hB1:Below w.heap.size w w1:=zA (by go_grown) hb1;have z1:w.heap.size≤w1.heap.size:=hB1.size;have hs1:w.heap.size<w1.heap.size:=by have:=hb1.size;simp at this;omega
    have k3:w1.cell? ⟨w.heap.size,0,none⟩=some (.int .i64 n):=(hb1.cell (by simp<;>omega)).trans (by go_simp);have k4:w1.cell? ⟨w.heap.size,1,none⟩=some (.slice ma m mc):=(hb1.cell (by simp<;>omega)).trans (by go_simp);go_wp2;go_returns;exact⟨rfl,hB1⟩
 ·have HC:=zB fun W (hb:Below w.heap.size w W)=>zbV n L _ W (hM.step hb);have hu:S13.usable 16 n L c xs=S13.check 16 n L:=by unfold S13.usable;rw[zU hck]
  have hr:S13.mixR n L c xs=0:=by unfold S13.mixR;rw[hu,zK hck]
  rw[hu,hr];have hck2:((S13.check 16 n L:Int) != 0)=true:=by simpa using hck
  clear hck hu hr hM hrd hV;generalize S13.check 16 n L=y at *;generalize L.length=m at *;generalize xs.length=l at *;go_enter Tryz.func120,Tryz.ntmps120;go_wp2_with fail;refine(HC.out _ (by go_grown)).mono ?_;rintro e w1 ⟨rfl,hb1⟩;have hB1:Below w.heap.size w w1:=zA (by go_grown) hb1;have z1:w.heap.size≤w1.heap.size:=hB1.size;go_wp2;go_returns;exact⟨rfl,hB1⟩
def S13.few(L:List (List Int)):Bool:=(L.take 100).all (fun l=>decide (l.length≤40))&&decide (L.length≤100)
end Go.Proofs.YtieeogndnhighaaGreat
