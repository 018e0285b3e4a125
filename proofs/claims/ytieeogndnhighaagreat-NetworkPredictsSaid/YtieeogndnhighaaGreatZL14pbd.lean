/- A part of the proof that ends in L14p (W11b, W11c, W11f). No condition. -/
import Derived.Below
import Derived.BigQuiet
import Derived.Deep.Draws
import Derived.Deep.Light
import Derived.Deep.MidRow
import Derived.Deep.QuietTactic
import Derived.Handy
import Derived.Laws.AppendOwnNone
import Derived.Laws.CopyOwn
import Derived.Laws.MakeOwn
import Derived.Lib.Hide
import Derived.Lib.MinMax
import Derived.Maps.AppendAt
import Derived.Orders
import Derived.OrdersHeld
import Derived.StillTail
import Derived.Tactics
import Derived.Test.YtieeogndnhighaaGreatRows
import Derived.Test.YtieeogndnhighaaGreatShelf
import Derived.WalkKit
import Derived.WalkLawsBesides
import Derived.WalkSpells
import Derived.Test.YtieeogndnhighaaGreatZL14paq
import Derived.Test.YtieeogndnhighaaGreatZL14pas
import Derived.Test.YtieeogndnhighaaGreatZL14pay
set_option linter.unusedSectionVars false
set_option linter.unusedSimpArgs false
set_option linter.unusedVariables false
set_option maxRecDepth 100000
set_option maxHeartbeats 2000000
namespace Go.Proofs.YtieeogndnhighaaGreat
open Go.RowKit
theorem placed11_any(p:Int)(w:World):Calls Tryz.prog 296 #[.int .i64 p] w fun e w'=>e = .returned (.agg #[.int .i64 (S11.at p),.int .i64 (S11.from p)])∧Below w.heap.size w w':=by
 have HS:=zB fun W=>zbQ p W;have hx:=S11.x_bounds p;have ha:=zB (S11.at_int p);have hf:S11.from p=(S06.stretch p+3072)%192:=rfl
 rw[hf,←ha.out];clear hf ha;generalize S06.stretch p=s at *;go_enter Tryz.func296,Tryz.ntmps296;go_wp2_with fail;refine(HS.out _).mono ?_;rintro e w1 ⟨rfl,hb1⟩;have hB1:Below w.heap.size w w1:=zA (by go_grown) hb1;have z1:w.heap.size≤w1.heap.size:=hB1.size;have hs1:w.heap.size<w1.heap.size:=by have:=hb1.size;simp at this;omega
 have hb:=(Blk.new w [.int .i64 0,.int .i64 0] 306).step hb1;have f0:=hb.free 0;have f1:=hb.free 1;have c0:=hb.cell 0;have c1:=hb.cell 1;have g0:=(hb.set 0 (.int .i64 ((s+3072)/192))).cell 0;have g1:=((hb.set 0 (.int .i64 ((s+3072)/192))).set 1 (.int .i64 ((s+3072)%192))).cell 1;simp only[sC0,sCs,lgz,lgs]at c0 c1 g0 g1;clear hb;go_wp2;refine bodyPost_ret (v:=.agg #[.int .i64 ((s+3072)/192),.int .i64 ((s+3072)%192)]) (by simp[results,Tryz.results296,go_sem,g0,g1]) rfl ⟨rfl,?_⟩
 go_grown
theorem rows11_any(n cap c b o:Nat)(w:World)(h1:33*(c+1)≤n)(h2:n≤cap)(h3:cap≤9223372036854775807) :
 Calls Tryz.prog 294 #[.agg #[.slice (some ⟨b,o,none⟩) n cap],.int .i64 c] w fun e w'=>e = .returned (.slice (some ⟨b,o+33*c,none⟩) 33 33)∧Below w.heap.size w w':=by
 go_enter Tryz.func294,Tryz.ntmps294;go_wp2;go_returns;exact⟨by rw[show 33*(c+1)-33*c=33 by omega];rfl,by go_grown⟩
theorem S11.mul_bounds{u f:Int}(h1:0≤u)(h2:u≤65535)(h3:0≤f)(h4:f≤192):0≤u*f∧u*f≤12582720:=by
 refine⟨Int.mul_nonneg h1 h3,?_⟩;have:=Int.mul_le_mul h2 h4 h3 (by omega);omega
theorem znI(at':Nat)(f u v:Int)(b o:Nat)(w:World)(ha:at'≤31)(hf:0≤f)(hf':f≤191)(hu:0≤u)(hu':u≤65535)(hv:0≤v)(hv':v≤65535)
 (hc1:w.cell? ⟨b,o+at',none⟩=some (.int .i64 u)) (hc2:w.cell? ⟨b,o+(at'+1),none⟩=some (.int .i64 v)) :
 Calls Tryz.prog 297 #[.slice (some ⟨b,o,none⟩) 33 33,.agg #[.int .i64 at',.int .i64 f]] w fun e w'=>e = .returned (.int .i64 (S11.clamp (S11.mix u v f)))∧Below w.heap.size w w':=by
 obtain⟨m1,m2⟩:=S11.mul_bounds hu hu' (show 0≤192-f by omega) (by omega);obtain⟨m3,m4⟩:=S11.mul_bounds hv hv' hf (by omega);have w1:IntKind.i64.wrap (192-f)=192-f:=IntWalk.i64_in _ (by omega);have w2:IntKind.i64.wrap (u*(192-f))=u*(192-f):=IntWalk.i64_in _ (by omega);have w3:IntKind.i64.wrap (v*f)=v*f:=IntWalk.i64_in _ (by omega);have w4:IntKind.i64.wrap (u*(192-f)+v*f)=u*(192-f)+v*f:=IntWalk.i64_in _ (by omega);have w5:(u*(192-f)+v*f).tdiv 192=(u*(192-f)+v*f)/192:=Int.tdiv_eq_ediv_of_nonneg (by omega);have w6:IntKind.i64.wrap ((u*(192-f)+v*f)/192)=(u*(192-f)+v*f)/192:=IntWalk.i64_in _ (by omega);have w7:IntKind.i64.wrap ((at':Int)+1)=(at':Int)+1:=IntWalk.i64_in _ (by omega);have w8:((at':Int)+1).toNat=at'+1:=by omega
 have i1:(at':Int)<33:=by omega
 have i2:(0:Int)≤(at':Int)+1:=by omega
 have i3:(at':Int)+1<33:=by omega
 have i4:at'<33:=by omega
 have i5:at'+1<33:=by omega
 have i6:(0:Int)≤(at':Int):=by omega
 have hl1:=zF hc1;go_enter Tryz.func297,Tryz.ntmps297;go_wp2;refine zbP 21 (Keeps (w.alloc (Obj.cells #[.int .i64 at',.int .i64 f] 306)) [(⟨w.heap.size,0,none⟩,.int .i64 at'),(⟨w.heap.size,1,none⟩,.int .i64 f),(⟨b,o+at',none⟩,.int .i64 u),(⟨b,o+(at'+1),none⟩,.int .i64 v)]) (by kernel_rfl) rfl (by kernel_rfl) (Keeps.start (by simp only[Cells];refine⟨?_,?_,?_,?_,yI⟩<;>go_simp)) (fun Y F hY hF=> ?_)
 repeat
  apply yX (by rw[hY];rfl)
  ·intro w2 ⟨hB2,hk2⟩;simp only[Cells]at hk2;go_simp;with_reducible rfl
  simp only[zoK]
 refine hF.out _ (fun w4 hS4=> ?_);clear hF hY;have hB4:Below w.heap.size w w4:=zA (by go_grown) hS4.1;clear hS4;have hm:S11.mix u v f=(u*(192-f)+v*f)/192:=rfl;have hcl:∀n:Int,S11.clamp n=min (max (n/16) 1) 4095:=fun n=>by unfold S11.clamp;omega
 have Hm:=zB hm;have Hcl:=zB hcl;clear hm hcl;go_wp2;go_returns;exact⟨zaV (by rw[Hcl.out,Hm.out]),hB4⟩
theorem S11.getD_bounds{xs:List Int}(h:xs.any S11.bad=false){i:Nat}(hi:i<xs.length):0≤xs.getD i 0∧xs.getD i 0≤65535:=by
 rw[List.any_eq_false]at h;have:=h xs[i] (zbK hi);simp[S11.bad]at this;rw[zO,zE hi];simp;omega
theorem S11.check_zero{xs:List Int}(h:S11.check xs=0):xs.length%33=0∧33≤xs.length∧xs.length≤2162688∧xs.any S11.bad=false:=by
 by_cases hl:xs.length%33≠0∨xs.length<33∨2162688<xs.length
 ·rw[S11.check_long hl]at h;omega
 ·rw[S11.check_fit hl]at h;refine⟨by omega,by omega,by omega,?_⟩;cases hb:xs.any S11.bad with
  | false=>rfl
  | true=>rw[hb]at h;simp at h
theorem S11.usable_zero{xs:List Int}{c p:Int}(h:S11.usable xs c p=0):S11.check xs=0∧0≤c∧c<(xs.length/33:Nat)∧1≤p∧p≤4095:=by
 unfold S11.usable at h;split at h
 ·omega
 ·split at h
  ·omega
  ·split at h
   ·omega
   ·omega
def S11.refineR(xs:List Int)(c p:Int):Int:=if S11.usable xs c p=0 then S11.refine xs c.toNat p else 0
theorem refine11_any(xs:List Int)(a:Option Addr)(cap:Nat)(c p:Int)(w:World)(hlen:xs.length≤cap)(hcap:cap≤9223372036854775807)(hrd:Rd w a (zaK xs)) :
 Calls Tryz.prog 291 #[.agg #[.slice a xs.length cap],.int .i64 c,.int .i64 p] w fun e w'=>e = .returned (.tuple #[.int .i64 (S11.refineR xs c p),.int .i64 (S11.usable xs c p)])∧Below w.heap.size w w':=by
 have HU:=zB fun W (hb:Below w.heap.size w W)=>usable11_any xs a cap c p W (by omega) (hrd.step hb);by_cases hu:S11.usable xs c p=0
 ·obtain⟨k1,k2,k3,k4,k5⟩:=S11.usable_zero hu;obtain⟨q1,q2,q3,q4⟩:=S11.check_zero k1;obtain⟨c,rfl⟩:=Int.eq_ofNat_of_zero_le k2;have e1:S11.refineR xs c p=S11.refine xs c p:=by unfold S11.refineR;rw[zU hu];rfl
  rw[e1];rw[hu]at HU⊢;have hc33:33*(c+1)≤xs.length:=by omega
  have hat:=S11.at_le p;have hfr:=S11.from_bounds p;have b1:=S11.getD_bounds q4 (i:=33*c+S11.at p) (by omega);have b2:=S11.getD_bounds q4 (i:=33*c+S11.at p+1) (by omega);obtain⟨g,o,rfl,hcs⟩:=hrd.at (i:=0) (by rw[yB];omega);have hx1:w.cell? ⟨g,o+33*c+S11.at p,none⟩=some (.int .i64 (xs.getD (33*c+S11.at p) 0)):=by
   have:=hcs (33*c+S11.at p) (by rw[yB];omega);rw[zbN,this];simp[zaK,zO,zE (show 33*c+S11.at p<xs.length by omega)]
  have hx2:w.cell? ⟨g,o+33*c+(S11.at p+1),none⟩=some (.int .i64 (xs.getD (33*c+S11.at p+1) 0)):=by
   have:=hcs (33*c+(S11.at p+1)) (by rw[yB];omega);rw[zbN,this];simp[zaK,zO,←zbN,zE (show 33*c+S11.at p+1<xs.length by omega)]
  have HRf:=zB fun W (hb:Below w.heap.size w W)=>znI (S11.at p) (S11.from p) _ _ g (o+33*c) W hat hfr.1 hfr.2 b1.1 b1.2 b2.1 b2.2 ((hb.cell (zF hx1)).trans hx1) ((hb.cell (zF hx2)).trans hx2);have HPl:=zB fun W=>placed11_any p W;have hrf:S11.refine xs c p=S11.clamp (S11.mix (xs.getD (33*c+S11.at p) 0) (xs.getD (33*c+S11.at p+1) 0) (S11.from p)):=rfl;rw[hrf];have HRw:=zB fun W=>rows11_any xs.length cap c g o W hc33 hlen hcap;clear hx1 hx2 hcs b1 b2 hrf hrd k1 q1 q4 hu e1;generalize S11.clamp (S11.mix (xs.getD (33*c+S11.at p) 0) (xs.getD (33*c+S11.at p+1) 0) (S11.from p))=r at *;generalize S11.at p=at' at *;generalize S11.from p=f at *
  generalize xs.length=n at *;go_enter Tryz.func291,Tryz.ntmps291;go_wp2_with fail;refine(HU.out _ (by go_grown)).mono ?_;rintro e w1 ⟨rfl,hb1⟩;have hB1:Below w.heap.size w w1:=zA (by go_grown) hb1;have z1:w.heap.size≤w1.heap.size:=hB1.size;have k1:w1.cell? ⟨w.heap.size,0,none⟩=some (.slice (some ⟨g,o,none⟩) n cap):=(hb1.cell (by simp<;>omega)).trans (by go_simp);have hs1:w.heap.size<w1.heap.size:=by have:=hb1.size;simp at this;omega
  go_wp2_with fail;refine(HRw.out _).mono ?_;rintro e w2 ⟨rfl,hb2⟩;have hB2:Below w.heap.size w w2:=zA (by go_grown) hb2;have z2:w.heap.size≤w2.heap.size:=hB2.size;go_wp2_with fail;refine(HPl.out _).mono ?_;rintro e w3 ⟨rfl,hb3⟩;have hB3:Below w.heap.size w w3:=zA (by go_grown) hb3;have z3:w.heap.size≤w3.heap.size:=hB3.size;go_wp2_with fail;refine(HRf.out _ hB3).mono ?_;rintro e w4 ⟨rfl,hb4⟩;have hB4:Below w.heap.size w w4:=zA (by go_grown) hb4;have z4:w.heap.size≤w4.heap.size:=hB4.size;go_wp2;go_returns;exact⟨rfl,hB4⟩
 ·have e1:S11.refineR xs c p=0:=by unfold S11.refineR;rw[zK hu]
  have hu2:((S11.usable xs c p:Int) != 0)=true:=by simpa using hu
  rw[e1];clear hu e1 hrd;generalize S11.usable xs c p=y at *;generalize xs.length=n at *;go_enter Tryz.func291,Tryz.ntmps291;go_wp2_with fail;refine(HU.out _ (by go_grown)).mono ?_;rintro e w1 ⟨rfl,hb1⟩;have hB1:Below w.heap.size w w1:=zA (by go_grown) hb1;have z1:w.heap.size≤w1.heap.size:=hB1.size;go_wp2;go_returns;exact⟨rfl,hB1⟩
theorem zfO(xs:List Int)(a:Option Addr)(cap:Nat)(w:World)(hlen:xs.length≤9223372036854775807)(hrd:Rd w a (zaK xs)) :
 Calls Tryz.prog 84 #[.agg #[.slice a xs.length cap]] w fun e w'=>e = .returned (.int .i64 (S11.check xs))∧Below w.heap.size w w':=by
 by_cases hl:xs.length%33≠0∨xs.length<33∨2162688<xs.length
 ·rw[S11.check_long hl];have hw:(((xs.length:Int)==0)=true)∨(((xs.length:Int)==0)=false∧((xs.length:Int)%33 != 0)=true)∨(((xs.length:Int)==0)=false∧((xs.length:Int)%33 != 0)=false∧(2162688:Int)<xs.length):=by
   by_cases h0:xs.length=0
   ·left;simp[h0]
   ·right;have h2:(((xs.length:Int)==0)=false):=by simp;intro h;exact h0 (by simp[h])
    by_cases h1:xs.length%33=0
    ·have h3:(((xs.length:Int)%33 != 0)=false):=by simp;omega
     right;exact⟨h2,h3,by omega⟩
    ·left;exact⟨h2,by simp;omega⟩
  clear hl hrd;generalize xs.length=n at *;rcases hw with hw|⟨hw,hw2⟩|⟨hw,hw2,hw3⟩
  all_goals
   go_enter Tryz.func84,Tryz.ntmps84;go_wp2;go_returns;exact⟨rfl,by go_grown⟩
 ·rw[S11.check_fit hl];have h1:(((xs.length:Int)%33 != 0)=false):=by simp;omega
  have h2:(((xs.length:Int)==0)=false):=by simp;intro h;simp[h]at hl
  have h3:¬(2162688:Int)<xs.length:=by omega
  have hpos:0<xs.length:=by omega
  obtain⟨g,o,rfl,_⟩:=hrd.at (i:=0) (by rw[yB];omega);obtain⟨r,hr⟩:∃r:Int,r=(if xs.any S11.bad=true then 2 else 0):=⟨_,rfl⟩;rw[←hr];have HR:=zB hr;clear hl hr;go_enter Tryz.func84,Tryz.ntmps84;go_wp2;have hb0:=Blk.new w [.slice (some ⟨g,o,none⟩) xs.length cap] 81;go_loopw [4] (fun i wr=>∃k:Nat,k≤xs.length∧i = .int .i64 k∧(xs.take k).any S11.bad=false∧Blk wr w.heap.size [.slice (some ⟨g,o,none⟩) xs.length cap] 81∧Below w.heap.size w wr) (fun i _=>xs.length-(intOf i).toNat)
  case atStart=>exact⟨0,by omega,rfl,rfl,hb0,by go_grown⟩
  case round=>
   obtain⟨k,hk,rfl,hno,hblk,hB⟩:=hrel;have zr:w.heap.size≤wr.heap.size:=hB.size;have Hno:=zB hno;have Hblk:=zB hblk;have c0:=hblk.cell 0;simp only[lgz]at c0;clear hno hblk hb0;by_cases hlt:k<xs.length
   ·obtain⟨g2,o2,hgo,hcs⟩:=(hrd.step hB).at (i:=k) (by rw[yB];exact hlt);obtain⟨rfl,rfl⟩:g=g2∧o=o2:=by simp at hgo;exact hgo
    have hc:wr.cell? ⟨g,o+k,none⟩=some (.int .i64 xs[k]):=by rw[hcs k (by rw[yB];exact hlt)];simp[zaK]
    have Hs:=zB (zbA S11.bad xs k hlt);have Ha:=zB (zcW S11.bad xs k hlt);generalize xs[k]=x at *;clear hcs hgo;by_cases hx:x<0
    ·have Hany:=zB (Ha.out (by simp[S11.bad,hx]));go_wp2;go_returns;exact⟨by rw[HR.out,Hany.out];rfl,hB⟩
    ·by_cases hx2:65535<x
     ·have Hany:=zB (Ha.out (by simp[S11.bad,hx2]));go_wp2;go_returns;exact⟨by rw[HR.out,Hany.out];rfl,hB⟩
     ·have Hn:=zB (show(xs.take (k+1)).any S11.bad=false by rw[Hs.out,Hno.out];simp[S11.bad];omega);go_wp2;go_roundw
      case rel=>exact⟨k+1,by omega,by go_num,Hn.out,Hblk.out,hB⟩
      case measure=>simp[intOf];omega
   ·obtain rfl:k=xs.length:=by omega
    have Hn:=zB (show xs.any S11.bad=false by have:=Hno.out;rwa[yZ]at this);go_wp2;go_returns;exact⟨by rw[HR.out,Hn.out];rfl,hB⟩
theorem refRow11_any(xs:List Int)(a:Option Addr)(cap:Nat)(c p:Int)(w:World)(hlen:xs.length≤9223372036854775807)(hrd:Rd w a (zaK xs)) :
 Calls Tryz.prog 133 #[.agg #[.slice a xs.length cap],.int .i64 c,.int .i64 p] w fun e w'=>e = .returned (.int .i64 (S11.usable xs c p))∧Below w.heap.size w w':=by
 have HC:=zB fun W (hb:Below w.heap.size w W)=>zfO xs a cap W hlen (hrd.step hb);unfold S11.usable;have hq:((xs.length/33:Nat):Int)=(xs.length:Int)/33:=by omega
 rw[hq];clear hrd hq;generalize S11.check xs=y at *;generalize xs.length=n at *;by_cases hy:y=0
 ·subst hy;rw[zK (by simp)];by_cases hc:c<0∨(n:Int)/33≤c
  ·rw[zU hc];have hw:c<0∨(¬c<0∧(n:Int)/33≤c):=by omega
   clear hc;rcases hw with hw|⟨hw,hw2⟩
   all_goals
    go_enter Tryz.func133,Tryz.ntmps133;go_wp2_with fail;refine(HC.out _ (by go_grown)).mono ?_;rintro e w1 ⟨rfl,hb1⟩;have hB1:Below w.heap.size w w1:=zA (by go_grown) hb1;have z1:w.heap.size≤w1.heap.size:=hB1.size;have k1:w1.cell? ⟨w.heap.size,0,none⟩=some (.slice a n cap):=(hb1.cell (by simp<;>omega)).trans (by go_simp);have hs1:w.heap.size<w1.heap.size:=by have:=hb1.size;simp at this;omega
    go_wp2;go_returns;exact⟨rfl,hB1⟩
  ·rw[zK hc];have h1:¬c<0:=by omega
   have h2:¬(n:Int)/33≤c:=by omega
   clear hc;have hw:(p<1)∨(¬p<1∧4095<p)∨(¬p<1∧¬4095<p):=by omega
   rcases hw with hw|⟨hw,hw2⟩|⟨hw,hw2⟩
   ·rw[zU (by omega)];go_enter Tryz.func133,Tryz.ntmps133;go_wp2_with fail;refine(HC.out _ (by go_grown)).mono ?_;rintro e w1 ⟨rfl,hb1⟩;have hB1:Below w.heap.size w w1:=zA (by go_grown) hb1;have z1:w.heap.size≤w1.heap.size:=hB1.size;have k2:w1.cell? ⟨w.heap.size,0,none⟩=some (.slice a n cap):=(hb1.cell (by simp<;>omega)).trans (by go_simp);have hs1:w.heap.size<w1.heap.size:=by have:=hb1.size;simp at this;omega
    go_wp2;go_returns;exact⟨rfl,hB1⟩
   ·rw[zU (by omega)];go_enter Tryz.func133,Tryz.ntmps133;go_wp2_with fail;refine(HC.out _ (by go_grown)).mono ?_;rintro e w1 ⟨rfl,hb1⟩;have hB1:Below w.heap.size w w1:=zA (by go_grown) hb1;have z1:w.heap.size≤w1.heap.size:=hB1.size;have k3:w1.cell? ⟨w.heap.size,0,none⟩=some (.slice a n cap):=(hb1.cell (by simp<;>omega)).trans (by go_simp);have hs1:w.heap.size<w1.heap.size:=by have:=hb1.size;simp at this;omega
    go_wp2;go_returns;exact⟨rfl,hB1⟩
   ·rw[zK (by omega)];go_enter Tryz.func133,Tryz.ntmps133;go_wp2_with fail;refine(HC.out _ (by go_grown)).mono ?_;rintro e w1 ⟨rfl,hb1⟩;have hB1:Below w.heap.size w w1:=zA (by go_grown) hb1;have z1:w.heap.size≤w1.heap.size:=hB1.size;have k4:w1.cell? ⟨w.heap.size,0,none⟩=some (.slice a n cap):=(hb1.cell (by simp<;>omega)).trans (by go_simp);have hs1:w.heap.size<w1.heap.size:=by have:=hb1.size;simp at this;omega
    go_wp2;go_returns;exact⟨rfl,hB1⟩
 ·rw[zU hy];have hy2:((y:Int) != 0)=true:=by simpa using hy
  clear hy;go_enter Tryz.func133,Tryz.ntmps133;go_wp2_with fail;refine(HC.out _ (by go_grown)).mono ?_;rintro e w1 ⟨rfl,hb1⟩;have hB1:Below w.heap.size w w1:=zA (by go_grown) hb1;have z1:w.heap.size≤w1.heap.size:=hB1.size;go_wp2;go_returns;exact⟨rfl,hB1⟩
theorem zkD(xs:List Int)(a:Option Addr)(cap:Nat)(c p:Int)(w:World)(hlen:xs.length≤cap)(hcap:cap≤9223372036854775807)(hrd:Rd w a (zaK xs)) :
 Calls Tryz.prog 121 #[.agg #[.slice a xs.length cap],.int .i64 c,.int .i64 p] w fun e w'=>e = .returned (.tuple #[.int .i64 (S11.refineR xs c p),.int .i64 (S11.usable xs c p)])∧Below w.heap.size w w':=by
 have HU:=zB fun W (hb:Below w.heap.size w W)=>refRow11_any xs a cap c p W (by omega) (hrd.step hb);by_cases hu:S11.usable xs c p=0
 ·obtain⟨k1,k2,k3,k4,k5⟩:=S11.usable_zero hu;obtain⟨q1,q2,q3,q4⟩:=S11.check_zero k1;obtain⟨c,rfl⟩:=Int.eq_ofNat_of_zero_le k2;have e1:S11.refineR xs c p=S11.refine xs c p:=by unfold S11.refineR;rw[zU hu];rfl
  rw[e1];rw[hu]at HU⊢;have hc33:33*(c+1)≤xs.length:=by omega
  have hat:=S11.at_le p;have hfr:=S11.from_bounds p;have b1:=S11.getD_bounds q4 (i:=33*c+S11.at p) (by omega);have b2:=S11.getD_bounds q4 (i:=33*c+S11.at p+1) (by omega);obtain⟨g,o,rfl,hcs⟩:=hrd.at (i:=0) (by rw[yB];omega);have hx1:w.cell? ⟨g,o+(33*c+S11.at p),none⟩=some (.int .i64 (xs.getD (33*c+S11.at p) 0)):=by
   have:=hcs (33*c+S11.at p) (by rw[yB];omega);rw[this];simp[zaK,zO,zE (show 33*c+S11.at p<xs.length by omega)]
  have hx2:w.cell? ⟨g,o+(33*c+S11.at p+1),none⟩=some (.int .i64 (xs.getD (33*c+S11.at p+1) 0)):=by
   have:=hcs (33*c+S11.at p+1) (by rw[yB];omega);rw[this];simp[zaK,zO,zE (show 33*c+S11.at p+1<xs.length by omega)]
  have hl1:=zF hx1;have HSt:=zB fun W=>zaW p W;have hrf:S11.refine xs c p=S11.clamp (S11.mix (xs.getD (33*c+S11.at p) 0) (xs.getD (33*c+S11.at p+1) 0) (S11.from p)):=rfl;rw[hrf];have hsx:=S11.x_bounds p;have hai:=S11.at_int p;have hfi:(S06.stretch p+3072)%192=S11.from p:=rfl
  clear hcs hrf hrd k1 q1 q4 hu e1;generalize S06.stretch p=st at *;generalize xs.getD (33*c+S11.at p) 0=u at *;generalize xs.getD (33*c+S11.at p+1) 0=v at *;generalize S11.at p=at' at *;generalize S11.from p=f at *
  generalize xs.length=n at *;obtain⟨hu,hu'⟩:=b1;obtain⟨hv,hv'⟩:=b2;obtain⟨hf,hf'⟩:=hfr;obtain⟨m1,m2⟩:=S11.mul_bounds hu hu' (show 0≤192-f by omega) (by omega);obtain⟨m3,m4⟩:=S11.mul_bounds hv hv' hf (by omega);have hm:S11.mix u v f=(u*(192-f)+v*f)/192:=rfl;have hcl:∀n:Int,S11.clamp n=max 1 (min (n/16) 4095):=fun n=>rfl;have Hm:=zB hm;have Hcl:=zB hcl;clear hm hcl;go_enter Tryz.func121,Tryz.ntmps121;go_wp2_with fail;refine(HU.out _ (by go_grown)).mono ?_;rintro e w1 ⟨rfl,hb1⟩;have hB1:Below w.heap.size w w1:=zA (by go_grown) hb1;have z1:w.heap.size≤w1.heap.size:=hB1.size;have k5:w1.cell? ⟨w.heap.size,0,none⟩=some (.slice (some ⟨g,o,none⟩) n cap):=(hb1.cell (by simp<;>omega)).trans (by go_simp);have hs1:w.heap.size<w1.heap.size:=by have:=hb1.size;simp at this;omega
  go_wp2_with fail;refine(HSt.out _).mono ?_;rintro e w2 ⟨rfl,hb2⟩;have hB2:Below w.heap.size w w2:=zA (by go_grown) hb2;have z2:w.heap.size≤w2.heap.size:=hB2.size;have k6:w2.cell? ⟨w.heap.size,0,none⟩=some (.slice (some ⟨g,o,none⟩) n cap):=(hb2.cell (by simp<;>omega)).trans (by go_simp);have hx12:w2.cell? ⟨g,o+(33*c+at'),none⟩=some (.int .i64 u):=(hB2.cell hl1).trans hx1;have hx22:w2.cell? ⟨g,o+(33*c+at'+1),none⟩=some (.int .i64 v):=(hB2.cell (p:=⟨g,o+(33*c+at'+1),none⟩) hl1).trans hx2;go_wp2;have w1':IntKind.i64.wrap (192-f)=192-f:=IntWalk.i64_in _ (by omega);have w2':IntKind.i64.wrap (u*(192-f))=u*(192-f):=IntWalk.i64_in _ (by omega);have w3':IntKind.i64.wrap (v*f)=v*f:=IntWalk.i64_in _ (by omega);have w4':IntKind.i64.wrap (u*(192-f)+v*f)=u*(192-f)+v*f:=IntWalk.i64_in _ (by omega);have w5':(u*(192-f)+v*f).tdiv 192=(u*(192-f)+v*f)/192:=Int.tdiv_eq_ediv_of_nonneg (by omega);have w6':IntKind.i64.wrap ((u*(192-f)+v*f)/192)=(u*(192-f)+v*f)/192:=IntWalk.i64_in _ (by omega);have w7':IntKind.i64.wrap (33*(c:Int)+(at':Int)+1)=33*(c:Int)+(at':Int)+1:=IntWalk.i64_in _ (by omega);have w8':(33*(c:Int)+(at':Int)+1).toNat=33*c+at'+1:=by omega
  have w9':(33*(c:Int)+(at':Int)).toNat=33*c+at':=by omega
  have i1:33*(c:Int)+(at':Int)<n:=by omega
  have i2:(0:Int)≤33*(c:Int)+(at':Int):=by omega
  have i3:33*(c:Int)+(at':Int)+1<n:=by omega
  have i4:(0:Int)≤33*(c:Int)+(at':Int)+1:=by omega
  have i5:33*c+at'<n:=by omega
  have i6:33*c+at'+1<n:=by omega
  refine zbP 19 (Keeps w2 [(⟨w.heap.size,0,none⟩,.slice (some ⟨g,o,none⟩) n cap),(⟨g,o+(33*c+at'),none⟩,.int .i64 u),(⟨g,o+(33*c+at'+1),none⟩,.int .i64 v)]) (by kernel_rfl) rfl (by kernel_rfl) (Keeps.start (by simp only[Cells];refine⟨?_,?_,?_,yI⟩<;>go_simp)) (fun Y F hY hF=> ?_)
  repeat
   apply yX (by rw[hY];rfl)
   ·intro w2 ⟨hB2,hk2⟩;simp only[Cells]at hk2;go_simp;with_reducible rfl
   simp only[zoK]
  refine hF.out _ (fun w4 hS4=> ?_);clear hF hY w1' w2' w3' w4' w5' w6' w7' w8' w9';have hB4:Below w.heap.size w w4:=zA (by go_grown) hS4.1;clear hS4;go_wp2;go_returns;exact⟨by rw[Hcl.out,Hm.out];rfl,hB4⟩
 ·have e1:S11.refineR xs c p=0:=by unfold S11.refineR;rw[zK hu]
  have hu2:((S11.usable xs c p:Int) != 0)=true:=by simpa using hu
  rw[e1];clear hu e1 hrd;generalize S11.usable xs c p=y at *;generalize xs.length=n at *;go_enter Tryz.func121,Tryz.ntmps121;go_wp2_with fail;refine(HU.out _ (by go_grown)).mono ?_;rintro e w1 ⟨rfl,hb1⟩;have hB1:Below w.heap.size w w1:=zA (by go_grown) hb1;have z1:w.heap.size≤w1.heap.size:=hB1.size;go_wp2;go_returns;exact⟨rfl,hB1⟩
def MapIs(L:List Int)(V:Value)(w':World):Prop:=∃a cap,V = .agg #[.slice a L.length cap]∧L.length≤cap∧cap≤9223372036854775807∧Rd w' a (zaK L)
theorem MapIs.step{L:List Int}{V:Value}{w w':World}(h:MapIs L V w)(hb:Below w.heap.size w w'):MapIs L V w':=by
 obtain⟨a,cap,e,h1,h2,h3⟩:=h;exact⟨a,cap,e,h1,h2,h3.step hb⟩
end Go.Proofs.YtieeogndnhighaaGreat
