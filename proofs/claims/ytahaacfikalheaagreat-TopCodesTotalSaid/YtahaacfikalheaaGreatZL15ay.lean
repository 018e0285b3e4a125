/- A part of the proof of L15. No condition. -/
import Derived.Test.YtahaacfikalheaaGreatZL15al
import Derived.Test.YtahaacfikalheaaGreatZL15at
set_option linter.all false
set_option maxRecDepth 100000
set_option maxHeartbeats 1000000
namespace Go.Proofs.YtahaacfikalheaaGreat
open Go.RowKit
theorem enterHeavy(args:Array Value)(w:World):(callFunc 212 args).run Tryz.prog w = .ok (.enter 212 args) w:=by kernel_rfl
theorem enterStrong(args:Array Value)(w:World):(callFunc 213 args).run Tryz.prog w = .ok (.enter 213 args) w:=by kernel_rfl
theorem zbS(x a b:Int)(w:World):Calls Tryz.prog 206 #[.int .i64 x,.int .i64 a,.int .i64 b] w fun e w'=>e = .returned (.bool (decide (a≤x)&&decide (x≤b)))∧Below w.heap.size w w':=by
 by_cases h1:a≤x
 ·by_cases h2:x≤b
  ·rw[zQ h1,zQ h2];go_enter Tryz.func206,Tryz.ntmps206;go_wp2;go_returns;exact⟨rfl,by go_grown⟩
  ·rw[zQ h1,yD h2];go_enter Tryz.func206,Tryz.ntmps206;go_wp2;go_returns;exact⟨rfl,by go_grown⟩
 ·rw[yD h1];go_enter Tryz.func206,Tryz.ntmps206;go_wp2;go_returns;exact⟨rfl,by go_grown⟩
theorem heavy13_any(x:Int)(w:World):Calls Tryz.prog 212 #[.int .i64 x] w fun e w'=>e = .returned (.bool (S13.heavy x))∧Below w.heap.size w w':=by
 have hs:S13.heavy x = !(decide (-1048576≤x)&&decide (x≤1048576)):=by unfold S13.heavy;by_cases h1 : -1048576≤x<;>by_cases h2:x≤1048576<;>simp[h1,h2]<;>omega
 rw[hs];have HB:=zB fun W=>zbS x (-1048576) 1048576 W;generalize (decide (-1048576≤x)&&decide (x≤1048576))=b at *;clear hs;go_enter Tryz.func212,Tryz.ntmps212;go_wp2_with fail;refine(HB.out _).mono ?_;rintro e w1 ⟨rfl,hb1⟩;have hB1:Below w.heap.size w w1:=zA (by go_grown) hb1;have z1:w.heap.size≤w1.heap.size:=hB1.size;go_wp2;go_returns;exact⟨rfl,hB1⟩
theorem strong13_any(x:Int)(w:World):Calls Tryz.prog 213 #[.int .i64 x] w fun e w'=>e = .returned (.bool (S13.strong x))∧Below w.heap.size w w':=by
 have hs:S13.strong x = !(decide (-3071≤x)&&decide (x≤3071)):=by unfold S13.strong;by_cases h1 : -3071≤x<;>by_cases h2:x≤3071<;>simp[h1,h2]<;>omega
 rw[hs];have HB:=zB fun W=>zbS x (-3071) 3071 W;generalize (decide (-3071≤x)&&decide (x≤3071))=b at *;clear hs;go_enter Tryz.func213,Tryz.ntmps213;go_wp2_with fail;refine(HB.out _).mono ?_;rintro e w1 ⟨rfl,hb1⟩;have hB1:Below w.heap.size w w1:=zA (by go_grown) hb1;have z1:w.heap.size≤w1.heap.size:=hB1.size;go_wp2;go_returns;exact⟨rfl,hB1⟩
structure Row13 where
 a:Option Addr
 cap:Nat
 l:List Int
def Row13.head(r:Row13):Value:=.slice r.a r.l.length r.cap
def Row13.ok(w:World)(r:Row13):Prop:=r.l.length≤r.cap∧r.cap≤9223372036854775807∧Rd w r.a (zaK r.l)
theorem Row13.ok.step{w w':World}{r:Row13}(h:r.ok w)(hb:Below w.heap.size w w'):r.ok w':=⟨h.1,h.2.1,h.2.2.step hb⟩
def MixIs(n:Int)(L:List (List Int))(V:Value)(w:World):Prop:=
 ∃(R:List Row13) (a:Option Addr) (cap:Nat),L=R.map Row13.l∧V = .agg #[.int .i64 n,.slice a R.length cap]∧R.length≤cap∧cap≤9223372036854775807∧Rd w a (R.map Row13.head)∧∀r∈R,r.ok w
theorem MixIs.step{n:Int}{L:List (List Int)}{V:Value}{w w':World}(h:MixIs n L V w)(hb:Below w.heap.size w w'):MixIs n L V w':=by
 obtain⟨R,a,cap,h1,h2,h3,h4,h5,h6⟩:=h;exact⟨R,a,cap,h1,h2,h3,h4,h5.step hb,fun r hr=>(h6 r hr).step hb⟩
theorem S13.rows_take(n:Int):∀(L:List (List Int)) (k:Nat),S13.rows n (L.take k)=0→S13.rows n L=S13.rows n (L.drop k)
 | _,0,_=>by simp
 | [],k+1,_=>by simp
 | l::r,k+1,h=>by
   simp only[ltc,S13.rows]at h;simp only[ldc];split at h
   ·simp at h
   ·rename_i h1
    split at h
    ·simp at h
    ·rename_i h2
     rw[S13.rows,zG h1,zG h2];exact S13.rows_take n r k h
theorem enterBad(args:Array Value)(w:World):(callFunc 230 args).run Tryz.prog w = .ok (.enter 230 args) w:=by kernel_rfl
theorem bad11_any(x:Int)(w:World):Calls Tryz.prog 230 #[.int .i64 x] w fun e w'=>e = .returned (.bool (S11.bad x))∧Below w.heap.size w w':=by
 by_cases h:x<0
 ·have e:S11.bad x=true:=by simp[S11.bad,h]
  rw[e];go_enter Tryz.func230,Tryz.ntmps230;go_wp2;go_returns;exact⟨rfl,by go_grown⟩
 ·have e:S11.bad x=decide (65535<x):=by simp[S11.bad];omega
  rw[e];go_enter Tryz.func230,Tryz.ntmps230;go_wp2;go_returns;exact⟨rfl,by go_grown⟩
theorem S11.check_long{xs:List Int}(h:xs.length%33≠0∨xs.length<33∨2162688<xs.length):S11.check xs=6:=by unfold S11.check;rw[zO h]
theorem S11.check_fit{xs:List Int}(h:¬(xs.length%33≠0∨xs.length<33∨2162688<xs.length)):S11.check xs=if xs.any S11.bad then 2 else 0:=by unfold S11.check;rw[zG h]
theorem zqN(xs:List Int)(a:Option Addr)(cap:Nat)(w:World)(hlen:xs.length≤9223372036854775807)(hrd:Rd w a (zaK xs)) :
 Calls Tryz.prog 224 #[.agg #[.slice a xs.length cap]] w fun e w'=>e = .returned (.int .i64 (S11.check xs))∧Below w.heap.size w w':=by
 by_cases hl:xs.length%33≠0∨xs.length<33∨2162688<xs.length
 ·rw[S11.check_long hl];have hw:(((xs.length:Int)%33 != 0)=true)∨(((xs.length:Int)%33 != 0)=false∧(xs.length:Int)<33)∨(((xs.length:Int)%33 != 0)=false∧¬(xs.length:Int)<33∧(2162688:Int)<xs.length):=by
   by_cases h1:xs.length%33=0
   ·have h2:(((xs.length:Int)%33 != 0)=false):=by simp;omega
    right;by_cases h3:xs.length<33
    ·left;exact⟨h2,by omega⟩
    ·right;exact⟨h2,by omega,by omega⟩
   ·left;simp;omega
  clear hl;generalize xs.length=n at *;rcases hw with hw|⟨hw,hw2⟩|⟨hw,hw2,hw3⟩
  all_goals
   go_enter Tryz.func224,Tryz.ntmps224;go_wp2;go_returns;exact⟨rfl,by go_grown⟩
 ·rw[S11.check_fit hl];have h1:(((xs.length:Int)%33 != 0)=false):=by simp;omega
  have h2:¬(xs.length:Int)<33:=by omega
  have h3:¬(2162688:Int)<xs.length:=by omega
  have HC:=zB fun W (hb:Below w.heap.size w W)=>zdM 230 enterBad S11.bad bad11_any xs a cap W hlen (hrd.step hb);clear hl hrd;generalize xs.any S11.bad=b at *;generalize xs.length=n at *;cases b
  all_goals
   go_enter Tryz.func224,Tryz.ntmps224;go_wp2_with fail;refine(HC.out _ (by go_grown)).mono ?_;rintro e w1 ⟨rfl,hb1⟩;have hB1:Below w.heap.size w w1:=zA (by go_grown) hb1;have z1:w.heap.size≤w1.heap.size:=hB1.size;go_wp2;go_returns;exact⟨rfl,hB1⟩
theorem znB(xs:List Int)(a:Option Addr)(cap:Nat)(c p:Int)(w:World)(hlen:xs.length≤9223372036854775807)(hrd:Rd w a (zaK xs)) :
 Calls Tryz.prog 225 #[.agg #[.slice a xs.length cap],.int .i64 c,.int .i64 p] w fun e w'=>e = .returned (.int .i64 (S11.usable xs c p))∧Below w.heap.size w w':=by
 have HC:=zB fun W (hb:Below w.heap.size w W)=>zqN xs a cap W hlen (hrd.step hb);unfold S11.usable;have hq:((xs.length/33:Nat):Int)=(xs.length:Int)/33:=by omega
 rw[hq];clear hrd hq;generalize S11.check xs=y at *;generalize xs.length=n at *;by_cases hy:y=0
 ·subst hy;rw[zG (by simp)];by_cases hc:c<0∨(n:Int)/33≤c
  ·rw[zO hc];have hw:c<0∨(¬c<0∧(n:Int)/33≤c):=by omega
   clear hc;rcases hw with hw|⟨hw,hw2⟩
   all_goals
    go_enter Tryz.func225,Tryz.ntmps225;go_wp2_with fail;refine(HC.out _ (by go_grown)).mono ?_;rintro e w1 ⟨rfl,hb1⟩;have hB1:Below w.heap.size w w1:=zA (by go_grown) hb1;have z1:w.heap.size≤w1.heap.size:=hB1.size;have k1:w1.cell? ⟨w.heap.size,0,none⟩=some (.slice a n cap):=(hb1.cell (by simp<;>omega)).trans (by go_simp);have hs1:w.heap.size<w1.heap.size:=by have:=hb1.size;simp at this;omega
    go_wp2;go_returns;exact⟨rfl,hB1⟩
  ·rw[zG hc];have h1:¬c<0:=by omega
   have h2:¬(n:Int)/33≤c:=by omega
   clear hc;have hw:(p<1)∨(¬p<1∧4095<p)∨(¬p<1∧¬4095<p):=by omega
   rcases hw with hw|⟨hw,hw2⟩|⟨hw,hw2⟩
   ·rw[zO (by omega)];go_enter Tryz.func225,Tryz.ntmps225;go_wp2_with fail;refine(HC.out _ (by go_grown)).mono ?_;rintro e w1 ⟨rfl,hb1⟩;have hB1:Below w.heap.size w w1:=zA (by go_grown) hb1;have z1:w.heap.size≤w1.heap.size:=hB1.size;have k2:w1.cell? ⟨w.heap.size,0,none⟩=some (.slice a n cap):=(hb1.cell (by simp<;>omega)).trans (by go_simp);have hs1:w.heap.size<w1.heap.size:=by have:=hb1.size;simp at this;omega
    go_wp2;go_returns;exact⟨rfl,hB1⟩
   ·rw[zO (by omega)];go_enter Tryz.func225,Tryz.ntmps225;go_wp2_with fail;refine(HC.out _ (by go_grown)).mono ?_;rintro e w1 ⟨rfl,hb1⟩;have hB1:Below w.heap.size w w1:=zA (by go_grown) hb1;have z1:w.heap.size≤w1.heap.size:=hB1.size;have k3:w1.cell? ⟨w.heap.size,0,none⟩=some (.slice a n cap):=(hb1.cell (by simp<;>omega)).trans (by go_simp);have hs1:w.heap.size<w1.heap.size:=by have:=hb1.size;simp at this;omega
    go_wp2;go_returns;exact⟨rfl,hB1⟩
   ·rw[zG (by omega)];go_enter Tryz.func225,Tryz.ntmps225;go_wp2_with fail;refine(HC.out _ (by go_grown)).mono ?_;rintro e w1 ⟨rfl,hb1⟩;have hB1:Below w.heap.size w w1:=zA (by go_grown) hb1;have z1:w.heap.size≤w1.heap.size:=hB1.size;have k4:w1.cell? ⟨w.heap.size,0,none⟩=some (.slice a n cap):=(hb1.cell (by simp<;>omega)).trans (by go_simp);have hs1:w.heap.size<w1.heap.size:=by have:=hb1.size;simp at this;omega
    go_wp2;go_returns;exact⟨rfl,hB1⟩
 ·rw[zO hy];have hy2:((y:Int) != 0)=true:=by simpa using hy
  clear hy;go_enter Tryz.func225,Tryz.ntmps225;go_wp2_with fail;refine(HC.out _ (by go_grown)).mono ?_;rintro e w1 ⟨rfl,hb1⟩;have hB1:Below w.heap.size w w1:=zA (by go_grown) hb1;have z1:w.heap.size≤w1.heap.size:=hB1.size;go_wp2;go_returns;exact⟨rfl,hB1⟩
theorem S13.rows_snoc(n:Int)(L:List (List Int))(l:List Int)(h:S13.rows n L=0):S13.rows n (L ++ [l])=if(l.length:Int)≠n then 6 else if l.any S13.heavy then 2 else 0:=by
 have:=S13.rows_take n (L ++ [l]) L.length (by rw[List.take_left];exact h);rw[this,List.drop_left];rfl
theorem S13.rows_at(n:Int){L:List (List Int)}{k:Nat}{l:List Int}(hk:L[k]? = some l)(h:S13.rows n (L.take k)=0) :
 S13.rows n (L.take (k+1))=(if(l.length:Int)≠n then 6 else if l.any S13.heavy then 2 else 0)∧(S13.rows n (L.take (k+1))≠0→S13.rows n L=S13.rows n (L.take (k+1))):=by
 have e:L.take (k+1)=L.take k ++ [l]:=by rw[List.take_add_one,hk];rfl
 have h1:=S13.rows_snoc n (L.take k) l h;rw[e,h1];refine⟨rfl,fun hne=> ?_⟩;have h2:=S13.rows_take n L k h;have e2:L.drop k=l::L.drop (k+1):=by
  obtain⟨hk1,hk2⟩:=List.getElem?_eq_some_iff.1 hk;rw[←hk2];exact List.drop_eq_getElem_cons hk1
 rw[h2,e2,S13.rows];split
 ·rfl
 ·rename_i h3
  rw[zG h3]at hne;split
  ·rfl
  ·rename_i h4
   rw[zG h4]at hne;exact absurd rfl hne
theorem zqM(n:Int)(L:List (List Int))(V:Value)(w:World)(hV:MixIs n L V w) :
 Calls Tryz.prog 205 #[V] w fun e w'=>e = .returned (.int .i64 (S13.check 16 n L))∧Below w.heap.size w w':=by
 obtain⟨R,a,cap,rfl,rfl,h1,h2,hrd,hok⟩:=hV;have HB1:=zB fun W=>zbS n 1 16 W;have HB2:=zB fun W=>zbS R.length 1 65536 W;by_cases hn:1≤n∧n≤16
 ·rw[zQ hn.1,zQ hn.2]at HB1;by_cases hl:(1:Int)≤R.length∧(R.length:Int)≤65536
  ·rw[zQ hl.1,zQ hl.2]at HB2;have hck:S13.check 16 n (R.map Row13.l)=S13.rows n (R.map Row13.l):=by
    unfold S13.check;rw[zG (by rw[zaH];omega)]
   rw[hck];clear hck;go_enter Tryz.func205,Tryz.ntmps205;go_wp2_with fail;refine(HB1.out _).mono ?_;rintro e w1 ⟨rfl,hb1⟩;have hB1:Below w.heap.size w w1:=zA (by go_grown) hb1;have z1:w.heap.size≤w1.heap.size:=hB1.size;have hs1:w.heap.size<w1.heap.size:=by have:=hb1.size;simp at this;omega
   have k1:w1.cell? ⟨w.heap.size,0,none⟩=some (.int .i64 n):=(hb1.cell (by simp<;>omega)).trans (by go_simp);have k2:w1.cell? ⟨w.heap.size,1,none⟩=some (.slice a R.length cap):=(hb1.cell (by simp<;>omega)).trans (by go_simp);go_wp2_with fail;refine(HB2.out _).mono ?_;rintro e w2 ⟨rfl,hb2⟩;have hB2:Below w.heap.size w w2:=zA (by go_grown) hb2;have z2:w.heap.size≤w2.heap.size:=hB2.size;have k3:w2.cell? ⟨w.heap.size,0,none⟩=some (.int .i64 n):=(hb2.cell (by simp<;>omega)).trans (by go_simp);have k4:w2.cell? ⟨w.heap.size,1,none⟩=some (.slice a R.length cap):=(hb2.cell (by simp<;>omega)).trans (by go_simp);go_wp2;have hbk:Blk w2 w.heap.size [.int .i64 n,.slice a R.length cap] 74:=((Blk.new w [.int .i64 n,.slice a R.length cap] _).step hb1).step hb2;go_loopw [19] (fun i wr=>∃k:Nat,k≤R.length∧i = .int .i64 k∧S13.rows n ((R.map Row13.l).take k)=0∧Blk wr w.heap.size [.int .i64 n,.slice a R.length cap] 74∧Below w.heap.size w wr) (fun i _=>R.length-(intOf i).toNat)
   case atStart=>exact⟨0,by omega,rfl,rfl,hbk,hB2⟩
   case round=>
    obtain⟨k,hk,rfl,h0,hbk,hB⟩:=hrel;have hbl:=hbk.lt;have c0:=hbk.cell 0;simp only[lgz]at c0;by_cases hlt:k<R.length
    ·have hlt2:(k:Int)<R.length:=by omega
     obtain⟨r,hr⟩:∃r,R[k]? = some r:=⟨R[k],zE hlt⟩;have hrl:(R.map Row13.l)[k]? = some r.l:=by rw[zaG,hr];rfl
     have hat:=S13.rows_at n hrl h0;have hro:=(hok r (zdB hr));obtain⟨g,o,rfl,hcs⟩:=(hrd.step hB).at (i:=k) (by rw[zaH];exact hlt);have hc:wr.cell? ⟨g,o+k,none⟩=some (.slice r.a r.l.length r.cap):=by
      rw[hcs k (by rw[zaH];exact hlt),List.getElem_map];rw[zE hlt]at hr;rw[zK hr];rfl
     have H0:=zB h0;have Hat:=zB hat;clear h0 hat hcs hrl;by_cases hlen:(r.l.length:Int)=n
     ·have HC:=zB fun W (hb:Below w.heap.size w W)=>zdM _ enterHeavy S13.heavy heavy13_any r.l r.a r.cap W (by have:=hro.1;have:=hro.2.1;omega) ((hok r (zdB hr)).2.2.below hb (fun b o e hne=>by
       obtain⟨b',o',e',hcc⟩:=hro.2.2 hne;rw[e]at e';cases e';cases hxs:zaK r.l with
       | nil=>exact absurd hxs hne
       | cons v vs=>exact zL (hcc 0 v (by rw[hxs];rfl))))
      cases hany:r.l.any S13.heavy with
      | true=>
        rw[hany]at HC;have He:S13.rows n (R.map Row13.l)=2:=by
         have h6:S13.rows n ((R.map Row13.l).take (k+1))=2:=by rw[Hat.out.1,zG (by simpa using hlen),zO hany]
         rw[Hat.out.2 (by rw[h6];omega),h6]
        have HE:=zB He;clear He hany;go_wp2_with fail;refine(HC.out _ hB).mono ?_;rintro e w3 ⟨rfl,hb3⟩;have hB3:Below w.heap.size w w3:=zA hB hb3;go_wp2;go_returns;exact⟨zeF HE.out.symm,hB3⟩
      | false=>
        rw[hany]at HC;have H6:=zB (show S13.rows n ((R.map Row13.l).take (k+1))=0 by rw[Hat.out.1,zG (by simpa using hlen),zG (by rw[hany];simp)]);clear hany;go_wp2_with fail;refine(HC.out _ hB).mono ?_;rintro e w3 ⟨rfl,hb3⟩;have hB3:Below w.heap.size w w3:=zA hB hb3;have hbk3:=hbk.step hb3;go_wp2;go_roundw
        case rel=>exact⟨k+1,by omega,by go_num,H6.out,hbk3,hB3⟩
        case measure=>simp[intOf];omega
     ·have He:S13.rows n (R.map Row13.l)=6:=by
       have h6:S13.rows n ((R.map Row13.l).take (k+1))=6:=by rw[Hat.out.1,zO hlen]
       rw[Hat.out.2 (by rw[h6];omega),h6]
      have HE:=zB He;clear He;go_wp2;go_returns;exact⟨zeF HE.out.symm,hB⟩
    ·obtain rfl:k=R.length:=by omega
     have hlt2:¬(R.length:Int)<R.length:=by omega
     rw[show(R.map Row13.l).take R.length=R.map Row13.l by rw[←zaH (f:=Row13.l),zdT]]at h0;have H0:=zB h0;clear h0;go_wp2;go_returns;exact⟨zeF H0.out.symm,hB⟩
  ·have hck:S13.check 16 n (R.map Row13.l)=6:=by
    unfold S13.check;rw[zO (by rw[zaH];omega)]
   have hb:(decide ((1:Int)≤R.length)&&decide ((R.length:Int)≤65536))=false:=by
    rw[Bool.and_eq_false_iff,decide_eq_false_iff_not,decide_eq_false_iff_not];omega
   rw[hb]at HB2;rw[hck];clear hck hb;go_enter Tryz.func205,Tryz.ntmps205;go_wp2_with fail;refine(HB1.out _).mono ?_;rintro e w1 ⟨rfl,hb1⟩;have hB1:Below w.heap.size w w1:=zA (by go_grown) hb1;have z1:w.heap.size≤w1.heap.size:=hB1.size;have hs1:w.heap.size<w1.heap.size:=by have:=hb1.size;simp at this;omega
   have k5:w1.cell? ⟨w.heap.size,0,none⟩=some (.int .i64 n):=(hb1.cell (by simp<;>omega)).trans (by go_simp);have k6:w1.cell? ⟨w.heap.size,1,none⟩=some (.slice a R.length cap):=(hb1.cell (by simp<;>omega)).trans (by go_simp);go_wp2_with fail;refine(HB2.out _).mono ?_;rintro e w2 ⟨rfl,hb2⟩;have hB2:Below w.heap.size w w2:=zA (by go_grown) hb2;have z2:w.heap.size≤w2.heap.size:=hB2.size;go_wp2;go_returns;exact⟨rfl,hB2⟩
 ·have hck:S13.check 16 n (R.map Row13.l)=6:=by
   unfold S13.check;rw[zO (by omega)]
  have hb:(decide (1≤n)&&decide (n≤16))=false:=by
   rw[Bool.and_eq_false_iff,decide_eq_false_iff_not,decide_eq_false_iff_not];omega
  rw[hb]at HB1;rw[hck];clear hck hb;go_enter Tryz.func205,Tryz.ntmps205;go_wp2_with fail;refine(HB1.out _).mono ?_;rintro e w1 ⟨rfl,hb1⟩;have hB1:Below w.heap.size w w1:=zA (by go_grown) hb1;have z1:w.heap.size≤w1.heap.size:=hB1.size;go_wp2;go_returns;exact⟨rfl,hB1⟩
theorem mixOpen{n:Int}{L:List (List Int)}{V:Value}{w:World}(h:MixIs n L V w):∃a cap,V = .agg #[.int .i64 n,.slice a L.length cap]∧L.length≤cap∧cap≤9223372036854775807∧MixIs n L (.agg #[.int .i64 n,.slice a L.length cap]) w:=by
 obtain⟨R,a,cap,rfl,rfl,h1,h2,h3,h4⟩:=h;refine⟨a,cap,by simp,by simpa using h1,h2,R,a,cap,rfl,by simp,h1,h2,h3,h4⟩
theorem znA(n:Int)(L:List (List Int))(V:Value)(c:Int)(xs:List Int)(a:Option Addr)(cap:Nat)(w:World)(hV:MixIs n L V w)(hlen:xs.length≤9223372036854775807)(hrd:Rd w a (zaK xs)) :
 Calls Tryz.prog 208 #[V,.int .i64 c,.slice a xs.length cap] w fun e w'=>e = .returned (.int .i64 (S13.usable 16 n L c xs))∧Below w.heap.size w w':=by
 obtain⟨ma,mc,rfl,m1,m2,hV⟩:=mixOpen hV;have HC:=zB fun W (hb:Below w.heap.size w W)=>zqM n L _ W (hV.step hb);have HB:=zB fun W=>zbS c 0 ((L.length:Int)-1) W;have HS:=zB fun W (hb:Below w.heap.size w W)=>zdM _ enterStrong S13.strong strong13_any xs a cap W hlen (hrd.step hb);have hus:S13.usable 16 n L c xs=if S13.check 16 n L≠0 then S13.check 16 n L else if c<0∨(L.length:Int)≤c then 7 else if(xs.length:Int)≠n then 6 else if xs.any S13.strong then 2 else 0:=rfl
 rw[hus];clear hus hV hrd;generalize S13.check 16 n L=y at *;generalize xs.any S13.strong=s at *;generalize xs.length=k at *;generalize L.length=l at *;by_cases hy:y=0
 ·subst hy;rw[zG (by simp)];by_cases hc:c<0∨(l:Int)≤c
  ·rw[zO hc];have hb:(decide (0≤c)&&decide (c≤(l:Int)-1))=false:=by
    rw[Bool.and_eq_false_iff,decide_eq_false_iff_not,decide_eq_false_iff_not];omega
   rw[hb]at HB;clear hb hc;go_enter Tryz.func208,Tryz.ntmps208;go_wp2_with fail;refine(HC.out _ (by go_grown)).mono ?_;rintro e w1 ⟨rfl,hb1⟩;have hB1:Below w.heap.size w w1:=zA (by go_grown) hb1;have z1:w.heap.size≤w1.heap.size:=hB1.size;have hs1:w.heap.size<w1.heap.size:=by have:=hb1.size;simp at this;omega
   have k1:w1.cell? ⟨w.heap.size,0,none⟩=some (.int .i64 n):=(hb1.cell (by simp<;>omega)).trans (by go_simp);have k2:w1.cell? ⟨w.heap.size,1,none⟩=some (.slice ma l mc):=(hb1.cell (by simp<;>omega)).trans (by go_simp);go_wp2_with fail;refine(HB.out _).mono ?_;rintro e w2 ⟨rfl,hb2⟩;have hB2:Below w.heap.size w w2:=zA (by go_grown) hb2;have z2:w.heap.size≤w2.heap.size:=hB2.size;go_wp2;go_returns;exact⟨rfl,hB2⟩
  ·rw[zG hc];have hb:(decide (0≤c)&&decide (c≤(l:Int)-1))=true:=by
    rw[zS,zY,zY];omega
   rw[hb]at HB;clear hb hc;by_cases hk:(k:Int)=n
   ·rw[zG (by simpa using hk)];have hk2:((k:Int) != n)=false:=by simpa using hk
    clear hk;cases s
    all_goals
     go_enter Tryz.func208,Tryz.ntmps208;go_wp2_with fail;refine(HC.out _ (by go_grown)).mono ?_;rintro e w1 ⟨rfl,hb1⟩;have hB1:Below w.heap.size w w1:=zA (by go_grown) hb1;have z1:w.heap.size≤w1.heap.size:=hB1.size;have hs1:w.heap.size<w1.heap.size:=by have:=hb1.size;simp at this;omega
     have k3:w1.cell? ⟨w.heap.size,0,none⟩=some (.int .i64 n):=(hb1.cell (by simp<;>omega)).trans (by go_simp);have k4:w1.cell? ⟨w.heap.size,1,none⟩=some (.slice ma l mc):=(hb1.cell (by simp<;>omega)).trans (by go_simp);go_wp2_with fail;refine(HB.out _).mono ?_;rintro e w2 ⟨rfl,hb2⟩;have hB2:Below w.heap.size w w2:=zA (by go_grown) hb2;have z2:w.heap.size≤w2.heap.size:=hB2.size;have hs2:w.heap.size<w2.heap.size:=by have:=hb2.size;omega
     have k5:w2.cell? ⟨w.heap.size,0,none⟩=some (.int .i64 n):=(hb2.cell (by simp<;>omega)).trans (by go_simp);have k6:w2.cell? ⟨w.heap.size,1,none⟩=some (.slice ma l mc):=(hb2.cell (by simp<;>omega)).trans (by go_simp);go_wp2_with fail;refine(HS.out _ (by go_grown)).mono ?_;rintro e w3 ⟨rfl,hb3⟩;have hB3:Below w.heap.size w w3:=zA (by go_grown) hb3;have z3:w.heap.size≤w3.heap.size:=hB3.size;go_wp2;go_returns;exact⟨rfl,hB3⟩
   ·rw[zO hk];have hk2:((k:Int) != n)=true:=by simpa using hk
    clear hk;go_enter Tryz.func208,Tryz.ntmps208;go_wp2_with fail;refine(HC.out _ (by go_grown)).mono ?_;rintro e w1 ⟨rfl,hb1⟩;have hB1:Below w.heap.size w w1:=zA (by go_grown) hb1;have z1:w.heap.size≤w1.heap.size:=hB1.size;have hs1:w.heap.size<w1.heap.size:=by have:=hb1.size;simp at this;omega
    have k7:w1.cell? ⟨w.heap.size,0,none⟩=some (.int .i64 n):=(hb1.cell (by simp<;>omega)).trans (by go_simp);have k8:w1.cell? ⟨w.heap.size,1,none⟩=some (.slice ma l mc):=(hb1.cell (by simp<;>omega)).trans (by go_simp);go_wp2_with fail;refine(HB.out _).mono ?_;rintro e w2 ⟨rfl,hb2⟩;have hB2:Below w.heap.size w w2:=zA (by go_grown) hb2;have z2:w.heap.size≤w2.heap.size:=hB2.size;have hs2:w.heap.size<w2.heap.size:=by have:=hb2.size;omega
    have k9:w2.cell? ⟨w.heap.size,0,none⟩=some (.int .i64 n):=(hb2.cell (by simp<;>omega)).trans (by go_simp);have k10:w2.cell? ⟨w.heap.size,1,none⟩=some (.slice ma l mc):=(hb2.cell (by simp<;>omega)).trans (by go_simp);go_wp2;go_returns;exact⟨rfl,hB2⟩
 ·rw[zO hy];have hy2:((y:Int) != 0)=true:=by simpa using hy
  clear hy;go_enter Tryz.func208,Tryz.ntmps208;go_wp2_with fail;refine(HC.out _ (by go_grown)).mono ?_;rintro e w1 ⟨rfl,hb1⟩;have hB1:Below w.heap.size w w1:=zA (by go_grown) hb1;have z1:w.heap.size≤w1.heap.size:=hB1.size;go_wp2;go_returns;exact⟨rfl,hB1⟩
