/- A part of the proof of L14n. No condition. -/
import Derived.StillTailTactics
import Derived.Test.YtieeogndnhighaaGreatZL14nau
import Derived.Test.YtieeogndnhighaaGreatZL14nax
set_option linter.all false
set_option maxRecDepth 100000
set_option maxHeartbeats 2000000
namespace Go.Proofs.YtieeogndnhighaaGreat
open Go.RowKit
theorem S13.getD_take(xs:List Int){k:Nat}(h:k<xs.length):xs.take (k+1)=xs.take k ++ [xs.getD k 0]:=by
 rw[List.take_succ_eq_append_getElem h,zY,zI h];rfl
theorem S13.rows_of{n:Int}:∀{L:List (List Int)},(∀l∈L,(l.length:Int)=n∧l.any S13.heavy=false)→S13.rows n L=0
 | [],_=>rfl
 | a::r,h=>by
   unfold S13.rows;have h1:=h a (by simp);rw[zK (by simpa using h1.1),zK (by rw[h1.2];simp)];exact S13.rows_of fun l hl=>h l (by simp[hl])
theorem zfG{R:List Row13}{a:Option Addr}{w:World}(hrd:Rd w a (R.map Row13.head))(hok:∀r∈R,r.ok w){k:Nat}(hk:k<R.length) :
 ∃r g o,R[k]? = some r∧a=some ⟨g,o,none⟩∧w.cell? ⟨g,o+k,none⟩=some (.slice r.a r.l.length r.cap)∧r.ok w∧(R.map Row13.l).getD k []=r.l:=by
 obtain⟨g,o,rfl,hcs⟩:=hrd.at (i:=k) (by rw[zaA];exact hk);refine⟨R[k],g,o,zI hk,rfl,?_,hok _ (List.getElem_mem hk),?_⟩
 ·rw[hcs k (by rw[zaA];exact hk),List.getElem_map];rfl
 ·rw[zY,zaH,zI hk];rfl
theorem S13.any_take(f:Int→Bool)(xs:List Int)(k:Nat)(h:k<xs.length):(xs.take (k+1)).any f=((xs.take k).any f||f (xs.getD k 0)):=by
 rw[S13.getD_take xs h,List.any_append,List.any_cons,List.any_nil,Bool.or_false]
theorem zqE(n:Int)(R:List Row13)(a:Option Addr)(cap:Nat)(w:World)(hn:1≤n)(hn':n≤16)(hl:1≤R.length)(hl':R.length≤65536)(h1:R.length≤cap)(h2:cap≤9223372036854775807)
 (hrd:Rd w a (R.map Row13.head)) (hok:∀r∈R,r.ok w) :
 Calls Tryz.prog 83 #[.agg #[.int .i64 n,.slice a R.length cap]] w fun e w'=>e = .returned (.int .i64 (S13.rows n (R.map Row13.l)))∧Below w.heap.size w w':=by
 have e1:¬n<1:=by omega
 have e2:¬16<n:=by omega
 have e3:¬(R.length:Int)<1:=by omega
 have e4:¬(65536:Int)<R.length:=by omega
 obtain⟨nn,rfl⟩:∃nn:Nat,n=nn:=⟨n.toNat,by omega⟩;go_enter Tryz.func83,Tryz.ntmps83;go_wp2;have hb0:=Blk.new w [.int .i64 nn,.slice a R.length cap] 79;go_loopw [3] (fun i wr=>∃k:Nat,k≤R.length∧i = .int .i64 k∧S13.rows nn ((R.map Row13.l).take k)=0∧Blk wr w.heap.size [.int .i64 nn,.slice a R.length cap] 79∧Below w.heap.size w wr) (fun i _=>R.length-(intOf i).toNat)
 case atStart=>exact⟨0,by omega,rfl,rfl,hb0,by go_grown⟩
 case round=>
  obtain⟨wo,rfl⟩:∃wo:World,wo=wr:=⟨_,rfl⟩;obtain⟨k,hk,rfl,h0,hbk,hB⟩:=hrel;have hbl:=hbk.lt;have c0:=hbk.cell 0;have c1:=hbk.cell 1;simp only[zrD]at c0 c1;by_cases hlt:k<R.length
  ·have hlt2:(k:Int)<R.length:=by omega
   obtain⟨r,g,o,hr,rfl,hcell,hro,hgl⟩:=zfG hrd hok hlt;have hrl:(R.map Row13.l)[k]? = some r.l:=by rw[zaH,hr];rfl
   have Hat:=zD (S13.rows_at nn hrl h0);have hgb:=zJ hcell;have hc:wo.cell? ⟨g,o+k,none⟩=some (.slice r.a r.l.length r.cap):=(hB.cell hgb).trans hcell;have Hbk:=zD hbk;have H0:=zD h0;clear h0 hrl hbk hgl hcell;by_cases hlen:(r.l.length:Int)=nn
   ·have hne:((r.l.length:Int) != nn)=false:=by simpa using hlen
    have hlenN:r.l.length=nn:=by omega
    rw[hlenN]at hc hne;have Hr:=zD hro;clear hro hlen;go_wp2;go_quiet (fail);go_wp2;go_loopw [4] (fun i wr=>∃j:Nat,j≤nn∧i = .int .i64 j∧(r.l.take j).any S13.heavy=false∧Below w.heap.size w wr∧Blk wr w.heap.size [.int .i64 nn,.slice (some ⟨g,o,none⟩) R.length cap] 79) (fun i _=>nn-(intOf i).toNat)
    case atStart=>exact⟨0,by omega,rfl,rfl,zhO hB _,Hbk.out⟩
    case round=>
     obtain⟨j,hj,rfl,hany,hB2,hbk2⟩:=hrel;have hbl2:=hbk2.lt;have d0:=hbk2.cell 0;have d1:=hbk2.cell 1;simp only[zrD]at d0 d1;have Hbk2:=zD hbk2;have Hany:=zD hany;clear hbk2 hany;by_cases hjl:j<nn
     ·have hjl2:(j:Int)<nn:=by omega
      obtain⟨g2,o2,hra,hcs⟩:=Hr.out.2.2.at (i:=j) (by rw[yL];omega);rw[hra]at hc;have hx:w.cell? ⟨g2,o2+j,none⟩=some (.int .i64 (r.l.getD j 0)):=by
       rw[hcs j (by rw[yL];omega)];simp[zaO,zY,zI (show j<r.l.length by omega)]
      have hx2:wr.cell? ⟨g2,o2+j,none⟩=some (.int .i64 (r.l.getD j 0)):=(hB2.cell (zJ hx)).trans hx;have hc2:wr.cell? ⟨g,o+k,none⟩=some (.slice (some ⟨g2,o2,none⟩) nn r.cap):=(hB2.cell hgb).trans ((hB.cell hgb).symm.trans hc);have Hsn:=zD (S13.any_take S13.heavy r.l j (by omega))
      have Hin:S13.heavy (r.l.getD j 0)=true→r.l.any S13.heavy=true:=fun h=>by
       rw[List.any_eq_true];refine⟨r.l.getD j 0,?_,h⟩;rw[zY,zI (show j<r.l.length by omega)];exact List.getElem_mem _
      have HIn:=zD Hin;clear hcs hx Hin;generalize r.l.getD j 0=x at *
      have bad:S13.heavy x=true→S13.rows nn (R.map Row13.l)=2:=fun h=>by
       have h6:S13.rows nn ((R.map Row13.l).take (k+1))=2:=by rw[Hat.out.1,zK (by omega),zU (HIn.out h)]
       rw[Hat.out.2 (by rw[h6];omega),h6]
      have Bad:=zD bad;clear bad;by_cases x1:x < -1048576
      ·have HE:=zD (Bad.out (by simp[S13.heavy];omega));go_wp2;go_returns;exact⟨zcF HE.out.symm,hB2⟩
      ·by_cases x2:1048576<x
       ·have HE:=zD (Bad.out (by simp[S13.heavy];omega));go_wp2;go_returns;exact⟨zcF HE.out.symm,hB2⟩
       ·have Hno:=zD (show(r.l.take (j+1)).any S13.heavy=false by rw[Hsn.out,Hany.out];simp[S13.heavy];omega);go_wp2;go_roundw
        case rel=>exact⟨j+1,by omega,by go_num,Hno.out,hB2,Hbk2.out⟩
        case measure=>simp[intOf];omega
     ·obtain rfl:j=nn:=by omega
      have Hn0:=zD (show S13.rows (j:Int) ((R.map Row13.l).take (k+1))=0 by
       rw[Hat.out.1,zK (by omega),zK];have:=Hany.out;rw[←hlenN,zcP]at this;rw[this];simp)
      go_wp2;go_roundw
      case rel=>exact⟨k+1,by omega,by go_num,Hn0.out,Hbk2.out,hB2⟩
      case measure=>simp[intOf];omega
   ·have He:S13.rows nn (R.map Row13.l)=6:=by
     have h6:S13.rows nn ((R.map Row13.l).take (k+1))=6:=by rw[Hat.out.1,zU hlen]
     rw[Hat.out.2 (by rw[h6];omega),h6]
    have HE:=zD He;have hne:((r.l.length:Int) != nn)=true:=by simpa using hlen
    clear He hlen hro;go_wp2;go_quiet (fail);go_wp2;go_returns;exact⟨zcF HE.out.symm,zhO hB _⟩
  ·obtain rfl:k=R.length:=by omega
   have hlt2:¬(R.length:Int)<R.length:=by omega
   rw[show(R.map Row13.l).take R.length=R.map Row13.l by rw[←zaA (f:=Row13.l),zcP]]at h0;have H0:=zD h0;clear h0;go_wp2;go_returns;exact⟨zcF H0.out.symm,hB⟩
theorem zoL(n:Int)(L:List (List Int))(V:Value)(w:World)(hV:MixIs n L V w) :
 Calls Tryz.prog 83 #[V] w fun e w'=>e = .returned (.int .i64 (S13.check 16 n L))∧Below w.heap.size w w':=by
 obtain⟨R,a,cap,rfl,rfl,h1,h2,hrd,hok⟩:=hV;by_cases h:n<1∨16<n∨R.length<1∨65536<R.length
 ·have hck:S13.check 16 n (R.map Row13.l)=6:=by
   unfold S13.check;rw[zU (by rw[zaA];omega)]
  rw[hck];have hw:n<1∨(¬n<1∧16<n)∨(¬n<1∧¬16<n∧(R.length:Int)<1)∨(¬n<1∧¬16<n∧¬(R.length:Int)<1∧(65536:Int)<R.length):=by omega
  clear h hrd hok hck;generalize R.length=m at *;rcases hw with hw|⟨hw,hw2⟩|⟨hw,hw2,hw3⟩|⟨hw,hw2,hw3,hw4⟩
  all_goals
   go_enter Tryz.func83,Tryz.ntmps83;go_wp2;go_returns;exact⟨rfl,by go_grown⟩
 ·have hck:S13.check 16 n (R.map Row13.l)=S13.rows n (R.map Row13.l):=by
   unfold S13.check;rw[zK (by rw[zaA];omega)]
  rw[hck];exact zqE n R a cap w (by omega) (by omega) (by omega) (by omega) h1 h2 hrd hok
theorem same13_eq(n:Int)(L:List (List Int))(V1 V2:Value)(w:World)(hV1:MixIs n L V1 w)(hV2:MixIs n L V2 w) :
 Calls Tryz.prog 78 #[V1,V2] w fun e w'=>e = .returned (.bool true)∧Below w.heap.size w w':=by
 obtain⟨R1,a1,c1,rfl,rfl,p1,p2,hrd1,hok1⟩:=hV1;obtain⟨R2,a2,c2,hR,rfl,q1,q2,hrd2,hok2⟩:=hV2;have hlen:R2.length=R1.length:=by have:=yQ List.length hR;simpa using this.symm
 have hq1:R1.length≤c2:=by omega
 rw[hlen];have hm63:R1.length≤9223372036854775807:=by omega
 obtain⟨m,hm⟩:∃m,m=R1.length:=⟨_,rfl⟩;rw[←hm]at hm63⊢;have Hm:=zD hm;have HlenR:=zD hlen;have HR:=zD hR;clear hlen hR hq1 q1 p1 hm;have hne:((m:Int) != m)=false:=by simp
 have hnn:((n:Int) != n)=false:=by simp
 go_enter Tryz.func78,Tryz.ntmps78;go_wp2;have hb1:=(Blk.new w [.int .i64 n,.slice a1 m c1] 79).alloc (Obj.cells #[.int .i64 n,.slice a2 m c2] 79);have hb2:=Blk.new (w.alloc (Obj.cells #[.int .i64 n,.slice a1 m c1] 79)) [.int .i64 n,.slice a2 m c2] 79;rw[show(w.alloc (Obj.cells #[.int .i64 n,.slice a1 m c1] 79)).heap.size=w.heap.size+1 by simp]at hb2;go_loopw [5] (fun i wr=>∃k:Nat,k≤m∧i = .int .i64 k∧Blk wr w.heap.size [.int .i64 n,.slice a1 m c1] 79∧Blk wr (w.heap.size+1) [.int .i64 n,.slice a2 m c2] 79∧Below w.heap.size w wr) (fun i _=>m-(intOf i).toNat)
 case atStart=>exact⟨0,by omega,rfl,hb1,hb2,by go_grown⟩
 case round=>
  obtain⟨k,hk,rfl,hk1,hk2,hB⟩:=hrel;have l1:=hk1.lt;have l2:=hk2.lt;have x1:=hk1.cell 1;have x2:=hk2.cell 1;simp only[zrD]at x1 x2;have Hk1:=zD hk1;have Hk2:=zD hk2;clear hk1 hk2;by_cases hlt:k<m
  ·have hlt2:(k:Int)<m:=by omega
   have i0:(0:Int)≤(k:Int):=by omega
   obtain⟨r1,g1,o1,_,rfl,hcell1,hro1,hgl1⟩:=zfG hrd1 hok1 (k:=k) (by rw[←Hm.out];exact hlt);obtain⟨r2,g2,o2,_,rfl,hcell2,hro2,hgl2⟩:=zfG hrd2 hok2 (k:=k) (by rw[HlenR.out,←Hm.out];exact hlt);have hll:r2.l=r1.l:=by rw[←hgl1,←hgl2,HR.out]
   have y1:wr.cell? ⟨g1,o1+k,none⟩=some (.slice r1.a r1.l.length r1.cap):=(hB.cell (zJ hcell1)).trans hcell1;have y2:wr.cell? ⟨g2,o2+k,none⟩=some (.slice r2.a r1.l.length r2.cap):=by rw[←hll];exact(hB.cell (zJ hcell2)).trans hcell2
   have hr2:Rd w r2.a (zaO r1.l):=by rw[←hll];exact hro2.2.2
   have HS:=zD fun W (hb:Below w.heap.size w W)=>sameInts_eq r1.l r1.a r2.a r1.cap r2.cap W (by have:=hro1.1;have:=hro1.2.1;omega) (hro1.2.2.step hb) (hr2.step hb);clear hcell1 hcell2 hgl1 hgl2 hro1 hro2 hr2 hll;generalize r1.l.length=l at *;go_wp2;refine ziD 12 (Keeps wr [(⟨w.heap.size,1,none⟩,.slice (some ⟨g1,o1,none⟩) m c1),(⟨w.heap.size+1,1,none⟩,.slice (some ⟨g2,o2,none⟩) m c2),(⟨g1,o1+k,none⟩,.slice r1.a l r1.cap),(⟨g2,o2+k,none⟩,.slice r2.a l r2.cap)]) (by kernel_rfl) rfl (by kernel_rfl) (Keeps.start (by simp only[Cells];exact⟨x1,x2,y1,y2,yJ⟩)) (fun Y F hY hF=> ?_)
   repeat
    apply zbY (by rw[hY];rfl)
    ·intro w2 ⟨hB2,hk2⟩;simp only[Cells]at hk2;go_simp;with_reducible rfl
    simp only[zrB]
   apply zfC (by rw[hY];rfl)
   ·intro w2 ⟨hB2,hk2⟩;simp only[Cells]at hk2;go_simp;with_reducible exact⟨rfl,rfl⟩
   ·intro w2 hS2;have hk2:=hS2.2;simp only[Cells]at hk2;refine(HS.out _ (zA hB hS2.1)).mono ?_;rintro e w3 ⟨rfl,hb3⟩;exact⟨rfl,hS2.step hb3⟩
   simp only[zrB]
   repeat
    apply zbY (by rw[hY];rfl)
    ·intro w2 ⟨hB2,hk2⟩;simp only[Cells]at hk2;go_simp;with_reducible rfl
    simp only[zrB]
   refine hF.out _ (fun w4 hS4=> ?_);clear hF hY;have hB4:Below w.heap.size w w4:=zA hB hS4.1;have hk14:=Hk1.out.step hS4.1;have hk24:=Hk2.out.step hS4.1;have Hk14:=zD hk14;have Hk24:=zD hk24;clear hS4 hk14 hk24;go_wp2;go_roundw
   case rel=>exact⟨k+1,by omega,by go_num,Hk14.out,Hk24.out,hB4⟩
   case measure=>simp[intOf];omega
  ·obtain rfl:k=m:=by omega
   go_wp2;go_returns;exact⟨rfl,hB⟩
