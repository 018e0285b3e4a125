/- A part of the proof of L14s. No condition. -/
import Derived.StillTail
import Derived.Test.YtieeogndnhighaaGreatZL14sax
import Derived.Test.YtieeogndnhighaaGreatZL14saz
set_option linter.all false
set_option maxRecDepth 100000
set_option maxHeartbeats 1000000
namespace Go.Proofs.YtieeogndnhighaaGreat
open Go.RowKit
theorem zmR(xs:List Int)(a:Option Addr)(cap:Nat)(w:World)(hlen:xs.length≤9223372036854775807)(hrd:Rd w a (zbU xs)) :
 Calls Tryz.prog 84 #[.agg #[.slice a xs.length cap]] w fun e w'=>e = .returned (.int .i64 (S11.check xs))∧Below w.heap.size w w':=by
 by_cases hl:xs.length%33≠0∨xs.length<33∨2162688<xs.length
 ·rw[S11.check_long hl];have hw:(((xs.length:Int)==0)=true)∨(((xs.length:Int)==0)=false∧((xs.length:Int)%33 != 0)=true)∨(((xs.length:Int)==0)=false∧((xs.length:Int)%33 != 0)=false∧(2162688:Int)<xs.length):=by
   by_cases h0:xs.length=0
   ·left;simp[h0]
   ·right;have h2:(((xs.length:Int)==0)=false):=by simp;intro h;exact h0 (by simp[h])
    by_cases h1:xs.length%33=0
    ·have h3:(((xs.length:Int)%33 != 0)=false):=by simp;omega
     right;exact⟨h2,h3,by omega⟩
    ·left;exact⟨h2,by simp;omega⟩
  clear hl hrd;generalize xs.length=n at *;rcases hw with hw|⟨hw,hw2⟩|⟨hw,hw2,hw3⟩
  all_goals
   go_enter Tryz.func84,Tryz.ntmps84;go_wp2;go_returns;exact⟨rfl,by go_grown⟩
 ·rw[S11.check_fit hl];have h1:(((xs.length:Int)%33 != 0)=false):=by simp;omega
  have h2:(((xs.length:Int)==0)=false):=by simp;intro h;simp[h]at hl
  have h3:¬(2162688:Int)<xs.length:=by omega
  have hpos:0<xs.length:=by omega
  obtain⟨g,o,rfl,_⟩:=hrd.at (i:=0) (by rw[yM];omega);obtain⟨r,hr⟩:∃r:Int,r=(if xs.any S11.bad=true then 2 else 0):=⟨_,rfl⟩;rw[←hr];have HR:=zD hr;clear hl hr;go_enter Tryz.func84,Tryz.ntmps84;go_wp2;have hb0:=Blk.new w [.slice (some ⟨g,o,none⟩) xs.length cap] 81;go_loopw [4] (fun i wr=>∃k:Nat,k≤xs.length∧i = .int .i64 k∧(xs.take k).any S11.bad=false∧Blk wr w.heap.size [.slice (some ⟨g,o,none⟩) xs.length cap] 81∧Below w.heap.size w wr) (fun i _=>xs.length-(intOf i).toNat)
  case atStart=>exact⟨0,by omega,rfl,rfl,hb0,by go_grown⟩
  case round=>
   obtain⟨k,hk,rfl,hno,hblk,hB⟩:=hrel;have zr:w.heap.size≤wr.heap.size:=hB.size;have Hno:=zD hno;have Hblk:=zD hblk;have c0:=hblk.cell 0;simp only[lgz]at c0;clear hno hblk hb0;by_cases hlt:k<xs.length
   ·obtain⟨g2,o2,hgo,hcs⟩:=(hrd.step hB).at (i:=k) (by rw[yM];exact hlt);obtain⟨rfl,rfl⟩:g=g2∧o=o2:=by simp at hgo;exact hgo
    have hc:wr.cell? ⟨g,o+k,none⟩=some (.int .i64 xs[k]):=by rw[hcs k (by rw[yM];exact hlt)];simp[zbU]
    have Hs:=zD (zbC S11.bad xs k hlt);have Ha:=zD (zcX S11.bad xs k hlt);generalize xs[k]=x at *;clear hcs hgo;by_cases hx:x<0
    ·have Hany:=zD (Ha.out (by simp[S11.bad,hx]));go_wp2;go_returns;exact⟨by rw[HR.out,Hany.out];rfl,hB⟩
    ·by_cases hx2:65535<x
     ·have Hany:=zD (Ha.out (by simp[S11.bad,hx2]));go_wp2;go_returns;exact⟨by rw[HR.out,Hany.out];rfl,hB⟩
     ·have Hn:=zD (show(xs.take (k+1)).any S11.bad=false by rw[Hs.out,Hno.out];simp[S11.bad];omega);go_wp2;go_roundw
      case rel=>exact⟨k+1,by omega,by go_num,Hn.out,Hblk.out,hB⟩
      case measure=>simp[intOf];omega
   ·obtain rfl:k=xs.length:=by omega
    have Hn:=zD (show xs.any S11.bad=false by have:=Hno.out;rwa[zcD]at this);go_wp2;go_returns;exact⟨by rw[HR.out,Hn.out];rfl,hB⟩
def MapIs(L:List Int)(V:Value)(w':World):Prop:=∃a cap,V = .agg #[.slice a L.length cap]∧L.length≤cap∧cap≤9223372036854775807∧Rd w' a (zbU L)
theorem MapIs.step{L:List Int}{V:Value}{w w':World}(h:MapIs L V w)(hb:Below w.heap.size w w'):MapIs L V w':=by
 obtain⟨a,cap,e,h1,h2,h3⟩:=h;exact⟨a,cap,e,h1,h2,h3.step hb⟩
