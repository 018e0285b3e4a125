/- A part of the proof of L15. No condition. -/
import Derived.Test.YtahaacfikalheaaGreatZL15ag
import Derived.Test.YtahaacfikalheaaGreatZL15aq
set_option linter.all false
set_option maxRecDepth 100000
set_option maxHeartbeats 400000
namespace Go.Proofs.YtahaacfikalheaaGreat
open Go.RowKit
theorem zmC(F:FuncId)(hF:∀args w,(callFunc F args).run Tryz.prog w = .ok (.enter F args) w)(test:Int→Bool)
 (hv:∀x w,Calls Tryz.prog F #[.int .i64 x] w fun e w'=>e = .returned (.bool (test x))∧Below w.heap.size w w') (xs:List Int) (a:Option Addr) (cap:Nat) (w:World) (hlen:xs.length≤9223372036854775807) (hrd:Rd w a (zaK xs)) :
 Calls Tryz.prog 182 #[.slice a xs.length cap,.func (.func F) #[] #[]] w fun e w'=>∃r:Int,e = .returned (.int .i64 r)∧decide (0≤r)=xs.any test∧Below w.heap.size w w':=by
 have Hv:=zB hv;clear hv;go_enter Tryz.func182,Tryz.ntmps182;go_wp2;go_loopw [8] (fun i wr=>∃k:Nat,k≤xs.length∧i = .int .i64 k∧(xs.take k).any test=false∧Below w.heap.size w wr) (fun i _=>xs.length-(intOf i).toNat)
 case atStart=>exact⟨0,by omega,rfl,rfl,zF _ _⟩
 case round=>
  obtain⟨k,hk,rfl,hno,hB⟩:=hrel;have zr:w.heap.size≤wr.heap.size:=hB.size;have Hno:=zB hno;clear hno;by_cases hlt:k<xs.length
  ·obtain⟨g,o,rfl,hcs⟩:=(hrd.step hB).at (i:=k) (by rw[yM];exact hlt);have hc:wr.cell? ⟨g,o+k,none⟩=some (.int .i64 xs[k]):=by rw[hcs k (by rw[yM];exact hlt)];simp[zaK]
   have HT:=zB (Hv.out xs[k] wr);have Hs:=zB (zeI test xs k hlt);have Ha:=zB (ziG test xs k hlt);generalize xs[k]=x at *;clear hcs;cases ht:test x with
   | true=>
     have Hany:=zB (Ha.out ht);rw[ht]at HT;clear ht;go_wp2_with fail;refine HT.out.mono ?_;rintro e w1 ⟨rfl,hb1⟩;have hB1:=zA hB hb1;go_wp2;go_returns;exact⟨_,rfl,by rw[Hany.out];simp,hB1⟩
   | false=>
     have Hn:=zB (show(xs.take (k+1)).any test=false by rw[Hs.out,Hno.out,ht];rfl);rw[ht]at HT;clear ht;go_wp2_with fail;refine HT.out.mono ?_;rintro e w1 ⟨rfl,hb1⟩;have hB1:=zA hB hb1;go_wp2;go_roundw
     case rel=>exact⟨k+1,by omega,by go_num,Hn.out,hB1⟩
     case measure=>simp[intOf];omega
  ·obtain rfl:k=xs.length:=by omega
   go_wp2;go_returns;refine⟨_,rfl,?_,hB⟩;have:=Hno.out;rw[zdT]at this;rw[this];rfl
theorem zdM(F:FuncId)(hF:∀args w,(callFunc F args).run Tryz.prog w = .ok (.enter F args) w)(test:Int→Bool)
 (hv:∀x w,Calls Tryz.prog F #[.int .i64 x] w fun e w'=>e = .returned (.bool (test x))∧Below w.heap.size w w') (xs:List Int) (a:Option Addr) (cap:Nat) (w:World) (hlen:xs.length≤9223372036854775807) (hrd:Rd w a (zaK xs)) :
 Calls Tryz.prog 177 #[.slice a xs.length cap,.func (.func F) #[] #[]] w fun e w'=>e = .returned (.bool (xs.any test))∧Below w.heap.size w w':=by
 have HI:=zB (zmC F hF test hv xs a cap w hlen hrd);clear hv;generalize xs.any test=b at *;go_enter Tryz.func177,Tryz.ntmps177;go_wp2_with fail;refine HI.out.mono ?_;rintro e w1 ⟨r,rfl,hr,hb1⟩;go_wp2;go_returns;exact⟨by first|rfl|exact zaP hr,hb1⟩
