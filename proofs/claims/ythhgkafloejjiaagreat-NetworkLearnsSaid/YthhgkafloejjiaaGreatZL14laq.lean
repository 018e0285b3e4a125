/- A part of the proof of L14l. No condition. -/
import Derived.Handy
import Derived.Lib.MinMax
import Derived.Test.YthhgkafloejjiaaGreatRows
import Derived.Test.YthhgkafloejjiaaGreatShelf
import Derived.WalkLawsBesides
import Derived.WalkSpells
import Derived.Test.YthhgkafloejjiaaGreatZL14lah
import Derived.Test.YthhgkafloejjiaaGreatZL14lao
set_option linter.all false
set_option maxRecDepth 100000
set_option maxHeartbeats 400000
namespace Go.Proofs.YthhgkafloejjiaaGreat
open Go.RowKit
def zaE(xs:List Int):List Value:=xs.map (Value.int .i64)
theorem zR(xs:List Int):(zaE xs).length=xs.length:=by simp[zaE]
theorem zgH(xs:List Int):∀u∈zaE xs,u.oneCell'=true:=by
 intro u a;simp only[zaE,List.mem_map]at a;obtain⟨x,_,rfl⟩:=a;rfl
theorem elems_ints:Elems Tryz.prog 41 3 1 8 [.int .i64 0]:=⟨Tryz.underlying41,by kernel_rfl,rfl,by decide⟩
theorem zmU(F:FuncId)(E:∀s w,(callFunc F s).run Tryz.prog w = .ok (.enter F s) w)(b:Int→Bool)
 (n:∀x w,Calls Tryz.prog F #[.int .i64 x] w fun e h=>e = .returned (.bool (b x))∧Below w w h) (xs:List Int) (a:Option Addr) (cap:Nat) (w:World) (C:xs.length≤9223372036854775807) (z:Rd w a (zaE xs)) :
 Calls Tryz.prog 221 #[.slice a xs.length cap,.func (.func F) #[] #[]] w fun e h=>∃r:Int,e = .returned (.int .i64 r)∧decide (0≤r)=xs.any b∧Below w w h:=by
 have A:=zC n;clear n;go_enter Tryz.func221,Tryz.ntmps221;go_wp2;go_loopw [8] (fun i wr=>∃k:Nat,k≤xs.length∧i = .int .i64 k∧(xs.take k).any b=false∧Below w w wr) (fun i _=>xs.length-(intOf i).toNat)
 case atStart=>exact⟨0,by omega,rfl,rfl,zJ _ _⟩
 case round=>
  obtain⟨k,H,rfl,m,c⟩:=hrel;have G:w.heap.size≤wr.heap.size:=c.size;have p:=zC m;clear m;by_cases f:k<xs.length
  ·obtain⟨g,o,rfl,q⟩:=(z.step c).at (i:=k) (by rw[zR];exact f);have D:wr.cell? ⟨g,o+k,none⟩=some (.int .i64 xs[k]):=by rw[q k (by rw[zR];exact f)];simp[zaE]
   obtain⟨d,B,u⟩:=zh3 (A.out xs[k] wr) (zcA b xs k f) (zfA b xs k f);generalize xs[k]=x at *;clear q;cases ht:b x with
   | true=>
     have t:=zC (u.out ht);rw[ht]at d;clear ht;go_wp2_with fail;refine d.out.mono ?_;rintro e v ⟨rfl,j⟩;have l:=zA c j;go_wp2;go_returns;exact⟨_,rfl,by rw[t.out];simp,l⟩
   | false=>
     have y:=zC (show(xs.take (k+1)).any b=false by rw[B.out,p.out,ht];rfl);rw[ht]at d;clear ht;go_wp2_with fail;refine d.out.mono ?_;rintro e v ⟨rfl,j⟩;have l:=zA c j;go_wp2;go_roundw
     case rel=>exact⟨k+1,by omega,by go_num,y.out,l⟩
     case measure=>simp[intOf];omega
  ·obtain rfl:k=xs.length:=by omega
   go_wp2;go_returns;refine⟨_,rfl,?_,c⟩;have:=p.out;rw[zaD]at this;rw[this];rfl
theorem zdE(F:FuncId)(m:∀g w,(callFunc F g).run Tryz.prog w = .ok (.enter F g) w)(c:Int→Bool)
 (f:∀x w,Calls Tryz.prog F #[.int .i64 x] w fun e d=>e = .returned (.bool (c x))∧Below w w d) (xs:List Int) (a:Option Addr) (cap:Nat) (w:World) (k:xs.length≤9223372036854775807) (l:Rd w a (zaE xs)) :
 Calls Tryz.prog 216 #[.slice a xs.length cap,.func (.func F) #[] #[]] w fun e d=>e = .returned (.bool (xs.any c))∧Below w w d:=by
 have i:=zC (zmU F m c f xs a cap w k l);clear f;generalize xs.any c=b at *;go_enter Tryz.func216,Tryz.ntmps216;go_wp2_with fail;refine i.out.mono ?_;rintro e n ⟨r,rfl,j,h⟩;go_wp2;go_returns;exact⟨by first|rfl|exact zaA j,h⟩
