/- A part of the proof of L14l. No condition. -/
import Derived.Deep.Draws
import Derived.Test.YthhgkafloejjiaaGreatZL14lad
set_option linter.all false
set_option maxRecDepth 100000
set_option maxHeartbeats 200000
namespace Go.Proofs.YthhgkafloejjiaaGreat
open Go.RowKit
theorem zgF{B:Nat}{a w:World}(h:Below B a w)(n:Nat):Below B a (w.drewN n):=h.trans ⟨rfl,rfl,rfl,zF _,fun _ _=>rfl⟩
theorem zdN{a:Nat}(h:a<9223372036854775808):IntKind.i64.wrap (a:Int)=(a:Int):=by
 simp only[IntKind.wrap,IntKind.bits,IntKind.signed];simp;omega
def Bts(xs:List Int):List Value:=xs.map (Value.int .u8)
theorem zaC(xs:List Int):(Bts xs).length=xs.length:=yO _
theorem zcA{α:Type}(f:α→Bool)(xs:List α)(k:Nat)(h:k<xs.length):(xs.take (k+1)).any f=((xs.take k).any f||f xs[k]):=by
 rw[List.take_succ_eq_append_getElem h,List.any_append,List.any_cons,List.any_nil,Bool.or_false]
theorem zfA{α:Type}(f:α→Bool)(xs:List α)(k:Nat)(h:k<xs.length)(a:f xs[k]=true):xs.any f=true:=by
 rw[List.any_eq_true];exact⟨_,yR h,a⟩
