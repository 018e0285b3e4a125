/- A part of the proof of L15. No condition. -/
import Derived.Deep.Draws
import Derived.Test.YtahaacfikalheaaGreatZL15ad
set_option linter.all false
set_option maxRecDepth 100000
set_option maxHeartbeats 200000
namespace Go.Proofs.YtahaacfikalheaaGreat
open Go.RowKit
theorem ziE{B:Nat}{a w:World}(h:Below B a w)(n:Nat):Below B a (w.drewN n):=h.trans ⟨rfl,rfl,rfl,zD _,fun _ _=>rfl⟩
theorem zdU{a:Nat}(h:a<9223372036854775808):IntKind.i64.wrap (a:Int)=(a:Int):=by
 simp only[IntKind.wrap,IntKind.bits,IntKind.signed];simp;omega
def Bts(xs:List Int):List Value:=xs.map (Value.int .u8)
theorem zbK(xs:List Int):(Bts xs).length=xs.length:=zaH _
theorem zeI{α:Type}(f:α→Bool)(xs:List α)(k:Nat)(h:k<xs.length):(xs.take (k+1)).any f=((xs.take k).any f||f xs[k]):=by
 rw[List.take_succ_eq_append_getElem h,List.any_append,List.any_cons,List.any_nil,Bool.or_false]
theorem ziG{α:Type}(f:α→Bool)(xs:List α)(k:Nat)(h:k<xs.length)(ht:f xs[k]=true):xs.any f=true:=by
 rw[List.any_eq_true];exact⟨_,zbC h,ht⟩
