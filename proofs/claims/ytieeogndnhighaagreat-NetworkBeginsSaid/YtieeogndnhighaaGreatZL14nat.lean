/- A part of the proof of L14n. No condition. -/
import Derived.BigQuiet
import Derived.Deep.QuietTactic
import Derived.Lib.MinMax
import Derived.StillTail
import Derived.Test.YtieeogndnhighaaGreatZL14naf
import Derived.Test.YtieeogndnhighaaGreatZL14nai
import Derived.Test.YtieeogndnhighaaGreatZL14nap
set_option linter.all false
set_option maxRecDepth 100000
set_option maxHeartbeats 2000000
namespace Go.Proofs.YtieeogndnhighaaGreat
open Go.RowKit
def S09.err(s:Int):Int:=if S09.found s then 0 else 2
theorem S09.found_bounds{s:Int}(h:S09.found s=true):0≤s∧s<215:=of_decide_eq_true h
theorem S09.h_bounds(s:Int):0≤S09.hz s∧S09.hz s≤30∧0≤S09.ho s∧S09.ho s≤30∧0≤S09.hl s∧S09.hl s≤1:=by
 cases h:S09.found s with
 | false=>simp[S09.hz,S09.ho,S09.hl,h]
 | true=>
   obtain⟨h0,h1⟩:=S09.found_bounds h;obtain⟨n,rfl⟩:=Int.eq_ofNat_of_zero_le h0;have:=S09.allStates_spec S09.state_place (s:=n) (by omega);simp only[yF,yK]at this;simp only[S09.hz,S09.ho,S09.hl,h,if_true,Int.toNat_natCast];omega
theorem zoO(s:Int)(w:World) :
 Calls Tryz.prog 104 #[.int .i64 s] w fun e w'=>e = .returned (.int .i64 (if S09.found s then S09.hz s+S09.ho s else -1))∧Below w.heap.size w w':=by
 have hL:=zD fun W=>look09_any s W;obtain⟨b1,b2,b3,b4,b5,b6⟩:=S09.h_bounds s;cases hf:S09.found s with
 | false=>
   rw[hf]at hL;clear hf;go_enter Tryz.func104,Tryz.ntmps104;go_wp2_with fail;refine(hL.out _).mono ?_;rintro e w1 ⟨rfl,hb1⟩;have hB1:Below w.heap.size w w1:=zA (by go_grown) hb1;have z1:w.heap.size≤w1.heap.size:=hB1.size;go_wp2;go_returns;exact⟨rfl,by go_grown⟩
 | true=>
   rw[hf]at hL;clear hf;generalize S09.hz s=z at *;generalize S09.ho s=o at *;generalize S09.hl s=l at *;go_enter Tryz.func104,Tryz.ntmps104;go_wp2_with fail;refine(hL.out _).mono ?_;rintro e w1 ⟨rfl,hb1⟩;have hB1:Below w.heap.size w w1:=zA (by go_grown) hb1;have z1:w.heap.size≤w1.heap.size:=hB1.size;go_wp2;go_returns;exact⟨rfl,by go_grown⟩
theorem znA(s:Int)(w:World) :
 Calls Tryz.prog 126 #[.int .i64 s] w fun e w'=>e = .returned (.tuple #[.int .i64 (S09.hz s),.int .i64 (S09.ho s),.int .i64 (S09.hl s),.int .i64 (S09.err s)])∧Below w.heap.size w w':=by
 have hend:(s<0∨215≤s)→S09.hz s=0∧S09.ho s=0∧S09.hl s=0∧S09.err s=2:=fun h=>by
  have hf:S09.found s=false:=zL (by omega);simp[S09.hz,S09.ho,S09.hl,S09.err,hf]
 have hhit:∀t o l:Nat,t≤30→o≤t→l<2→S09.ok t o l=true→(S09.cnt t o l:Int)=s→S09.hz s=(t:Int)-o∧S09.ho s=o∧S09.hl s=l∧S09.err s=0:=fun t o l ht ho hl hok e=>by
  have hc:=S09.cnt_lt ht ho hl hok;obtain⟨e1,e2,e3⟩:=S09.at_cnt ht ho hl hok;rw[e]at e1 e2 e3;have hf:S09.found s=true:=zQ (by omega);exact⟨e1,e2,e3,by simp[S09.err,hf]⟩
 have Hend:=zD hend;have Hhit:=zD hhit;clear hend hhit;go_enter Tryz.func126,Tryz.ntmps126;go_wp2;go_loopw [6,7] (fun k t wr=>∃T:Nat,T≤31∧t = .int .i64 T∧k = .int .i64 (S09.cT T)∧(s<0∨(S09.cT T:Int)≤s)∧Below w.heap.size w wr) (fun _ t _=>31-(intOf t).toNat)
 case atStart=>exact⟨0,by omega,rfl,rfl,by simp only[S09.cT];omega,zG _ _⟩
 case round=>
  obtain⟨wo,rfl⟩:∃wo:World,wo=wr:=⟨_,rfl⟩;obtain⟨T,hT2,rfl,rfl,hs,hB⟩:=hrel;have hcT:=S09.cT_le hT2;by_cases hlt:T≤30
  ·have d1:decide ((T:Int)≤30)=true:=by simp;omega
   go_wp2;go_loopw [6,8] (fun k c wr=>∃O:Nat,O≤T+1∧c = .int .i64 O∧k = .int .i64 (S09.cO T (S09.cT T) O)∧(s<0∨(S09.cO T (S09.cT T) O:Int)≤s)∧Below w.heap.size w wr) (fun _ c _=>32-(intOf c).toNat)
   case atStart=>exact⟨0,by omega,rfl,rfl,hs,hB⟩
   case round=>
    obtain⟨wm,rfl⟩:∃wm:World,wm=wr:=⟨_,rfl⟩;obtain⟨O,hO,rfl,rfl,hs2,hB2⟩:=hrel;have hcO:=S09.cO_le T (S09.cT T) O;by_cases hO2:O≤T
    ·have d2:decide ((O:Int)≤(T:Int))=true:=by simp;omega
     have Hstep:=zD (show S09.cO T (S09.cT T) (O+1)=S09.cL T O (S09.cO T (S09.cT T) O) 2 from rfl);obtain⟨base,hbase⟩:∃b,b=S09.cO T (S09.cT T) O:=⟨_,rfl⟩;have Hbase:=zD hbase;rw[←hbase]at hs2 hcO Hstep⊢;clear hbase;go_wp2;go_loopw [6,9] (fun k c wr=>∃L:Nat,L≤2∧c = .int .i64 L∧k = .int .i64 (S09.cL T O base L)∧(s<0∨(S09.cL T O base L:Int)≤s)∧Below w.heap.size w wr) (fun _ c _=>2-(intOf c).toNat)
     case atStart=>exact⟨0,by omega,rfl,rfl,hs2,hB2⟩
     case round=>
      obtain⟨L,hL,rfl,rfl,hs3,hB3⟩:=hrel;have hcL:=S09.cL_le T O base L;by_cases hL2:L<2
      ·have Hcnt:=zD (show S09.cL T O base L=S09.cnt T O L by rw[Hbase.out];rfl);have hsucc:S09.cL T O base (L+1)=S09.cL T O base L+(if S09.ok T O L then 1 else 0):=rfl;have HI:=zD fun W=>refIs09_any ((T:Int)-O) O L W;have hok:S09.is ((T:Int)-O) O L=S09.ok T O L:=rfl;rw[hok]at HI;cases hk:S09.ok T O L with
       | false=>
         rw[hk]at HI hsucc;have Hsucc:=zD (show S09.cL T O base (L+1)=S09.cL T O base L from hsucc);clear hsucc hok hk;generalize S09.cL T O base L=c0 at *;go_wp2_with fail;refine(HI.out _).mono ?_;rintro e w3 ⟨rfl,hb3⟩;have hB4:=zA hB3 hb3;go_wp2;go_roundw
         case rel=>exact⟨L+1,by omega,by go_num,by rw[Hsucc.out],by rw[Hsucc.out];exact hs3,hB4⟩
         case measure=>simp[intOf];omega
       | true=>
         rw[hk]at HI hsucc;have Hsucc:=zD (show S09.cL T O base (L+1)=S09.cL T O base L+1 from hsucc);have Hh:=zD (Hhit.out T O L hlt hO2 hL2 hk);rw[←Hcnt.out]at Hh;clear hsucc hok hk;by_cases he:(S09.cL T O base L:Int)=s
         ·have hq:=Hh.out he;obtain⟨q1,q2,q3,q4⟩:=hq;have he':((S09.cL T O base L:Int)==s)=true:=by simpa using he
          have Hq1:=zD q1;have Hq2:=zD q2;have Hq3:=zD q3;have Hq4:=zD q4;clear he q1 q2 q3 q4;generalize S09.cL T O base L=c0 at *;go_wp2_with fail;refine(HI.out _).mono ?_;rintro e w3 ⟨rfl,hb3⟩;have hB4:=zA hB3 hb3;go_wp2;go_returns;rw[Hq1.out,Hq2.out,Hq3.out,Hq4.out];exact⟨rfl,hB4⟩
         ·have he':((S09.cL T O base L:Int)==s)=false:=by simpa using he
          have hs4:s<0∨((S09.cL T O base L+1:Nat):Int)≤s:=by omega
          clear he;generalize S09.cL T O base L=c0 at *;go_wp2_with fail;refine(HI.out _).mono ?_;rintro e w3 ⟨rfl,hb3⟩;have hB4:=zA hB3 hb3;go_wp2;go_roundw
          case rel=>exact⟨L+1,by omega,by go_num,by rw[Hsucc.out];go_num,by rw[Hsucc.out];exact hs4,hB4⟩
          case measure=>simp[intOf];omega
      ·obtain rfl:L=2:=by omega
       go_wp2;go_roundw
       case rel=>exact⟨O+1,by omega,by go_num,by rw[Hstep.out],by rw[Hstep.out];exact hs3,hB3⟩
       case measure=>simp[intOf];omega
    ·obtain rfl:O=T+1:=by omega
     go_wp2;go_roundw
     case rel=>exact⟨T+1,by omega,by go_num,rfl,hs2,hB2⟩
     case measure=>simp[intOf];omega
  ·obtain rfl:T=31:=by omega
   have h215:S09.cT 31=215:=S09.cT_all;have Hq:=zD (Hend.out (by omega));clear h215;go_wp2;go_returns;obtain⟨q1,q2,q3,q4⟩:=Hq.out;rw[q1,q2,q3,q4];exact⟨rfl,hB⟩
theorem zoK(w:World):Calls Tryz.prog 65 #[] w fun e w'=>e = .returned (.int .i64 215)∧Below w.heap.size w w':=by
 go_enter Tryz.func65,Tryz.ntmps65;go_wp2;go_returns;exact⟨rfl,by go_grown⟩
theorem zjQ(s:Int)(w:World) :
 Calls Tryz.prog 143 #[.int .i64 s] w fun e w'=>e = .returned (.int .i64 (if S09.found s then S09.hz s+S09.ho s else -1))∧Below w.heap.size w w':=by
 have hL:=zD fun W=>znA s W;obtain⟨b1,b2,b3,b4,b5,b6⟩:=S09.h_bounds s;cases hf:S09.found s with
 | false=>
   have e4:S09.err s=2:=by simp[S09.err,hf]
   rw[e4]at hL;clear e4 hf;generalize S09.hz s=z at *;generalize S09.ho s=o at *;generalize S09.hl s=l at *;go_enter Tryz.func143,Tryz.ntmps143;go_wp2_with fail;refine(hL.out _).mono ?_;rintro e w1 ⟨rfl,hb1⟩;have hB1:Below w.heap.size w w1:=zA (by go_grown) hb1;have z1:w.heap.size≤w1.heap.size:=hB1.size;go_wp2;go_returns;exact⟨rfl,by go_grown⟩
 | true=>
   have e4:S09.err s=0:=by simp[S09.err,hf]
   rw[e4]at hL;clear e4 hf;generalize S09.hz s=z at *;generalize S09.ho s=o at *;generalize S09.hl s=l at *;go_enter Tryz.func143,Tryz.ntmps143;go_wp2_with fail;refine(hL.out _).mono ?_;rintro e w1 ⟨rfl,hb1⟩;have hB1:Below w.heap.size w w1:=zA (by go_grown) hb1;have z1:w.heap.size≤w1.heap.size:=hB1.size;go_wp2;go_returns;exact⟨rfl,by go_grown⟩
