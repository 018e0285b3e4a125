/- A part of the proof of L14n. No condition. -/
import Derived.StillTail
import Derived.Test.YtieeogndnhighaaGreatZL14nau
import Derived.Test.YtieeogndnhighaaGreatZL14nax
set_option linter.all false
set_option maxRecDepth 100000
set_option maxHeartbeats 2000000
namespace Go.Proofs.YtieeogndnhighaaGreat
open Go.RowKit
theorem zoM(xs:List Int)(a:Option Addr)(cap:Nat)(w:World)(hlen:xs.length≤9223372036854775807)(hrd:Rd w a (zaO xs)) :
 Calls Tryz.prog 84 #[.agg #[.slice a xs.length cap]] w fun e w'=>e = .returned (.int .i64 (S11.check xs))∧Below w.heap.size w w':=by
 by_cases hl:xs.length%33≠0∨xs.length<33∨2162688<xs.length
 ·rw[S11.check_long hl];have hw:(((xs.length:Int)==0)=true)∨(((xs.length:Int)==0)=false∧((xs.length:Int)%33 != 0)=true)∨(((xs.length:Int)==0)=false∧((xs.length:Int)%33 != 0)=false∧(2162688:Int)<xs.length):=by
   by_cases h0:xs.length=0
   ·left;simp[h0]
   ·right;have h2:(((xs.length:Int)==0)=false):=by simp;intro h;exact h0 (by simp[h])
    by_cases h1:xs.length%33=0
    ·have h3:(((xs.length:Int)%33 != 0)=false):=by simp;omega
     right;exact⟨h2,h3,by omega⟩
    ·left;exact⟨h2,by simp;omega⟩
  clear hl hrd;generalize xs.length=n at *;rcases hw with hw|⟨hw,hw2⟩|⟨hw,hw2,hw3⟩
  all_goals
   go_enter Tryz.func84,Tryz.ntmps84;go_wp2;go_returns;exact⟨rfl,by go_grown⟩
 ·rw[S11.check_fit hl];have h1:(((xs.length:Int)%33 != 0)=false):=by simp;omega
  have h2:(((xs.length:Int)==0)=false):=by simp;intro h;simp[h]at hl
  have h3:¬(2162688:Int)<xs.length:=by omega
  have hpos:0<xs.length:=by omega
  obtain⟨g,o,rfl,_⟩:=hrd.at (i:=0) (by rw[yL];omega);obtain⟨r,hr⟩:∃r:Int,r=(if xs.any S11.bad=true then 2 else 0):=⟨_,rfl⟩;rw[←hr];have HR:=zD hr;clear hl hr;go_enter Tryz.func84,Tryz.ntmps84;go_wp2;have hb0:=Blk.new w [.slice (some ⟨g,o,none⟩) xs.length cap] 81;go_loopw [4] (fun i wr=>∃k:Nat,k≤xs.length∧i = .int .i64 k∧(xs.take k).any S11.bad=false∧Blk wr w.heap.size [.slice (some ⟨g,o,none⟩) xs.length cap] 81∧Below w.heap.size w wr) (fun i _=>xs.length-(intOf i).toNat)
  case atStart=>exact⟨0,by omega,rfl,rfl,hb0,by go_grown⟩
  case round=>
   obtain⟨k,hk,rfl,hno,hblk,hB⟩:=hrel;have zr:w.heap.size≤wr.heap.size:=hB.size;have Hno:=zD hno;have Hblk:=zD hblk;have c0:=hblk.cell 0;simp only[lgz]at c0;clear hno hblk hb0;by_cases hlt:k<xs.length
   ·obtain⟨g2,o2,hgo,hcs⟩:=(hrd.step hB).at (i:=k) (by rw[yL];exact hlt);obtain⟨rfl,rfl⟩:g=g2∧o=o2:=by simp at hgo;exact hgo
    have hc:wr.cell? ⟨g,o+k,none⟩=some (.int .i64 xs[k]):=by rw[hcs k (by rw[yL];exact hlt)];simp[zaO]
    have Hs:=zD (zbL S11.bad xs k hlt);have Ha:=zD (zdR S11.bad xs k hlt);generalize xs[k]=x at *;clear hcs hgo;by_cases hx:x<0
    ·have Hany:=zD (Ha.out (by simp[S11.bad,hx]));go_wp2;go_returns;exact⟨by rw[HR.out,Hany.out];rfl,hB⟩
    ·by_cases hx2:65535<x
     ·have Hany:=zD (Ha.out (by simp[S11.bad,hx2]));go_wp2;go_returns;exact⟨by rw[HR.out,Hany.out];rfl,hB⟩
     ·have Hn:=zD (show(xs.take (k+1)).any S11.bad=false by rw[Hs.out,Hno.out];simp[S11.bad];omega);go_wp2;go_roundw
      case rel=>exact⟨k+1,by omega,by go_num,Hn.out,Hblk.out,hB⟩
      case measure=>simp[intOf];omega
   ·obtain rfl:k=xs.length:=by omega
    have Hn:=zD (show xs.any S11.bad=false by have:=Hno.out;rwa[zcP]at this);go_wp2;go_returns;exact⟨by rw[HR.out,Hn.out];rfl,hB⟩
def MapIs(L:List Int)(V:Value)(w':World):Prop:=∃a cap,V = .agg #[.slice a L.length cap]∧L.length≤cap∧cap≤9223372036854775807∧Rd w' a (zaO L)
def MapNew(B:Nat)(L:List Int)(V:Value)(w':World):Prop:=∃b cap,V = .agg #[.slice (some ⟨b,0,none⟩) L.length cap]∧B≤b∧L.length≤cap∧cap≤9223372036854775807∧Rd w' (some ⟨b,0,none⟩) (zaO L)
theorem MapNew.is{B:Nat}{L:List Int}{V:Value}{w:World}(h:MapNew B L V w):MapIs L V w:=by
 obtain⟨b,cap,e,_,h1,h2,h3⟩:=h;exact⟨_,cap,e,h1,h2,h3⟩
theorem MapIs.step{L:List Int}{V:Value}{w w':World}(h:MapIs L V w)(hb:Below w.heap.size w w'):MapIs L V w':=by
 obtain⟨a,cap,e,h1,h2,h3⟩:=h;exact⟨a,cap,e,h1,h2,h3.step hb⟩
theorem S11.first_length:S11.first.length=33:=by simp[S11.first]
theorem S11.first_at{k:Nat}(h:k<33):S11.first[k]'(by rw[S11.first_length];exact h)=16*S06.squash (192*(k:Int)-3072):=by simp[S11.first]
theorem take_snoc{α:Type}(xs:List α)(k:Nat)(h:k<xs.length):xs.take (k+1)=xs.take k ++ [xs[k]]:=List.take_succ_eq_append_getElem h
theorem zpC{w:World}{base:Nat}{n cap:Nat}{a:Option Addr}{xs:List Int}(h:w.ownsRow base 3 1 (.slice a n cap) n (zaO xs)):Rd w a (zaO xs):=Rd.of_owns h
theorem new11_ok(n:Nat)(w:World)(h1:1≤n)(h2:n≤65536) :
 Calls Tryz.prog 289 #[.int .i64 n] w fun e w'=>∃V,e = .returned (.tuple #[V,.int .i64 0])∧MapNew w.heap.size (zcT S11.first n) V w'∧Below w.heap.size w w':=by
 have e1:¬(n:Int)<1:=by omega
 have e2:¬(65536:Int)<n:=by omega
 go_enter Tryz.func289,Tryz.ntmps289;go_wp2;go_loopw [4,13] (fun v i wr=>∃(k:Nat) (a:Option Addr) (cap:Nat),k≤33∧i = .int .i64 k∧v = .slice a k cap∧wr.ownsRow (w.heap.size+1) 3 1 (.slice a k cap) k (zaO (S11.first.take k))∧Blk wr w.heap.size [.slice none 0 0] 81∧Below w.heap.size w wr) (fun _ i _=>33-(intOf i).toNat)
 case atStart=>exact⟨0,none,0,by omega,rfl,rfl,World.ownsRow_nil _ _ _ _,Blk.new w _ _,by go_grown⟩
 case round=>
  obtain⟨k,a,cap,hk,rfl,rfl,hown,hblk,hB⟩:=hrel;have zr:w.heap.size<wr.heap.size:=hblk.lt;have Hown:=zD hown;have Hblk:=zD hblk;clear hown hblk;by_cases hlt:k<33
  ·have HS:=zD fun W=>zgB (192*(k:Int)-3072) W;have hq:=S06.squash_bounds (192*(k:Int)-3072);have Hf:=zD (S11.first_at hlt);have Hsn:=zD (take_snoc S11.first k (by rw[S11.first_length];exact hlt));generalize S06.squash (192*(k:Int)-3072)=q at *;go_wp2_with fail;refine(HS.out _).mono ?_;rintro e w1 ⟨rfl,hb1⟩;have hB1:Below w.heap.size w w1:=zA hB hb1;have z1:wr.heap.size≤w1.heap.size:=hb1.size;have Hown1:=zD (ownS Hown.out hb1);have Hblk1:=zD (Hblk.out.step hb1);go_wp2_with (at_builtin;refine zaJ _ _ 39 3 1 8 _ (w.heap.size+1) elems_ints rfl rfl _ k (zaO (S11.first.take k)) rfl (Hown1.out.alloc _) (some ⟨w1.heap.size,0,none⟩) 1 1 [.int .i64 (16*q)] rfl rfl (Rd.new w1 [.int .i64 (16*q)] 3) (by simp[Value.oneCell']) (by unfold maxLen;omega) (by omega) (by simp;omega) ?_;intro a2 cap2 w2 hown2 hgrow2;have hB2:Below w.heap.size w w2:=Below.grown (by go_grown) hgrow2 (by simp;omega) (fun j e=>yD (Nat.le_succ _) (Hown1.out.lt j e).1);have hblk2:Blk w2 w.heap.size [.slice none 0 0] 81:=(Hblk1.out.alloc _).below (Below.grown (B:=w.heap.size+1) (zG _ _) hgrow2 (by simp;omega) (fun j e=>(Hown1.out.lt j e).1)) (by omega);have Hown2:=zD hown2;have Hblk2:=zD hblk2;clear hown2 hgrow2 hblk2);go_roundw
   case rel=>
    refine⟨k+1,a2,cap2,by omega,by go_num,rfl,?_,Hblk2.out,hB2⟩;rw[Hsn.out,Hf.out,zeF];exact Hown2.out
   case measure=>simp[intOf];omega
  ·obtain rfl:k=33:=by omega
   have hall:S11.first.take 33=S11.first:=zdB (by rw[S11.first_length];omega);have hown:=Hown.out;rw[hall]at hown;have HR:=zD (zoJ S11.first n a cap wr (by rw[S11.first_length];omega) (by rw[S11.first_length];omega) h2 (zpC hown));rw[S11.first_length]at HR;clear hown hall;go_wp2_with fail;refine HR.out.mono ?_;rintro e w1 ⟨b,rfl,hbge,hrd1,hb1⟩;have hB1:Below w.heap.size w w1:=zA hB hb1;have hblk1:=Hblk.out.step hb1;have r0:=hblk1.cell 0;have r1:=hblk1.free 0;have r2:=(hblk1.set 0 (.slice (some ⟨b,0,none⟩) (n*33) (n*33))).cell 0;simp only[sC0,lgz]at r0 r2;have Hrd1:=zD hrd1;clear hrd1 hblk1;go_wp2;refine bodyPost_ret (v:=.tuple #[.agg #[.slice (some ⟨b,0,none⟩) (n*33) (n*33)],.int .i64 0]) (by simp[results,Tryz.results289,go_sem,r2]) rfl ⟨_,rfl,?_,hB1.setCell (zE _) _⟩;have hl:(zcT S11.first n).length=n*33:=by rw[zcO,S11.first_length]
   exact⟨b,_,by rw[hl],by omega,by rw[hl];exact zE _,by omega,Hrd1.out.setOther (by omega)⟩
