/- A part of the proof of L14n. No condition. -/
import Derived.Test.YtieeogndnhighaaGreatZL14nan
import Derived.Test.YtieeogndnhighaaGreatZL14nau
import Derived.Test.YtieeogndnhighaaGreatZL14nbh
set_option linter.all false
set_option maxRecDepth 100000
set_option maxHeartbeats 4000000
namespace Go.Proofs.YtieeogndnhighaaGreat
open Go.RowKit
def Own(w:World)(g:Nat)(t:TypeId)(vals:List Value):Prop:=∃rest,Blk w g (vals++rest) t
end Go.Proofs.YtieeogndnhighaaGreat
namespace Go.Proofs.YtieeogndnhighaaGreat
open Go.RowKit
theorem zaW(B:Nat)(w:World):Below B w w.drew:=(zG B w).drew
end Go.Proofs.YtieeogndnhighaaGreat
namespace Go.Proofs.YtieeogndnhighaaGreat
open Go.RowKit
end Go.Proofs.YtieeogndnhighaaGreat
namespace Go.Proofs.YtieeogndnhighaaGreat
open Go.RowKit
theorem zmI(H n:Nat):(H:Int)/2^n=((H/2^n:Nat):Int):=by rw[Int.natCast_ediv,Int.natCast_pow];rfl
end Go.Proofs.YtieeogndnhighaaGreat
namespace Go.Proofs.YtieeogndnhighaaGreat
open Go.RowKit
theorem conv12(xs:List Int)(a:Option Addr)(cap:Nat)(w:World)(hrd:Rd w a (Bts xs)):(convert 59 9 (.slice a xs.length cap)).run Tryz.prog w = .ok (.string (strOfNums xs)) w:=by
 by_cases hne:xs = []
 ·subst hne;have he:strOfNums []=ByteArray.empty:=rfl;cases a with
  | none=>rw[he];exact run_convert_bytes_nil w 59 5 Tryz.underlying59 Tryz.underlying5 _ _ 9 Tryz.underlying9
  | some ad=>
    obtain⟨b,o,sp⟩:=ad;have h:=run_convert_bytes_string (P:=Tryz.prog) w 59 9 5 (some ⟨b,o,sp⟩) 0 cap Tryz.underlying59 Tryz.underlying5 Tryz.underlying9;rw[he];have hl:=run_loadCells_list (P:=Tryz.prog) w ⟨b,o,sp⟩ [] (fun j v hj=>by simp at hj);simp only[List.length_nil]at hl;refine h.trans ?_;simp[Conv.bytesToString,hl]
 ·obtain⟨b,o,rfl,hr⟩:=hrd (fun e=>hne (by have:=yQ List.length e;rw[zaI]at this;exact List.length_eq_zero_iff.1 (by simpa using this)));exact run_convert_bytes_arg w 59 5 Tryz.underlying59 Tryz.underlying5 b o xs.length cap xs rfl (fun i hi=>hr i _ (by unfold Bts;rw[zaH,zI hi,S12.getD_in _ _ hi];rfl)) 9 Tryz.underlying9
end Go.Proofs.YtieeogndnhighaaGreat
namespace Go.Proofs.YtieeogndnhighaaGreat
open Go.RowKit Go.Shelf
theorem zjP(g o cap:Nat)(xs:List Int)(p:Nat)(hp:p≤xs.length)(hlen:xs.length≤1000000)(w:World)(hrd:Rd w (some ⟨g,o,none⟩) (Bts xs)) :
 Calls Tryz.prog 144 #[.slice (some ⟨g,o,none⟩) xs.length cap,.int .i64 (p:Int)] w fun e w'=>e = .returned (.int .i64 (S12.rep xs p:Int))∧Below w.heap.size w w':=by
 obtain⟨R,hR⟩:∃R,S12.rep xs p=R:=⟨_,rfl⟩;have HR:=zD fun(k:Nat) (h1:k≤min 255 p) (h2:∀i,i<k→S12.eqAt xs p i=true) (h3:k=min 255 p∨S12.eqAt xs p k=false)=>(hR.symm.trans (S12.rep_of h1 h2 h3):R=k);rw[hR];have Hrd:=zD hrd;clear hR hrd;go_enter Tryz.func144,Tryz.ntmps144;go_wp2_with fail;go_loopw [5] (fun n wr=>∃k:Nat,k≤min 255 p∧n = .int .i64 (k:Int)∧(∀i,i<k→S12.eqAt xs p i=true)∧Below w.heap.size w wr) (fun n _=>255-(intOf n).toNat)
 case atStart=>exact⟨0,by omega,rfl,fun i h=>by omega,zG _ _⟩
 case round=>
  obtain⟨k,hk,rfl,heq,hB⟩:=hrel;have Heq:=zD heq;clear heq;by_cases c1:k<255
  ·by_cases c2:k<p
   ·obtain⟨g',o',e,hcs⟩:=Bts_at (Hrd.out.step hB) (i:=p-1-k) (by omega);cases e;obtain⟨i,hi⟩:∃i,p-1-k=i:=⟨_,rfl⟩;obtain⟨j,hj⟩:∃j,xs.length-1-k=j:=⟨_,rfl⟩;have y1:=hcs i (by omega);have y2:=hcs j (by omega);have hdef:S12.eqAt xs p k=(xs.getD i 0==xs.getD j 0):=by unfold S12.eqAt;rw[hi,hj]
    obtain⟨u,hu⟩:∃u,xs.getD i 0=u:=⟨_,rfl⟩;obtain⟨v,hv⟩:∃v,xs.getD j 0=v:=⟨_,rfl⟩;rw[hu,hv]at hdef;rw[hu]at y1;rw[hv]at y2;have q1:IntKind.i64.wrap (IntKind.i64.wrap ((p:Int)-1)-(k:Int))=(i:Int):=by rw[IntWalk.i64_in ((p:Int)-1) (by omega),IntWalk.i64_in _ (by omega)];omega
    have q2:IntKind.i64.wrap (IntKind.i64.wrap ((xs.length:Int)-1)-(k:Int))=(j:Int):=by rw[IntWalk.i64_in ((xs.length:Int)-1) (by omega),IntWalk.i64_in _ (by omega)];omega
    have hil:i<xs.length:=by omega
    have hjl:j<xs.length:=by omega
    have hC:Cells wr [(⟨g,o+i,none⟩,.int .u8 u),(⟨g,o+j,none⟩,.int .u8 v)]:=⟨y1,y2,yJ⟩;have Hdef:=zD hdef;have Hk:=zD hk;clear hcs hdef hu hv hi hj hk;have d1:decide ((k:Int)<255)=true:=zQ (by omega);have d2:decide ((k:Int)<(p:Int))=true:=zQ (by omega);cases huv:(u==v)with
    | true=>
      rw[huv]at Hdef;go_wp2_with fail;refine zrE 25 0 [(U,[U,U,U,U,U,U,U,U,U,U,U,U,U,U,U,U,U,U,U,U,U,U,U,U,U])] (Keeps wr [(⟨g,o+i,none⟩,.int .u8 u),(⟨g,o+j,none⟩,.int .u8 v)]) (by kernel_rfl) (Keeps.start hC) (fun Y Q4 F4 hY hF=> ?_);simp only[zrC]
      repeat
       apply zF (by rw[hY];rfl)
       ·intro w2 hS2;(try simp only[Keeps,Cells]at hS2);go_simp;with_reducible rfl
       simp only[zrB]
      repeat
       first
        | (apply zR (by rw[hY];rfl);simp only[zrB])
        | (apply zF (by rw[hY];rfl)
           ·intro w2 hS2;(try simp only[Keeps,Cells]at hS2);go_simp;with_reducible rfl
           simp only[zrB])
      refine zZ (hF.out _ _ (fun K hK=> ?_));clear hF hY;go_wp2_with fail;refine OnlyK.mk (hK.out _ _ ?_);clear hK;have hBd:=zA hB (zaW wr.heap.size wr);clear hC;go_wp2_with fail;go_roundw
      case rel=>exact⟨k+1,by omega,by go_num,fun i hi=>by rcases Nat.lt_succ_iff_lt_or_eq.1 hi with h|rfl;exact Heq.out i h;exact Hdef.out,hBd⟩
      case measure=>simp[intOf];omega
    | false=>
      rw[huv]at Hdef;have hRk:R=k:=HR.out k Hk.out Heq.out (.inr Hdef.out);go_wp2_with fail;refine zrE 25 0 [(U,[U,U,U,U,U,U,U,U,U,U,U,U,U,U,U,U,U,U,U,U,U,U,U,U,U])] (Keeps wr [(⟨g,o+i,none⟩,.int .u8 u),(⟨g,o+j,none⟩,.int .u8 v)]) (by kernel_rfl) (Keeps.start hC) (fun Y Q4 F4 hY hF=> ?_);simp only[zrC]
      repeat
       apply zF (by rw[hY];rfl)
       ·intro w2 hS2;(try simp only[Keeps,Cells]at hS2);go_simp;with_reducible rfl
       simp only[zrB]
      repeat
       first
        | (apply zR (by rw[hY];rfl);simp only[zrB])
        | (apply zF (by rw[hY];rfl)
           ·intro w2 hS2;(try simp only[Keeps,Cells]at hS2);go_simp;with_reducible rfl
           simp only[zrB])
      refine zZ (hF.out _ _ (fun K hK=> ?_));clear hF hY;go_wp2_with fail;refine OnlyK.mk (hK.out _ _ ?_);clear hK;have hBd:=zA hB (zaW wr.heap.size wr);clear hC;go_wp2_with fail;go_returns;exact⟨by rw[hRk];rfl,hBd⟩
   ·have hRk:R=k:=HR.out k hk Heq.out (.inl (by omega));have d1:decide ((k:Int)<255)=true:=zQ (by omega);have d2:decide ((k:Int)<(p:Int))=false:=zL (by omega);have hC:Cells wr []:=yJ;clear hk;go_wp2_with fail;refine zrE 25 0 [(U,[U,U,U,U,U,U,U,U,U,U,U,U,U,U,U,U,U,U,U,U,U,U,U,U,U])] (Keeps wr []) (by kernel_rfl) (Keeps.start hC) (fun Y Q4 F4 hY hF=> ?_);simp only[zrC]
    repeat
     apply zF (by rw[hY];rfl)
     ·intro w2 hS2;(try simp only[Keeps,Cells]at hS2);go_simp;with_reducible rfl
     simp only[zrB]
    repeat
     first
      | (apply zR (by rw[hY];rfl);simp only[zrB])
      | (apply zF (by rw[hY];rfl)
         ·intro w2 hS2;(try simp only[Keeps,Cells]at hS2);go_simp;with_reducible rfl
         simp only[zrB])
    refine zZ (hF.out _ _ (fun K hK=> ?_));clear hF hY;go_wp2_with fail;refine OnlyK.mk (hK.out _ _ ?_);clear hK;have hBd:=zA hB (zaW wr.heap.size wr);clear hC;go_wp2_with fail;go_returns;exact⟨by rw[hRk];rfl,hBd⟩
  ·have hRk:R=k:=HR.out k hk Heq.out (.inl (by omega));have d1:decide ((k:Int)<255)=false:=zL (by omega);have hC:Cells wr []:=yJ;clear hk;go_wp2_with fail;refine zrE 25 0 [(U,[U,U,U,U,U,U,U,U,U,U,U,U,U,U,U,U,U,U,U,U,U,U,U,U,U])] (Keeps wr []) (by kernel_rfl) (Keeps.start hC) (fun Y Q4 F4 hY hF=> ?_);simp only[zrC]
   repeat
    apply zF (by rw[hY];rfl)
    ·intro w2 hS2;(try simp only[Keeps,Cells]at hS2);go_simp;with_reducible rfl
    simp only[zrB]
   repeat
    first
     | (apply zR (by rw[hY];rfl);simp only[zrB])
     | (apply zF (by rw[hY];rfl)
        ·intro w2 hS2;(try simp only[Keeps,Cells]at hS2);go_simp;with_reducible rfl
        simp only[zrB])
   refine zZ (hF.out _ _ (fun K hK=> ?_));clear hF hY;go_wp2_with fail;refine OnlyK.mk (hK.out _ _ ?_);clear hK;have hBd:=zA hB (zaW wr.heap.size wr);clear hC;go_wp2_with fail;go_returns;exact⟨by rw[hRk];rfl,hBd⟩
end Go.Proofs.YtieeogndnhighaaGreat
namespace Go.Proofs.YtieeogndnhighaaGreat
open Go.RowKit
theorem zmW(x pt:Nat)(hx:x<256)(h1:1≤pt)(h2:pt≤255)(w:World) :
 Calls Tryz.prog 131 #[.int .u8 (x:Int),.int .i64 (pt:Int)] w fun e w'=>e = .returned (.tuple #[.int .i64 (S12.optN (S12.exp x (pt:Int))),.bool (S12.exp x (pt:Int)).isSome])∧Below w.heap.size w w':=by
 obtain⟨E,hE⟩:∃E,S12.exp x (pt:Int)=E:=⟨_,rfl⟩;have HE:=zD fun(n:Nat) (hn:n≤7) (a:2^n≤pt) (b:pt<2^(n+1))=>(hE.symm.trans (S12.exp_at hx hn a b):E=_);rw[hE];obtain⟨EN,hEN⟩:∃EN,S12.optN E=EN:=⟨_,rfl⟩;rw[hEN];have HEN:=zD hEN;clear hE hEN;go_enter Tryz.func131,Tryz.ntmps131;go_wp2_with fail;go_loopw [6] (fun n wr=>∃k:Nat,k≤7∧n = .int .i64 (k:Int)∧2^k≤pt∧Below w.heap.size w wr) (fun n _=>8-(intOf n).toNat)
 case atStart=>exact⟨0,by omega,rfl,by omega,zG _ _⟩
 case round=>
  obtain⟨k,hk,rfl,hpk,hB⟩:=hrel;have hdc:=zmI pt (k+1);by_cases hlt:2^(k+1)≤pt
  ·have hk6:k+1≤7:=by
    have h3:2^(k+1)<2^8:=by omega
    have:=(Nat.pow_lt_pow_iff_right (by omega:1<2)).1 h3;omega
   have hd:0<pt/2^(k+1):=Nat.div_pos hlt (zaS _);obtain⟨d,hdd⟩:∃d,pt/2^(k+1)=d:=⟨_,rfl⟩;rw[hdd]at hd hdc;clear hdd hpk;go_wp2_with fail;go_roundw
   case rel=>exact⟨k+1,hk6,by go_num,hlt,hB⟩
   case measure=>simp[intOf];omega
  ·have hEE:=HE.out k hk hpk (by omega);have hd:pt/2^(k+1)=0:=Nat.div_eq_of_lt (by omega);rw[hd]at hdc;have hdc2:=zmI (256+x) (8-k);have hdc3:=zmI x (7-k);rw[show((256+x:Nat):Int)=256+(x:Int) by omega]at hdc2;obtain⟨u,hu⟩:∃u,(256+x)/2^(8-k)=u:=⟨_,rfl⟩;have hand:bits .and .i64 ((x:Int)/2^(7-k)) 1=((x/2^(7-k)%2:Nat):Int):=by rw[zmI,zpT _ (Nat.lt_of_le_of_lt (Nat.div_le_self _ _) (by omega))]
   rw[hu]at hdc2 hEE;obtain⟨v,hv⟩:∃v,x/2^(7-k)%2=v:=⟨_,rfl⟩;rw[hv]at hand hEE;have hk7:¬7<k:=by omega
   by_cases hup:u=pt
   ·rw[zU hup]at hEE;subst hEE;have hEN:EN=(v:Int):=HEN.out.symm;subst hEN;subst hup;clear hdc3 hpk hd hu hv hlt;go_wp2_with fail;go_returns;exact⟨rfl,hB⟩
   ·rw[zK hup]at hEE;subst hEE;have hEN:EN=2:=HEN.out.symm;subst hEN;have hne:((u:Int) != (pt:Int))=true:=by simp;omega
    clear hdc3 hpk hd hu hv hlt hand;go_wp2_with fail;go_returns;exact⟨rfl,hB⟩
theorem Rd.of_owns2{w:World}{base:Nat}{e:TypeId}{size n cap:Nat}{a:Option Addr}{xs:List Value}(h:w.ownsRow base e size (.slice a n cap) n xs):Rd w a xs∧(∀g o,a=some ⟨g,o,none⟩→base≤g):=by
 refine⟨Rd.of_owns h,fun g o e=>(h.lt g (by rw[e];rfl)).1⟩
theorem rnew12_ok(n:Nat)(least:Int)(w:World)(h1:1≤n∧n≤16)(h2:1≤least∧least≤32) :
 Calls Tryz.prog 70 #[.int .i64 (n:Int),.int .i64 least] w fun e w'=>∃h a c,e = .returned (.tuple #[.agg #[.int .i64 (n:Int),.int .i64 least,.slice (some ⟨h,0,none⟩) (2^n) (2^n),.slice none 0 0,.int .i64 0,.int .i64 0,.int .i64 1,.int .i64 2,.slice a 16 c],.int .i64 0])∧
  w.heap.size≤h∧(∀g o,a=some ⟨g,o,none⟩→w.heap.size≤g)∧Rd w' (some ⟨h,0,none⟩) (zaO (List.replicate (2^n) 0))∧Rd w' a (Cts (List.replicate 16 (32768,0)))∧Below w.heap.size w w':=by
 have HT:=zD fun W=>zhF 16 W (by omega) (by omega);rw[table_16.1,table_16.2,←Cts_fresh]at HT;have B0:=Blk.new w [.int .i64 0,.int .i64 0,.slice none 0 0,.slice none 0 0,.int .i64 0,.int .i64 0,.int .i64 0,.int .i64 0,.slice none 0 0] 77;have d1:¬(n:Int)<1:=by omega
 have d2:¬16<(n:Int):=by omega
 have d3:¬least<1:=by omega
 have d4:¬32<least:=by omega
 have hps:2^n≤65536:=zfQ (n:=2) (by omega) (show n≤16 by omega);have hsh:IntKind.i64.wrap ((2:Int)^n)=((2^n:Nat):Int):=by
  have e:(2:Int)^n=((2^n:Nat):Int):=by simp
  rw[e];exact zbT (by omega)
 obtain⟨N,hN⟩:∃N,2^n=N:=⟨_,rfl⟩;rw[hN]at hsh hps⊢;clear hN;go_enter Tryz.func70,Tryz.ntmps70;go_wp2_with fail;refine(HT.out _).mono ?_;rintro e w3 ⟨a,c,rfl,hown3,hb3⟩;have hB3:Below w.heap.size w w3:=zA (by go_grown) hb3;obtain⟨hr3,hf3⟩:=Rd.of_owns2 hown3;rw[yA]at hf3;have B3:=B0.step hb3;clear B0 hown3;have Hr3:=zD hr3;clear hr3;obtain⟨w4,hw4⟩:∃w4,w3.alloc (.cells (List.replicate N (.int .i64 0)).toArray 3)=w4:=⟨_,rfl⟩;have hb4:Below w3.heap.size w3 w4:=by rw[←hw4];exact(zG _ _).alloc (zE _) _
 have H4:Blk w4 w3.heap.size (List.replicate N (.int .i64 0)) 3:=by rw[←hw4];exact Blk.new w3 _ _
 have hB4:=zA hB3 hb4;have B4:=B3.step hb4;have lt1:=B3.lt;obtain⟨x0,x1,x2,x3,x4,x5,x6,x7,x8⟩:=B4.nine;have f0:=B4.free 0;have f1:=B4.free 1;have f2:=B4.free 2;have f3:=B4.free 3;have f4:=B4.free 4;have f5:=B4.free 5;have f6:=B4.free 6;have f7:=B4.free 7;have f8:=B4.free 8;have B5:=B4.put9 (.int .i64 (n:Int)) (.int .i64 least) (.slice (some ⟨w3.heap.size,0,none⟩) N N) (.slice none 0 0) (.int .i64 0) (.int .i64 0) (.int .i64 1) (.int .i64 2) (.slice a 16 c);have hB5:=zgX hB4 (zE _) (.int .i64 (n:Int)) (.int .i64 least) (.slice (some ⟨w3.heap.size,0,none⟩) N N) (.slice none 0 0) (.int .i64 0) (.int .i64 0) (.int .i64 1) (.int .i64 2) (.slice a 16 c);obtain⟨y0,y1,y2,y3,y4,y5,y6,y7,y8⟩:=B5.nine
 go_wp2_with first
  | (at_make;refine zbU rfl (zmG (.tmp 30) 39 3 8 (.int .i64 0) znT rfl .i64 N (by first|rfl|(show Value.int .i64 (wrap64 _)=_;rw[show wrap64 ((2:Int)^n)=(N:Int)from hsh])) (by omega) (by unfold maxLen;omega)) ?_;rw[hw4];clear hw4)
  | (exact bodyPost_ret (v:=.tuple #[.agg #[.int .i64 (n:Int),.int .i64 least,.slice (some ⟨w3.heap.size,0,none⟩) N N,.slice none 0 0,.int .i64 0,.int .i64 0,.int .i64 1,.int .i64 2,.slice a 16 c],.int .i64 0]) (by simp[results,Tryz.results70,go_sem,y0,y1,y2,y3,y4,y5,y6,y7,y8]) rfl ⟨_,_,_,rfl,hB3.size,fun g o e=>yD (Nat.le_succ _) (hf3 g o e),Rd.put9 (by rw[zpX];exact fun _=>⟨_,0,rfl,H4.cells⟩) (fun g o e _=>by cases e;have:=hb3.size;omega) _ _ _ _ _ _ _ _ _,(Hr3.out.step hb4).put9 (fun g o e _=>by have:=hf3 g o e;omega) _ _ _ _ _ _ _ _ _,hB5⟩)
theorem zoH(m:S12.M)(p:Pl)(w:World)(hl:m.bytes.length≤65536)(hpt:1≤m.part∧m.part≤255)(hM:MIs m p w) :
 Calls Tryz.prog 115 #[MV m p] w fun e w'=>e = .returned (.bool (S12.matched m))∧Below w.heap.size w w':=by
 obtain⟨bits,least,heads,bytes,at_,len,part,bit,ctrs⟩:=m;obtain⟨ah,ch,ab,cb,ac,cc⟩:=p;obtain⟨_,hrb,_,hbyt,hcb,_,_,_⟩:=hM;obtain⟨R,hR⟩:∃R,S12.matched ⟨bits,least,heads,bytes,at_,len,part,bit,ctrs⟩=R:=⟨_,rfl⟩
 have hRd:R=if len=0 then decide (at_=0)&&decide (bit=2)
  else decide (1≤len∧len≤255)&&decide (len≤at_∧at_≤(bytes.length:Int)-1)&&decide (len≤(S12.rep bytes at_.toNat:Int)) &&
   (match S12.exp (bytes.getD at_.toNat 0).toNat part with|some b=>decide ((b:Int)=bit)|none=>false):=by rw[←hR];rfl
 rw[hR];clear hR;simp only at hrb hbyt hcb hl hpt;unfold MV zbQ;simp only;have B0:=Blk.new w [.int .i64 bits,.int .i64 least,.slice ah heads.length ch,.slice ab bytes.length cb,.int .i64 at_,.int .i64 len,.int .i64 part,.int .i64 bit,.slice ac ctrs.length cc] 77;have hB0:Below w.heap.size w (w.alloc (.cells #[.int .i64 bits,.int .i64 least,.slice ah heads.length ch,.slice ab bytes.length cb,.int .i64 at_,.int .i64 len,.int .i64 part,.int .i64 bit,.slice ac ctrs.length cc] 77)):=(zG _ _).alloc (zE _) _;obtain⟨w0,hw0⟩:∃w0,(w.alloc (.cells #[.int .i64 bits,.int .i64 least,.slice ah heads.length ch,.slice ab bytes.length cb,.int .i64 at_,.int .i64 len,.int .i64 part,.int .i64 bit,.slice ac ctrs.length cc] 77))=w0:=⟨_,rfl⟩;have B1:Blk w0 w.heap.size [.int .i64 bits,.int .i64 least,.slice ah heads.length ch,.slice ab bytes.length cb,.int .i64 at_,.int .i64 len,.int .i64 part,.int .i64 bit,.slice ac ctrs.length cc] 77:=by rw[←hw0];exact B0
 rw[hw0]at hB0;clear B0;obtain⟨x0,x1,x2,x3,x4,x5,x6,x7,x8⟩:=B1.nine;have hbN:bytes.length<9223372036854775808:=by omega
 by_cases h0:len=0
 ·rw[zU h0]at hRd;subst h0;by_cases ha:at_=0
  ·subst ha;rw[zQ rfl,zbE]at hRd;subst hRd;go_enter Tryz.func115,Tryz.ntmps115;go_wp2_with fail;go_returns;exact⟨yZ (by first|rfl|simp),hB0⟩
  ·rw[zL ha,Bool.false_and]at hRd;subst hRd;have e1:(at_==0)=false:=by simp[ha]
   go_enter Tryz.func115,Tryz.ntmps115;go_wp2_with fail;go_returns;exact⟨rfl,hB0⟩
 rw[zK h0]at hRd;have e0:(len==0)=false:=by simp[h0]
 have hC:zbF [(⟨w.heap.size,5,none⟩,.int .i64 len),(⟨w.heap.size,4,none⟩,.int .i64 at_),(⟨w.heap.size,3,none⟩,.slice ab bytes.length cb)] w0:=⟨x5,x4,x3,yJ⟩;have hB0d:=hB0.drew;by_cases c1:len<0
 ·have hf:R=false:=by rw[hRd,zL (show¬(1≤len∧len≤255) by omega)];rfl
  subst hf;clear hRd;have d1:decide (len<0)=true:=zQ c1;go_enter Tryz.func115,Tryz.ntmps115;go_wp2_with fail;refine zrE 33 0 [(U,[U,U,U,U,U,U,U,U,U,U,U,U,U,U,U,U,U,U,U,U,U,U,U,U,U,U,U,U,zrA,U,U]),(zrA,[zrA,zrA,zrA,zrA,zrA,zrA,zrA,zrA,zrA,zrA,zrA,zrA,zrA,zrA,zrA,zrA,zrA,zrA,zrA,zrA,zrA,zrA,zrA,zrA,zrA,zrA,zrA,zrA,U]),(U,[zrA,zrA,zrA,zrA,zrA,zrA,zrA,zrA,zrA,zrA,zrA,zrA,zrA,zrA,zrA,zrA,zrA,zrA,zrA,zrA,zrA,zrA,zrA,zrA,zrA,zrA,zrA,zrA,zrA,zrA,zrA,U,U])] (zbF [(⟨w.heap.size,5,none⟩,.int .i64 len),(⟨w.heap.size,4,none⟩,.int .i64 at_),(⟨w.heap.size,3,none⟩,.slice ab bytes.length cb)]) (by kernel_rfl) (hC) (fun Y Q4 F4 hY hF=> ?_);simp only[zrC]
  repeat
   apply zF (by rw[hY];rfl)
   ·intro w2 hS2;(try simp only[Keeps,zbF,Cells]at hS2);go_simp;with_reducible rfl
   simp only[zrB]
  repeat
   first
    | (apply zR (by rw[hY];rfl);simp only[zrB])
    | (apply zF (by rw[hY];rfl)
       ·intro w2 hS2;(try simp only[Keeps,zbF,Cells]at hS2);go_simp;with_reducible rfl
       simp only[zrB])
  repeat
   first
    | (apply zR (by rw[hY];rfl);simp only[zrB])
    | (refine yM (by rw[hY];rfl) (hC) ?_;simp only[zrB])
  repeat
   first
    | (apply zR (by rw[hY];rfl);simp only[zrB])
    | (apply zF (by rw[hY];rfl)
       ·intro w2 hS2;(try simp only[Keeps,zbF,Cells]at hS2);go_simp;with_reducible rfl
       simp only[zrB])
  refine zZ (hF.out _ _ (fun K hK=> ?_));clear hF hY;go_wp2_with fail;refine OnlyK.mk (hK.out _ _ ?_);clear hK;go_wp2_with fail;go_returns;exact⟨rfl,hB0d⟩
 by_cases c2:255<len
 ·have hf:R=false:=by rw[hRd,zL (show¬(1≤len∧len≤255) by omega)];rfl
  subst hf;clear hRd;have d1:decide (len<0)=false:=zL c1;have d2:decide (255<len)=true:=zQ c2;go_enter Tryz.func115,Tryz.ntmps115;go_wp2_with fail;refine zrE 33 0 [(U,[U,U,U,U,U,U,U,U,U,U,U,U,U,U,U,U,U,U,U,U,U,U,U,U,U,U,U,U,zrA,U,U]),(zrA,[zrA,zrA,zrA,zrA,zrA,zrA,zrA,zrA,zrA,zrA,zrA,zrA,zrA,zrA,zrA,zrA,zrA,zrA,zrA,zrA,zrA,zrA,zrA,zrA,zrA,zrA,zrA,zrA,U]),(U,[zrA,zrA,zrA,zrA,zrA,zrA,zrA,zrA,zrA,zrA,zrA,zrA,zrA,zrA,zrA,zrA,zrA,zrA,zrA,zrA,zrA,zrA,zrA,zrA,zrA,zrA,zrA,zrA,zrA,zrA,zrA,U,U])] (zbF [(⟨w.heap.size,5,none⟩,.int .i64 len),(⟨w.heap.size,4,none⟩,.int .i64 at_),(⟨w.heap.size,3,none⟩,.slice ab bytes.length cb)]) (by kernel_rfl) (hC) (fun Y Q4 F4 hY hF=> ?_);simp only[zrC]
  repeat
   apply zF (by rw[hY];rfl)
   ·intro w2 hS2;(try simp only[Keeps,zbF,Cells]at hS2);go_simp;with_reducible rfl
   simp only[zrB]
  repeat
   first
    | (apply zR (by rw[hY];rfl);simp only[zrB])
    | (apply zF (by rw[hY];rfl)
       ·intro w2 hS2;(try simp only[Keeps,zbF,Cells]at hS2);go_simp;with_reducible rfl
       simp only[zrB])
  repeat
   first
    | (apply zR (by rw[hY];rfl);simp only[zrB])
    | (refine yM (by rw[hY];rfl) (hC) ?_;simp only[zrB])
  repeat
   first
    | (apply zR (by rw[hY];rfl);simp only[zrB])
    | (apply zF (by rw[hY];rfl)
       ·intro w2 hS2;(try simp only[Keeps,zbF,Cells]at hS2);go_simp;with_reducible rfl
       simp only[zrB])
  refine zZ (hF.out _ _ (fun K hK=> ?_));clear hF hY;go_wp2_with fail;refine OnlyK.mk (hK.out _ _ ?_);clear hK;go_wp2_with fail;go_returns;exact⟨rfl,hB0d⟩
 rw[zQ (show 1≤len∧len≤255 by omega),zbE]at hRd;by_cases c3:at_<len
 ·have hf:R=false:=by rw[hRd,zL (show¬(len≤at_∧at_≤(bytes.length:Int)-1) by omega)];rfl
  subst hf;clear hRd;have d1:decide (len<0)=false:=zL c1;have d2:decide (255<len)=false:=zL c2;have d3:decide (at_<len)=true:=zQ c3;go_enter Tryz.func115,Tryz.ntmps115;go_wp2_with fail;refine zrE 33 0 [(U,[U,U,U,U,U,U,U,U,U,U,U,U,U,U,U,U,U,U,U,U,U,U,U,U,U,U,U,U,zrA,U,U]),(zrA,[zrA,zrA,zrA,zrA,zrA,zrA,zrA,zrA,zrA,zrA,zrA,zrA,zrA,zrA,zrA,zrA,zrA,zrA,zrA,zrA,zrA,zrA,zrA,zrA,zrA,zrA,zrA,zrA,U]),(U,[zrA,zrA,zrA,zrA,zrA,zrA,zrA,zrA,zrA,zrA,zrA,zrA,zrA,zrA,zrA,zrA,zrA,zrA,zrA,zrA,zrA,zrA,zrA,zrA,zrA,zrA,zrA,zrA,zrA,zrA,zrA,U,U])] (zbF [(⟨w.heap.size,5,none⟩,.int .i64 len),(⟨w.heap.size,4,none⟩,.int .i64 at_),(⟨w.heap.size,3,none⟩,.slice ab bytes.length cb)]) (by kernel_rfl) (hC) (fun Y Q4 F4 hY hF=> ?_);simp only[zrC]
  repeat
   apply zF (by rw[hY];rfl)
   ·intro w2 hS2;(try simp only[Keeps,zbF,Cells]at hS2);go_simp;with_reducible rfl
   simp only[zrB]
  repeat
   first
    | (apply zR (by rw[hY];rfl);simp only[zrB])
    | (apply zF (by rw[hY];rfl)
       ·intro w2 hS2;(try simp only[Keeps,zbF,Cells]at hS2);go_simp;with_reducible rfl
       simp only[zrB])
  repeat
   first
    | (apply zR (by rw[hY];rfl);simp only[zrB])
    | (refine yM (by rw[hY];rfl) (hC) ?_;simp only[zrB])
  repeat
   first
    | (apply zR (by rw[hY];rfl);simp only[zrB])
    | (apply zF (by rw[hY];rfl)
       ·intro w2 hS2;(try simp only[Keeps,zbF,Cells]at hS2);go_simp;with_reducible rfl
       simp only[zrB])
  refine zZ (hF.out _ _ (fun K hK=> ?_));clear hF hY;go_wp2_with fail;refine OnlyK.mk (hK.out _ _ ?_);clear hK;go_wp2_with fail;go_returns;exact⟨rfl,hB0d⟩
 by_cases c4:(bytes.length:Int)≤at_
 ·have hf:R=false:=by rw[hRd,zL (show¬(len≤at_∧at_≤(bytes.length:Int)-1) by omega)];rfl
  subst hf;clear hRd;have d1:decide (len<0)=false:=zL c1;have d2:decide (255<len)=false:=zL c2;have d3:decide (at_<len)=false:=zL c3;have d4:decide ((bytes.length:Int)≤at_)=true:=zQ c4;go_enter Tryz.func115,Tryz.ntmps115;go_wp2_with fail;refine zrE 33 0 [(U,[U,U,U,U,U,U,U,U,U,U,U,U,U,U,U,U,U,U,U,U,U,U,U,U,U,U,U,U,zrA,U,U]),(zrA,[zrA,zrA,zrA,zrA,zrA,zrA,zrA,zrA,zrA,zrA,zrA,zrA,zrA,zrA,zrA,zrA,zrA,zrA,zrA,zrA,zrA,zrA,zrA,zrA,zrA,zrA,zrA,zrA,U]),(U,[zrA,zrA,zrA,zrA,zrA,zrA,zrA,zrA,zrA,zrA,zrA,zrA,zrA,zrA,zrA,zrA,zrA,zrA,zrA,zrA,zrA,zrA,zrA,zrA,zrA,zrA,zrA,zrA,zrA,zrA,zrA,U,U])] (zbF [(⟨w.heap.size,5,none⟩,.int .i64 len),(⟨w.heap.size,4,none⟩,.int .i64 at_),(⟨w.heap.size,3,none⟩,.slice ab bytes.length cb)]) (by kernel_rfl) (hC) (fun Y Q4 F4 hY hF=> ?_);simp only[zrC]
  repeat
   apply zF (by rw[hY];rfl)
   ·intro w2 hS2;(try simp only[Keeps,zbF,Cells]at hS2);go_simp;with_reducible rfl
   simp only[zrB]
  repeat
   first
    | (apply zR (by rw[hY];rfl);simp only[zrB])
    | (apply zF (by rw[hY];rfl)
       ·intro w2 hS2;(try simp only[Keeps,zbF,Cells]at hS2);go_simp;with_reducible rfl
       simp only[zrB])
  repeat
   first
    | (apply zR (by rw[hY];rfl);simp only[zrB])
    | (refine yM (by rw[hY];rfl) (hC) ?_;simp only[zrB])
  repeat
   first
    | (apply zR (by rw[hY];rfl);simp only[zrB])
    | (apply zF (by rw[hY];rfl)
       ·intro w2 hS2;(try simp only[Keeps,zbF,Cells]at hS2);go_simp;with_reducible rfl
       simp only[zrB])
  refine zZ (hF.out _ _ (fun K hK=> ?_));clear hF hY;go_wp2_with fail;refine OnlyK.mk (hK.out _ _ ?_);clear hK;go_wp2_with fail;go_returns;exact⟨rfl,hB0d⟩
 rw[zQ (show len≤at_∧at_≤(bytes.length:Int)-1 by omega),zbE]at hRd;have d1:decide (len<0)=false:=zL c1;have d2:decide (255<len)=false:=zL c2;have d3:decide (at_<len)=false:=zL c3;have d4:decide ((bytes.length:Int)≤at_)=false:=zL c4;obtain⟨q,rfl⟩:∃q:Nat,at_=q:=⟨at_.toNat,by omega⟩;have hqb:q<bytes.length:=by omega
 have d4n:¬bytes.length≤q:=by omega
 obtain⟨pt,rfl⟩:∃pt:Nat,part=pt:=⟨part.toNat,by omega⟩;rw[Int.toNat_natCast]at hRd;have hx0:=hbyt.get q;have hx1:=hbyt.at q;obtain⟨x,hx⟩:∃x:Nat,bytes.getD q 0=x:=⟨(bytes.getD q 0).toNat,(Int.toNat_of_nonneg hx0).symm⟩;rw[hx,Int.toNat_natCast]at hx1 hRd;obtain⟨g,o,rfl,hcs⟩:=Bts_at hrb (i:=q) hqb;have yq:=hcs q hqb;rw[hx]at yq;have HR:=zD fun W (hW:Below w.heap.size w W)=>zjP g o cb bytes q (by omega) (by omega) W (hrb.step hW);obtain⟨rp,hrp⟩:∃rp,S12.rep bytes q=rp:=⟨_,rfl⟩;rw[hrp]at HR hRd;have HE:=zD fun W=>zmW x pt hx1 (by omega) (by omega) W;obtain⟨E,hE⟩:∃E,S12.exp x (pt:Int)=E:=⟨_,rfl⟩;rw[hE]at HE hRd;have lq:=zJ yq;have Hpt:=zD hpt;clear hcs hx hrp hE hx0 hbyt c1 c2 c3 c4 hpt h0;by_cases c5:(rp:Int)<len
 ·have hf:R=false:=by rw[hRd,zL (show¬len≤(rp:Int) by omega)];rfl
  subst hf;have d5:decide ((rp:Int)<len)=true:=zQ c5;clear hRd;go_enter Tryz.func115,Tryz.ntmps115;go_wp2_with fail;refine zrE 33 0 [(U,[U,U,U,U,U,U,U,U,U,U,U,U,U,U,U,U,U,U,U,U,U,U,U,U,U,U,U,U,zrA,U,U]),(zrA,[zrA,zrA,zrA,zrA,zrA,zrA,zrA,zrA,zrA,zrA,zrA,zrA,zrA,zrA,zrA,zrA,zrA,zrA,zrA,zrA,zrA,zrA,zrA,zrA,zrA,zrA,zrA,zrA,U]),(U,[zrA,zrA,zrA,zrA,zrA,zrA,zrA,zrA,zrA,zrA,zrA,zrA,zrA,zrA,zrA,zrA,zrA,zrA,zrA,zrA,zrA,zrA,zrA,zrA,zrA,zrA,zrA,zrA,zrA,zrA,zrA,U,U])] (zbF [(⟨w.heap.size,5,none⟩,.int .i64 len),(⟨w.heap.size,4,none⟩,.int .i64 (q:Int)),(⟨w.heap.size,3,none⟩,.slice (some ⟨g,o,none⟩) bytes.length cb)]) (by kernel_rfl) (hC) (fun Y Q4 F4 hY hF=> ?_);simp only[zrC]
  repeat
   apply zF (by rw[hY];rfl)
   ·intro w2 hS2;(try simp only[Keeps,zbF,Cells]at hS2);go_simp;with_reducible rfl
   simp only[zrB]
  apply zS (by rw[hY];rfl)
  ·go_simp;with_reducible exact⟨rfl,rfl⟩
  refine(HR.out _ hB0d).mono ?_;rintro e w1 ⟨rfl,hb1⟩;refine⟨_,rfl,Cells.step (zA (zaW w0.heap.size w0) hb1) hC,?_⟩;simp only[zrB]
  repeat
   apply zF (by rw[hY];rfl)
   ·intro w2 hS2;(try simp only[Keeps,zbF,Cells]at hS2);go_simp;with_reducible rfl
   simp only[zrB]
  refine zZ (hF.out _ _ (fun K hK=> ?_));clear hF hY;go_wp2_with fail;refine OnlyK.mk (hK.out _ _ ?_);clear hK;have hB1:=zA hB0d hb1;go_wp2_with fail;go_returns;exact⟨rfl,hB1⟩
 rw[zQ (show len≤(rp:Int) by omega),zbE]at hRd;have d5:decide ((rp:Int)<len)=false:=zL c5;cases E with
 | none=>
   simp only at hRd;subst hRd;go_enter Tryz.func115,Tryz.ntmps115;go_wp2_with fail;refine zrE 33 0 [(U,[U,U,U,U,U,U,U,U,U,U,U,U,U,U,U,U,U,U,U,U,U,U,U,U,U,U,U,U,zrA,U,U]),(zrA,[zrA,zrA,zrA,zrA,zrA,zrA,zrA,zrA,zrA,zrA,zrA,zrA,zrA,zrA,zrA,zrA,zrA,zrA,zrA,zrA,zrA,zrA,zrA,zrA,zrA,zrA,zrA,zrA,U]),(U,[zrA,zrA,zrA,zrA,zrA,zrA,zrA,zrA,zrA,zrA,zrA,zrA,zrA,zrA,zrA,zrA,zrA,zrA,zrA,zrA,zrA,zrA,zrA,zrA,zrA,zrA,zrA,zrA,zrA,zrA,zrA,U,U])] (zbF [(⟨w.heap.size,5,none⟩,.int .i64 len),(⟨w.heap.size,4,none⟩,.int .i64 (q:Int)),(⟨w.heap.size,3,none⟩,.slice (some ⟨g,o,none⟩) bytes.length cb)]) (by kernel_rfl) (hC) (fun Y Q4 F4 hY hF=> ?_);simp only[zrC]
   repeat
    apply zF (by rw[hY];rfl)
    ·intro w2 hS2;(try simp only[Keeps,zbF,Cells]at hS2);go_simp;with_reducible rfl
    simp only[zrB]
   apply zS (by rw[hY];rfl)
   ·go_simp;with_reducible exact⟨rfl,rfl⟩
   refine(HR.out _ hB0d).mono ?_;rintro e w1 ⟨rfl,hb1⟩;refine⟨_,rfl,Cells.step (zA (zaW w0.heap.size w0) hb1) hC,?_⟩;simp only[zrB]
   repeat
    apply zF (by rw[hY];rfl)
    ·intro w2 hS2;(try simp only[Keeps,zbF,Cells]at hS2);go_simp;with_reducible rfl
    simp only[zrB]
   refine zZ (hF.out _ _ (fun K hK=> ?_));clear hF hY;go_wp2_with fail;refine OnlyK.mk (hK.out _ _ ?_);clear hK;have hB1:=zA hB0d hb1;have B2:=B1.step (zA (zaW w0.heap.size w0) hb1);have hC1:zbF [(⟨w.heap.size,3,none⟩,.slice (some ⟨g,o,none⟩) bytes.length cb),(⟨w.heap.size,4,none⟩,.int .i64 (q:Int)),(⟨w.heap.size,6,none⟩,.int .i64 (pt:Int)),(⟨g,o+q,none⟩,.int .u8 (x:Int))] w1:=⟨B2.cell 3,B2.cell 4,B2.cell 6,(hB1.cell (p:=⟨g,o+q,none⟩) lq).trans yq,yJ⟩;go_wp2_with fail;refine zrE 13 1 [(U,[U,U,U,U,U,U,U,U]),(zrA,[zrA,zrA,zrA,zrA,zrA,zrA,zrA,zrA,U]),(U,[zrA,zrA,zrA,zrA,zrA,zrA,zrA,zrA,zrA,U,U,U]),(zrA,[zrA,zrA,zrA,zrA,zrA,zrA,zrA,zrA,zrA,zrA,zrA,zrA,U])] (zbF [(⟨w.heap.size,3,none⟩,.slice (some ⟨g,o,none⟩) bytes.length cb),(⟨w.heap.size,4,none⟩,.int .i64 (q:Int)),(⟨w.heap.size,6,none⟩,.int .i64 (pt:Int)),(⟨g,o+q,none⟩,.int .u8 (x:Int))]) (by kernel_rfl) (hC1) (fun Y Q4 F4 hY hF=> ?_);simp only[zrC]
   repeat
    apply zF (by rw[hY];rfl)
    ·intro w2 hS2;(try simp only[Keeps,zbF,Cells]at hS2);go_simp;with_reducible rfl
    simp only[zrB]
   apply zS (by rw[hY];rfl)
   ·go_simp;with_reducible exact⟨rfl,rfl⟩
   refine(HE.out _).mono ?_;rintro e w2 ⟨rfl,hb2⟩;have hE2:=zA (zaW w1.heap.size w1) hb2;refine⟨_,rfl,Cells.step hE2 hC1,?_⟩;simp only[zrB]
   repeat
    apply zF (by rw[hY];rfl)
    ·intro w2 hS2;(try simp only[Keeps,zbF,Cells]at hS2);go_simp;with_reducible rfl
    simp only[zrB]
   refine zbN (by rw[hY];rfl) (by go_simp;first|with_reducible exact⟨rfl,rfl⟩|with_reducible rfl) (Cells.step hE2 hC1) ?_;simp only[zrB];refine zZ (hF.out _ _ (fun K hK=> ?_));clear hF hY;go_wp2_with fail;refine OnlyK.mk (hK.out _ _ ?_);clear hK;have hB2:=zA hB1 hE2;go_wp2_with fail;go_returns;exact⟨rfl,hB2⟩
 | some ev=>
   simp only at hRd;subst hRd;go_enter Tryz.func115,Tryz.ntmps115;go_wp2_with fail;refine zrE 33 0 [(U,[U,U,U,U,U,U,U,U,U,U,U,U,U,U,U,U,U,U,U,U,U,U,U,U,U,U,U,U,zrA,U,U]),(zrA,[zrA,zrA,zrA,zrA,zrA,zrA,zrA,zrA,zrA,zrA,zrA,zrA,zrA,zrA,zrA,zrA,zrA,zrA,zrA,zrA,zrA,zrA,zrA,zrA,zrA,zrA,zrA,zrA,U]),(U,[zrA,zrA,zrA,zrA,zrA,zrA,zrA,zrA,zrA,zrA,zrA,zrA,zrA,zrA,zrA,zrA,zrA,zrA,zrA,zrA,zrA,zrA,zrA,zrA,zrA,zrA,zrA,zrA,zrA,zrA,zrA,U,U])] (zbF [(⟨w.heap.size,5,none⟩,.int .i64 len),(⟨w.heap.size,4,none⟩,.int .i64 (q:Int)),(⟨w.heap.size,3,none⟩,.slice (some ⟨g,o,none⟩) bytes.length cb)]) (by kernel_rfl) (hC) (fun Y Q4 F4 hY hF=> ?_);simp only[zrC]
   repeat
    apply zF (by rw[hY];rfl)
    ·intro w2 hS2;(try simp only[Keeps,zbF,Cells]at hS2);go_simp;with_reducible rfl
    simp only[zrB]
   apply zS (by rw[hY];rfl)
   ·go_simp;with_reducible exact⟨rfl,rfl⟩
   refine(HR.out _ hB0d).mono ?_;rintro e w1 ⟨rfl,hb1⟩;refine⟨_,rfl,Cells.step (zA (zaW w0.heap.size w0) hb1) hC,?_⟩;simp only[zrB]
   repeat
    apply zF (by rw[hY];rfl)
    ·intro w2 hS2;(try simp only[Keeps,zbF,Cells]at hS2);go_simp;with_reducible rfl
    simp only[zrB]
   refine zZ (hF.out _ _ (fun K hK=> ?_));clear hF hY;go_wp2_with fail;refine OnlyK.mk (hK.out _ _ ?_);clear hK;have hB1:=zA hB0d hb1;have B2:=B1.step (zA (zaW w0.heap.size w0) hb1);have hC1:zbF [(⟨w.heap.size,3,none⟩,.slice (some ⟨g,o,none⟩) bytes.length cb),(⟨w.heap.size,4,none⟩,.int .i64 (q:Int)),(⟨w.heap.size,6,none⟩,.int .i64 (pt:Int)),(⟨g,o+q,none⟩,.int .u8 (x:Int))] w1:=⟨B2.cell 3,B2.cell 4,B2.cell 6,(hB1.cell (p:=⟨g,o+q,none⟩) lq).trans yq,yJ⟩;go_wp2_with fail;refine zrE 13 1 [(U,[U,U,U,U,U,U,U,U]),(zrA,[zrA,zrA,zrA,zrA,zrA,zrA,zrA,zrA,U]),(U,[zrA,zrA,zrA,zrA,zrA,zrA,zrA,zrA,zrA,U,U,U]),(zrA,[zrA,zrA,zrA,zrA,zrA,zrA,zrA,zrA,zrA,zrA,zrA,zrA,U])] (zbF [(⟨w.heap.size,3,none⟩,.slice (some ⟨g,o,none⟩) bytes.length cb),(⟨w.heap.size,4,none⟩,.int .i64 (q:Int)),(⟨w.heap.size,6,none⟩,.int .i64 (pt:Int)),(⟨g,o+q,none⟩,.int .u8 (x:Int))]) (by kernel_rfl) (hC1) (fun Y Q4 F4 hY hF=> ?_);simp only[zrC]
   repeat
    apply zF (by rw[hY];rfl)
    ·intro w2 hS2;(try simp only[Keeps,zbF,Cells]at hS2);go_simp;with_reducible rfl
    simp only[zrB]
   apply zS (by rw[hY];rfl)
   ·go_simp;with_reducible exact⟨rfl,rfl⟩
   refine(HE.out _).mono ?_;rintro e w2 ⟨rfl,hb2⟩;have hE2:=zA (zaW w1.heap.size w1) hb2;refine⟨_,rfl,Cells.step hE2 hC1,?_⟩;simp only[zrB]
   repeat
    apply zF (by rw[hY];rfl)
    ·intro w2 hS2;(try simp only[Keeps,zbF,Cells]at hS2);go_simp;with_reducible rfl
    simp only[zrB]
   refine zbN (by rw[hY];rfl) (by go_simp;first|with_reducible exact⟨rfl,rfl⟩|with_reducible rfl) (Cells.step hE2 hC1) ?_;simp only[zrB];refine zZ (hF.out _ _ (fun K hK=> ?_));clear hF hY;go_wp2_with fail;refine OnlyK.mk (hK.out _ _ ?_);clear hK;have hB2:=zA hB1 hE2;have y7:w2.cell? ⟨w.heap.size,7,none⟩=some (.int .i64 bit):=(B2.step hE2).cell 7;go_wp2_with fail;go_returns;exact⟨yZ (by first|(by_cases hev:(ev:Int)=bit<;>simp[S12.optN,hev];done)|simp[S12.optN]),hB2⟩
theorem rcheck12_any(m:S12.M)(p:Pl)(w:World)(hM:MIs m p w) :
 Calls Tryz.prog 82 #[MV m p] w fun e w'=>e = .returned (.int .i64 (S12.check m))∧Below w.heap.size w w':=by
 obtain⟨R,hR⟩:∃R,S12.check m=R:=⟨_,rfl⟩;rw[hR];unfold S12.check at hR;have HMt:=zD fun(hl:m.bytes.length≤65536) hpt W hW=>zoH m p W hl hpt hW;obtain⟨MT,hMT⟩:∃MT,S12.matched m=MT:=⟨_,rfl⟩;rw[hMT]at hR HMt;obtain⟨FA,hFA⟩:∃FA,S12.far m=FA:=⟨_,rfl⟩;obtain⟨BA,hBA⟩:∃BA,S12.bad m=BA:=⟨_,rfl⟩;rw[hFA,hBA]at hR;have hfo:S12.form m=(decide (m.heads.length=2^m.bits.toNat)&&decide (m.ctrs.length=16)&&decide (1≤m.part∧m.part≤255)):=rfl;rw[hfo]at hR;have HFA:=zD (show(m.heads.any fun h=> !decide (0≤h∧h≤(m.bytes.length:Int)))=FA from hFA);have HBA:=zD (show(m.ctrs.any fun c=>S08.check c.1 c.2 255 != 0)=BA from hBA);clear hFA hBA hMT hfo;have HM:=zD hM;have hlen:=hM.lb;have hlh:=hM.lh;have hlc:=hM.lc;clear hM;obtain⟨bits,least,heads,bytes,at_,len,part,bit,ctrs⟩:=m;obtain⟨ah,ch,ab,cb,ac,cc⟩:=p;simp only at hR hlen hlh hlc HFA HBA;unfold MV zbQ at *;simp only at *;have B0:=Blk.new w [.int .i64 bits,.int .i64 least,.slice ah heads.length ch,.slice ab bytes.length cb,.int .i64 at_,.int .i64 len,.int .i64 part,.int .i64 bit,.slice ac ctrs.length cc] 77;have hB0:Below w.heap.size w (w.alloc (.cells #[.int .i64 bits,.int .i64 least,.slice ah heads.length ch,.slice ab bytes.length cb,.int .i64 at_,.int .i64 len,.int .i64 part,.int .i64 bit,.slice ac ctrs.length cc] 77)):=(zG _ _).alloc (zE _) _;obtain⟨w0,hw0⟩:∃w0,(w.alloc (.cells #[.int .i64 bits,.int .i64 least,.slice ah heads.length ch,.slice ab bytes.length cb,.int .i64 at_,.int .i64 len,.int .i64 part,.int .i64 bit,.slice ac ctrs.length cc] 77))=w0:=⟨_,rfl⟩;rw[hw0]at hB0;have B1:Blk w0 w.heap.size [.int .i64 bits,.int .i64 least,.slice ah heads.length ch,.slice ab bytes.length cb,.int .i64 at_,.int .i64 len,.int .i64 part,.int .i64 bit,.slice ac ctrs.length cc] 77:=by rw[←hw0];exact B0
 clear B0;have p0:w0.cell? ⟨w.heap.size,0,none⟩=some (.int .i64 bits):=B1.cell 0;have p1:w0.cell? ⟨w.heap.size,1,none⟩=some (.int .i64 least):=B1.cell 1;have p3:w0.cell? ⟨w.heap.size,3,none⟩=some (.slice ab bytes.length cb):=B1.cell 3;by_cases b1:bits<1
 ·rw[zU (by omega)]at hR;subst hR;go_enter Tryz.func82,Tryz.ntmps82;go_wp2_with fail;go_returns;exact⟨rfl,hB0⟩
 by_cases b2:16<bits
 ·rw[zU (by omega)]at hR;subst hR;go_enter Tryz.func82,Tryz.ntmps82;go_wp2_with fail;go_returns;exact⟨rfl,hB0⟩
 by_cases b3:least<1
 ·rw[zU (by omega)]at hR;subst hR;go_enter Tryz.func82,Tryz.ntmps82;go_wp2_with fail;go_returns;exact⟨rfl,hB0⟩
 by_cases b4:32<least
 ·rw[zU (by omega)]at hR;subst hR;go_enter Tryz.func82,Tryz.ntmps82;go_wp2_with fail;go_returns;exact⟨rfl,hB0⟩
 rw[zK (by omega)]at hR;have lpre:(bytes.length:Int)=bytes.length:=rfl;by_cases h3:65536<bytes.length
 ·rw[zU h3]at hR;subst hR;have e3:decide ((65536:Int)<(bytes.length:Int))=true:=zQ (by omega);go_enter Tryz.func82,Tryz.ntmps82;go_wp2_with fail;go_returns;exact⟨rfl,hB0⟩
 rw[zK h3]at hR;have e3:decide ((65536:Int)<(bytes.length:Int))=false:=zL (by omega);obtain⟨bn,rfl⟩:∃bn:Nat,bits=bn:=⟨bits.toNat,by omega⟩;have b1n:¬bn<1:=by omega
 have b1z:¬bn=0:=by omega
 have b2n:¬16<bn:=by omega
 have e1d:decide ((bn:Int)<1)=false:=zL (by omega);have e2d:decide (16<(bn:Int))=false:=zL (by omega);have e3n:¬65536<bytes.length:=by omega
 have q2:w0.cell? ⟨w.heap.size,2,none⟩=some (.slice ah heads.length ch):=B1.cell 2;have q6:w0.cell? ⟨w.heap.size,6,none⟩=some (.int .i64 part):=B1.cell 6;have q8:w0.cell? ⟨w.heap.size,8,none⟩=some (.slice ac ctrs.length cc):=B1.cell 8;have hC:zbF [(⟨w.heap.size,2,none⟩,.slice ah heads.length ch),(⟨w.heap.size,0,none⟩,.int .i64 (bn:Int)),(⟨w.heap.size,8,none⟩,.slice ac ctrs.length cc),(⟨w.heap.size,6,none⟩,.int .i64 part)] w0:=⟨q2,p0,q8,q6,yJ⟩;rw[Int.toNat_natCast]at hR;have hps:2^bn≤65536:=zfQ (n:=2) (by omega) (show bn≤16 by omega);have hsh:IntKind.i64.wrap ((2:Int)^bn)=((2^bn:Nat):Int):=by
  have e:(2:Int)^bn=((2^bn:Nat):Int):=by simp
  rw[e];exact zbT (by omega)
 obtain⟨N,hN⟩:∃N,2^bn=N:=⟨_,rfl⟩;rw[hN]at hsh hps hR;clear hN;have hB0d:=hB0.drew;have hlbn:bn<64:=by omega
 by_cases h4:¬heads.length=N
 ·have e4:((heads.length:Int) != (N:Int))=true:=by simp;omega
  rw[zL h4,Bool.false_and,Bool.false_and,zU rfl]at hR;subst hR;go_enter Tryz.func82,Tryz.ntmps82;go_wp2_with fail;refine zrE 23 0 [(U,[U,U,U,U,U,U,U,U,U,U,U,U,U,U,U,U,U,U,U,U,U,U,U])] (zbF [(⟨w.heap.size,2,none⟩,.slice ah heads.length ch),(⟨w.heap.size,0,none⟩,.int .i64 (bn:Int)),(⟨w.heap.size,8,none⟩,.slice ac ctrs.length cc),(⟨w.heap.size,6,none⟩,.int .i64 part)]) (by kernel_rfl) (hC) (fun Y Q4 F4 hY hF=> ?_);simp only[zrC]
  repeat
   apply zF (by rw[hY];rfl)
   ·intro w2 hS2;(try simp only[Keeps,zbF,Cells]at hS2);go_simp;with_reducible rfl
   simp only[zrB]
  repeat
   first
    | (apply zR (by rw[hY];rfl);simp only[zrB])
    | (apply zF (by rw[hY];rfl)
       ·intro w2 hS2;(try simp only[Keeps,zbF,Cells]at hS2);go_simp;with_reducible rfl
       simp only[zrB])
  repeat
   first
    | (apply zR (by rw[hY];rfl);simp only[zrB])
    | (refine yM (by rw[hY];rfl) (hC) ?_;simp only[zrB])
  repeat
   first
    | (apply zR (by rw[hY];rfl);simp only[zrB])
    | (apply zF (by rw[hY];rfl)
       ·intro w2 hS2;(try simp only[Keeps,zbF,Cells]at hS2);go_simp;with_reducible rfl
       simp only[zrB])
  refine zZ (hF.out _ _ (fun K hK=> ?_));clear hF hY;go_wp2_with fail;refine OnlyK.mk (hK.out _ _ ?_);clear hK;go_wp2_with fail;go_returns;exact⟨rfl,hB0d⟩
 replace h4:=Classical.not_not.1 h4;have e4:((heads.length:Int) != (N:Int))=false:=by simp;omega
 rw[zQ h4,zbE]at hR;have H4:=zD h4;clear h4;by_cases h5:¬ctrs.length=16
 ·have e5:((ctrs.length:Int) != 16)=true:=by simp;omega
  rw[zL h5,Bool.false_and,zU rfl]at hR;subst hR;go_enter Tryz.func82,Tryz.ntmps82;go_wp2_with fail;refine zrE 23 0 [(U,[U,U,U,U,U,U,U,U,U,U,U,U,U,U,U,U,U,U,U,U,U,U,U])] (zbF [(⟨w.heap.size,2,none⟩,.slice ah heads.length ch),(⟨w.heap.size,0,none⟩,.int .i64 (bn:Int)),(⟨w.heap.size,8,none⟩,.slice ac ctrs.length cc),(⟨w.heap.size,6,none⟩,.int .i64 part)]) (by kernel_rfl) (hC) (fun Y Q4 F4 hY hF=> ?_);simp only[zrC]
  repeat
   apply zF (by rw[hY];rfl)
   ·intro w2 hS2;(try simp only[Keeps,zbF,Cells]at hS2);go_simp;with_reducible rfl
   simp only[zrB]
  repeat
   first
    | (apply zR (by rw[hY];rfl);simp only[zrB])
    | (apply zF (by rw[hY];rfl)
       ·intro w2 hS2;(try simp only[Keeps,zbF,Cells]at hS2);go_simp;with_reducible rfl
       simp only[zrB])
  repeat
   first
    | (apply zR (by rw[hY];rfl);simp only[zrB])
    | (refine yM (by rw[hY];rfl) (hC) ?_;simp only[zrB])
  repeat
   first
    | (apply zR (by rw[hY];rfl);simp only[zrB])
    | (apply zF (by rw[hY];rfl)
       ·intro w2 hS2;(try simp only[Keeps,zbF,Cells]at hS2);go_simp;with_reducible rfl
       simp only[zrB])
  refine zZ (hF.out _ _ (fun K hK=> ?_));clear hF hY;go_wp2_with fail;refine OnlyK.mk (hK.out _ _ ?_);clear hK;go_wp2_with fail;go_returns;exact⟨rfl,hB0d⟩
 replace h5:=Classical.not_not.1 h5;have e5:((ctrs.length:Int) != 16)=false:=by simp;omega
 rw[zQ h5,zbE]at hR;have H5:=zD h5;clear h5;by_cases h6:part<1
 ·have d6:decide (part<1)=true:=zQ h6;rw[zL (show¬(1≤part∧part≤255) by omega),zU rfl]at hR;subst hR;go_enter Tryz.func82,Tryz.ntmps82;go_wp2_with fail;refine zrE 23 0 [(U,[U,U,U,U,U,U,U,U,U,U,U,U,U,U,U,U,U,U,U,U,U,U,U])] (zbF [(⟨w.heap.size,2,none⟩,.slice ah heads.length ch),(⟨w.heap.size,0,none⟩,.int .i64 (bn:Int)),(⟨w.heap.size,8,none⟩,.slice ac ctrs.length cc),(⟨w.heap.size,6,none⟩,.int .i64 part)]) (by kernel_rfl) (hC) (fun Y Q4 F4 hY hF=> ?_);simp only[zrC]
  repeat
   apply zF (by rw[hY];rfl)
   ·intro w2 hS2;(try simp only[Keeps,zbF,Cells]at hS2);go_simp;with_reducible rfl
   simp only[zrB]
  repeat
   first
    | (apply zR (by rw[hY];rfl);simp only[zrB])
    | (apply zF (by rw[hY];rfl)
       ·intro w2 hS2;(try simp only[Keeps,zbF,Cells]at hS2);go_simp;with_reducible rfl
       simp only[zrB])
  repeat
   first
    | (apply zR (by rw[hY];rfl);simp only[zrB])
    | (refine yM (by rw[hY];rfl) (hC) ?_;simp only[zrB])
  repeat
   first
    | (apply zR (by rw[hY];rfl);simp only[zrB])
    | (apply zF (by rw[hY];rfl)
       ·intro w2 hS2;(try simp only[Keeps,zbF,Cells]at hS2);go_simp;with_reducible rfl
       simp only[zrB])
  refine zZ (hF.out _ _ (fun K hK=> ?_));clear hF hY;go_wp2_with fail;refine OnlyK.mk (hK.out _ _ ?_);clear hK;go_wp2_with fail;go_returns;exact⟨rfl,hB0d⟩
 have d6:decide (part<1)=false:=zL h6;by_cases h7:255<part
 ·have d7:decide (255<part)=true:=zQ h7;rw[zL (show¬(1≤part∧part≤255) by omega),zU rfl]at hR;subst hR;go_enter Tryz.func82,Tryz.ntmps82;go_wp2_with fail;refine zrE 23 0 [(U,[U,U,U,U,U,U,U,U,U,U,U,U,U,U,U,U,U,U,U,U,U,U,U])] (zbF [(⟨w.heap.size,2,none⟩,.slice ah heads.length ch),(⟨w.heap.size,0,none⟩,.int .i64 (bn:Int)),(⟨w.heap.size,8,none⟩,.slice ac ctrs.length cc),(⟨w.heap.size,6,none⟩,.int .i64 part)]) (by kernel_rfl) (hC) (fun Y Q4 F4 hY hF=> ?_);simp only[zrC]
  repeat
   apply zF (by rw[hY];rfl)
   ·intro w2 hS2;(try simp only[Keeps,zbF,Cells]at hS2);go_simp;with_reducible rfl
   simp only[zrB]
  repeat
   first
    | (apply zR (by rw[hY];rfl);simp only[zrB])
    | (apply zF (by rw[hY];rfl)
       ·intro w2 hS2;(try simp only[Keeps,zbF,Cells]at hS2);go_simp;with_reducible rfl
       simp only[zrB])
  repeat
   first
    | (apply zR (by rw[hY];rfl);simp only[zrB])
    | (refine yM (by rw[hY];rfl) (hC) ?_;simp only[zrB])
  repeat
   first
    | (apply zR (by rw[hY];rfl);simp only[zrB])
    | (apply zF (by rw[hY];rfl)
       ·intro w2 hS2;(try simp only[Keeps,zbF,Cells]at hS2);go_simp;with_reducible rfl
       simp only[zrB])
  refine zZ (hF.out _ _ (fun K hK=> ?_));clear hF hY;go_wp2_with fail;refine OnlyK.mk (hK.out _ _ ?_);clear hK;go_wp2_with fail;go_returns;exact⟨rfl,hB0d⟩
 have d7:decide (255<part)=false:=zL h7;rw[zQ (show 1≤part∧part≤255 by omega),zK (by simp)]at hR;have hlb:bytes.length≤65536:=by omega
 have hpt:1≤part∧part≤255:=by omega
 have HMt2:=zD fun W hW=>HMt.out hlb hpt W hW;have HR:=zD hR;clear HMt hR h3 h6 h7 b1 b2 lpre;go_enter Tryz.func82,Tryz.ntmps82;go_wp2_with fail;refine zrE 23 0 [(U,[U,U,U,U,U,U,U,U,U,U,U,U,U,U,U,U,U,U,U,U,U,U,U])] (zbF [(⟨w.heap.size,2,none⟩,.slice ah heads.length ch),(⟨w.heap.size,0,none⟩,.int .i64 (bn:Int)),(⟨w.heap.size,8,none⟩,.slice ac ctrs.length cc),(⟨w.heap.size,6,none⟩,.int .i64 part)]) (by kernel_rfl) (hC) (fun Y Q4 F4 hY hF=> ?_);simp only[zrC]
 repeat
  apply zF (by rw[hY];rfl)
  ·intro w2 hS2;(try simp only[Keeps,zbF,Cells]at hS2);go_simp;with_reducible rfl
  simp only[zrB]
 repeat
  first
   | (apply zR (by rw[hY];rfl);simp only[zrB])
   | (apply zF (by rw[hY];rfl)
      ·intro w2 hS2;(try simp only[Keeps,zbF,Cells]at hS2);go_simp;with_reducible rfl
      simp only[zrB])
 refine zZ (hF.out _ _ (fun K hK=> ?_));clear hF hY;go_wp2_with fail;refine OnlyK.mk (hK.out _ _ ?_);clear hK;clear b1n b1z b2n e1d e2d b3 b4 e3n hC q2 q6 q8 p0 p1 p3 e3 e4 d6 d7 hsh hps hw0;have B2:=B1.step (zaW w0.heap.size w0);clear B1;go_wp2_with fail;go_loopw [3] (fun i wr=>∃k:Nat,k≤heads.length∧i = .int .i64 (k:Int)∧((heads.take k).any fun h=> !decide (0≤h∧h≤(bytes.length:Int)))=false∧Blk wr w.heap.size [.int .i64 (bn:Int),.int .i64 least,.slice ah heads.length ch,.slice ab bytes.length cb,.int .i64 at_,.int .i64 len,.int .i64 part,.int .i64 bit,.slice ac ctrs.length cc] 77∧Below w.heap.size w wr) (fun i _=>heads.length-(intOf i).toNat)
 case atStart=>exact⟨0,by omega,rfl,rfl,B2,hB0d⟩
 case round=>
  obtain⟨k,hk,rfl,hno,BR,hB⟩:=hrel;have r2:wr.cell? ⟨w.heap.size,2,none⟩=some (.slice ah heads.length ch):=BR.cell 2;have r3:wr.cell? ⟨w.heap.size,3,none⟩=some (.slice ab bytes.length cb):=BR.cell 3;have Hno:=zD hno;clear hno B2 hB0 hB0d;by_cases hlt:k<heads.length
  ·have hdk:decide ((k:Int)<(heads.length:Int))=true:=zQ (by omega);obtain⟨g,o,rfl,hcs⟩:=(HM.out.rdh.step hB).at (i:=k) (by rw[yL];exact hlt);have hc:wr.cell? ⟨g,o+k,none⟩=some (.int .i64 heads[k]):=by rw[hcs k (by rw[yL];exact hlt)];simp[zaO]
   have Hs:=zD (zbL (fun h=> !decide (0≤h∧h≤(bytes.length:Int))) heads k hlt);have Ha:=zD (zdR (fun h=> !decide (0≤h∧h≤(bytes.length:Int))) heads k hlt);obtain⟨x,hx⟩:∃x,heads[k]=x:=⟨_,rfl⟩;rw[hx]at hc Hs Ha;have hC:zbF [(⟨w.heap.size,2,none⟩,.slice (some ⟨g,o,none⟩) heads.length ch),(⟨w.heap.size,3,none⟩,.slice ab bytes.length cb),(⟨g,o+k,none⟩,.int .i64 x)] wr:=⟨r2,r3,hc,yJ⟩;have hBd:=hB.drew;clear hcs hx;by_cases x1:x<0
   ·have dx:decide (x<0)=true:=zQ x1;have ht:(!decide (0≤x∧x≤(bytes.length:Int)))=true:=by simp;omega
    have hfa:=Ha.out ht;rw[HFA.out]at hfa;have hR:=HR.out;rw[zU (.inl hfa)]at hR;clear ht hfa;subst hR;go_wp2_with fail;refine zrE 17 0 [(U,[U,U,U,U,U,U,U,U,U,U,U,U,U,U,U,U,U])] (zbF [(⟨w.heap.size,2,none⟩,.slice (some ⟨g,o,none⟩) heads.length ch),(⟨w.heap.size,3,none⟩,.slice ab bytes.length cb),(⟨g,o+k,none⟩,.int .i64 x)]) (by kernel_rfl) (hC) (fun Y Q4 F4 hY hF=> ?_);simp only[zrC]
    repeat
     apply zF (by rw[hY];rfl)
     ·intro w2 hS2;(try simp only[Keeps,zbF,Cells]at hS2);go_simp;with_reducible rfl
     simp only[zrB]
    repeat
     first
      | (apply zR (by rw[hY];rfl);simp only[zrB])
      | (apply zF (by rw[hY];rfl)
         ·intro w2 hS2;(try simp only[Keeps,zbF,Cells]at hS2);go_simp;with_reducible rfl
         simp only[zrB])
    repeat
     first
      | (apply zR (by rw[hY];rfl);simp only[zrB])
      | (refine yM (by rw[hY];rfl) (hC) ?_;simp only[zrB])
    repeat
     first
      | (apply zR (by rw[hY];rfl);simp only[zrB])
      | (apply zF (by rw[hY];rfl)
         ·intro w2 hS2;(try simp only[Keeps,zbF,Cells]at hS2);go_simp;with_reducible rfl
         simp only[zrB])
    refine zZ (hF.out _ _ (fun K hK=> ?_));clear hF hY;go_wp2_with fail;refine OnlyK.mk (hK.out _ _ ?_);clear hK;go_wp2_with fail;go_returns;exact⟨rfl,hBd⟩
   have dx1:decide (x<0)=false:=zL x1;by_cases x2:(bytes.length:Int)<x
   ·have dx:decide ((bytes.length:Int)<x)=true:=zQ x2;have ht:(!decide (0≤x∧x≤(bytes.length:Int)))=true:=by simp;omega
    have hfa:=Ha.out ht;rw[HFA.out]at hfa;have hR:=HR.out;rw[zU (.inl hfa)]at hR;clear ht hfa;subst hR;go_wp2_with fail;refine zrE 17 0 [(U,[U,U,U,U,U,U,U,U,U,U,U,U,U,U,U,U,U])] (zbF [(⟨w.heap.size,2,none⟩,.slice (some ⟨g,o,none⟩) heads.length ch),(⟨w.heap.size,3,none⟩,.slice ab bytes.length cb),(⟨g,o+k,none⟩,.int .i64 x)]) (by kernel_rfl) (hC) (fun Y Q4 F4 hY hF=> ?_);simp only[zrC]
    repeat
     apply zF (by rw[hY];rfl)
     ·intro w2 hS2;(try simp only[Keeps,zbF,Cells]at hS2);go_simp;with_reducible rfl
     simp only[zrB]
    repeat
     first
      | (apply zR (by rw[hY];rfl);simp only[zrB])
      | (apply zF (by rw[hY];rfl)
         ·intro w2 hS2;(try simp only[Keeps,zbF,Cells]at hS2);go_simp;with_reducible rfl
         simp only[zrB])
    repeat
     first
      | (apply zR (by rw[hY];rfl);simp only[zrB])
      | (refine yM (by rw[hY];rfl) (hC) ?_;simp only[zrB])
    repeat
     first
      | (apply zR (by rw[hY];rfl);simp only[zrB])
      | (apply zF (by rw[hY];rfl)
         ·intro w2 hS2;(try simp only[Keeps,zbF,Cells]at hS2);go_simp;with_reducible rfl
         simp only[zrB])
    refine zZ (hF.out _ _ (fun K hK=> ?_));clear hF hY;go_wp2_with fail;refine OnlyK.mk (hK.out _ _ ?_);clear hK;go_wp2_with fail;go_returns;exact⟨rfl,hBd⟩
   have dx2:decide ((bytes.length:Int)<x)=false:=zL x2
   have Hn:=zD (show((heads.take (k+1)).any fun h=> !decide (0≤h∧h≤(bytes.length:Int)))=false by
    have h0:(!decide (0≤x∧x≤(bytes.length:Int)))=false:=by simp;omega
    rw[Hs.out,Hno.out,h0];rfl)
   have BR2:=BR.step (zaW wr.heap.size wr);go_wp2_with fail;refine zrE 17 0 [(U,[U,U,U,U,U,U,U,U,U,U,U,U,U,U,U,U,U])] (zbF [(⟨w.heap.size,2,none⟩,.slice (some ⟨g,o,none⟩) heads.length ch),(⟨w.heap.size,3,none⟩,.slice ab bytes.length cb),(⟨g,o+k,none⟩,.int .i64 x)]) (by kernel_rfl) (hC) (fun Y Q4 F4 hY hF=> ?_);simp only[zrC]
   repeat
    apply zF (by rw[hY];rfl)
    ·intro w2 hS2;(try simp only[Keeps,zbF,Cells]at hS2);go_simp;with_reducible rfl
    simp only[zrB]
   repeat
    first
     | (apply zR (by rw[hY];rfl);simp only[zrB])
     | (apply zF (by rw[hY];rfl)
        ·intro w2 hS2;(try simp only[Keeps,zbF,Cells]at hS2);go_simp;with_reducible rfl
        simp only[zrB])
   refine zZ (hF.out _ _ (fun K hK=> ?_));clear hF hY;go_wp2_with fail;refine OnlyK.mk (hK.out _ _ ?_);clear hK;go_wp2_with fail;go_roundw
   case rel=>exact⟨k+1,by omega,by go_num,Hn.out,BR2,hBd⟩
   case measure=>simp[intOf];omega
  ·obtain rfl:k=heads.length:=by omega
   have hdk:decide ((heads.length:Int)<(heads.length:Int))=false:=zL (by omega);have hFA0:FA=false:=by have:=Hno.out;rw[zcP,HFA.out]at this;exact this
   clear HFA Hno;subst hFA0;go_wp2_with fail;clear hdk r2 r3;go_loopw [4] (fun i ws=>∃k:Nat,k≤16∧i = .int .i64 (k:Int)∧((ctrs.take k).any fun c=>S08.check c.1 c.2 255 != 0)=false∧Blk ws w.heap.size [.int .i64 (bn:Int),.int .i64 least,.slice ah heads.length ch,.slice ab bytes.length cb,.int .i64 at_,.int .i64 len,.int .i64 part,.int .i64 bit,.slice ac ctrs.length cc] 77∧Below w.heap.size w ws) (fun i _=>16-(intOf i).toNat)
   case atStart=>exact⟨0,by omega,rfl,rfl,BR,hB⟩
   case round=>
    obtain⟨k,hk,rfl,hno,BS,hB2⟩:=hrel;have Hno:=zD hno;clear hno BR hB;have s0:=BS.cell 0;have s1:=BS.cell 1;have s2:=BS.cell 2;have s3:=BS.cell 3;have s4:=BS.cell 4;have s5:=BS.cell 5;have s6:=BS.cell 6;have s7:=BS.cell 7;have s8:=BS.cell 8;simp only[zrD]at s0 s1 s2 s3 s4 s5 s6 s7 s8;by_cases hlt:k<16
    ·have hlc2:k<ctrs.length:=by rw[H5.out];exact hlt
     have hdk:decide ((k:Int)<16)=true:=zQ (by omega);obtain⟨g,o,rfl,hcs⟩:=(HM.out.rdc.step hB2) (fun e=>by have:=yQ List.length e;rw[zcB]at this;simp at this;omega);have hc0:=hcs (k*2) _ (zgR hlc2).1;have hc1:=hcs (k*2+1) _ (zgR hlc2).2;have Hs:=zD (zbL (fun c=>S08.check c.1 c.2 255 != 0) ctrs k hlc2);have Ha:=zD (zdR (fun c=>S08.check c.1 c.2 255 != 0) ctrs k hlc2);obtain⟨x,hx⟩:∃x,ctrs[k]=x:=⟨_,rfl⟩;rw[hx]at hc0 hc1 Hs Ha;clear hcs hx;obtain⟨x0,x1⟩:=x;simp only at hc0 hc1;rw[←Nat.add_assoc]at hc1;have HT:=zD fun W=>zhG x0 x1 255 W;obtain⟨ck,hck⟩:∃ck,S08.check x0 x1 255=ck:=⟨_,rfl⟩;have Hck:=zD hck;rw[hck]at HT;clear hck;by_cases hz:ck=0
     ·subst hz;have Hn:=zD (show((ctrs.take (k+1)).any fun c=>S08.check c.1 c.2 255 != 0)=false by rw[Hs.out,Hno.out];simp only;rw[Hck.out];rfl);go_wp2_with fail;refine(HT.out _).mono ?_;rintro e w5 ⟨rfl,hb5⟩;have hB5:=zA hB2 hb5;have BS5:=BS.step hb5;go_wp2_with fail;go_roundw
      case rel=>exact⟨k+1,by omega,by go_num,Hn.out,BS5,hB5⟩
      case measure=>simp[intOf];omega
     ·have hne:(ck != 0)=true:=by simp[hz]
      have hba:=Ha.out (by simp only;rw[Hck.out];exact hne);rw[HBA.out]at hba;have hR:=HR.out;rw[zU (.inr (.inl hba))]at hR;clear hba;subst hR;go_wp2_with fail;refine(HT.out _).mono ?_;rintro e w5 ⟨rfl,hb5⟩;have hB5:=zA hB2 hb5;go_wp2_with fail;go_returns;exact⟨rfl,hB5⟩
    ·obtain rfl:k=16:=by omega
     have hBA0:BA=false:=by have:=Hno.out;rw[zdB (Nat.le_of_eq H5.out),HBA.out]at this;exact this
     have hR:=HR.out;clear HBA Hno;subst hBA0;go_wp2_with fail;refine(HMt2.out _ (HM.out.step hB2)).mono ?_;rintro e w7 ⟨rfl,hb7⟩;have hB7:=zA hB2 hb7;cases MT with
     | true=>
       rw[zK (by simp)]at hR;subst hR;go_wp2;go_returns;exact⟨rfl,hB7⟩
     | false=>
       rw[zU (by simp)]at hR;subst hR;go_wp2;go_returns;exact⟨rfl,hB7⟩
theorem zgC(xs:List (Int×Int))(a b:Option Addr)(ca cb:Nat)(w:World)(hn:xs.length≤100000)(ha:Rd w a (Cts xs))(hb:Rd w b (Cts xs)) :
 Calls Tryz.prog 75 #[.slice a xs.length ca,.slice b xs.length cb] w fun e w'=>e = .returned (.bool true)∧Below w.heap.size w w':=by
 obtain⟨n,hnn⟩:∃n,xs.length=n:=⟨_,rfl⟩;have hat:∀k,k<n→∃x:Int×Int,(Cts xs)[k*2]? = some (.int .i64 x.1)∧(Cts xs)[k*2+1]? = some (.int .i64 x.2):=fun k hk=>⟨xs[k]'(by omega),zgR (by omega)⟩;have Hat:=zD hat;have Hne:=zD (fun(e:Cts xs = [])=>show n=0 by have:=yQ List.length e;rw[zcB]at this;simp at this;omega);rw[hnn]at hn⊢;clear hat hnn;go_enter Tryz.func75,Tryz.ntmps75;go_wp2_with fail
 go_loopw [5] (fun i wr=>∃k:Nat,k≤n∧i = .int .i64 k∧Below w.heap.size w wr)
  (fun i _=>n-(intOf i).toNat)
 case atStart=>exact⟨0,by omega,rfl,by go_grown⟩
 case round=>
  obtain⟨k,hk,rfl,hB⟩:=hrel;by_cases hlt:k<n
  ·have hl4:(k:Int)<(n:Int):=by omega
   have hne:Cts xs≠ []:=fun e=>by have:=Hne.out e;omega
   obtain⟨⟨x0,x1⟩,hx0,hx1⟩:=Hat.out k hlt;obtain⟨ba,oa,rfl,hra⟩:=(ha.step hB) hne;obtain⟨bb,ob,rfl,hrb⟩:=(hb.step hB) hne;have c1:=hra (k*2) _ hx0;have c2:=hra (k*2+1) _ hx1;have c3:=hrb (k*2) _ hx0;have c4:=hrb (k*2+1) _ hx1;rw[←Nat.add_assoc]at c2 c4;simp only at c1 c2 c3 c4;clear hra hrb hx0 hx1 hne;have hC:zbF [(⟨ba,oa+k*2,none⟩,.int .i64 x0),(⟨ba,oa+k*2+1,none⟩,.int .i64 x1),(⟨bb,ob+k*2,none⟩,.int .i64 x0),(⟨bb,ob+k*2+1,none⟩,.int .i64 x1)] wr:=⟨c1,c2,c3,c4,yJ⟩;have hk0:0≤(k:Int):=by omega
   have hB4:=hB.drew;go_wp2_with fail;refine zrE 9 0 [(U,[U,U,U,U,U,U,U,U,U])] (zbF [(⟨ba,oa+k*2,none⟩,.int .i64 x0),(⟨ba,oa+k*2+1,none⟩,.int .i64 x1),(⟨bb,ob+k*2,none⟩,.int .i64 x0),(⟨bb,ob+k*2+1,none⟩,.int .i64 x1)]) (by kernel_rfl) (hC) (fun Y Q4 F4 hY hF=> ?_);simp only[zrC]
   repeat
    apply zF (by rw[hY];rfl)
    ·intro w2 hS2;(try simp only[Keeps,zbF,Cells]at hS2);go_simp;with_reducible rfl
    simp only[zrB]
   repeat
    first
     | (apply zR (by rw[hY];rfl);simp only[zrB])
     | (apply zF (by rw[hY];rfl)
        ·intro w2 hS2;(try simp only[Keeps,zbF,Cells]at hS2);go_simp;with_reducible rfl
        simp only[zrB])
   refine zZ (hF.out _ _ (fun K hK=> ?_));clear hF hY;go_wp2_with fail;refine OnlyK.mk (hK.out _ _ ?_);clear hK;go_wp2;go_roundw
   case rel=>exact⟨k+1,by omega,by go_num,hB4⟩
   case measure=>simp[intOf];omega
  ·obtain rfl:k=n:=by omega
   go_wp2;go_returns;exact⟨rfl,hB⟩
theorem rsame12_eq(m:S12.M)(p q:Pl)(w:World)(hp:MIs m p w)(hq:MIs m q w)(hc:m.ctrs.length≤100000) :
 Calls Tryz.prog 77 #[MV m p,MV m q] w fun e w'=>e = .returned (.bool true)∧Below w.heap.size w w':=by
 have HP:=zD hp;have HQ:=zD hq;have lh:=hp.lh;have lb:=hp.lb;clear hp hq;obtain⟨bits,least,heads,bytes,at_,len,part,bit,ctrs⟩:=m;obtain⟨a1h,c1h,a1b,c1b,a1c,c1c⟩:=p;obtain⟨a2h,c2h,a2b,c2b,a2c,c2c⟩:=q;simp only at lh lb hc;have HA:=zD fun W h1 h2=>zgC ctrs a1c a2c c1c c2c W hc h1 h2;unfold MV zbQ;simp only;have B0:=Blk.new w [.int .i64 bits,.int .i64 least,.slice a1h heads.length c1h,.slice a1b bytes.length c1b,.int .i64 at_,.int .i64 len,.int .i64 part,.int .i64 bit,.slice a1c ctrs.length c1c] 77;have hB0:Below w.heap.size w (w.alloc (.cells #[.int .i64 bits,.int .i64 least,.slice a1h heads.length c1h,.slice a1b bytes.length c1b,.int .i64 at_,.int .i64 len,.int .i64 part,.int .i64 bit,.slice a1c ctrs.length c1c] 77)):=(zG _ _).alloc (zE _) _;obtain⟨w0,hw0⟩:∃w0,(w.alloc (.cells #[.int .i64 bits,.int .i64 least,.slice a1h heads.length c1h,.slice a1b bytes.length c1b,.int .i64 at_,.int .i64 len,.int .i64 part,.int .i64 bit,.slice a1c ctrs.length c1c] 77))=w0:=⟨_,rfl⟩;rw[hw0]at hB0;have A0:Blk w0 w.heap.size [.int .i64 bits,.int .i64 least,.slice a1h heads.length c1h,.slice a1b bytes.length c1b,.int .i64 at_,.int .i64 len,.int .i64 part,.int .i64 bit,.slice a1c ctrs.length c1c] 77:=by rw[←hw0];exact B0
 clear B0;have B1:=Blk.new w0 [.int .i64 bits,.int .i64 least,.slice a2h heads.length c2h,.slice a2b bytes.length c2b,.int .i64 at_,.int .i64 len,.int .i64 part,.int .i64 bit,.slice a2c ctrs.length c2c] 77;have hb1:Below w0.heap.size w0 (w0.alloc (.cells #[.int .i64 bits,.int .i64 least,.slice a2h heads.length c2h,.slice a2b bytes.length c2b,.int .i64 at_,.int .i64 len,.int .i64 part,.int .i64 bit,.slice a2c ctrs.length c2c] 77)):=(zG _ _).alloc (zE _) _;obtain⟨w1,hw1⟩:∃w1,(w0.alloc (.cells #[.int .i64 bits,.int .i64 least,.slice a2h heads.length c2h,.slice a2b bytes.length c2b,.int .i64 at_,.int .i64 len,.int .i64 part,.int .i64 bit,.slice a2c ctrs.length c2c] 77))=w1:=⟨_,rfl⟩;rw[hw1]at hb1;have C1:Blk w1 w0.heap.size [.int .i64 bits,.int .i64 least,.slice a2h heads.length c2h,.slice a2b bytes.length c2b,.int .i64 at_,.int .i64 len,.int .i64 part,.int .i64 bit,.slice a2c ctrs.length c2c] 77:=by rw[←hw1];exact B1
 have A1:=A0.step hb1;have hB1:=zA hB0 hb1;have hz:w0.heap.size=w.heap.size+1:=by rw[←hw0];simp
 clear B1 A0;rw[hz]at C1;obtain⟨x0,x1,x2,x3,x4,x5,x6,x7,x8⟩:=A1.nine;obtain⟨y0,y1,y2,y3,y4,y5,y6,y7,y8⟩:=C1.nine;obtain⟨st,hst⟩:∃st,strOfNums bytes=st:=⟨_,rfl⟩;have hcv1:=conv12 bytes a1b c1b w1 (HP.out.rdb.step hB1);have hcv2:=conv12 bytes a2b c2b w1 (HQ.out.rdb.step hB1);try simp only at hcv1 hcv2
 rw[hst]at hcv1 hcv2;clear hst hb1 hB0;go_enter Tryz.func77,Tryz.ntmps77;go_wp2_with fail;clear x0 x1 x3 x4 x5 x6 x7 y0 y1 y3 y4 y5 y6 y7 x2 x8 y2 y8 hcv1 hcv2 hw0 hw1;go_loopw [5] (fun i wr=>∃k:Nat,k≤heads.length∧i = .int .i64 (k:Int)∧Blk wr w.heap.size [.int .i64 bits,.int .i64 least,.slice a1h heads.length c1h,.slice a1b bytes.length c1b,.int .i64 at_,.int .i64 len,.int .i64 part,.int .i64 bit,.slice a1c ctrs.length c1c] 77∧Blk wr (w.heap.size+1) [.int .i64 bits,.int .i64 least,.slice a2h heads.length c2h,.slice a2b bytes.length c2b,.int .i64 at_,.int .i64 len,.int .i64 part,.int .i64 bit,.slice a2c ctrs.length c2c] 77∧Below w.heap.size w wr) (fun i _=>heads.length-(intOf i).toNat)
 case atStart=>exact⟨0,by omega,rfl,A1,C1,hB1⟩
 case round=>
  obtain⟨k,hk,rfl,A2,C2,hB⟩:=hrel;clear A1 C1 hB1;have x2:wr.cell? ⟨w.heap.size,2,none⟩=some (.slice a1h heads.length c1h):=A2.cell 2;have x8:wr.cell? ⟨w.heap.size,8,none⟩=some (.slice a1c ctrs.length c1c):=A2.cell 8;have y2:wr.cell? ⟨w.heap.size+1,2,none⟩=some (.slice a2h heads.length c2h):=C2.cell 2;have y8:wr.cell? ⟨w.heap.size+1,8,none⟩=some (.slice a2c ctrs.length c2c):=C2.cell 8;by_cases hlt:k<heads.length
  ·have hdk:decide ((k:Int)<(heads.length:Int))=true:=zQ (by omega);obtain⟨g1,o1,rfl,hcs1⟩:=(HP.out.rdh.step hB).at (i:=k) (by rw[yL];exact hlt);obtain⟨g2,o2,rfl,hcs2⟩:=(HQ.out.rdh.step hB).at (i:=k) (by rw[yL];exact hlt);have hc1:wr.cell? ⟨g1,o1+k,none⟩=some (.int .i64 heads[k]):=by rw[hcs1 k (by rw[yL];exact hlt)];simp[zaO]
   have hc2:wr.cell? ⟨g2,o2+k,none⟩=some (.int .i64 heads[k]):=by rw[hcs2 k (by rw[yL];exact hlt)];simp[zaO]
   obtain⟨x,hx⟩:∃x,heads[k]=x:=⟨_,rfl⟩;rw[hx]at hc1 hc2;clear hcs1 hcs2 hx;have hC:zbF [(⟨w.heap.size,2,none⟩,.slice (some ⟨g1,o1,none⟩) heads.length c1h),(⟨w.heap.size+1,2,none⟩,.slice (some ⟨g2,o2,none⟩) heads.length c2h),(⟨g1,o1+k,none⟩,.int .i64 x),(⟨g2,o2+k,none⟩,.int .i64 x)] wr:=⟨x2,y2,hc1,hc2,yJ⟩;have hB4:=hB.drew;have A3:=A2.step (zaW wr.heap.size wr);have C3:=C2.step (zaW wr.heap.size wr);go_wp2_with fail;refine zrE 11 0 [(U,[U,U,U,U,U,U,U,U,U,U,U])] (zbF [(⟨w.heap.size,2,none⟩,.slice (some ⟨g1,o1,none⟩) heads.length c1h),(⟨w.heap.size+1,2,none⟩,.slice (some ⟨g2,o2,none⟩) heads.length c2h),(⟨g1,o1+k,none⟩,.int .i64 x),(⟨g2,o2+k,none⟩,.int .i64 x)]) (by kernel_rfl) (hC) (fun Y Q4 F4 hY hF=> ?_);simp only[zrC]
   repeat
    apply zF (by rw[hY];rfl)
    ·intro w2 hS2;(try simp only[Keeps,zbF,Cells]at hS2);go_simp;with_reducible rfl
    simp only[zrB]
   repeat
    first
     | (apply zR (by rw[hY];rfl);simp only[zrB])
     | (apply zF (by rw[hY];rfl)
        ·intro w2 hS2;(try simp only[Keeps,zbF,Cells]at hS2);go_simp;with_reducible rfl
        simp only[zrB])
   refine zZ (hF.out _ _ (fun K hK=> ?_));clear hF hY;go_wp2_with fail;refine OnlyK.mk (hK.out _ _ ?_);clear hK;go_wp2;go_roundw
   case rel=>exact⟨k+1,by omega,by go_num,A3,C3,hB4⟩
   case measure=>simp[intOf];omega
  ·obtain rfl:k=heads.length:=by omega
   have hdk:decide ((heads.length:Int)<(heads.length:Int))=false:=zL (by omega);go_wp2_with fail;refine(HA.out _ (HP.out.rdc.step hB) (HQ.out.rdc.step hB)).mono ?_;rintro e w5 ⟨rfl,hb5⟩;have hB5:=zA hB hb5;go_wp2_with fail;go_returns;exact⟨rfl,hB5⟩
