/- A part of the proof of L14s. No condition. -/
import Derived.Test.YtieeogndnhighaaGreatZL14san
import Derived.Test.YtieeogndnhighaaGreatZL14sax
import Derived.Test.YtieeogndnhighaaGreatZL14sbg
set_option linter.all false
set_option maxRecDepth 100000
set_option maxHeartbeats 4000000
namespace Go.Proofs.YtieeogndnhighaaGreat
open Go.RowKit
def Own(w:World)(g:Nat)(t:TypeId)(vals:List Value):Prop:=∃rest,Blk w g (vals++rest) t
theorem Own.cell{w:World}{g:Nat}{t:TypeId}{vals:List Value}(h:Own w g t vals){i:Nat}(hi:i<vals.length):w.cell? ⟨g,i,none⟩=vals[i]? :=by
 obtain⟨r,h⟩:=h;rw[h.cell,zeE hi]
theorem Own.rd{w:World}{g:Nat}{t:TypeId}{vals:List Value}(h:Own w g t vals):Rd w (some ⟨g,0,none⟩) vals:=fun _=>⟨g,0,rfl,fun j v hv=>by
 rw[yP,h.cell (List.getElem?_eq_some_iff.1 hv).1];exact hv⟩
theorem Own.set{w:World}{g:Nat}{t:TypeId}{vals:List Value}(h:Own w g t vals){i:Nat}(hi:i<vals.length)(v:Value):Own (w.setCell ⟨g,i,none⟩ v) g t (vals.set i v):=by
 obtain⟨r,h⟩:=h;refine⟨r,?_⟩;rw[←List.set_append_left _ _ hi];exact h.set i v
theorem Own.other{w:World}{g:Nat}{t:TypeId}{vals:List Value}(h:Own w g t vals)(c i:Nat)(v:Value)(hne:¬g=c):Own (w.setCell ⟨c,i,none⟩ v) g t vals:=by obtain⟨r,h⟩:=h;exact⟨r,h.other c i v hne⟩
theorem Blk.type{w:World}{b:Nat}{cs cs':List Value}{t t':TypeId}(h:Blk w b cs t)(h':Blk w b cs' t'):t=t':=by
 unfold Blk at h h';rw[h]at h';simp at h';exact h'.2
theorem Own.ne{w:World}{g c:Nat}{t t':TypeId}{vals cs:List Value}(h:Own w g t vals)(hb:Blk w c cs t')(ht:¬t=t'):¬g=c:=fun e=>by
 obtain⟨r,h⟩:=h;subst e;exact ht (h.type hb)
theorem own_put{w:World}{base:Nat}{e t:TypeId}{n cap b i:Nat}{a:Option Addr}{xs cs:List Value}{v:Value}(h:w.ownsRow base e 1 (.slice a n cap) n xs)(hb:Blk w b cs t)(hne:¬e=t):(w.setCell ⟨b,i,none⟩ v).ownsRow base e 1 (.slice a n cap) n xs:=
 h.kept (zeL w b i v) (.inr (zgY h hb hne))
structure St(B S gh gc:Nat)(m:S12.M)(p:Pl)(w:World):Prop where
 blk:Blk w S (zbR m p) 268
 ph:p.ah=some ⟨gh,0,none⟩
 pc:p.ac=some ⟨gc,0,none⟩
 hs:B≤S
 hh:B≤gh
 hc:B≤gc
 oh:Own w gh 3 (zbU m.heads)
 oc:Own w gc 170 (Cts m.ctrs)
 ob:w.ownsRow B 5 1 (.slice p.ab m.bytes.length p.cb) m.bytes.length (Bts m.bytes)
theorem St.put{B S gh gc:Nat}{m m':S12.M}{p:Pl}{w:World}(h:St B S gh gc m p w)(i:Nat)(v:Value)(e:(zbR m p).set i v=zbR m' p)(eh:m'.heads=m.heads)(ec:m'.ctrs=m.ctrs)(eb:m'.bytes=m.bytes):St B S gh gc m' p (w.setCell ⟨S,i,none⟩ v):=
 ⟨e▸h.blk.set i v,h.ph,h.pc,h.hs,h.hh,h.hc,by rw[eh];exact h.oh.other S i v (h.oh.ne h.blk (by decide)),by rw[ec];exact h.oc.other S i v (h.oc.ne h.blk (by decide)),by rw[eb];exact own_put h.ob h.blk (by decide)⟩
def KeepF(w w':World):Prop:=∀F cs,Blk w F cs 1→Blk w' F cs 1
theorem KeepF.set{w:World}{b i:Nat}{cs:List Value}{t:TypeId}{v:Value}(h:Blk w b cs t)(ht:¬1=t):KeepF w (w.setCell ⟨b,i,none⟩ v):=fun F ds hF=>hF.other b i v (fun e=>by subst e;exact ht (hF.type h))
end Go.Proofs.YtieeogndnhighaaGreat
namespace Go.Proofs.YtieeogndnhighaaGreat
open Go.RowKit
theorem zaK(B:Nat)(w:World):Below B w w.drew:=(zJ B w).drew
end Go.Proofs.YtieeogndnhighaaGreat
namespace Go.Proofs.YtieeogndnhighaaGreat
open Go.RowKit
end Go.Proofs.YtieeogndnhighaaGreat
namespace Go.Proofs.YtieeogndnhighaaGreat
open Go.RowKit
theorem zkM(H n:Nat):(H:Int)/2^n=((H/2^n:Nat):Int):=by rw[Int.natCast_ediv,Int.natCast_pow];rfl
end Go.Proofs.YtieeogndnhighaaGreat
namespace Go.Proofs.YtieeogndnhighaaGreat
open Go.RowKit
theorem conv12(xs:List Int)(a:Option Addr)(cap:Nat)(w:World)(hrd:Rd w a (Bts xs)):(convert 59 9 (.slice a xs.length cap)).run Tryz.prog w = .ok (.string (strOfNums xs)) w:=by
 by_cases hne:xs = []
 ·subst hne;have he:strOfNums []=ByteArray.empty:=rfl;cases a with
  | none=>rw[he];exact run_convert_bytes_nil w 59 5 Tryz.underlying59 Tryz.underlying5 _ _ 9 Tryz.underlying9
  | some ad=>
    obtain⟨b,o,sp⟩:=ad;have h:=run_convert_bytes_string (P:=Tryz.prog) w 59 9 5 (some ⟨b,o,sp⟩) 0 cap Tryz.underlying59 Tryz.underlying5 Tryz.underlying9;rw[he];have hl:=run_loadCells_list (P:=Tryz.prog) w ⟨b,o,sp⟩ [] (fun j v hj=>by simp at hj);simp only[List.length_nil]at hl;refine h.trans ?_;simp[Conv.bytesToString,hl]
 ·obtain⟨b,o,rfl,hr⟩:=hrd (fun e=>hne (by have:=yQ List.length e;rw[yX]at this;exact List.length_eq_zero_iff.1 (by simpa using this)));exact run_convert_bytes_arg w 59 5 Tryz.underlying59 Tryz.underlying5 b o xs.length cap xs rfl (fun i hi=>hr i _ (by unfold Bts;rw[zaB,zG hi,S12.getD_in _ _ hi];rfl)) 9 Tryz.underlying9
end Go.Proofs.YtieeogndnhighaaGreat
namespace Go.Proofs.YtieeogndnhighaaGreat
open Go.RowKit Go.Shelf
theorem ziC(g o cap:Nat)(xs:List Int)(p:Nat)(hp:p≤xs.length)(hlen:xs.length≤1000000)(w:World)(hrd:Rd w (some ⟨g,o,none⟩) (Bts xs)) :
 Calls Tryz.prog 144 #[.slice (some ⟨g,o,none⟩) xs.length cap,.int .i64 (p:Int)] w fun e w'=>e = .returned (.int .i64 (S12.rep xs p:Int))∧Below w.heap.size w w':=by
 obtain⟨R,hR⟩:∃R,S12.rep xs p=R:=⟨_,rfl⟩;have HR:=zD fun(k:Nat) (h1:k≤min 255 p) (h2:∀i,i<k→S12.eqAt xs p i=true) (h3:k=min 255 p∨S12.eqAt xs p k=false)=>(hR.symm.trans (S12.rep_of h1 h2 h3):R=k);rw[hR];have Hrd:=zD hrd;clear hR hrd;go_enter Tryz.func144,Tryz.ntmps144;go_wp2_with fail;go_loopw [5] (fun n wr=>∃k:Nat,k≤min 255 p∧n = .int .i64 (k:Int)∧(∀i,i<k→S12.eqAt xs p i=true)∧Below w.heap.size w wr) (fun n _=>255-(intOf n).toNat)
 case atStart=>exact⟨0,by omega,rfl,fun i h=>by omega,zJ _ _⟩
 case round=>
  obtain⟨k,hk,rfl,heq,hB⟩:=hrel;have Heq:=zD heq;clear heq;by_cases c1:k<255
  ·by_cases c2:k<p
   ·obtain⟨g',o',e,hcs⟩:=Bts_at (Hrd.out.step hB) (i:=p-1-k) (by omega);cases e;obtain⟨i,hi⟩:∃i,p-1-k=i:=⟨_,rfl⟩;obtain⟨j,hj⟩:∃j,xs.length-1-k=j:=⟨_,rfl⟩;have y1:=hcs i (by omega);have y2:=hcs j (by omega);have hdef:S12.eqAt xs p k=(xs.getD i 0==xs.getD j 0):=by unfold S12.eqAt;rw[hi,hj]
    obtain⟨u,hu⟩:∃u,xs.getD i 0=u:=⟨_,rfl⟩;obtain⟨v,hv⟩:∃v,xs.getD j 0=v:=⟨_,rfl⟩;rw[hu,hv]at hdef;rw[hu]at y1;rw[hv]at y2;have q1:IntKind.i64.wrap (IntKind.i64.wrap ((p:Int)-1)-(k:Int))=(i:Int):=by rw[IntWalk.i64_in ((p:Int)-1) (by omega),IntWalk.i64_in _ (by omega)];omega
    have q2:IntKind.i64.wrap (IntKind.i64.wrap ((xs.length:Int)-1)-(k:Int))=(j:Int):=by rw[IntWalk.i64_in ((xs.length:Int)-1) (by omega),IntWalk.i64_in _ (by omega)];omega
    have hil:i<xs.length:=by omega
    have hjl:j<xs.length:=by omega
    have hC:Cells wr [(⟨g,o+i,none⟩,.int .u8 u),(⟨g,o+j,none⟩,.int .u8 v)]:=⟨y1,y2,yJ⟩;have Hdef:=zD hdef;have Hk:=zD hk;clear hcs hdef hu hv hi hj hk;have d1:decide ((k:Int)<255)=true:=zO (by omega);have d2:decide ((k:Int)<(p:Int))=true:=zO (by omega);cases huv:(u==v)with
    | true=>
      rw[huv]at Hdef;go_wp2_with fail;refine zpD 25 0 [(U,[U,U,U,U,U,U,U,U,U,U,U,U,U,U,U,U,U,U,U,U,U,U,U,U,U])] (Keeps wr [(⟨g,o+i,none⟩,.int .u8 u),(⟨g,o+j,none⟩,.int .u8 v)]) (by kernel_rfl) (Keeps.start hC) (fun Y Q4 F4 hY hF=> ?_);simp only[zpB]
      repeat
       apply zE (by rw[hY];rfl)
       ·intro w2 hS2;(try simp only[Keeps,Cells]at hS2);go_simp;with_reducible rfl
       simp only[zpA]
      repeat
       first
        | (apply zQ (by rw[hY];rfl);simp only[zpA])
        | (apply zE (by rw[hY];rfl)
           ·intro w2 hS2;(try simp only[Keeps,Cells]at hS2);go_simp;with_reducible rfl
           simp only[zpA])
      refine zV (hF.out _ _ (fun K hK=> ?_));clear hF hY;go_wp2_with fail;refine OnlyK.mk (hK.out _ _ ?_);clear hK;have hBd:=zA hB (zaK wr.heap.size wr);clear hC;go_wp2_with fail;go_roundw
      case rel=>exact⟨k+1,by omega,by go_num,fun i hi=>by rcases Nat.lt_succ_iff_lt_or_eq.1 hi with h|rfl;exact Heq.out i h;exact Hdef.out,hBd⟩
      case measure=>simp[intOf];omega
    | false=>
      rw[huv]at Hdef;have hRk:R=k:=HR.out k Hk.out Heq.out (.inr Hdef.out);go_wp2_with fail;refine zpD 25 0 [(U,[U,U,U,U,U,U,U,U,U,U,U,U,U,U,U,U,U,U,U,U,U,U,U,U,U])] (Keeps wr [(⟨g,o+i,none⟩,.int .u8 u),(⟨g,o+j,none⟩,.int .u8 v)]) (by kernel_rfl) (Keeps.start hC) (fun Y Q4 F4 hY hF=> ?_);simp only[zpB]
      repeat
       apply zE (by rw[hY];rfl)
       ·intro w2 hS2;(try simp only[Keeps,Cells]at hS2);go_simp;with_reducible rfl
       simp only[zpA]
      repeat
       first
        | (apply zQ (by rw[hY];rfl);simp only[zpA])
        | (apply zE (by rw[hY];rfl)
           ·intro w2 hS2;(try simp only[Keeps,Cells]at hS2);go_simp;with_reducible rfl
           simp only[zpA])
      refine zV (hF.out _ _ (fun K hK=> ?_));clear hF hY;go_wp2_with fail;refine OnlyK.mk (hK.out _ _ ?_);clear hK;have hBd:=zA hB (zaK wr.heap.size wr);clear hC;go_wp2_with fail;go_returns;exact⟨by rw[hRk];rfl,hBd⟩
   ·have hRk:R=k:=HR.out k hk Heq.out (.inl (by omega));have d1:decide ((k:Int)<255)=true:=zO (by omega);have d2:decide ((k:Int)<(p:Int))=false:=zK (by omega);have hC:Cells wr []:=yJ;clear hk;go_wp2_with fail;refine zpD 25 0 [(U,[U,U,U,U,U,U,U,U,U,U,U,U,U,U,U,U,U,U,U,U,U,U,U,U,U])] (Keeps wr []) (by kernel_rfl) (Keeps.start hC) (fun Y Q4 F4 hY hF=> ?_);simp only[zpB]
    repeat
     apply zE (by rw[hY];rfl)
     ·intro w2 hS2;(try simp only[Keeps,Cells]at hS2);go_simp;with_reducible rfl
     simp only[zpA]
    repeat
     first
      | (apply zQ (by rw[hY];rfl);simp only[zpA])
      | (apply zE (by rw[hY];rfl)
         ·intro w2 hS2;(try simp only[Keeps,Cells]at hS2);go_simp;with_reducible rfl
         simp only[zpA])
    refine zV (hF.out _ _ (fun K hK=> ?_));clear hF hY;go_wp2_with fail;refine OnlyK.mk (hK.out _ _ ?_);clear hK;have hBd:=zA hB (zaK wr.heap.size wr);clear hC;go_wp2_with fail;go_returns;exact⟨by rw[hRk];rfl,hBd⟩
  ·have hRk:R=k:=HR.out k hk Heq.out (.inl (by omega));have d1:decide ((k:Int)<255)=false:=zK (by omega);have hC:Cells wr []:=yJ;clear hk;go_wp2_with fail;refine zpD 25 0 [(U,[U,U,U,U,U,U,U,U,U,U,U,U,U,U,U,U,U,U,U,U,U,U,U,U,U])] (Keeps wr []) (by kernel_rfl) (Keeps.start hC) (fun Y Q4 F4 hY hF=> ?_);simp only[zpB]
   repeat
    apply zE (by rw[hY];rfl)
    ·intro w2 hS2;(try simp only[Keeps,Cells]at hS2);go_simp;with_reducible rfl
    simp only[zpA]
   repeat
    first
     | (apply zQ (by rw[hY];rfl);simp only[zpA])
     | (apply zE (by rw[hY];rfl)
        ·intro w2 hS2;(try simp only[Keeps,Cells]at hS2);go_simp;with_reducible rfl
        simp only[zpA])
   refine zV (hF.out _ _ (fun K hK=> ?_));clear hF hY;go_wp2_with fail;refine OnlyK.mk (hK.out _ _ ?_);clear hK;have hBd:=zA hB (zaK wr.heap.size wr);clear hC;go_wp2_with fail;go_returns;exact⟨by rw[hRk];rfl,hBd⟩
end Go.Proofs.YtieeogndnhighaaGreat
namespace Go.Proofs.YtieeogndnhighaaGreat
open Go.RowKit
theorem zlA(x pt:Nat)(hx:x<256)(h1:1≤pt)(h2:pt≤255)(w:World) :
 Calls Tryz.prog 131 #[.int .u8 (x:Int),.int .i64 (pt:Int)] w fun e w'=>e = .returned (.tuple #[.int .i64 (S12.optN (S12.exp x (pt:Int))),.bool (S12.exp x (pt:Int)).isSome])∧Below w.heap.size w w':=by
 obtain⟨E,hE⟩:∃E,S12.exp x (pt:Int)=E:=⟨_,rfl⟩;have HE:=zD fun(n:Nat) (hn:n≤7) (a:2^n≤pt) (b:pt<2^(n+1))=>(hE.symm.trans (S12.exp_at hx hn a b):E=_);rw[hE];obtain⟨EN,hEN⟩:∃EN,S12.optN E=EN:=⟨_,rfl⟩;rw[hEN];have HEN:=zD hEN;clear hE hEN;go_enter Tryz.func131,Tryz.ntmps131;go_wp2_with fail;go_loopw [6] (fun n wr=>∃k:Nat,k≤7∧n = .int .i64 (k:Int)∧2^k≤pt∧Below w.heap.size w wr) (fun n _=>8-(intOf n).toNat)
 case atStart=>exact⟨0,by omega,rfl,by omega,zJ _ _⟩
 case round=>
  obtain⟨k,hk,rfl,hpk,hB⟩:=hrel;have hdc:=zkM pt (k+1);by_cases hlt:2^(k+1)≤pt
  ·have hk6:k+1≤7:=by
    have h3:2^(k+1)<2^8:=by omega
    have:=(Nat.pow_lt_pow_iff_right (by omega:1<2)).1 h3;omega
   have hd:0<pt/2^(k+1):=Nat.div_pos hlt (zaP _);obtain⟨d,hdd⟩:∃d,pt/2^(k+1)=d:=⟨_,rfl⟩;rw[hdd]at hd hdc;clear hdd hpk;go_wp2_with fail;go_roundw
   case rel=>exact⟨k+1,hk6,by go_num,hlt,hB⟩
   case measure=>simp[intOf];omega
  ·have hEE:=HE.out k hk hpk (by omega);have hd:pt/2^(k+1)=0:=Nat.div_eq_of_lt (by omega);rw[hd]at hdc;have hdc2:=zkM (256+x) (8-k);have hdc3:=zkM x (7-k);rw[show((256+x:Nat):Int)=256+(x:Int) by omega]at hdc2;obtain⟨u,hu⟩:∃u,(256+x)/2^(8-k)=u:=⟨_,rfl⟩;have hand:bits .and .i64 ((x:Int)/2^(7-k)) 1=((x/2^(7-k)%2:Nat):Int):=by rw[zkM,znX _ (Nat.lt_of_le_of_lt (Nat.div_le_self _ _) (by omega))]
   rw[hu]at hdc2 hEE;obtain⟨v,hv⟩:∃v,x/2^(7-k)%2=v:=⟨_,rfl⟩;rw[hv]at hand hEE;have hk7:¬7<k:=by omega
   by_cases hup:u=pt
   ·rw[zY hup]at hEE;subst hEE;have hEN:EN=(v:Int):=HEN.out.symm;subst hEN;subst hup;clear hdc3 hpk hd hu hv hlt;go_wp2_with fail;go_returns;exact⟨rfl,hB⟩
   ·rw[zR hup]at hEE;subst hEE;have hEN:EN=2:=HEN.out.symm;subst hEN;have hne:((u:Int) != (pt:Int))=true:=by simp;omega
    clear hdc3 hpk hd hu hv hlt hand;go_wp2_with fail;go_returns;exact⟨rfl,hB⟩
theorem zmN(m:S12.M)(p:Pl)(w:World)(hl:m.bytes.length≤65536)(hpt:1≤m.part∧m.part≤255)(hM:MIs m p w) :
 Calls Tryz.prog 115 #[MV m p] w fun e w'=>e = .returned (.bool (S12.matched m))∧Below w.heap.size w w':=by
 obtain⟨bits,least,heads,bytes,at_,len,part,bit,ctrs⟩:=m;obtain⟨ah,ch,ab,cb,ac,cc⟩:=p;obtain⟨_,hrb,_,hbyt,hcb,_,_,_⟩:=hM;obtain⟨R,hR⟩:∃R,S12.matched ⟨bits,least,heads,bytes,at_,len,part,bit,ctrs⟩=R:=⟨_,rfl⟩
 have hRd:R=if len=0 then decide (at_=0)&&decide (bit=2)
  else decide (1≤len∧len≤255)&&decide (len≤at_∧at_≤(bytes.length:Int)-1)&&decide (len≤(S12.rep bytes at_.toNat:Int)) &&
   (match S12.exp (bytes.getD at_.toNat 0).toNat part with|some b=>decide ((b:Int)=bit)|none=>false):=by rw[←hR];rfl
 rw[hR];clear hR;simp only at hrb hbyt hcb hl hpt;unfold MV zbR;simp only;have B0:=Blk.new w [.int .i64 bits,.int .i64 least,.slice ah heads.length ch,.slice ab bytes.length cb,.int .i64 at_,.int .i64 len,.int .i64 part,.int .i64 bit,.slice ac ctrs.length cc] 77;have hB0:Below w.heap.size w (w.alloc (.cells #[.int .i64 bits,.int .i64 least,.slice ah heads.length ch,.slice ab bytes.length cb,.int .i64 at_,.int .i64 len,.int .i64 part,.int .i64 bit,.slice ac ctrs.length cc] 77)):=(zJ _ _).alloc (zF _) _;obtain⟨w0,hw0⟩:∃w0,(w.alloc (.cells #[.int .i64 bits,.int .i64 least,.slice ah heads.length ch,.slice ab bytes.length cb,.int .i64 at_,.int .i64 len,.int .i64 part,.int .i64 bit,.slice ac ctrs.length cc] 77))=w0:=⟨_,rfl⟩;have B1:Blk w0 w.heap.size [.int .i64 bits,.int .i64 least,.slice ah heads.length ch,.slice ab bytes.length cb,.int .i64 at_,.int .i64 len,.int .i64 part,.int .i64 bit,.slice ac ctrs.length cc] 77:=by rw[←hw0];exact B0
 rw[hw0]at hB0;clear B0;obtain⟨x0,x1,x2,x3,x4,x5,x6,x7,x8⟩:=B1.nine;have hbN:bytes.length<9223372036854775808:=by omega
 by_cases h0:len=0
 ·rw[zY h0]at hRd;subst h0;by_cases ha:at_=0
  ·subst ha;rw[zO rfl,zaY]at hRd;subst hRd;go_enter Tryz.func115,Tryz.ntmps115;go_wp2_with fail;go_returns;exact⟨yT (by first|rfl|simp),hB0⟩
  ·rw[zK ha,Bool.false_and]at hRd;subst hRd;have e1:(at_==0)=false:=by simp[ha]
   go_enter Tryz.func115,Tryz.ntmps115;go_wp2_with fail;go_returns;exact⟨rfl,hB0⟩
 rw[zR h0]at hRd;have e0:(len==0)=false:=by simp[h0]
 have hC:zaW [(⟨w.heap.size,5,none⟩,.int .i64 len),(⟨w.heap.size,4,none⟩,.int .i64 at_),(⟨w.heap.size,3,none⟩,.slice ab bytes.length cb)] w0:=⟨x5,x4,x3,yJ⟩;have hB0d:=hB0.drew;by_cases c1:len<0
 ·have hf:R=false:=by rw[hRd,zK (show¬(1≤len∧len≤255) by omega)];rfl
  subst hf;clear hRd;have d1:decide (len<0)=true:=zO c1;go_enter Tryz.func115,Tryz.ntmps115;go_wp2_with fail;refine zpD 33 0 [(U,[U,U,U,U,U,U,U,U,U,U,U,U,U,U,U,U,U,U,U,U,U,U,U,U,U,U,U,U,zoZ,U,U]),(zoZ,[zoZ,zoZ,zoZ,zoZ,zoZ,zoZ,zoZ,zoZ,zoZ,zoZ,zoZ,zoZ,zoZ,zoZ,zoZ,zoZ,zoZ,zoZ,zoZ,zoZ,zoZ,zoZ,zoZ,zoZ,zoZ,zoZ,zoZ,zoZ,U]),(U,[zoZ,zoZ,zoZ,zoZ,zoZ,zoZ,zoZ,zoZ,zoZ,zoZ,zoZ,zoZ,zoZ,zoZ,zoZ,zoZ,zoZ,zoZ,zoZ,zoZ,zoZ,zoZ,zoZ,zoZ,zoZ,zoZ,zoZ,zoZ,zoZ,zoZ,zoZ,U,U])] (zaW [(⟨w.heap.size,5,none⟩,.int .i64 len),(⟨w.heap.size,4,none⟩,.int .i64 at_),(⟨w.heap.size,3,none⟩,.slice ab bytes.length cb)]) (by kernel_rfl) (hC) (fun Y Q4 F4 hY hF=> ?_);simp only[zpB]
  repeat
   apply zE (by rw[hY];rfl)
   ·intro w2 hS2;(try simp only[Keeps,zaW,Cells]at hS2);go_simp;with_reducible rfl
   simp only[zpA]
  repeat
   first
    | (apply zQ (by rw[hY];rfl);simp only[zpA])
    | (apply zE (by rw[hY];rfl)
       ·intro w2 hS2;(try simp only[Keeps,zaW,Cells]at hS2);go_simp;with_reducible rfl
       simp only[zpA])
  repeat
   first
    | (apply zQ (by rw[hY];rfl);simp only[zpA])
    | (refine yI (by rw[hY];rfl) (hC) ?_;simp only[zpA])
  repeat
   first
    | (apply zQ (by rw[hY];rfl);simp only[zpA])
    | (apply zE (by rw[hY];rfl)
       ·intro w2 hS2;(try simp only[Keeps,zaW,Cells]at hS2);go_simp;with_reducible rfl
       simp only[zpA])
  refine zV (hF.out _ _ (fun K hK=> ?_));clear hF hY;go_wp2_with fail;refine OnlyK.mk (hK.out _ _ ?_);clear hK;go_wp2_with fail;go_returns;exact⟨rfl,hB0d⟩
 by_cases c2:255<len
 ·have hf:R=false:=by rw[hRd,zK (show¬(1≤len∧len≤255) by omega)];rfl
  subst hf;clear hRd;have d1:decide (len<0)=false:=zK c1;have d2:decide (255<len)=true:=zO c2;go_enter Tryz.func115,Tryz.ntmps115;go_wp2_with fail;refine zpD 33 0 [(U,[U,U,U,U,U,U,U,U,U,U,U,U,U,U,U,U,U,U,U,U,U,U,U,U,U,U,U,U,zoZ,U,U]),(zoZ,[zoZ,zoZ,zoZ,zoZ,zoZ,zoZ,zoZ,zoZ,zoZ,zoZ,zoZ,zoZ,zoZ,zoZ,zoZ,zoZ,zoZ,zoZ,zoZ,zoZ,zoZ,zoZ,zoZ,zoZ,zoZ,zoZ,zoZ,zoZ,U]),(U,[zoZ,zoZ,zoZ,zoZ,zoZ,zoZ,zoZ,zoZ,zoZ,zoZ,zoZ,zoZ,zoZ,zoZ,zoZ,zoZ,zoZ,zoZ,zoZ,zoZ,zoZ,zoZ,zoZ,zoZ,zoZ,zoZ,zoZ,zoZ,zoZ,zoZ,zoZ,U,U])] (zaW [(⟨w.heap.size,5,none⟩,.int .i64 len),(⟨w.heap.size,4,none⟩,.int .i64 at_),(⟨w.heap.size,3,none⟩,.slice ab bytes.length cb)]) (by kernel_rfl) (hC) (fun Y Q4 F4 hY hF=> ?_);simp only[zpB]
  repeat
   apply zE (by rw[hY];rfl)
   ·intro w2 hS2;(try simp only[Keeps,zaW,Cells]at hS2);go_simp;with_reducible rfl
   simp only[zpA]
  repeat
   first
    | (apply zQ (by rw[hY];rfl);simp only[zpA])
    | (apply zE (by rw[hY];rfl)
       ·intro w2 hS2;(try simp only[Keeps,zaW,Cells]at hS2);go_simp;with_reducible rfl
       simp only[zpA])
  repeat
   first
    | (apply zQ (by rw[hY];rfl);simp only[zpA])
    | (refine yI (by rw[hY];rfl) (hC) ?_;simp only[zpA])
  repeat
   first
    | (apply zQ (by rw[hY];rfl);simp only[zpA])
    | (apply zE (by rw[hY];rfl)
       ·intro w2 hS2;(try simp only[Keeps,zaW,Cells]at hS2);go_simp;with_reducible rfl
       simp only[zpA])
  refine zV (hF.out _ _ (fun K hK=> ?_));clear hF hY;go_wp2_with fail;refine OnlyK.mk (hK.out _ _ ?_);clear hK;go_wp2_with fail;go_returns;exact⟨rfl,hB0d⟩
 rw[zO (show 1≤len∧len≤255 by omega),zaY]at hRd;by_cases c3:at_<len
 ·have hf:R=false:=by rw[hRd,zK (show¬(len≤at_∧at_≤(bytes.length:Int)-1) by omega)];rfl
  subst hf;clear hRd;have d1:decide (len<0)=false:=zK c1;have d2:decide (255<len)=false:=zK c2;have d3:decide (at_<len)=true:=zO c3;go_enter Tryz.func115,Tryz.ntmps115;go_wp2_with fail;refine zpD 33 0 [(U,[U,U,U,U,U,U,U,U,U,U,U,U,U,U,U,U,U,U,U,U,U,U,U,U,U,U,U,U,zoZ,U,U]),(zoZ,[zoZ,zoZ,zoZ,zoZ,zoZ,zoZ,zoZ,zoZ,zoZ,zoZ,zoZ,zoZ,zoZ,zoZ,zoZ,zoZ,zoZ,zoZ,zoZ,zoZ,zoZ,zoZ,zoZ,zoZ,zoZ,zoZ,zoZ,zoZ,U]),(U,[zoZ,zoZ,zoZ,zoZ,zoZ,zoZ,zoZ,zoZ,zoZ,zoZ,zoZ,zoZ,zoZ,zoZ,zoZ,zoZ,zoZ,zoZ,zoZ,zoZ,zoZ,zoZ,zoZ,zoZ,zoZ,zoZ,zoZ,zoZ,zoZ,zoZ,zoZ,U,U])] (zaW [(⟨w.heap.size,5,none⟩,.int .i64 len),(⟨w.heap.size,4,none⟩,.int .i64 at_),(⟨w.heap.size,3,none⟩,.slice ab bytes.length cb)]) (by kernel_rfl) (hC) (fun Y Q4 F4 hY hF=> ?_);simp only[zpB]
  repeat
   apply zE (by rw[hY];rfl)
   ·intro w2 hS2;(try simp only[Keeps,zaW,Cells]at hS2);go_simp;with_reducible rfl
   simp only[zpA]
  repeat
   first
    | (apply zQ (by rw[hY];rfl);simp only[zpA])
    | (apply zE (by rw[hY];rfl)
       ·intro w2 hS2;(try simp only[Keeps,zaW,Cells]at hS2);go_simp;with_reducible rfl
       simp only[zpA])
  repeat
   first
    | (apply zQ (by rw[hY];rfl);simp only[zpA])
    | (refine yI (by rw[hY];rfl) (hC) ?_;simp only[zpA])
  repeat
   first
    | (apply zQ (by rw[hY];rfl);simp only[zpA])
    | (apply zE (by rw[hY];rfl)
       ·intro w2 hS2;(try simp only[Keeps,zaW,Cells]at hS2);go_simp;with_reducible rfl
       simp only[zpA])
  refine zV (hF.out _ _ (fun K hK=> ?_));clear hF hY;go_wp2_with fail;refine OnlyK.mk (hK.out _ _ ?_);clear hK;go_wp2_with fail;go_returns;exact⟨rfl,hB0d⟩
 by_cases c4:(bytes.length:Int)≤at_
 ·have hf:R=false:=by rw[hRd,zK (show¬(len≤at_∧at_≤(bytes.length:Int)-1) by omega)];rfl
  subst hf;clear hRd;have d1:decide (len<0)=false:=zK c1;have d2:decide (255<len)=false:=zK c2;have d3:decide (at_<len)=false:=zK c3;have d4:decide ((bytes.length:Int)≤at_)=true:=zO c4;go_enter Tryz.func115,Tryz.ntmps115;go_wp2_with fail;refine zpD 33 0 [(U,[U,U,U,U,U,U,U,U,U,U,U,U,U,U,U,U,U,U,U,U,U,U,U,U,U,U,U,U,zoZ,U,U]),(zoZ,[zoZ,zoZ,zoZ,zoZ,zoZ,zoZ,zoZ,zoZ,zoZ,zoZ,zoZ,zoZ,zoZ,zoZ,zoZ,zoZ,zoZ,zoZ,zoZ,zoZ,zoZ,zoZ,zoZ,zoZ,zoZ,zoZ,zoZ,zoZ,U]),(U,[zoZ,zoZ,zoZ,zoZ,zoZ,zoZ,zoZ,zoZ,zoZ,zoZ,zoZ,zoZ,zoZ,zoZ,zoZ,zoZ,zoZ,zoZ,zoZ,zoZ,zoZ,zoZ,zoZ,zoZ,zoZ,zoZ,zoZ,zoZ,zoZ,zoZ,zoZ,U,U])] (zaW [(⟨w.heap.size,5,none⟩,.int .i64 len),(⟨w.heap.size,4,none⟩,.int .i64 at_),(⟨w.heap.size,3,none⟩,.slice ab bytes.length cb)]) (by kernel_rfl) (hC) (fun Y Q4 F4 hY hF=> ?_);simp only[zpB]
  repeat
   apply zE (by rw[hY];rfl)
   ·intro w2 hS2;(try simp only[Keeps,zaW,Cells]at hS2);go_simp;with_reducible rfl
   simp only[zpA]
  repeat
   first
    | (apply zQ (by rw[hY];rfl);simp only[zpA])
    | (apply zE (by rw[hY];rfl)
       ·intro w2 hS2;(try simp only[Keeps,zaW,Cells]at hS2);go_simp;with_reducible rfl
       simp only[zpA])
  repeat
   first
    | (apply zQ (by rw[hY];rfl);simp only[zpA])
    | (refine yI (by rw[hY];rfl) (hC) ?_;simp only[zpA])
  repeat
   first
    | (apply zQ (by rw[hY];rfl);simp only[zpA])
    | (apply zE (by rw[hY];rfl)
       ·intro w2 hS2;(try simp only[Keeps,zaW,Cells]at hS2);go_simp;with_reducible rfl
       simp only[zpA])
  refine zV (hF.out _ _ (fun K hK=> ?_));clear hF hY;go_wp2_with fail;refine OnlyK.mk (hK.out _ _ ?_);clear hK;go_wp2_with fail;go_returns;exact⟨rfl,hB0d⟩
 rw[zO (show len≤at_∧at_≤(bytes.length:Int)-1 by omega),zaY]at hRd;have d1:decide (len<0)=false:=zK c1;have d2:decide (255<len)=false:=zK c2;have d3:decide (at_<len)=false:=zK c3;have d4:decide ((bytes.length:Int)≤at_)=false:=zK c4;obtain⟨q,rfl⟩:∃q:Nat,at_=q:=⟨at_.toNat,by omega⟩;have hqb:q<bytes.length:=by omega
 have d4n:¬bytes.length≤q:=by omega
 obtain⟨pt,rfl⟩:∃pt:Nat,part=pt:=⟨part.toNat,by omega⟩;rw[Int.toNat_natCast]at hRd;have hx0:=hbyt.get q;have hx1:=hbyt.at q;obtain⟨x,hx⟩:∃x:Nat,bytes.getD q 0=x:=⟨(bytes.getD q 0).toNat,(Int.toNat_of_nonneg hx0).symm⟩;rw[hx,Int.toNat_natCast]at hx1 hRd;obtain⟨g,o,rfl,hcs⟩:=Bts_at hrb (i:=q) hqb;have yq:=hcs q hqb;rw[hx]at yq;have HR:=zD fun W (hW:Below w.heap.size w W)=>ziC g o cb bytes q (by omega) (by omega) W (hrb.step hW);obtain⟨rp,hrp⟩:∃rp,S12.rep bytes q=rp:=⟨_,rfl⟩;rw[hrp]at HR hRd;have HE:=zD fun W=>zlA x pt hx1 (by omega) (by omega) W;obtain⟨E,hE⟩:∃E,S12.exp x (pt:Int)=E:=⟨_,rfl⟩;rw[hE]at HE hRd;have lq:=zI yq;have Hpt:=zD hpt;clear hcs hx hrp hE hx0 hbyt c1 c2 c3 c4 hpt h0;by_cases c5:(rp:Int)<len
 ·have hf:R=false:=by rw[hRd,zK (show¬len≤(rp:Int) by omega)];rfl
  subst hf;have d5:decide ((rp:Int)<len)=true:=zO c5;clear hRd;go_enter Tryz.func115,Tryz.ntmps115;go_wp2_with fail;refine zpD 33 0 [(U,[U,U,U,U,U,U,U,U,U,U,U,U,U,U,U,U,U,U,U,U,U,U,U,U,U,U,U,U,zoZ,U,U]),(zoZ,[zoZ,zoZ,zoZ,zoZ,zoZ,zoZ,zoZ,zoZ,zoZ,zoZ,zoZ,zoZ,zoZ,zoZ,zoZ,zoZ,zoZ,zoZ,zoZ,zoZ,zoZ,zoZ,zoZ,zoZ,zoZ,zoZ,zoZ,zoZ,U]),(U,[zoZ,zoZ,zoZ,zoZ,zoZ,zoZ,zoZ,zoZ,zoZ,zoZ,zoZ,zoZ,zoZ,zoZ,zoZ,zoZ,zoZ,zoZ,zoZ,zoZ,zoZ,zoZ,zoZ,zoZ,zoZ,zoZ,zoZ,zoZ,zoZ,zoZ,zoZ,U,U])] (zaW [(⟨w.heap.size,5,none⟩,.int .i64 len),(⟨w.heap.size,4,none⟩,.int .i64 (q:Int)),(⟨w.heap.size,3,none⟩,.slice (some ⟨g,o,none⟩) bytes.length cb)]) (by kernel_rfl) (hC) (fun Y Q4 F4 hY hF=> ?_);simp only[zpB]
  repeat
   apply zE (by rw[hY];rfl)
   ·intro w2 hS2;(try simp only[Keeps,zaW,Cells]at hS2);go_simp;with_reducible rfl
   simp only[zpA]
  apply zS (by rw[hY];rfl)
  ·go_simp;with_reducible exact⟨rfl,rfl⟩
  refine(HR.out _ hB0d).mono ?_;rintro e w1 ⟨rfl,hb1⟩;refine⟨_,rfl,Cells.step (zA (zaK w0.heap.size w0) hb1) hC,?_⟩;simp only[zpA]
  repeat
   apply zE (by rw[hY];rfl)
   ·intro w2 hS2;(try simp only[Keeps,zaW,Cells]at hS2);go_simp;with_reducible rfl
   simp only[zpA]
  refine zV (hF.out _ _ (fun K hK=> ?_));clear hF hY;go_wp2_with fail;refine OnlyK.mk (hK.out _ _ ?_);clear hK;have hB1:=zA hB0d hb1;go_wp2_with fail;go_returns;exact⟨rfl,hB1⟩
 rw[zO (show len≤(rp:Int) by omega),zaY]at hRd;have d5:decide ((rp:Int)<len)=false:=zK c5;cases E with
 | none=>
   simp only at hRd;subst hRd;go_enter Tryz.func115,Tryz.ntmps115;go_wp2_with fail;refine zpD 33 0 [(U,[U,U,U,U,U,U,U,U,U,U,U,U,U,U,U,U,U,U,U,U,U,U,U,U,U,U,U,U,zoZ,U,U]),(zoZ,[zoZ,zoZ,zoZ,zoZ,zoZ,zoZ,zoZ,zoZ,zoZ,zoZ,zoZ,zoZ,zoZ,zoZ,zoZ,zoZ,zoZ,zoZ,zoZ,zoZ,zoZ,zoZ,zoZ,zoZ,zoZ,zoZ,zoZ,zoZ,U]),(U,[zoZ,zoZ,zoZ,zoZ,zoZ,zoZ,zoZ,zoZ,zoZ,zoZ,zoZ,zoZ,zoZ,zoZ,zoZ,zoZ,zoZ,zoZ,zoZ,zoZ,zoZ,zoZ,zoZ,zoZ,zoZ,zoZ,zoZ,zoZ,zoZ,zoZ,zoZ,U,U])] (zaW [(⟨w.heap.size,5,none⟩,.int .i64 len),(⟨w.heap.size,4,none⟩,.int .i64 (q:Int)),(⟨w.heap.size,3,none⟩,.slice (some ⟨g,o,none⟩) bytes.length cb)]) (by kernel_rfl) (hC) (fun Y Q4 F4 hY hF=> ?_);simp only[zpB]
   repeat
    apply zE (by rw[hY];rfl)
    ·intro w2 hS2;(try simp only[Keeps,zaW,Cells]at hS2);go_simp;with_reducible rfl
    simp only[zpA]
   apply zS (by rw[hY];rfl)
   ·go_simp;with_reducible exact⟨rfl,rfl⟩
   refine(HR.out _ hB0d).mono ?_;rintro e w1 ⟨rfl,hb1⟩;refine⟨_,rfl,Cells.step (zA (zaK w0.heap.size w0) hb1) hC,?_⟩;simp only[zpA]
   repeat
    apply zE (by rw[hY];rfl)
    ·intro w2 hS2;(try simp only[Keeps,zaW,Cells]at hS2);go_simp;with_reducible rfl
    simp only[zpA]
   refine zV (hF.out _ _ (fun K hK=> ?_));clear hF hY;go_wp2_with fail;refine OnlyK.mk (hK.out _ _ ?_);clear hK;have hB1:=zA hB0d hb1;have B2:=B1.step (zA (zaK w0.heap.size w0) hb1);have hC1:zaW [(⟨w.heap.size,3,none⟩,.slice (some ⟨g,o,none⟩) bytes.length cb),(⟨w.heap.size,4,none⟩,.int .i64 (q:Int)),(⟨w.heap.size,6,none⟩,.int .i64 (pt:Int)),(⟨g,o+q,none⟩,.int .u8 (x:Int))] w1:=⟨B2.cell 3,B2.cell 4,B2.cell 6,(hB1.cell (p:=⟨g,o+q,none⟩) lq).trans yq,yJ⟩;go_wp2_with fail;refine zpD 13 1 [(U,[U,U,U,U,U,U,U,U]),(zoZ,[zoZ,zoZ,zoZ,zoZ,zoZ,zoZ,zoZ,zoZ,U]),(U,[zoZ,zoZ,zoZ,zoZ,zoZ,zoZ,zoZ,zoZ,zoZ,U,U,U]),(zoZ,[zoZ,zoZ,zoZ,zoZ,zoZ,zoZ,zoZ,zoZ,zoZ,zoZ,zoZ,zoZ,U])] (zaW [(⟨w.heap.size,3,none⟩,.slice (some ⟨g,o,none⟩) bytes.length cb),(⟨w.heap.size,4,none⟩,.int .i64 (q:Int)),(⟨w.heap.size,6,none⟩,.int .i64 (pt:Int)),(⟨g,o+q,none⟩,.int .u8 (x:Int))]) (by kernel_rfl) (hC1) (fun Y Q4 F4 hY hF=> ?_);simp only[zpB]
   repeat
    apply zE (by rw[hY];rfl)
    ·intro w2 hS2;(try simp only[Keeps,zaW,Cells]at hS2);go_simp;with_reducible rfl
    simp only[zpA]
   apply zS (by rw[hY];rfl)
   ·go_simp;with_reducible exact⟨rfl,rfl⟩
   refine(HE.out _).mono ?_;rintro e w2 ⟨rfl,hb2⟩;have hE2:=zA (zaK w1.heap.size w1) hb2;refine⟨_,rfl,Cells.step hE2 hC1,?_⟩;simp only[zpA]
   repeat
    apply zE (by rw[hY];rfl)
    ·intro w2 hS2;(try simp only[Keeps,zaW,Cells]at hS2);go_simp;with_reducible rfl
    simp only[zpA]
   refine zbS (by rw[hY];rfl) (by go_simp;first|with_reducible exact⟨rfl,rfl⟩|with_reducible rfl) (Cells.step hE2 hC1) ?_;simp only[zpA];refine zV (hF.out _ _ (fun K hK=> ?_));clear hF hY;go_wp2_with fail;refine OnlyK.mk (hK.out _ _ ?_);clear hK;have hB2:=zA hB1 hE2;go_wp2_with fail;go_returns;exact⟨rfl,hB2⟩
 | some ev=>
   simp only at hRd;subst hRd;go_enter Tryz.func115,Tryz.ntmps115;go_wp2_with fail;refine zpD 33 0 [(U,[U,U,U,U,U,U,U,U,U,U,U,U,U,U,U,U,U,U,U,U,U,U,U,U,U,U,U,U,zoZ,U,U]),(zoZ,[zoZ,zoZ,zoZ,zoZ,zoZ,zoZ,zoZ,zoZ,zoZ,zoZ,zoZ,zoZ,zoZ,zoZ,zoZ,zoZ,zoZ,zoZ,zoZ,zoZ,zoZ,zoZ,zoZ,zoZ,zoZ,zoZ,zoZ,zoZ,U]),(U,[zoZ,zoZ,zoZ,zoZ,zoZ,zoZ,zoZ,zoZ,zoZ,zoZ,zoZ,zoZ,zoZ,zoZ,zoZ,zoZ,zoZ,zoZ,zoZ,zoZ,zoZ,zoZ,zoZ,zoZ,zoZ,zoZ,zoZ,zoZ,zoZ,zoZ,zoZ,U,U])] (zaW [(⟨w.heap.size,5,none⟩,.int .i64 len),(⟨w.heap.size,4,none⟩,.int .i64 (q:Int)),(⟨w.heap.size,3,none⟩,.slice (some ⟨g,o,none⟩) bytes.length cb)]) (by kernel_rfl) (hC) (fun Y Q4 F4 hY hF=> ?_);simp only[zpB]
   repeat
    apply zE (by rw[hY];rfl)
    ·intro w2 hS2;(try simp only[Keeps,zaW,Cells]at hS2);go_simp;with_reducible rfl
    simp only[zpA]
   apply zS (by rw[hY];rfl)
   ·go_simp;with_reducible exact⟨rfl,rfl⟩
   refine(HR.out _ hB0d).mono ?_;rintro e w1 ⟨rfl,hb1⟩;refine⟨_,rfl,Cells.step (zA (zaK w0.heap.size w0) hb1) hC,?_⟩;simp only[zpA]
   repeat
    apply zE (by rw[hY];rfl)
    ·intro w2 hS2;(try simp only[Keeps,zaW,Cells]at hS2);go_simp;with_reducible rfl
    simp only[zpA]
   refine zV (hF.out _ _ (fun K hK=> ?_));clear hF hY;go_wp2_with fail;refine OnlyK.mk (hK.out _ _ ?_);clear hK;have hB1:=zA hB0d hb1;have B2:=B1.step (zA (zaK w0.heap.size w0) hb1);have hC1:zaW [(⟨w.heap.size,3,none⟩,.slice (some ⟨g,o,none⟩) bytes.length cb),(⟨w.heap.size,4,none⟩,.int .i64 (q:Int)),(⟨w.heap.size,6,none⟩,.int .i64 (pt:Int)),(⟨g,o+q,none⟩,.int .u8 (x:Int))] w1:=⟨B2.cell 3,B2.cell 4,B2.cell 6,(hB1.cell (p:=⟨g,o+q,none⟩) lq).trans yq,yJ⟩;go_wp2_with fail;refine zpD 13 1 [(U,[U,U,U,U,U,U,U,U]),(zoZ,[zoZ,zoZ,zoZ,zoZ,zoZ,zoZ,zoZ,zoZ,U]),(U,[zoZ,zoZ,zoZ,zoZ,zoZ,zoZ,zoZ,zoZ,zoZ,U,U,U]),(zoZ,[zoZ,zoZ,zoZ,zoZ,zoZ,zoZ,zoZ,zoZ,zoZ,zoZ,zoZ,zoZ,U])] (zaW [(⟨w.heap.size,3,none⟩,.slice (some ⟨g,o,none⟩) bytes.length cb),(⟨w.heap.size,4,none⟩,.int .i64 (q:Int)),(⟨w.heap.size,6,none⟩,.int .i64 (pt:Int)),(⟨g,o+q,none⟩,.int .u8 (x:Int))]) (by kernel_rfl) (hC1) (fun Y Q4 F4 hY hF=> ?_);simp only[zpB]
   repeat
    apply zE (by rw[hY];rfl)
    ·intro w2 hS2;(try simp only[Keeps,zaW,Cells]at hS2);go_simp;with_reducible rfl
    simp only[zpA]
   apply zS (by rw[hY];rfl)
   ·go_simp;with_reducible exact⟨rfl,rfl⟩
   refine(HE.out _).mono ?_;rintro e w2 ⟨rfl,hb2⟩;have hE2:=zA (zaK w1.heap.size w1) hb2;refine⟨_,rfl,Cells.step hE2 hC1,?_⟩;simp only[zpA]
   repeat
    apply zE (by rw[hY];rfl)
    ·intro w2 hS2;(try simp only[Keeps,zaW,Cells]at hS2);go_simp;with_reducible rfl
    simp only[zpA]
   refine zbS (by rw[hY];rfl) (by go_simp;first|with_reducible exact⟨rfl,rfl⟩|with_reducible rfl) (Cells.step hE2 hC1) ?_;simp only[zpA];refine zV (hF.out _ _ (fun K hK=> ?_));clear hF hY;go_wp2_with fail;refine OnlyK.mk (hK.out _ _ ?_);clear hK;have hB2:=zA hB1 hE2;have y7:w2.cell? ⟨w.heap.size,7,none⟩=some (.int .i64 bit):=(B2.step hE2).cell 7;go_wp2_with fail;go_returns;exact⟨yT (by first|(by_cases hev:(ev:Int)=bit<;>simp[S12.optN,hev];done)|simp[S12.optN]),hB2⟩
theorem rcheck12_any(m:S12.M)(p:Pl)(w:World)(hM:MIs m p w) :
 Calls Tryz.prog 82 #[MV m p] w fun e w'=>e = .returned (.int .i64 (S12.check m))∧Below w.heap.size w w':=by
 obtain⟨R,hR⟩:∃R,S12.check m=R:=⟨_,rfl⟩;rw[hR];unfold S12.check at hR;have HMt:=zD fun(hl:m.bytes.length≤65536) hpt W hW=>zmN m p W hl hpt hW;obtain⟨MT,hMT⟩:∃MT,S12.matched m=MT:=⟨_,rfl⟩;rw[hMT]at hR HMt;obtain⟨FA,hFA⟩:∃FA,S12.far m=FA:=⟨_,rfl⟩;obtain⟨BA,hBA⟩:∃BA,S12.bad m=BA:=⟨_,rfl⟩;rw[hFA,hBA]at hR;have hfo:S12.form m=(decide (m.heads.length=2^m.bits.toNat)&&decide (m.ctrs.length=16)&&decide (1≤m.part∧m.part≤255)):=rfl;rw[hfo]at hR;have HFA:=zD (show(m.heads.any fun h=> !decide (0≤h∧h≤(m.bytes.length:Int)))=FA from hFA);have HBA:=zD (show(m.ctrs.any fun c=>S08.check c.1 c.2 255 != 0)=BA from hBA);clear hFA hBA hMT hfo;have HM:=zD hM;have hlen:=hM.lb;have hlh:=hM.lh;have hlc:=hM.lc;clear hM;obtain⟨bits,least,heads,bytes,at_,len,part,bit,ctrs⟩:=m;obtain⟨ah,ch,ab,cb,ac,cc⟩:=p;simp only at hR hlen hlh hlc HFA HBA;unfold MV zbR at *;simp only at *;have B0:=Blk.new w [.int .i64 bits,.int .i64 least,.slice ah heads.length ch,.slice ab bytes.length cb,.int .i64 at_,.int .i64 len,.int .i64 part,.int .i64 bit,.slice ac ctrs.length cc] 77;have hB0:Below w.heap.size w (w.alloc (.cells #[.int .i64 bits,.int .i64 least,.slice ah heads.length ch,.slice ab bytes.length cb,.int .i64 at_,.int .i64 len,.int .i64 part,.int .i64 bit,.slice ac ctrs.length cc] 77)):=(zJ _ _).alloc (zF _) _;obtain⟨w0,hw0⟩:∃w0,(w.alloc (.cells #[.int .i64 bits,.int .i64 least,.slice ah heads.length ch,.slice ab bytes.length cb,.int .i64 at_,.int .i64 len,.int .i64 part,.int .i64 bit,.slice ac ctrs.length cc] 77))=w0:=⟨_,rfl⟩;rw[hw0]at hB0;have B1:Blk w0 w.heap.size [.int .i64 bits,.int .i64 least,.slice ah heads.length ch,.slice ab bytes.length cb,.int .i64 at_,.int .i64 len,.int .i64 part,.int .i64 bit,.slice ac ctrs.length cc] 77:=by rw[←hw0];exact B0
 clear B0;have p0:w0.cell? ⟨w.heap.size,0,none⟩=some (.int .i64 bits):=B1.cell 0;have p1:w0.cell? ⟨w.heap.size,1,none⟩=some (.int .i64 least):=B1.cell 1;have p3:w0.cell? ⟨w.heap.size,3,none⟩=some (.slice ab bytes.length cb):=B1.cell 3;by_cases b1:bits<1
 ·rw[zY (by omega)]at hR;subst hR;go_enter Tryz.func82,Tryz.ntmps82;go_wp2_with fail;go_returns;exact⟨rfl,hB0⟩
 by_cases b2:16<bits
 ·rw[zY (by omega)]at hR;subst hR;go_enter Tryz.func82,Tryz.ntmps82;go_wp2_with fail;go_returns;exact⟨rfl,hB0⟩
 by_cases b3:least<1
 ·rw[zY (by omega)]at hR;subst hR;go_enter Tryz.func82,Tryz.ntmps82;go_wp2_with fail;go_returns;exact⟨rfl,hB0⟩
 by_cases b4:32<least
 ·rw[zY (by omega)]at hR;subst hR;go_enter Tryz.func82,Tryz.ntmps82;go_wp2_with fail;go_returns;exact⟨rfl,hB0⟩
 rw[zR (by omega)]at hR;have lpre:(bytes.length:Int)=bytes.length:=rfl;by_cases h3:65536<bytes.length
 ·rw[zY h3]at hR;subst hR;have e3:decide ((65536:Int)<(bytes.length:Int))=true:=zO (by omega);go_enter Tryz.func82,Tryz.ntmps82;go_wp2_with fail;go_returns;exact⟨rfl,hB0⟩
 rw[zR h3]at hR;have e3:decide ((65536:Int)<(bytes.length:Int))=false:=zK (by omega);obtain⟨bn,rfl⟩:∃bn:Nat,bits=bn:=⟨bits.toNat,by omega⟩;have b1n:¬bn<1:=by omega
 have b1z:¬bn=0:=by omega
 have b2n:¬16<bn:=by omega
 have e1d:decide ((bn:Int)<1)=false:=zK (by omega);have e2d:decide (16<(bn:Int))=false:=zK (by omega);have e3n:¬65536<bytes.length:=by omega
 have q2:w0.cell? ⟨w.heap.size,2,none⟩=some (.slice ah heads.length ch):=B1.cell 2;have q6:w0.cell? ⟨w.heap.size,6,none⟩=some (.int .i64 part):=B1.cell 6;have q8:w0.cell? ⟨w.heap.size,8,none⟩=some (.slice ac ctrs.length cc):=B1.cell 8;have hC:zaW [(⟨w.heap.size,2,none⟩,.slice ah heads.length ch),(⟨w.heap.size,0,none⟩,.int .i64 (bn:Int)),(⟨w.heap.size,8,none⟩,.slice ac ctrs.length cc),(⟨w.heap.size,6,none⟩,.int .i64 part)] w0:=⟨q2,p0,q8,q6,yJ⟩;rw[Int.toNat_natCast]at hR;have hps:2^bn≤65536:=Nat.pow_le_pow_right (n:=2) (by omega) (show bn≤16 by omega);have hsh:IntKind.i64.wrap ((2:Int)^bn)=((2^bn:Nat):Int):=by
  have e:(2:Int)^bn=((2^bn:Nat):Int):=by simp
  rw[e];exact zcE (by omega)
 obtain⟨N,hN⟩:∃N,2^bn=N:=⟨_,rfl⟩;rw[hN]at hsh hps hR;clear hN;have hB0d:=hB0.drew;have hlbn:bn<64:=by omega
 by_cases h4:¬heads.length=N
 ·have e4:((heads.length:Int) != (N:Int))=true:=by simp;omega
  rw[zK h4,Bool.false_and,Bool.false_and,zY rfl]at hR;subst hR;go_enter Tryz.func82,Tryz.ntmps82;go_wp2_with fail;refine zpD 23 0 [(U,[U,U,U,U,U,U,U,U,U,U,U,U,U,U,U,U,U,U,U,U,U,U,U])] (zaW [(⟨w.heap.size,2,none⟩,.slice ah heads.length ch),(⟨w.heap.size,0,none⟩,.int .i64 (bn:Int)),(⟨w.heap.size,8,none⟩,.slice ac ctrs.length cc),(⟨w.heap.size,6,none⟩,.int .i64 part)]) (by kernel_rfl) (hC) (fun Y Q4 F4 hY hF=> ?_);simp only[zpB]
  repeat
   apply zE (by rw[hY];rfl)
   ·intro w2 hS2;(try simp only[Keeps,zaW,Cells]at hS2);go_simp;with_reducible rfl
   simp only[zpA]
  repeat
   first
    | (apply zQ (by rw[hY];rfl);simp only[zpA])
    | (apply zE (by rw[hY];rfl)
       ·intro w2 hS2;(try simp only[Keeps,zaW,Cells]at hS2);go_simp;with_reducible rfl
       simp only[zpA])
  repeat
   first
    | (apply zQ (by rw[hY];rfl);simp only[zpA])
    | (refine yI (by rw[hY];rfl) (hC) ?_;simp only[zpA])
  repeat
   first
    | (apply zQ (by rw[hY];rfl);simp only[zpA])
    | (apply zE (by rw[hY];rfl)
       ·intro w2 hS2;(try simp only[Keeps,zaW,Cells]at hS2);go_simp;with_reducible rfl
       simp only[zpA])
  refine zV (hF.out _ _ (fun K hK=> ?_));clear hF hY;go_wp2_with fail;refine OnlyK.mk (hK.out _ _ ?_);clear hK;go_wp2_with fail;go_returns;exact⟨rfl,hB0d⟩
 replace h4:=Classical.not_not.1 h4;have e4:((heads.length:Int) != (N:Int))=false:=by simp;omega
 rw[zO h4,zaY]at hR;have H4:=zD h4;clear h4;by_cases h5:¬ctrs.length=16
 ·have e5:((ctrs.length:Int) != 16)=true:=by simp;omega
  rw[zK h5,Bool.false_and,zY rfl]at hR;subst hR;go_enter Tryz.func82,Tryz.ntmps82;go_wp2_with fail;refine zpD 23 0 [(U,[U,U,U,U,U,U,U,U,U,U,U,U,U,U,U,U,U,U,U,U,U,U,U])] (zaW [(⟨w.heap.size,2,none⟩,.slice ah heads.length ch),(⟨w.heap.size,0,none⟩,.int .i64 (bn:Int)),(⟨w.heap.size,8,none⟩,.slice ac ctrs.length cc),(⟨w.heap.size,6,none⟩,.int .i64 part)]) (by kernel_rfl) (hC) (fun Y Q4 F4 hY hF=> ?_);simp only[zpB]
  repeat
   apply zE (by rw[hY];rfl)
   ·intro w2 hS2;(try simp only[Keeps,zaW,Cells]at hS2);go_simp;with_reducible rfl
   simp only[zpA]
  repeat
   first
    | (apply zQ (by rw[hY];rfl);simp only[zpA])
    | (apply zE (by rw[hY];rfl)
       ·intro w2 hS2;(try simp only[Keeps,zaW,Cells]at hS2);go_simp;with_reducible rfl
       simp only[zpA])
  repeat
   first
    | (apply zQ (by rw[hY];rfl);simp only[zpA])
    | (refine yI (by rw[hY];rfl) (hC) ?_;simp only[zpA])
  repeat
   first
    | (apply zQ (by rw[hY];rfl);simp only[zpA])
    | (apply zE (by rw[hY];rfl)
       ·intro w2 hS2;(try simp only[Keeps,zaW,Cells]at hS2);go_simp;with_reducible rfl
       simp only[zpA])
  refine zV (hF.out _ _ (fun K hK=> ?_));clear hF hY;go_wp2_with fail;refine OnlyK.mk (hK.out _ _ ?_);clear hK;go_wp2_with fail;go_returns;exact⟨rfl,hB0d⟩
 replace h5:=Classical.not_not.1 h5;have e5:((ctrs.length:Int) != 16)=false:=by simp;omega
 rw[zO h5,zaY]at hR;have H5:=zD h5;clear h5;by_cases h6:part<1
 ·have d6:decide (part<1)=true:=zO h6;rw[zK (show¬(1≤part∧part≤255) by omega),zY rfl]at hR;subst hR;go_enter Tryz.func82,Tryz.ntmps82;go_wp2_with fail;refine zpD 23 0 [(U,[U,U,U,U,U,U,U,U,U,U,U,U,U,U,U,U,U,U,U,U,U,U,U])] (zaW [(⟨w.heap.size,2,none⟩,.slice ah heads.length ch),(⟨w.heap.size,0,none⟩,.int .i64 (bn:Int)),(⟨w.heap.size,8,none⟩,.slice ac ctrs.length cc),(⟨w.heap.size,6,none⟩,.int .i64 part)]) (by kernel_rfl) (hC) (fun Y Q4 F4 hY hF=> ?_);simp only[zpB]
  repeat
   apply zE (by rw[hY];rfl)
   ·intro w2 hS2;(try simp only[Keeps,zaW,Cells]at hS2);go_simp;with_reducible rfl
   simp only[zpA]
  repeat
   first
    | (apply zQ (by rw[hY];rfl);simp only[zpA])
    | (apply zE (by rw[hY];rfl)
       ·intro w2 hS2;(try simp only[Keeps,zaW,Cells]at hS2);go_simp;with_reducible rfl
       simp only[zpA])
  repeat
   first
    | (apply zQ (by rw[hY];rfl);simp only[zpA])
    | (refine yI (by rw[hY];rfl) (hC) ?_;simp only[zpA])
  repeat
   first
    | (apply zQ (by rw[hY];rfl);simp only[zpA])
    | (apply zE (by rw[hY];rfl)
       ·intro w2 hS2;(try simp only[Keeps,zaW,Cells]at hS2);go_simp;with_reducible rfl
       simp only[zpA])
  refine zV (hF.out _ _ (fun K hK=> ?_));clear hF hY;go_wp2_with fail;refine OnlyK.mk (hK.out _ _ ?_);clear hK;go_wp2_with fail;go_returns;exact⟨rfl,hB0d⟩
 have d6:decide (part<1)=false:=zK h6;by_cases h7:255<part
 ·have d7:decide (255<part)=true:=zO h7;rw[zK (show¬(1≤part∧part≤255) by omega),zY rfl]at hR;subst hR;go_enter Tryz.func82,Tryz.ntmps82;go_wp2_with fail;refine zpD 23 0 [(U,[U,U,U,U,U,U,U,U,U,U,U,U,U,U,U,U,U,U,U,U,U,U,U])] (zaW [(⟨w.heap.size,2,none⟩,.slice ah heads.length ch),(⟨w.heap.size,0,none⟩,.int .i64 (bn:Int)),(⟨w.heap.size,8,none⟩,.slice ac ctrs.length cc),(⟨w.heap.size,6,none⟩,.int .i64 part)]) (by kernel_rfl) (hC) (fun Y Q4 F4 hY hF=> ?_);simp only[zpB]
  repeat
   apply zE (by rw[hY];rfl)
   ·intro w2 hS2;(try simp only[Keeps,zaW,Cells]at hS2);go_simp;with_reducible rfl
   simp only[zpA]
  repeat
   first
    | (apply zQ (by rw[hY];rfl);simp only[zpA])
    | (apply zE (by rw[hY];rfl)
       ·intro w2 hS2;(try simp only[Keeps,zaW,Cells]at hS2);go_simp;with_reducible rfl
       simp only[zpA])
  repeat
   first
    | (apply zQ (by rw[hY];rfl);simp only[zpA])
    | (refine yI (by rw[hY];rfl) (hC) ?_;simp only[zpA])
  repeat
   first
    | (apply zQ (by rw[hY];rfl);simp only[zpA])
    | (apply zE (by rw[hY];rfl)
       ·intro w2 hS2;(try simp only[Keeps,zaW,Cells]at hS2);go_simp;with_reducible rfl
       simp only[zpA])
  refine zV (hF.out _ _ (fun K hK=> ?_));clear hF hY;go_wp2_with fail;refine OnlyK.mk (hK.out _ _ ?_);clear hK;go_wp2_with fail;go_returns;exact⟨rfl,hB0d⟩
 have d7:decide (255<part)=false:=zK h7;rw[zO (show 1≤part∧part≤255 by omega),zR (by simp)]at hR;have hlb:bytes.length≤65536:=by omega
 have hpt:1≤part∧part≤255:=by omega
 have HMt2:=zD fun W hW=>HMt.out hlb hpt W hW;have HR:=zD hR;clear HMt hR h3 h6 h7 b1 b2 lpre;go_enter Tryz.func82,Tryz.ntmps82;go_wp2_with fail;refine zpD 23 0 [(U,[U,U,U,U,U,U,U,U,U,U,U,U,U,U,U,U,U,U,U,U,U,U,U])] (zaW [(⟨w.heap.size,2,none⟩,.slice ah heads.length ch),(⟨w.heap.size,0,none⟩,.int .i64 (bn:Int)),(⟨w.heap.size,8,none⟩,.slice ac ctrs.length cc),(⟨w.heap.size,6,none⟩,.int .i64 part)]) (by kernel_rfl) (hC) (fun Y Q4 F4 hY hF=> ?_);simp only[zpB]
 repeat
  apply zE (by rw[hY];rfl)
  ·intro w2 hS2;(try simp only[Keeps,zaW,Cells]at hS2);go_simp;with_reducible rfl
  simp only[zpA]
 repeat
  first
   | (apply zQ (by rw[hY];rfl);simp only[zpA])
   | (apply zE (by rw[hY];rfl)
      ·intro w2 hS2;(try simp only[Keeps,zaW,Cells]at hS2);go_simp;with_reducible rfl
      simp only[zpA])
 refine zV (hF.out _ _ (fun K hK=> ?_));clear hF hY;go_wp2_with fail;refine OnlyK.mk (hK.out _ _ ?_);clear hK;clear b1n b1z b2n e1d e2d b3 b4 e3n hC q2 q6 q8 p0 p1 p3 e3 e4 d6 d7 hsh hps hw0;have B2:=B1.step (zaK w0.heap.size w0);clear B1;go_wp2_with fail;go_loopw [3] (fun i wr=>∃k:Nat,k≤heads.length∧i = .int .i64 (k:Int)∧((heads.take k).any fun h=> !decide (0≤h∧h≤(bytes.length:Int)))=false∧Blk wr w.heap.size [.int .i64 (bn:Int),.int .i64 least,.slice ah heads.length ch,.slice ab bytes.length cb,.int .i64 at_,.int .i64 len,.int .i64 part,.int .i64 bit,.slice ac ctrs.length cc] 77∧Below w.heap.size w wr) (fun i _=>heads.length-(intOf i).toNat)
 case atStart=>exact⟨0,by omega,rfl,rfl,B2,hB0d⟩
 case round=>
  obtain⟨k,hk,rfl,hno,BR,hB⟩:=hrel;have r2:wr.cell? ⟨w.heap.size,2,none⟩=some (.slice ah heads.length ch):=BR.cell 2;have r3:wr.cell? ⟨w.heap.size,3,none⟩=some (.slice ab bytes.length cb):=BR.cell 3;have Hno:=zD hno;clear hno B2 hB0 hB0d;by_cases hlt:k<heads.length
  ·have hdk:decide ((k:Int)<(heads.length:Int))=true:=zO (by omega);obtain⟨g,o,rfl,hcs⟩:=(HM.out.rdh.step hB).at (i:=k) (by rw[yM];exact hlt);have hc:wr.cell? ⟨g,o+k,none⟩=some (.int .i64 heads[k]):=by rw[hcs k (by rw[yM];exact hlt)];simp[zbU]
   have Hs:=zD (zbC (fun h=> !decide (0≤h∧h≤(bytes.length:Int))) heads k hlt);have Ha:=zD (zcX (fun h=> !decide (0≤h∧h≤(bytes.length:Int))) heads k hlt);obtain⟨x,hx⟩:∃x,heads[k]=x:=⟨_,rfl⟩;rw[hx]at hc Hs Ha;have hC:zaW [(⟨w.heap.size,2,none⟩,.slice (some ⟨g,o,none⟩) heads.length ch),(⟨w.heap.size,3,none⟩,.slice ab bytes.length cb),(⟨g,o+k,none⟩,.int .i64 x)] wr:=⟨r2,r3,hc,yJ⟩;have hBd:=hB.drew;clear hcs hx;by_cases x1:x<0
   ·have dx:decide (x<0)=true:=zO x1;have ht:(!decide (0≤x∧x≤(bytes.length:Int)))=true:=by simp;omega
    have hfa:=Ha.out ht;rw[HFA.out]at hfa;have hR:=HR.out;rw[zY (.inl hfa)]at hR;clear ht hfa;subst hR;go_wp2_with fail;refine zpD 17 0 [(U,[U,U,U,U,U,U,U,U,U,U,U,U,U,U,U,U,U])] (zaW [(⟨w.heap.size,2,none⟩,.slice (some ⟨g,o,none⟩) heads.length ch),(⟨w.heap.size,3,none⟩,.slice ab bytes.length cb),(⟨g,o+k,none⟩,.int .i64 x)]) (by kernel_rfl) (hC) (fun Y Q4 F4 hY hF=> ?_);simp only[zpB]
    repeat
     apply zE (by rw[hY];rfl)
     ·intro w2 hS2;(try simp only[Keeps,zaW,Cells]at hS2);go_simp;with_reducible rfl
     simp only[zpA]
    repeat
     first
      | (apply zQ (by rw[hY];rfl);simp only[zpA])
      | (apply zE (by rw[hY];rfl)
         ·intro w2 hS2;(try simp only[Keeps,zaW,Cells]at hS2);go_simp;with_reducible rfl
         simp only[zpA])
    repeat
     first
      | (apply zQ (by rw[hY];rfl);simp only[zpA])
      | (refine yI (by rw[hY];rfl) (hC) ?_;simp only[zpA])
    repeat
     first
      | (apply zQ (by rw[hY];rfl);simp only[zpA])
      | (apply zE (by rw[hY];rfl)
         ·intro w2 hS2;(try simp only[Keeps,zaW,Cells]at hS2);go_simp;with_reducible rfl
         simp only[zpA])
    refine zV (hF.out _ _ (fun K hK=> ?_));clear hF hY;go_wp2_with fail;refine OnlyK.mk (hK.out _ _ ?_);clear hK;go_wp2_with fail;go_returns;exact⟨rfl,hBd⟩
   have dx1:decide (x<0)=false:=zK x1;by_cases x2:(bytes.length:Int)<x
   ·have dx:decide ((bytes.length:Int)<x)=true:=zO x2;have ht:(!decide (0≤x∧x≤(bytes.length:Int)))=true:=by simp;omega
    have hfa:=Ha.out ht;rw[HFA.out]at hfa;have hR:=HR.out;rw[zY (.inl hfa)]at hR;clear ht hfa;subst hR;go_wp2_with fail;refine zpD 17 0 [(U,[U,U,U,U,U,U,U,U,U,U,U,U,U,U,U,U,U])] (zaW [(⟨w.heap.size,2,none⟩,.slice (some ⟨g,o,none⟩) heads.length ch),(⟨w.heap.size,3,none⟩,.slice ab bytes.length cb),(⟨g,o+k,none⟩,.int .i64 x)]) (by kernel_rfl) (hC) (fun Y Q4 F4 hY hF=> ?_);simp only[zpB]
    repeat
     apply zE (by rw[hY];rfl)
     ·intro w2 hS2;(try simp only[Keeps,zaW,Cells]at hS2);go_simp;with_reducible rfl
     simp only[zpA]
    repeat
     first
      | (apply zQ (by rw[hY];rfl);simp only[zpA])
      | (apply zE (by rw[hY];rfl)
         ·intro w2 hS2;(try simp only[Keeps,zaW,Cells]at hS2);go_simp;with_reducible rfl
         simp only[zpA])
    repeat
     first
      | (apply zQ (by rw[hY];rfl);simp only[zpA])
      | (refine yI (by rw[hY];rfl) (hC) ?_;simp only[zpA])
    repeat
     first
      | (apply zQ (by rw[hY];rfl);simp only[zpA])
      | (apply zE (by rw[hY];rfl)
         ·intro w2 hS2;(try simp only[Keeps,zaW,Cells]at hS2);go_simp;with_reducible rfl
         simp only[zpA])
    refine zV (hF.out _ _ (fun K hK=> ?_));clear hF hY;go_wp2_with fail;refine OnlyK.mk (hK.out _ _ ?_);clear hK;go_wp2_with fail;go_returns;exact⟨rfl,hBd⟩
   have dx2:decide ((bytes.length:Int)<x)=false:=zK x2
   have Hn:=zD (show((heads.take (k+1)).any fun h=> !decide (0≤h∧h≤(bytes.length:Int)))=false by
    have h0:(!decide (0≤x∧x≤(bytes.length:Int)))=false:=by simp;omega
    rw[Hs.out,Hno.out,h0];rfl)
   have BR2:=BR.step (zaK wr.heap.size wr);go_wp2_with fail;refine zpD 17 0 [(U,[U,U,U,U,U,U,U,U,U,U,U,U,U,U,U,U,U])] (zaW [(⟨w.heap.size,2,none⟩,.slice (some ⟨g,o,none⟩) heads.length ch),(⟨w.heap.size,3,none⟩,.slice ab bytes.length cb),(⟨g,o+k,none⟩,.int .i64 x)]) (by kernel_rfl) (hC) (fun Y Q4 F4 hY hF=> ?_);simp only[zpB]
   repeat
    apply zE (by rw[hY];rfl)
    ·intro w2 hS2;(try simp only[Keeps,zaW,Cells]at hS2);go_simp;with_reducible rfl
    simp only[zpA]
   repeat
    first
     | (apply zQ (by rw[hY];rfl);simp only[zpA])
     | (apply zE (by rw[hY];rfl)
        ·intro w2 hS2;(try simp only[Keeps,zaW,Cells]at hS2);go_simp;with_reducible rfl
        simp only[zpA])
   refine zV (hF.out _ _ (fun K hK=> ?_));clear hF hY;go_wp2_with fail;refine OnlyK.mk (hK.out _ _ ?_);clear hK;go_wp2_with fail;go_roundw
   case rel=>exact⟨k+1,by omega,by go_num,Hn.out,BR2,hBd⟩
   case measure=>simp[intOf];omega
  ·obtain rfl:k=heads.length:=by omega
   have hdk:decide ((heads.length:Int)<(heads.length:Int))=false:=zK (by omega);have hFA0:FA=false:=by have:=Hno.out;rw[zcD,HFA.out]at this;exact this
   clear HFA Hno;subst hFA0;go_wp2_with fail;clear hdk r2 r3;go_loopw [4] (fun i ws=>∃k:Nat,k≤16∧i = .int .i64 (k:Int)∧((ctrs.take k).any fun c=>S08.check c.1 c.2 255 != 0)=false∧Blk ws w.heap.size [.int .i64 (bn:Int),.int .i64 least,.slice ah heads.length ch,.slice ab bytes.length cb,.int .i64 at_,.int .i64 len,.int .i64 part,.int .i64 bit,.slice ac ctrs.length cc] 77∧Below w.heap.size w ws) (fun i _=>16-(intOf i).toNat)
   case atStart=>exact⟨0,by omega,rfl,rfl,BR,hB⟩
   case round=>
    obtain⟨k,hk,rfl,hno,BS,hB2⟩:=hrel;have Hno:=zD hno;clear hno BR hB;have s0:=BS.cell 0;have s1:=BS.cell 1;have s2:=BS.cell 2;have s3:=BS.cell 3;have s4:=BS.cell 4;have s5:=BS.cell 5;have s6:=BS.cell 6;have s7:=BS.cell 7;have s8:=BS.cell 8;simp only[zpC]at s0 s1 s2 s3 s4 s5 s6 s7 s8;by_cases hlt:k<16
    ·have hlc2:k<ctrs.length:=by rw[H5.out];exact hlt
     have hdk:decide ((k:Int)<16)=true:=zO (by omega);obtain⟨g,o,rfl,hcs⟩:=(HM.out.rdc.step hB2) (fun e=>by have:=yQ List.length e;rw[zbQ]at this;simp at this;omega);have hc0:=hcs (k*2) _ (zfN hlc2).1;have hc1:=hcs (k*2+1) _ (zfN hlc2).2;have Hs:=zD (zbC (fun c=>S08.check c.1 c.2 255 != 0) ctrs k hlc2);have Ha:=zD (zcX (fun c=>S08.check c.1 c.2 255 != 0) ctrs k hlc2);obtain⟨x,hx⟩:∃x,ctrs[k]=x:=⟨_,rfl⟩;rw[hx]at hc0 hc1 Hs Ha;clear hcs hx;obtain⟨x0,x1⟩:=x;simp only at hc0 hc1;rw[←Nat.add_assoc]at hc1;have HT:=zD fun W=>zfV x0 x1 255 W;obtain⟨ck,hck⟩:∃ck,S08.check x0 x1 255=ck:=⟨_,rfl⟩;have Hck:=zD hck;rw[hck]at HT;clear hck;by_cases hz:ck=0
     ·subst hz;have Hn:=zD (show((ctrs.take (k+1)).any fun c=>S08.check c.1 c.2 255 != 0)=false by rw[Hs.out,Hno.out];simp only;rw[Hck.out];rfl);go_wp2_with fail;refine(HT.out _).mono ?_;rintro e w5 ⟨rfl,hb5⟩;have hB5:=zA hB2 hb5;have BS5:=BS.step hb5;go_wp2_with fail;go_roundw
      case rel=>exact⟨k+1,by omega,by go_num,Hn.out,BS5,hB5⟩
      case measure=>simp[intOf];omega
     ·have hne:(ck != 0)=true:=by simp[hz]
      have hba:=Ha.out (by simp only;rw[Hck.out];exact hne);rw[HBA.out]at hba;have hR:=HR.out;rw[zY (.inr (.inl hba))]at hR;clear hba;subst hR;go_wp2_with fail;refine(HT.out _).mono ?_;rintro e w5 ⟨rfl,hb5⟩;have hB5:=zA hB2 hb5;go_wp2_with fail;go_returns;exact⟨rfl,hB5⟩
    ·obtain rfl:k=16:=by omega
     have hBA0:BA=false:=by have:=Hno.out;rw[List.take_of_length_le (Nat.le_of_eq H5.out),HBA.out]at this;exact this
     have hR:=HR.out;clear HBA Hno;subst hBA0;go_wp2_with fail;refine(HMt2.out _ (HM.out.step hB2)).mono ?_;rintro e w7 ⟨rfl,hb7⟩;have hB7:=zA hB2 hb7;cases MT with
     | true=>
       rw[zR (by simp)]at hR;subst hR;go_wp2;go_returns;exact⟨rfl,hB7⟩
     | false=>
       rw[zY (by simp)]at hR;subst hR;go_wp2;go_returns;exact⟨rfl,hB7⟩
theorem zfD(xs:List (Int×Int))(a b:Option Addr)(ca cb:Nat)(w:World)(hn:xs.length≤100000)(ha:Rd w a (Cts xs))(hb:Rd w b (Cts xs)) :
 Calls Tryz.prog 75 #[.slice a xs.length ca,.slice b xs.length cb] w fun e w'=>e = .returned (.bool true)∧Below w.heap.size w w':=by
 obtain⟨n,hnn⟩:∃n,xs.length=n:=⟨_,rfl⟩;have hat:∀k,k<n→∃x:Int×Int,(Cts xs)[k*2]? = some (.int .i64 x.1)∧(Cts xs)[k*2+1]? = some (.int .i64 x.2):=fun k hk=>⟨xs[k]'(by omega),zfN (by omega)⟩;have Hat:=zD hat;have Hne:=zD (fun(e:Cts xs = [])=>show n=0 by have:=yQ List.length e;rw[zbQ]at this;simp at this;omega);rw[hnn]at hn⊢;clear hat hnn;go_enter Tryz.func75,Tryz.ntmps75;go_wp2_with fail
 go_loopw [5] (fun i wr=>∃k:Nat,k≤n∧i = .int .i64 k∧Below w.heap.size w wr)
  (fun i _=>n-(intOf i).toNat)
 case atStart=>exact⟨0,by omega,rfl,by go_grown⟩
 case round=>
  obtain⟨k,hk,rfl,hB⟩:=hrel;by_cases hlt:k<n
  ·have hl4:(k:Int)<(n:Int):=by omega
   have hne:Cts xs≠ []:=fun e=>by have:=Hne.out e;omega
   obtain⟨⟨x0,x1⟩,hx0,hx1⟩:=Hat.out k hlt;obtain⟨ba,oa,rfl,hra⟩:=(ha.step hB) hne;obtain⟨bb,ob,rfl,hrb⟩:=(hb.step hB) hne;have c1:=hra (k*2) _ hx0;have c2:=hra (k*2+1) _ hx1;have c3:=hrb (k*2) _ hx0;have c4:=hrb (k*2+1) _ hx1;rw[←Nat.add_assoc]at c2 c4;simp only at c1 c2 c3 c4;clear hra hrb hx0 hx1 hne;have hC:zaW [(⟨ba,oa+k*2,none⟩,.int .i64 x0),(⟨ba,oa+k*2+1,none⟩,.int .i64 x1),(⟨bb,ob+k*2,none⟩,.int .i64 x0),(⟨bb,ob+k*2+1,none⟩,.int .i64 x1)] wr:=⟨c1,c2,c3,c4,yJ⟩;have hk0:0≤(k:Int):=by omega
   have hB4:=hB.drew;go_wp2_with fail;refine zpD 9 0 [(U,[U,U,U,U,U,U,U,U,U])] (zaW [(⟨ba,oa+k*2,none⟩,.int .i64 x0),(⟨ba,oa+k*2+1,none⟩,.int .i64 x1),(⟨bb,ob+k*2,none⟩,.int .i64 x0),(⟨bb,ob+k*2+1,none⟩,.int .i64 x1)]) (by kernel_rfl) (hC) (fun Y Q4 F4 hY hF=> ?_);simp only[zpB]
   repeat
    apply zE (by rw[hY];rfl)
    ·intro w2 hS2;(try simp only[Keeps,zaW,Cells]at hS2);go_simp;with_reducible rfl
    simp only[zpA]
   repeat
    first
     | (apply zQ (by rw[hY];rfl);simp only[zpA])
     | (apply zE (by rw[hY];rfl)
        ·intro w2 hS2;(try simp only[Keeps,zaW,Cells]at hS2);go_simp;with_reducible rfl
        simp only[zpA])
   refine zV (hF.out _ _ (fun K hK=> ?_));clear hF hY;go_wp2_with fail;refine OnlyK.mk (hK.out _ _ ?_);clear hK;go_wp2;go_roundw
   case rel=>exact⟨k+1,by omega,by go_num,hB4⟩
   case measure=>simp[intOf];omega
  ·obtain rfl:k=n:=by omega
   go_wp2;go_returns;exact⟨rfl,hB⟩
theorem rsame12_eq(m:S12.M)(p q:Pl)(w:World)(hp:MIs m p w)(hq:MIs m q w)(hc:m.ctrs.length≤100000) :
 Calls Tryz.prog 77 #[MV m p,MV m q] w fun e w'=>e = .returned (.bool true)∧Below w.heap.size w w':=by
 have HP:=zD hp;have HQ:=zD hq;have lh:=hp.lh;have lb:=hp.lb;clear hp hq;obtain⟨bits,least,heads,bytes,at_,len,part,bit,ctrs⟩:=m;obtain⟨a1h,c1h,a1b,c1b,a1c,c1c⟩:=p;obtain⟨a2h,c2h,a2b,c2b,a2c,c2c⟩:=q;simp only at lh lb hc;have HA:=zD fun W h1 h2=>zfD ctrs a1c a2c c1c c2c W hc h1 h2;unfold MV zbR;simp only;have B0:=Blk.new w [.int .i64 bits,.int .i64 least,.slice a1h heads.length c1h,.slice a1b bytes.length c1b,.int .i64 at_,.int .i64 len,.int .i64 part,.int .i64 bit,.slice a1c ctrs.length c1c] 77;have hB0:Below w.heap.size w (w.alloc (.cells #[.int .i64 bits,.int .i64 least,.slice a1h heads.length c1h,.slice a1b bytes.length c1b,.int .i64 at_,.int .i64 len,.int .i64 part,.int .i64 bit,.slice a1c ctrs.length c1c] 77)):=(zJ _ _).alloc (zF _) _;obtain⟨w0,hw0⟩:∃w0,(w.alloc (.cells #[.int .i64 bits,.int .i64 least,.slice a1h heads.length c1h,.slice a1b bytes.length c1b,.int .i64 at_,.int .i64 len,.int .i64 part,.int .i64 bit,.slice a1c ctrs.length c1c] 77))=w0:=⟨_,rfl⟩;rw[hw0]at hB0;have A0:Blk w0 w.heap.size [.int .i64 bits,.int .i64 least,.slice a1h heads.length c1h,.slice a1b bytes.length c1b,.int .i64 at_,.int .i64 len,.int .i64 part,.int .i64 bit,.slice a1c ctrs.length c1c] 77:=by rw[←hw0];exact B0
 clear B0;have B1:=Blk.new w0 [.int .i64 bits,.int .i64 least,.slice a2h heads.length c2h,.slice a2b bytes.length c2b,.int .i64 at_,.int .i64 len,.int .i64 part,.int .i64 bit,.slice a2c ctrs.length c2c] 77;have hb1:Below w0.heap.size w0 (w0.alloc (.cells #[.int .i64 bits,.int .i64 least,.slice a2h heads.length c2h,.slice a2b bytes.length c2b,.int .i64 at_,.int .i64 len,.int .i64 part,.int .i64 bit,.slice a2c ctrs.length c2c] 77)):=(zJ _ _).alloc (zF _) _;obtain⟨w1,hw1⟩:∃w1,(w0.alloc (.cells #[.int .i64 bits,.int .i64 least,.slice a2h heads.length c2h,.slice a2b bytes.length c2b,.int .i64 at_,.int .i64 len,.int .i64 part,.int .i64 bit,.slice a2c ctrs.length c2c] 77))=w1:=⟨_,rfl⟩;rw[hw1]at hb1;have C1:Blk w1 w0.heap.size [.int .i64 bits,.int .i64 least,.slice a2h heads.length c2h,.slice a2b bytes.length c2b,.int .i64 at_,.int .i64 len,.int .i64 part,.int .i64 bit,.slice a2c ctrs.length c2c] 77:=by rw[←hw1];exact B1
 have A1:=A0.step hb1;have hB1:=zA hB0 hb1;have hz:w0.heap.size=w.heap.size+1:=by rw[←hw0];simp
 clear B1 A0;rw[hz]at C1;obtain⟨x0,x1,x2,x3,x4,x5,x6,x7,x8⟩:=A1.nine;obtain⟨y0,y1,y2,y3,y4,y5,y6,y7,y8⟩:=C1.nine;obtain⟨st,hst⟩:∃st,strOfNums bytes=st:=⟨_,rfl⟩;have hcv1:=conv12 bytes a1b c1b w1 (HP.out.rdb.step hB1);have hcv2:=conv12 bytes a2b c2b w1 (HQ.out.rdb.step hB1);try simp only at hcv1 hcv2
 rw[hst]at hcv1 hcv2;clear hst hb1 hB0;go_enter Tryz.func77,Tryz.ntmps77;go_wp2_with fail;clear x0 x1 x3 x4 x5 x6 x7 y0 y1 y3 y4 y5 y6 y7 x2 x8 y2 y8 hcv1 hcv2 hw0 hw1;go_loopw [5] (fun i wr=>∃k:Nat,k≤heads.length∧i = .int .i64 (k:Int)∧Blk wr w.heap.size [.int .i64 bits,.int .i64 least,.slice a1h heads.length c1h,.slice a1b bytes.length c1b,.int .i64 at_,.int .i64 len,.int .i64 part,.int .i64 bit,.slice a1c ctrs.length c1c] 77∧Blk wr (w.heap.size+1) [.int .i64 bits,.int .i64 least,.slice a2h heads.length c2h,.slice a2b bytes.length c2b,.int .i64 at_,.int .i64 len,.int .i64 part,.int .i64 bit,.slice a2c ctrs.length c2c] 77∧Below w.heap.size w wr) (fun i _=>heads.length-(intOf i).toNat)
 case atStart=>exact⟨0,by omega,rfl,A1,C1,hB1⟩
 case round=>
  obtain⟨k,hk,rfl,A2,C2,hB⟩:=hrel;clear A1 C1 hB1;have x2:wr.cell? ⟨w.heap.size,2,none⟩=some (.slice a1h heads.length c1h):=A2.cell 2;have x8:wr.cell? ⟨w.heap.size,8,none⟩=some (.slice a1c ctrs.length c1c):=A2.cell 8;have y2:wr.cell? ⟨w.heap.size+1,2,none⟩=some (.slice a2h heads.length c2h):=C2.cell 2;have y8:wr.cell? ⟨w.heap.size+1,8,none⟩=some (.slice a2c ctrs.length c2c):=C2.cell 8;by_cases hlt:k<heads.length
  ·have hdk:decide ((k:Int)<(heads.length:Int))=true:=zO (by omega);obtain⟨g1,o1,rfl,hcs1⟩:=(HP.out.rdh.step hB).at (i:=k) (by rw[yM];exact hlt);obtain⟨g2,o2,rfl,hcs2⟩:=(HQ.out.rdh.step hB).at (i:=k) (by rw[yM];exact hlt);have hc1:wr.cell? ⟨g1,o1+k,none⟩=some (.int .i64 heads[k]):=by rw[hcs1 k (by rw[yM];exact hlt)];simp[zbU]
   have hc2:wr.cell? ⟨g2,o2+k,none⟩=some (.int .i64 heads[k]):=by rw[hcs2 k (by rw[yM];exact hlt)];simp[zbU]
   obtain⟨x,hx⟩:∃x,heads[k]=x:=⟨_,rfl⟩;rw[hx]at hc1 hc2;clear hcs1 hcs2 hx;have hC:zaW [(⟨w.heap.size,2,none⟩,.slice (some ⟨g1,o1,none⟩) heads.length c1h),(⟨w.heap.size+1,2,none⟩,.slice (some ⟨g2,o2,none⟩) heads.length c2h),(⟨g1,o1+k,none⟩,.int .i64 x),(⟨g2,o2+k,none⟩,.int .i64 x)] wr:=⟨x2,y2,hc1,hc2,yJ⟩;have hB4:=hB.drew;have A3:=A2.step (zaK wr.heap.size wr);have C3:=C2.step (zaK wr.heap.size wr);go_wp2_with fail;refine zpD 11 0 [(U,[U,U,U,U,U,U,U,U,U,U,U])] (zaW [(⟨w.heap.size,2,none⟩,.slice (some ⟨g1,o1,none⟩) heads.length c1h),(⟨w.heap.size+1,2,none⟩,.slice (some ⟨g2,o2,none⟩) heads.length c2h),(⟨g1,o1+k,none⟩,.int .i64 x),(⟨g2,o2+k,none⟩,.int .i64 x)]) (by kernel_rfl) (hC) (fun Y Q4 F4 hY hF=> ?_);simp only[zpB]
   repeat
    apply zE (by rw[hY];rfl)
    ·intro w2 hS2;(try simp only[Keeps,zaW,Cells]at hS2);go_simp;with_reducible rfl
    simp only[zpA]
   repeat
    first
     | (apply zQ (by rw[hY];rfl);simp only[zpA])
     | (apply zE (by rw[hY];rfl)
        ·intro w2 hS2;(try simp only[Keeps,zaW,Cells]at hS2);go_simp;with_reducible rfl
        simp only[zpA])
   refine zV (hF.out _ _ (fun K hK=> ?_));clear hF hY;go_wp2_with fail;refine OnlyK.mk (hK.out _ _ ?_);clear hK;go_wp2;go_roundw
   case rel=>exact⟨k+1,by omega,by go_num,A3,C3,hB4⟩
   case measure=>simp[intOf];omega
  ·obtain rfl:k=heads.length:=by omega
   have hdk:decide ((heads.length:Int)<(heads.length:Int))=false:=zK (by omega);go_wp2_with fail;refine(HA.out _ (HP.out.rdc.step hB) (HQ.out.rdc.step hB)).mono ?_;rintro e w5 ⟨rfl,hb5⟩;have hB5:=zA hB hb5;go_wp2_with fail;go_returns;exact⟨rfl,hB5⟩
