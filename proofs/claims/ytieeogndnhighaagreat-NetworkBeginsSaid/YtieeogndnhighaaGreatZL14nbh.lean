/- A part of the proof of L14n. No condition. -/
import Derived.Deep.Slices
import Derived.Test.YtieeogndnhighaaGreatZL14naq
import Derived.Test.YtieeogndnhighaaGreatZL14nas
import Derived.Test.YtieeogndnhighaaGreatZL14nbf
set_option linter.all false
set_option maxRecDepth 100000
set_option maxHeartbeats 1000000
namespace Go.Proofs.YtieeogndnhighaaGreat
open Go.RowKit
def Cts(l:List (Int×Int)):List Value:=l.flatMap fun c=>[.int .i64 c.1,.int .i64 c.2]
theorem Cts_cons(c:Int×Int)(l:List (Int×Int)):Cts (c::l) = .int .i64 c.1 :: .int .i64 c.2::Cts l:=rfl
theorem zcB(l:List (Int×Int)):(Cts l).length=l.length*2:=by
 induction l with
 | nil=>rfl
 | cons c l ih=>rw[Cts_cons];simp[ih];omega
theorem zgR:∀{l:List (Int×Int)} {i:Nat} (hi:i<l.length),(Cts l)[i*2]? = some (.int .i64 (l[i]).1)∧(Cts l)[i*2+1]? = some (.int .i64 (l[i]).2)
 | c::l,0,_=>⟨rfl,rfl⟩
 | c::l,i+1,hi=>by
   have:=zgR (l:=l) (i:=i) (by simpa using hi);rw[Cts_cons,show(i+1)*2=i*2+1+1 by omega];simpa using this
theorem znO(F:FuncId)(hF:∀args w,(callFunc F args).run Tryz.prog w = .ok (.enter F args) w)(c:Value)(test:Int→Bool)(w:World)(xs:List Int)
 (hv:∀x W,x∈xs→Below w.heap.size w W→Calls Tryz.prog F #[.int .i64 x,c] W fun e w'=>e = .returned (.bool (test x))∧Below W.heap.size W w') (a:Option Addr) (cap:Nat) (hlen:xs.length≤9223372036854775807) (hrd:Rd w a (zaO xs)) :
 Calls Tryz.prog 63 #[.slice a xs.length cap,.func (.func F) #[] #[c]] w fun e w'=>∃r:Int,e = .returned (.int .i64 r)∧decide (0≤r)=xs.any test∧Below w.heap.size w w':=by
 have Hv:=zD hv;clear hv;go_enter Tryz.func63,Tryz.ntmps63;go_wp2;go_loopw [8] (fun i wr=>∃k:Nat,k≤xs.length∧i = .int .i64 k∧(xs.take k).any test=false∧Below w.heap.size w wr) (fun i _=>xs.length-(intOf i).toNat)
 case atStart=>exact⟨0,by omega,rfl,rfl,zG _ _⟩
 case round=>
  obtain⟨k,hk,rfl,hno,hB⟩:=hrel;have zr:w.heap.size≤wr.heap.size:=hB.size;have Hno:=zD hno;clear hno;by_cases hlt:k<xs.length
  ·obtain⟨g,o,rfl,hcs⟩:=(hrd.step hB).at (i:=k) (by rw[yL];exact hlt);have hc:wr.cell? ⟨g,o+k,none⟩=some (.int .i64 xs[k]):=by rw[hcs k (by rw[yL];exact hlt)];simp[zaO]
   have HT:=zD (Hv.out xs[k] wr (List.getElem_mem hlt) hB);have Hs:=zD (zbL test xs k hlt);have Ha:=zD (zdR test xs k hlt);obtain⟨x,hx⟩:∃x,xs[k]=x:=⟨_,rfl⟩;rw[hx]at hc HT Hs Ha;clear hcs hx;cases ht:test x with
   | true=>
     have Hany:=zD (Ha.out ht);rw[ht]at HT;clear ht;go_wp2_with fail;refine HT.out.mono ?_;rintro e w1 ⟨rfl,hb1⟩;have hB1:=zA hB hb1;go_wp2;go_returns;exact⟨_,rfl,by rw[Hany.out];simp,hB1⟩
   | false=>
     have Hn:=zD (show(xs.take (k+1)).any test=false by rw[Hs.out,Hno.out,ht];rfl);rw[ht]at HT;clear ht;go_wp2_with fail;refine HT.out.mono ?_;rintro e w1 ⟨rfl,hb1⟩;have hB1:=zA hB hb1;go_wp2;go_roundw
     case rel=>exact⟨k+1,by omega,by go_num,Hn.out,hB1⟩
     case measure=>simp[intOf];omega
  ·obtain rfl:k=xs.length:=by omega
   go_wp2;go_returns;refine⟨_,rfl,?_,hB⟩;have:=Hno.out;rw[zcP]at this;rw[this];rfl
theorem ziY(F:FuncId)(hF:∀args w,(callFunc F args).run Tryz.prog w = .ok (.enter F args) w)(c:Value)(test:Int→Bool)(w:World)(xs:List Int)
 (hv:∀x W,x∈xs→Below w.heap.size w W→Calls Tryz.prog F #[.int .i64 x,c] W fun e w'=>e = .returned (.bool (test x))∧Below W.heap.size W w') (a:Option Addr) (cap:Nat) (hlen:xs.length≤9223372036854775807) (hrd:Rd w a (zaO xs)) :
 Calls Tryz.prog 32 #[.slice a xs.length cap,.func (.func F) #[] #[c]] w fun e w'=>e = .returned (.bool (xs.any test))∧Below w.heap.size w w':=by
 have HI:=zD (znO F hF c test w xs hv a cap hlen hrd);clear hv;obtain⟨b,hb⟩:∃b,xs.any test=b:=⟨_,rfl⟩;rw[hb]at HI⊢;clear hb;go_enter Tryz.func32,Tryz.ntmps32;go_wp2_with fail;refine HI.out.mono ?_;rintro e w1 ⟨r,rfl,hr,hb1⟩;go_wp2;go_returns;exact⟨by first|rfl|exact yZ hr,hb1⟩
theorem zoU(F:FuncId)(hF:∀args w,(callFunc F args).run Tryz.prog w = .ok (.enter F args) w)(test:Int×Int→Bool)(w:World)(xs:List (Int×Int))
 (hv:∀x W,Calls Tryz.prog F #[.agg #[.int .i64 x.1,.int .i64 x.2]] W fun e w'=>e = .returned (.bool (test x))∧Below W.heap.size W w') (a:Option Addr) (cap:Nat) (hlen:xs.length≤100000) (hrd:Rd w a (Cts xs)) :
 Calls Tryz.prog 206 #[.slice a xs.length cap,.func (.func F) #[] #[]] w fun e w'=>∃r:Int,e = .returned (.int .i64 r)∧decide (0≤r)=xs.any test∧Below w.heap.size w w':=by
 have Hv:=zD hv;clear hv;go_enter Tryz.func206,Tryz.ntmps206;go_wp2;go_loopw [8] (fun i wr=>∃k:Nat,k≤xs.length∧i = .int .i64 k∧(xs.take k).any test=false∧Below w.heap.size w wr) (fun i _=>xs.length-(intOf i).toNat)
 case atStart=>exact⟨0,by omega,rfl,rfl,zG _ _⟩
 case round=>
  obtain⟨k,hk,rfl,hno,hB⟩:=hrel;have zr:w.heap.size≤wr.heap.size:=hB.size;have Hno:=zD hno;clear hno;by_cases hlt:k<xs.length
  ·obtain⟨g,o,rfl,hcs⟩:=(hrd.step hB) (fun e=>by have:=yQ List.length e;rw[zcB]at this;simp at this;omega);have hc0:=hcs (k*2) _ (zgR hlt).1;have hc1:=hcs (k*2+1) _ (zgR hlt).2;have HT:=zD (Hv.out xs[k] wr);have Hs:=zD (zbL test xs k hlt);have Ha:=zD (zdR test xs k hlt);obtain⟨x,hx⟩:∃x,xs[k]=x:=⟨_,rfl⟩;rw[hx]at hc0 hc1 HT Hs Ha;clear hcs hx;obtain⟨x0,x1⟩:=x;simp only at hc0 hc1 HT;rw[←Nat.add_assoc]at hc1;cases ht:test (x0,x1)with
   | true=>
     have Hany:=zD (Ha.out ht);rw[ht]at HT;clear ht;go_wp2_with fail;refine HT.out.mono ?_;rintro e w1 ⟨rfl,hb1⟩;have hB1:=zA hB hb1;go_wp2;go_returns;exact⟨_,rfl,by rw[Hany.out];simp,hB1⟩
   | false=>
     have Hn:=zD (show(xs.take (k+1)).any test=false by rw[Hs.out,Hno.out,ht];rfl);rw[ht]at HT;clear ht;go_wp2_with fail;refine HT.out.mono ?_;rintro e w1 ⟨rfl,hb1⟩;have hB1:=zA hB hb1;go_wp2;go_roundw
     case rel=>exact⟨k+1,by omega,by go_num,Hn.out,hB1⟩
     case measure=>simp[intOf];omega
  ·obtain rfl:k=xs.length:=by omega
   go_wp2;go_returns;refine⟨_,rfl,?_,hB⟩;have:=Hno.out;rw[zcP]at this;rw[this];rfl
theorem zkJ(F:FuncId)(hF:∀args w,(callFunc F args).run Tryz.prog w = .ok (.enter F args) w)(test:Int×Int→Bool)(w:World)(xs:List (Int×Int))
 (hv:∀x W,Calls Tryz.prog F #[.agg #[.int .i64 x.1,.int .i64 x.2]] W fun e w'=>e = .returned (.bool (test x))∧Below W.heap.size W w') (a:Option Addr) (cap:Nat) (hlen:xs.length≤100000) (hrd:Rd w a (Cts xs)) :
 Calls Tryz.prog 200 #[.slice a xs.length cap,.func (.func F) #[] #[]] w fun e w'=>e = .returned (.bool (xs.any test))∧Below w.heap.size w w':=by
 have HI:=zD (zoU F hF test w xs hv a cap hlen hrd);clear hv;obtain⟨b,hb⟩:∃b,xs.any test=b:=⟨_,rfl⟩;rw[hb]at HI⊢;clear hb;go_enter Tryz.func200,Tryz.ntmps200;go_wp2_with fail;refine HI.out.mono ?_;rintro e w1 ⟨r,rfl,hr,hb1⟩;go_wp2;go_returns;exact⟨by first|rfl|exact yZ hr,hb1⟩
theorem zdO(n lo hi:Int)(w:World) :
 Calls Tryz.prog 238 #[.int .i64 n,.int .i64 lo,.int .i64 hi] w fun e w'=>e = .returned (.bool (decide (lo≤n∧n≤hi)))∧Below w.heap.size w w':=by
 go_enter Tryz.func238,Tryz.ntmps238;go_wp2;all_goals (go_returns;exact⟨yZ (by first|(simp;done)|(simp;omega)),by go_grown⟩)
theorem bad12_any(p n:Int)(w:World) :
 Calls Tryz.prog 246 #[.agg #[.int .i64 p,.int .i64 n]] w fun e w'=>e = .returned (.bool (S08.check p n 255 != 0))∧Below w.heap.size w w':=by
 have HC:=zD fun W=>zdG p n 255 W;obtain⟨r,hr⟩:∃r,S08.check p n 255=r:=⟨_,rfl⟩;rw[hr]at HC⊢;clear hr;go_enter Tryz.func246,Tryz.ntmps246;go_wp2_with fail;refine(HC.out _).mono ?_;rintro e w1 ⟨rfl,hb1⟩;have hB1:Below w.heap.size w w1:=zA (by go_grown) hb1;go_wp2;go_returns;exact⟨rfl,hB1⟩
theorem far12_any(n L:Nat)(x:Int)(b:Nat)(a:Option Addr)(cap:Nat)(w:World)(hc:w.cell? ⟨b,3,none⟩=some (.slice a L cap)) :
 Calls Tryz.prog 245 #[.int .i64 x,.pointer (some ⟨b,0,none⟩)] w fun e w'=>e = .returned (.bool (!decide (0≤x∧x≤(L:Int))))∧Below w.heap.size w w':=by
 have HW:=zD fun W=>zdO x 0 (L:Int) W;obtain⟨r,hr⟩:∃r,decide (0≤x∧x≤(L:Int))=r:=⟨_,rfl⟩;rw[hr]at HW⊢;clear hr;go_enter Tryz.func245,Tryz.ntmps245;go_wp2_with fail;refine(HW.out _).mono ?_;rintro e w1 ⟨rfl,hb1⟩;go_wp2;go_returns;exact⟨rfl,hb1⟩
end Go.Proofs.YtieeogndnhighaaGreat
namespace Go.Proofs.YtieeogndnhighaaGreat
open Go.RowKit
theorem bits_or_256{x:Nat}(hx:x<256):bits .or .i64 256 (x:Int)=((256+x:Nat):Int):=by
 have h1:(BitVec.ofInt 64 (256:Int)).toNat=256:=by decide
 have h2:(BitVec.ofInt 64 (x:Int)).toNat=x:=by
  rw[BitVec.ofInt_natCast,BitVec.toNat_ofNat];exact Nat.mod_eq_of_lt (by omega)
 show IntKind.i64.wrap ((BitVec.ofInt 64 (256:Int) ||| BitVec.ofInt 64 (x:Int)).toNat:Int)=_;have h:=Nat.two_pow_add_eq_or_of_lt (b:=x) (i:=8) (by omega) 1;rw[BitVec.toNat_or,h1,h2,show(256 ||| x)=256+x from h.symm,zbT (by omega)]
theorem zpT(x:Nat)(hx:x<9223372036854775808):bits .and .i64 (x:Int) 1=((x%2:Nat):Int):=by
 have h1:(BitVec.ofInt 64 (1:Int)).toNat=1:=by decide
 have h2:(BitVec.ofInt 64 (x:Int)).toNat=x:=by
  rw[BitVec.ofInt_natCast,BitVec.toNat_ofNat];exact Nat.mod_eq_of_lt (by omega)
 show IntKind.i64.wrap ((BitVec.ofInt 64 (x:Int) &&& BitVec.ofInt 64 (1:Int)).toNat:Int)=_;rw[BitVec.toNat_and,h1,h2,Nat.and_one_is_mod,zbT (by omega)]
def S12.optN(o:Option Nat):Int:=match o with|some b=>(b:Int)|none=>2
theorem zoW(x:Nat)(hx:x<256)(pt:Int)(w:World) :
 Calls Tryz.prog 243 #[.int .u8 (x:Int),.int .i64 pt] w fun e w'=>e = .returned (.tuple #[.int .i64 (S12.optN (S12.exp x pt)),.bool (S12.exp x pt).isSome])∧Below w.heap.size w w':=by
 have hor:=bits_or_256 hx;have HE:=zD (show S12.exp x pt=S12.expFrom x pt 8 from rfl);obtain⟨E,hE⟩:∃E,S12.exp x pt=E:=⟨_,rfl⟩;rw[hE]at HE⊢;clear hE;obtain⟨EN,hEN⟩:∃EN,S12.optN E=EN:=⟨_,rfl⟩;rw[hEN];have HEN:=zD hEN;clear hEN;go_enter Tryz.func243,Tryz.ntmps243;go_wp2_with fail;go_loopw [7] (fun rest wr=>∃k:Nat,k≤8∧rest = .int .i64 ((k:Int)-1)∧E=S12.expFrom x pt k∧Below w.heap.size w wr) (fun rest _=>(intOf rest+1).toNat)
 case atStart=>exact⟨8,by omega,rfl,HE.out,by go_grown⟩
 case round=>
  obtain⟨k,hk,rfl,he,hB⟩:=hrel;cases k with
  | zero=>
    have hE0:E=none:=he;subst hE0;have hEN2:EN=2:=HEN.out.symm;subst hEN2;clear he;go_wp2;go_returns;exact⟨rfl,hB⟩
  | succ k=>
    have hkk:(((k+1:Nat):Int)-1)=(k:Int):=by omega
    rw[hkk]
    have hd:∀q:Nat,(((256+x)/2^q:Nat):Int)=(256+(x:Int))/2^q:=fun q=>by
     rw[Int.natCast_ediv,Int.natCast_pow,Int.natCast_add];rfl
    have hlt:(256+x)/2^k<9223372036854775808:=Nat.lt_of_le_of_lt (Nat.div_le_self _ _) (by omega);have hand:bits .and .i64 ((256+(x:Int))/2^k) 1=((((256+x)/2^k)%2:Nat):Int):=by rw[←hd,zpT _ hlt]
    unfold S12.expFrom at he;rw[hd]at he;by_cases hc:(256+(x:Int))/2^(k+1)=pt
    ·rw[zU hc]at he;have hb:((256+(x:Int))/2^(k+1)==pt)=true:=by simp[hc]
     subst he;have hEN:EN=((((256+x)/2^k)%2:Nat):Int):=HEN.out.symm;obtain⟨r,hr⟩:∃r:Nat,((256+x)/2^k)%2=r:=⟨_,rfl⟩;rw[hr]at hand hEN;subst hEN;clear hd hlt hc hr;go_wp2;go_returns;exact⟨rfl,hB⟩
    ·rw[zK hc]at he;have hb:((256+(x:Int))/2^(k+1)==pt)=false:=by simp[hc]
     have He:=zD he;clear hd hlt hc he hand;go_wp2;go_roundw
     case rel=>exact⟨k,by omega,rfl,He.out,hB⟩
     case measure=>simp[intOf];try omega
end Go.Proofs.YtieeogndnhighaaGreat
namespace Go.Proofs.YtieeogndnhighaaGreat
open Go.RowKit
structure Pl where
 ah:Option Addr
 ch:Nat
 ab:Option Addr
 cb:Nat
 ac:Option Addr
 cc:Nat
def zbQ(m:S12.M)(p:Pl):List Value:=[.int .i64 m.bits,.int .i64 m.least,.slice p.ah m.heads.length p.ch,.slice p.ab m.bytes.length p.cb,.int .i64 m.at_,.int .i64 m.len,.int .i64 m.part,.int .i64 m.bit,.slice p.ac m.ctrs.length p.cc]
def MV(m:S12.M)(p:Pl):Value:=.agg (zbQ m p).toArray
structure MIs(m:S12.M)(p:Pl)(w:World):Prop where
 rdh:Rd w p.ah (zaO m.heads)
 rdb:Rd w p.ab (Bts m.bytes)
 rdc:Rd w p.ac (Cts m.ctrs)
 byt:S12.Byt m.bytes
 cb:m.bytes.length≤p.cb
 lh:m.heads.length≤4611686018427387904
 lb:m.bytes.length≤4611686018427387904
 lc:m.ctrs.length≤4611686018427387904
theorem MIs.step{m:S12.M}{p:Pl}{w w':World}(h:MIs m p w)(hb:Below w.heap.size w w'):MIs m p w':=⟨h.rdh.step hb,h.rdb.step hb,h.rdc.step hb,h.byt,h.cb,h.lh,h.lb,h.lc⟩
theorem zqO(m:S12.M)(p:Pl)(w:World)(hl:m.bytes.length≤65536)(hM:MIs m p w) :
 Calls Tryz.prog 247 #[MV m p] w fun e w'=>e = .returned (.bool (S12.matched m))∧Below w.heap.size w w':=by
 obtain⟨bits,least,heads,bytes,at_,len,part,bit,ctrs⟩:=m;obtain⟨ah,ch,ab,cb,ac,cc⟩:=p;obtain⟨_,hrb,_,hbyt,hcb,_,_,_⟩:=hM;obtain⟨R,hR⟩:∃R,S12.matched ⟨bits,least,heads,bytes,at_,len,part,bit,ctrs⟩=R:=⟨_,rfl⟩;rw[hR];unfold S12.matched at hR;simp only at hrb hbyt hcb hl hR;unfold MV zbQ;simp only;have HW:=zD fun n lo hi W=>zdO n lo hi W;have hB0:Below w.heap.size w (w.alloc (.cells #[.int .i64 bits,.int .i64 least,.slice ah heads.length ch,.slice ab bytes.length cb,.int .i64 at_,.int .i64 len,.int .i64 part,.int .i64 bit,.slice ac ctrs.length cc] 77)):=(zG _ _).alloc (zE _) _;have B0:=Blk.new w [.int .i64 bits,.int .i64 least,.slice ah heads.length ch,.slice ab bytes.length cb,.int .i64 at_,.int .i64 len,.int .i64 part,.int .i64 bit,.slice ac ctrs.length cc] 77;by_cases h0:len=0
 ·rw[zU h0]at hR;subst h0;have hr1:R=(decide (at_=0)&&decide (bit=2)):=hR.symm;clear hR;by_cases ha:at_=0
  ·have e1:(at_==0)=true:=by simp[ha]
   have hr:R=(bit==2):=by rw[hr1,zQ ha,zbE];rfl
   subst hr;clear hr1 ha;go_enter Tryz.func247,Tryz.ntmps247;go_wp2;go_returns;exact⟨rfl,hB0⟩
  ·have e1:(at_==0)=false:=by simp[ha]
   have hr:R=false:=by rw[hr1,zL ha];rfl
   subst hr;clear hr1 ha;go_enter Tryz.func247,Tryz.ntmps247;go_wp2;go_returns;exact⟨rfl,hB0⟩
 rw[zK h0]at hR;have e0:(len==0)=false:=by simp[h0]
 have HR:=zD hR;clear hR;go_enter Tryz.func247,Tryz.ntmps247;obtain⟨w0,hw0⟩:∃w0,(w.alloc (.cells #[.int .i64 bits,.int .i64 least,.slice ah heads.length ch,.slice ab bytes.length cb,.int .i64 at_,.int .i64 len,.int .i64 part,.int .i64 bit,.slice ac ctrs.length cc] 77))=w0:=⟨_,rfl⟩;have B1:Blk w0 w.heap.size [.int .i64 bits,.int .i64 least,.slice ah heads.length ch,.slice ab bytes.length cb,.int .i64 at_,.int .i64 len,.int .i64 part,.int .i64 bit,.slice ac ctrs.length cc] 77:=by rw[←hw0];exact B0
 rw[hw0]at hB0;have p5:w0.cell? ⟨w.heap.size,5,none⟩=some (.int .i64 len):=B1.cell 5;have hC:Cells w0 [(⟨w.heap.size,3,none⟩,.slice ab bytes.length cb),(⟨w.heap.size,4,none⟩,.int .i64 at_),(⟨w.heap.size,5,none⟩,.int .i64 len),(⟨w.heap.size,6,none⟩,.int .i64 part),(⟨w.heap.size,7,none⟩,.int .i64 bit)]:=⟨B1.cell 3,B1.cell 4,B1.cell 5,B1.cell 6,B1.cell 7,yJ⟩;have hwl:IntKind.i64.wrap ((bytes.length:Int)-1)=(bytes.length:Int)-1:=IntWalk.i64_in _ (by omega);clear B0;go_wp2;refine zrE 26 0 [(U,[U,U]),(zrA,[zrA,zrA,U]),(U,[zrA,zrA,zrA,U,U,U,U,U,U,U,U,U,U]),(zrA,[zrA,zrA,zrA,zrA,zrA,zrA,zrA,zrA,zrA,zrA,zrA,zrA,zrA,U]),(U,[zrA,zrA,zrA,zrA,zrA,zrA,zrA,zrA,zrA,zrA,zrA,zrA,zrA,zrA,U,U,U,U,U,U,U,zrA,U,U]),(zrA,[zrA,zrA,zrA,zrA,zrA,zrA,zrA,zrA,zrA,zrA,zrA,zrA,zrA,zrA,zrA,zrA,zrA,zrA,zrA,zrA,zrA,U]),(U,[zrA,zrA,zrA,zrA,zrA,zrA,zrA,zrA,zrA,zrA,zrA,zrA,zrA,zrA,zrA,zrA,zrA,zrA,zrA,zrA,zrA,zrA,zrA,zrA,U,U])] (Keeps w0 [(⟨w.heap.size,3,none⟩,.slice ab bytes.length cb),(⟨w.heap.size,4,none⟩,.int .i64 at_),(⟨w.heap.size,5,none⟩,.int .i64 len),(⟨w.heap.size,6,none⟩,.int .i64 part),(⟨w.heap.size,7,none⟩,.int .i64 bit)]) (by kernel_rfl) (Keeps.start hC) (fun Y Q4 F4 hY hF=> ?_);simp only[zrC]
 repeat
  apply zF (by rw[hY];rfl)
  ·intro w2 hS2;(try simp only[Keeps,Cells]at hS2);go_simp;with_reducible rfl
  simp only[zrB]
 apply zS (by rw[hY];rfl)
 ·go_simp;with_reducible exact⟨rfl,rfl⟩
 refine(HW.out _ _ _ _).mono ?_;rintro e w1 ⟨rfl,hb1⟩;have hk1:=(Keeps.start hC).step hb1;refine⟨_,rfl,hk1,?_⟩;simp only[zrB];by_cases h1:1≤len∧len≤255
 ·rw[zQ h1]
  repeat
   apply zF (by rw[hY];rfl)
   ·intro w2 hS2;(try simp only[Keeps,Cells]at hS2);go_simp;with_reducible rfl
   simp only[zrB]
  apply zS (by rw[hY];rfl)
  ·go_simp;with_reducible exact⟨rfl,rfl⟩
  refine(HW.out _ _ _ _).mono ?_;rintro e w2 ⟨rfl,hb2⟩;have hk2:=hk1.step hb2;refine⟨_,rfl,hk2,?_⟩;simp only[zrB];by_cases h2:len≤at_∧at_≤(bytes.length:Int)-1
  ·rw[zQ h2];obtain⟨pa,rfl⟩:∃pa:Nat,at_=pa:=⟨at_.toNat,by omega⟩;obtain⟨g,o,rfl,hcc⟩:=Bts_at hrb (i:=pa) (by omega);have hx:=hcc pa (by omega);have hx0:=hbyt.at pa;have hx1:=hbyt.get pa;have HP:=zD fun W hW=>zoI g o cb bytes pa (by omega) (by omega) hcb (by omega) W hW;have hr:=HR.out;rw[zQ h1,zQ h2,Int.toNat_natCast,zbE,zbE]at hr;obtain⟨rp,hrp⟩:∃rp,S12.rep bytes pa=rp:=⟨_,rfl⟩;obtain⟨xv,hxv⟩:∃xv,bytes.getD pa 0=xv:=⟨_,rfl⟩;rw[hrp]at HP hr;rw[hxv]at hr hx hx0 hx1;clear HR hrp hxv hcc
   repeat
    apply zF (by rw[hY];rfl)
    ·intro w2 hS2;(try simp only[Keeps,Cells]at hS2);go_simp;with_reducible rfl
    simp only[zrB]
   apply zS (by rw[hY];rfl)
   ·go_simp;with_reducible exact⟨rfl,rfl⟩
   refine(HP.out _ ((hrb.step hB0).step hk2.1)).mono ?_;rintro e w3 ⟨rfl,hb3⟩;have hk3:=hk2.step hb3;refine⟨_,rfl,hk3,?_⟩;simp only[zrB];by_cases h3:len≤(rp:Int)
   ·have e3:decide ((rp:Int)<len)=false:=by simp;omega
    rw[zQ h3,zbE]at hr;have Hr:=zD hr;clear hr
    repeat
     apply zF (by rw[hY];rfl)
     ·intro w2 hS2;(try simp only[Keeps,Cells]at hS2);go_simp;with_reducible rfl
     simp only[zrB]
    refine zZ (hF.out _ _ (fun K hK=> ?_));clear hF hY;refine OnlyK.mk (hK.out _ _ ?_);clear hK;have hb3':=zA hB0 hk3.1;obtain⟨x,rfl⟩:∃x:Nat,xv=x:=⟨xv.toNat,by omega⟩;have y1:w3.cell? ⟨g,o+pa,none⟩=some (.int .u8 (x:Int)):=(hb3'.cell (p:=⟨g,o+pa,none⟩) (zJ hx)).trans hx;have hC2:Cells w3 [(⟨w.heap.size,3,none⟩,.slice (some ⟨g,o,none⟩) bytes.length cb),(⟨w.heap.size,4,none⟩,.int .i64 (pa:Int)),(⟨w.heap.size,6,none⟩,.int .i64 part),(⟨g,o+pa,none⟩,.int .u8 (x:Int))]:=⟨hk3.2.1,hk3.2.2.1,hk3.2.2.2.2.1,y1,yJ⟩;have z7:=hk3.2.2.2.2.2.1;have HX:=zD fun W=>zoW x (by omega) part W;have Hr2:=Hr.out;rw[Int.toNat_natCast]at Hr2;obtain⟨E,hE⟩:∃E,S12.exp x part=E:=⟨_,rfl⟩;rw[hE]at HX Hr2;have hpl:pa<bytes.length:=by omega
    clear hk3 hk2 hk1 hb3 hb2 hb1 hC p5 hE Hr HP;go_wp2;refine zrE 13 1 [(U,[U,U,U,U,U,U,U,U]),(zrA,[zrA,zrA,zrA,zrA,zrA,zrA,zrA,zrA,U]),(U,[zrA,zrA,zrA,zrA,zrA,zrA,zrA,zrA,zrA,U,U,U]),(zrA,[zrA,zrA,zrA,zrA,zrA,zrA,zrA,zrA,zrA,zrA,zrA,zrA,U])] (Keeps w3 [(⟨w.heap.size,3,none⟩,.slice (some ⟨g,o,none⟩) bytes.length cb),(⟨w.heap.size,4,none⟩,.int .i64 (pa:Int)),(⟨w.heap.size,6,none⟩,.int .i64 part),(⟨g,o+pa,none⟩,.int .u8 (x:Int))]) (by kernel_rfl) (Keeps.start hC2) (fun Y Q4 F4 hY hF=> ?_);simp only[zrC]
    repeat
     apply zF (by rw[hY];rfl)
     ·intro w2 hS2;(try simp only[Keeps,Cells]at hS2);go_simp;with_reducible rfl
     simp only[zrB]
    apply zS (by rw[hY];rfl)
    ·go_simp;with_reducible exact⟨rfl,rfl⟩
    refine(HX.out _).mono ?_;rintro e w4 ⟨rfl,hb4⟩;have hk4:=(Keeps.start hC2).step hb4;refine⟨_,rfl,hk4,?_⟩;simp only[zrB]
    repeat
     apply zF (by rw[hY];rfl)
     ·intro w2 hS2;(try simp only[Keeps,Cells]at hS2);go_simp;with_reducible rfl
     simp only[zrB]
    refine zbN (by rw[hY];rfl) (by go_simp;first|with_reducible exact⟨rfl,rfl⟩|with_reducible rfl) (hk4) ?_;simp only[zrB];refine zZ (hF.out _ _ (fun K hK=> ?_));clear hF hY;have hB4:=zA hb3' hk4.1;have z7':w4.cell? ⟨w.heap.size,7,none⟩=some (.int .i64 bit):=(hk4.1.cell (p:=⟨w.heap.size,7,none⟩) (zJ z7)).trans z7;cases E with
    | none=>
      go_wp2;refine OnlyK.mk (hK.out _ _ ?_);clear hK;have hRf:R=false:=Hr2.symm;subst hRf;go_wp2;go_returns;exact⟨rfl,hB4⟩
    | some b=>
      go_wp2;refine OnlyK.mk (hK.out _ _ ?_);clear hK;have hRf:R=((b:Int)==bit):=Hr2.symm;subst hRf;have eb:S12.optN (some b)=(b:Int):=rfl;go_wp2;go_returns;exact⟨rfl,hB4⟩
   ·have e3:decide ((rp:Int)<len)=true:=by simp;omega
    rw[zL h3]at hr;have hRf:R=false:=hr.symm;subst hRf;clear hr
    repeat
     apply zF (by rw[hY];rfl)
     ·intro w2 hS2;(try simp only[Keeps,Cells]at hS2);go_simp;with_reducible rfl
     simp only[zrB]
    refine zZ (hF.out _ _ (fun K hK=> ?_));clear hF hY;refine OnlyK.mk (hK.out _ _ ?_);clear hK;go_wp2;go_returns;exact⟨rfl,zA hB0 hk3.1⟩
  ·rw[zL h2];have hRf:R=false:=by rw[←HR.out,zQ h1,zL h2];rfl
   subst hRf;clear HR
   repeat
    apply zF (by rw[hY];rfl)
    ·intro w2 hS2;(try simp only[Keeps,Cells]at hS2);go_simp;with_reducible rfl
    simp only[zrB]
   repeat
    first
     | (apply zR (by rw[hY];rfl);simp only[zrB])
     | (refine yM (by rw[hY];rfl) (hk2) ?_;simp only[zrB])
   repeat
    apply zF (by rw[hY];rfl)
    ·intro w2 hS2;(try simp only[Keeps,Cells]at hS2);go_simp;with_reducible rfl
    simp only[zrB]
   refine zZ (hF.out _ _ (fun K hK=> ?_));clear hF hY;refine OnlyK.mk (hK.out _ _ ?_);clear hK;go_wp2;go_returns;exact⟨rfl,zA hB0 hk2.1⟩
 ·rw[zL h1];have hRf:R=false:=by rw[←HR.out,zL h1];rfl
  subst hRf;clear HR
  repeat
   apply zF (by rw[hY];rfl)
   ·intro w2 hS2;(try simp only[Keeps,Cells]at hS2);go_simp;with_reducible rfl
   simp only[zrB]
  repeat
   first
    | (apply zR (by rw[hY];rfl);simp only[zrB])
    | (refine yM (by rw[hY];rfl) (hk1) ?_;simp only[zrB])
  repeat
   apply zF (by rw[hY];rfl)
   ·intro w2 hS2;(try simp only[Keeps,Cells]at hS2);go_simp;with_reducible rfl
   simp only[zrB]
  repeat
   first
    | (apply zR (by rw[hY];rfl);simp only[zrB])
    | (refine yM (by rw[hY];rfl) (hk1) ?_;simp only[zrB])
  repeat
   apply zF (by rw[hY];rfl)
   ·intro w2 hS2;(try simp only[Keeps,Cells]at hS2);go_simp;with_reducible rfl
   simp only[zrB]
  refine zZ (hF.out _ _ (fun K hK=> ?_));clear hF hY;refine OnlyK.mk (hK.out _ _ ?_);clear hK;go_wp2;go_returns;exact⟨rfl,zA hB0 hk1.1⟩
theorem check12_any(m:S12.M)(p:Pl)(w:World)(hM:MIs m p w) :
 Calls Tryz.prog 237 #[MV m p] w fun e w'=>e = .returned (.int .i64 (S12.check m))∧Below w.heap.size w w':=by
 obtain⟨R,hR⟩:∃R,S12.check m=R:=⟨_,rfl⟩;rw[hR];unfold S12.check at hR;have HMt:=zD fun(hl:m.bytes.length≤65536) W hW=>zqO m p W hl hW;obtain⟨MT,hMT⟩:∃MT,S12.matched m=MT:=⟨_,rfl⟩;rw[hMT]at hR HMt;obtain⟨FA,hFA⟩:∃FA,S12.far m=FA:=⟨_,rfl⟩;obtain⟨BA,hBA⟩:∃BA,S12.bad m=BA:=⟨_,rfl⟩;rw[hFA,hBA]at hR;have hfo:S12.form m=(decide (m.heads.length=2^m.bits.toNat)&&decide (m.ctrs.length=16)&&decide (1≤m.part∧m.part≤255)):=rfl;rw[hfo]at hR;have HFA:=zD (show(m.heads.any fun h=> !decide (0≤h∧h≤(m.bytes.length:Int)))=FA from hFA);have HBA:=zD (show(m.ctrs.any fun c=>S08.check c.1 c.2 255 != 0)=BA from hBA);clear hFA hBA hMT hfo;have HM:=zD hM;have hlen:=hM.lb;have hlh:=hM.lh;have hlc:=hM.lc;clear hM;obtain⟨bits,least,heads,bytes,at_,len,part,bit,ctrs⟩:=m;obtain⟨ah,ch,ab,cb,ac,cc⟩:=p;simp only at hR hlen hlh hlc HFA HBA;unfold MV zbQ at *;simp only at *;have HW:=zD fun n lo hi W=>zdO n lo hi W;have B0:=Blk.new w [.int .i64 bits,.int .i64 least,.slice ah heads.length ch,.slice ab bytes.length cb,.int .i64 at_,.int .i64 len,.int .i64 part,.int .i64 bit,.slice ac ctrs.length cc] 77;have hB0:Below w.heap.size w (w.alloc (.cells #[.int .i64 bits,.int .i64 least,.slice ah heads.length ch,.slice ab bytes.length cb,.int .i64 at_,.int .i64 len,.int .i64 part,.int .i64 bit,.slice ac ctrs.length cc] 77)):=(zG _ _).alloc (zE _) _;obtain⟨w0,hw0⟩:∃w0,(w.alloc (.cells #[.int .i64 bits,.int .i64 least,.slice ah heads.length ch,.slice ab bytes.length cb,.int .i64 at_,.int .i64 len,.int .i64 part,.int .i64 bit,.slice ac ctrs.length cc] 77))=w0:=⟨_,rfl⟩;rw[hw0]at hB0;have B1:Blk w0 w.heap.size [.int .i64 bits,.int .i64 least,.slice ah heads.length ch,.slice ab bytes.length cb,.int .i64 at_,.int .i64 len,.int .i64 part,.int .i64 bit,.slice ac ctrs.length cc] 77:=by rw[←hw0];exact B0
 clear B0;have p0:w0.cell? ⟨w.heap.size,0,none⟩=some (.int .i64 bits):=B1.cell 0;go_enter Tryz.func237,Tryz.ntmps237;go_wp2_with fail;refine(HW.out _ _ _ _).mono ?_;rintro e w1 ⟨rfl,hb1⟩;have B2:=B1.step hb1;have hB1:=zA hB0 hb1;have p1:w1.cell? ⟨w.heap.size,1,none⟩=some (.int .i64 least):=B2.cell 1;by_cases h1:¬(1≤bits∧bits≤16)
 ·rw[zU (by omega)]at hR;subst hR;rw[zL h1];go_wp2;go_returns;exact⟨rfl,hB1⟩
 replace h1:=Classical.not_not.1 h1;rw[zQ h1];clear p0 B1 hw0;go_wp2_with fail;refine(HW.out _ _ _ _).mono ?_;rintro e w2 ⟨rfl,hb2⟩;have B3:=B2.step hb2;have hB2:=zA hB1 hb2;have p3:w2.cell? ⟨w.heap.size,3,none⟩=some (.slice ab bytes.length cb):=B3.cell 3;by_cases h2:¬(1≤least∧least≤32)
 ·rw[zU (by omega)]at hR;subst hR;rw[zL h2];go_wp2;go_returns;exact⟨rfl,hB2⟩
 replace h2:=Classical.not_not.1 h2;rw[zK (by omega)]at hR;rw[zQ h2];clear p1 B2;by_cases h3:65536<bytes.length
 ·rw[zU h3]at hR;subst hR;have e3:decide ((65536:Int)<(bytes.length:Int))=true:=by simp;omega
  go_wp2;go_returns;exact⟨rfl,hB2⟩
 rw[zK h3]at hR;have e3:decide ((65536:Int)<(bytes.length:Int))=false:=by simp;omega
 have hC:Cells w2 [(⟨w.heap.size,0,none⟩,.int .i64 bits),(⟨w.heap.size,2,none⟩,.slice ah heads.length ch)]:=⟨B3.cell 0,B3.cell 2,yJ⟩;obtain⟨bn,rfl⟩:∃bn:Nat,bits=bn:=⟨bits.toNat,by omega⟩;rw[Int.toNat_natCast]at hR;have hps:2^bn≤65536:=zfQ (n:=2) (by omega) (show bn≤16 by omega);have hsh:IntKind.i64.wrap ((2:Int)^bn)=((2^bn:Nat):Int):=by
  have e:(2:Int)^bn=((2^bn:Nat):Int):=by simp
  rw[e];exact zbT (by omega)
 obtain⟨N,hN⟩:∃N,2^bn=N:=⟨_,rfl⟩;rw[hN]at hsh hps hR;clear hN;obtain⟨c1,hc1⟩:∃c1,((heads.length:Int) != (N:Int))=c1:=⟨_,rfl⟩;go_wp2_with fail;refine zrE 8 0 [(U,[U,U,U,U,U,U,U]),(zrA,[zrA,zrA,zrA,zrA,zrA,zrA,zrA,U])] (Keeps w2 [(⟨w.heap.size,0,none⟩,.int .i64 (bn:Int)),(⟨w.heap.size,2,none⟩,.slice ah heads.length ch)]) (by kernel_rfl) (Keeps.start hC) (fun Y Q4 F4 hY hF=> ?_);simp only[zrC]
 repeat
  apply zF (by rw[hY];rfl)
  ·intro w2 hS2;(try simp only[Keeps,Cells]at hS2);go_simp;with_reducible rfl
  simp only[zrB]
 refine zbN (by rw[hY];rfl) (by go_simp;first|with_reducible exact⟨rfl,rfl⟩|with_reducible rfl) (Keeps.start hC) ?_;simp only[zrB];refine zZ (hF.out _ _ (fun K hK=> ?_));clear hF hY;refine OnlyK.mk (hK.out _ _ ?_);clear hK;have hb3:=(Keeps.start hC).1;have hB3:=zA hB2 hb3;have B4:=B3.step hb3;obtain⟨w3,hw3⟩:∃w3,w2.drew=w3:=⟨_,rfl⟩;rw[hw3]at hb3 hB3 B4⊢;clear hC p3 B3 hw3;by_cases h4:¬heads.length=N
 ·obtain rfl:c1=true:=by rw[←hc1];simp;omega
  rw[zL h4,Bool.false_and,Bool.false_and,zU rfl]at hR;subst hR;go_wp2;go_returns;exact⟨rfl,hB3⟩
 replace h4:=Classical.not_not.1 h4;obtain rfl:c1=false:=by rw[←hc1];simp;omega
 rw[zQ h4,zbE]at hR;clear hc1;have H4:=zD h4;clear h4;have q8:w3.cell? ⟨w.heap.size,8,none⟩=some (.slice ac ctrs.length cc):=B4.cell 8;have q6:w3.cell? ⟨w.heap.size,6,none⟩=some (.int .i64 part):=B4.cell 6;by_cases h5:¬ctrs.length=16
 ·have e5:((ctrs.length:Int) != 16)=true:=by simp;omega
  rw[zL h5,Bool.false_and,zU rfl]at hR;subst hR;go_wp2;go_returns;exact⟨rfl,hB3⟩
 replace h5:=Classical.not_not.1 h5;have e5:((ctrs.length:Int) != 16)=false:=by simp;omega
 rw[zQ h5,zbE]at hR;go_wp2_with fail;refine(HW.out _ _ _ _).mono ?_;rintro e w4 ⟨rfl,hb4⟩;have hB4:=zA hB3 hb4;have B5:=B4.step hb4;by_cases h6:¬(1≤part∧part≤255)
 ·rw[zL h6]at hR⊢;rw[zU rfl]at hR;subst hR;go_wp2;go_returns;exact⟨rfl,hB4⟩
 replace h6:=Classical.not_not.1 h6;rw[zQ h6]at hR⊢;rw[zK (by simp)]at hR;clear q8 q6 B4;have hc16:ctrs.length≤100000:=by omega
 have H5:=zD h5;clear h5 e5;have l5:=B5.lt;have q2:w4.cell? ⟨w.heap.size,2,none⟩=some (.slice ah heads.length ch):=B5.cell 2;have q3:w4.cell? ⟨w.heap.size,3,none⟩=some (.slice ab bytes.length cb):=B5.cell 3
 have HI:=zD (ziY 245 (enters_of Tryz.func245 (by kernel_rfl) rfl) (.pointer (some ⟨w.heap.size,0,none⟩)) (fun h=> !decide (0≤h∧h≤(bytes.length:Int))) w4 heads
  (fun x W _ hW=>far12_any 0 bytes.length x w.heap.size ab cb W ((hW.cell (p:=⟨w.heap.size,3,none⟩) l5).trans q3)) ah ch (by omega) (HM.out.rdh.step hB4))
 have HIc:=zD fun W (hW:Below w.heap.size w W)=>zkJ 246 (enters_of Tryz.func246 (by kernel_rfl) rfl) (fun c=>S08.check c.1 c.2 255 != 0) W ctrs
  (fun x W2=>bad12_any x.1 x.2 W2) ac cc hc16 (HM.out.rdc.step hW)
 rw[HFA.out]at HI;rw[HBA.out]at HIc;clear HFA HBA;go_wp2_with fail;refine HI.out.mono ?_;rintro e w5 ⟨rfl,hb5⟩;have hB5:=zA hB4 hb5;have B6:=B5.step hb5;have r8:w5.cell? ⟨w.heap.size,8,none⟩=some (.slice ac ctrs.length cc):=B6.cell 8;clear B5 q2 q3 HI;cases FA with
 | true=>
   rw[zU (.inl rfl)]at hR;subst hR;go_wp2;go_returns;exact⟨rfl,hB5⟩
 | false=>
 go_wp2_with fail;refine(HIc.out _ hB5).mono ?_;rintro e w6 ⟨rfl,hb6⟩;have hB6:=zA hB5 hb6;have B7:=B6.step hb6;clear B6 r8 HIc;cases BA with
 | true=>
   rw[zU (.inr (.inl rfl))]at hR;subst hR;go_wp2;go_returns;exact⟨rfl,hB6⟩
 | false=>
 have s0:=B7.cell 0;have s1:=B7.cell 1;have s2:=B7.cell 2;have s3:=B7.cell 3;have s4:=B7.cell 4;have s5:=B7.cell 5;have s6:=B7.cell 6;have s7:=B7.cell 7;have s8:=B7.cell 8;simp only[zrD]at s0 s1 s2 s3 s4 s5 s6 s7 s8;have hlb:bytes.length≤65536:=by omega
 clear B7;go_wp2_with fail;refine(HMt.out hlb _ (HM.out.step hB6)).mono ?_;rintro e w7 ⟨rfl,hb7⟩;have hB7:=zA hB6 hb7;cases MT with
 | true=>
   rw[zK (by simp)]at hR;subst hR;go_wp2;go_returns;exact⟨rfl,hB7⟩
 | false=>
   rw[zU (by simp)]at hR;subst hR;go_wp2;go_returns;exact⟨rfl,hB7⟩
theorem Blk.put9{w:World}{b:Nat}{t:TypeId}{c0 c1 c2 c3 c4 c5 c6 c7 c8:Value}(h:Blk w b [c0,c1,c2,c3,c4,c5,c6,c7,c8] t)(v0 v1 v2 v3 v4 v5 v6 v7 v8:Value) :
 Blk (((((((((w.setCell ⟨b,0,none⟩ v0).setCell ⟨b,1,none⟩ v1).setCell ⟨b,2,none⟩ v2).setCell ⟨b,3,none⟩ v3).setCell ⟨b,4,none⟩ v4).setCell ⟨b,5,none⟩ v5).setCell ⟨b,6,none⟩ v6).setCell ⟨b,7,none⟩ v7).setCell ⟨b,8,none⟩ v8) b [v0,v1,v2,v3,v4,v5,v6,v7,v8] t:=
 ((((((((h.set 0 v0).set 1 v1).set 2 v2).set 3 v3).set 4 v4).set 5 v5).set 6 v6).set 7 v7).set 8 v8
theorem zgX{w0 w:World}{B b:Nat}(h:Below B w0 w)(hb:B≤b)(v0 v1 v2 v3 v4 v5 v6 v7 v8:Value) :
 Below B w0 (((((((((w.setCell ⟨b,0,none⟩ v0).setCell ⟨b,1,none⟩ v1).setCell ⟨b,2,none⟩ v2).setCell ⟨b,3,none⟩ v3).setCell ⟨b,4,none⟩ v4).setCell ⟨b,5,none⟩ v5).setCell ⟨b,6,none⟩ v6).setCell ⟨b,7,none⟩ v7).setCell ⟨b,8,none⟩ v8):=
 ((((((((h.setCell (p:=⟨b,0,none⟩) hb v0).setCell (p:=⟨b,1,none⟩) hb v1).setCell (p:=⟨b,2,none⟩) hb v2).setCell (p:=⟨b,3,none⟩) hb v3).setCell (p:=⟨b,4,none⟩) hb v4).setCell (p:=⟨b,5,none⟩) hb v5).setCell (p:=⟨b,6,none⟩) hb v6).setCell (p:=⟨b,7,none⟩) hb v7).setCell (p:=⟨b,8,none⟩) hb v8
def Far(B:Nat)(p:Pl):Prop:=(∀g o,p.ah=some ⟨g,o,none⟩→B≤g)∧(∀g o,p.ab=some ⟨g,o,none⟩→B≤g)∧(∀g o,p.ac=some ⟨g,o,none⟩→B≤g)
theorem Far.mono{B B':Nat}{p:Pl}(h:Far B p)(hb:B'≤B):Far B' p:=⟨fun g o e=>yD hb (h.1 g o e),fun g o e=>yD hb (h.2.1 g o e),fun g o e=>yD hb (h.2.2 g o e)⟩
theorem Far.none(B:Nat):Far B ⟨none,0,none,0,none,0⟩:=⟨(fun _ _ e=>(by cases e)),(fun _ _ e=>(by cases e)),(fun _ _ e=>(by cases e))⟩
theorem Rd.put9{w:World}{a:Option Addr}{vals:List Value}(h:Rd w a vals){b:Nat}(hne:∀g o,a=some ⟨g,o,none⟩→vals≠ []→¬g=b)(v0 v1 v2 v3 v4 v5 v6 v7 v8:Value) :
 Rd (((((((((w.setCell ⟨b,0,none⟩ v0).setCell ⟨b,1,none⟩ v1).setCell ⟨b,2,none⟩ v2).setCell ⟨b,3,none⟩ v3).setCell ⟨b,4,none⟩ v4).setCell ⟨b,5,none⟩ v5).setCell ⟨b,6,none⟩ v6).setCell ⟨b,7,none⟩ v7).setCell ⟨b,8,none⟩ v8) a vals:=fun hv=>by
 obtain⟨g,o,e,hr⟩:=h hv;refine⟨g,o,e,fun j u hu=> ?_⟩;have hg:∀(X:World) i (v:Value),(X.setCell ⟨b,i,none⟩ v).cell? ⟨g,o+j,none⟩=X.cell? ⟨g,o+j,none⟩:=fun X i v=>zkL X b i g (o+j) v (fun h2=>hne g o e hv h2.symm);rw[hg,hg,hg,hg,hg,hg,hg,hg,hg];exact hr j u hu
structure Nine(w:World)(b:Nat)(c0 c1 c2 c3 c4 c5 c6 c7 c8:Value):Prop where
 e0:w.cell? ⟨b,0,none⟩=some c0
 e1:w.cell? ⟨b,1,none⟩=some c1
 e2:w.cell? ⟨b,2,none⟩=some c2
 e3:w.cell? ⟨b,3,none⟩=some c3
 e4:w.cell? ⟨b,4,none⟩=some c4
 e5:w.cell? ⟨b,5,none⟩=some c5
 e6:w.cell? ⟨b,6,none⟩=some c6
 e7:w.cell? ⟨b,7,none⟩=some c7
 e8:w.cell? ⟨b,8,none⟩=some c8
theorem Blk.nine{w:World}{b:Nat}{t:TypeId}{c0 c1 c2 c3 c4 c5 c6 c7 c8:Value}(h:Blk w b [c0,c1,c2,c3,c4,c5,c6,c7,c8] t):Nine w b c0 c1 c2 c3 c4 c5 c6 c7 c8:=
 ⟨h.cell 0,h.cell 1,h.cell 2,h.cell 3,h.cell 4,h.cell 5,h.cell 6,h.cell 7,h.cell 8⟩
theorem znT:Elems Tryz.prog 39 3 1 8 [.int .i64 0]:=⟨Tryz.underlying39,by kernel_rfl,rfl,by decide⟩
def S12.zero:S12.M:=⟨0,0,[],[],0,0,0,0,[]⟩
def S12.okN(bits least:Int):Bool:=decide (1≤bits∧bits≤16)&&decide (1≤least∧least≤32)
def S12.newM(bits least:Int):S12.M:=if S12.okN bits least=true then⟨bits,least,List.replicate (2^bits.toNat) 0,[],0,0,1,2,List.replicate 16 (32768,0)⟩else S12.zero
def S12.newE(bits least:Int):Int:=if S12.okN bits least=true then 0 else 2
theorem MIs.zero(w:World):MIs S12.zero ⟨none,0,none,0,none,0⟩ w:=
 ⟨Rd.nil _ _,Rd.nil _ _,Rd.nil _ _,fun _ hx=>absurd hx zaL,zE _,zeG _,zeG _,zeG _⟩
theorem Cts_fresh:Cts (List.replicate 16 ((32768:Int),(0:Int)))=S08.fresh 16:=by kernel_rfl
theorem table_16:S08.tableLen 16=16∧S08.tableErr 16=0:=⟨rfl,rfl⟩
theorem zpX(n:Nat):zaO (List.replicate n 0)=List.replicate n (.int .i64 0):=by simp[zaO]
theorem new12_bad(bits least:Int)(w:World)(hno:S12.okN bits least=false) :
 Calls Tryz.prog 234 #[.int .i64 bits,.int .i64 least] w fun e w'=>e = .returned (.tuple #[.agg #[.int .i64 0,.int .i64 0,.slice none 0 0,.slice none 0 0,.int .i64 0,.int .i64 0,.int .i64 0,.int .i64 0,.slice none 0 0],.int .i64 2])∧Below w.heap.size w w':=by
 have HW:=zD fun n lo hi W=>zdO n lo hi W;have B0:=Blk.new w [.int .i64 0,.int .i64 0,.slice none 0 0,.slice none 0 0,.int .i64 0,.int .i64 0,.int .i64 0,.int .i64 0,.slice none 0 0] 77;go_enter Tryz.func234,Tryz.ntmps234;go_wp2_with fail;refine(HW.out _ _ _ _).mono ?_;rintro e w1 ⟨rfl,hb1⟩;have hB1:Below w.heap.size w w1:=zA (by go_grown) hb1;by_cases h1:¬(1≤bits∧bits≤16)
 ·rw[zL h1];have B1:=B0.step hb1;obtain⟨x0,x1,x2,x3,x4,x5,x6,x7,x8⟩:=B1.nine;have f0:=B1.free 0;have f1:=B1.free 1;have f2:=B1.free 2;have f3:=B1.free 3;have f4:=B1.free 4;have f5:=B1.free 5;have f6:=B1.free 6;have f7:=B1.free 7;have f8:=B1.free 8;have B2:=B1.put9 (.int .i64 0) (.int .i64 0) (.slice none 0 0) (.slice none 0 0) (.int .i64 0) (.int .i64 0) (.int .i64 0) (.int .i64 0) (.slice none 0 0);obtain⟨y0,y1,y2,y3,y4,y5,y6,y7,y8⟩:=B2.nine;go_wp2_with fail;exact bodyPost_ret (v:=.tuple #[.agg #[.int .i64 0,.int .i64 0,.slice none 0 0,.slice none 0 0,.int .i64 0,.int .i64 0,.int .i64 0,.int .i64 0,.slice none 0 0],.int .i64 2]) (by simp[results,Tryz.results234,go_sem,y0,y1,y2,y3,y4,y5,y6,y7,y8]) rfl ⟨rfl,zgX hB1 (zE _) _ _ _ _ _ _ _ _ _⟩
 replace h1:=Classical.not_not.1 h1;have h2:¬(1≤least∧least≤32):=by unfold S12.okN at hno;rw[zQ h1,zbE]at hno;exact of_decide_eq_false hno
 rw[zQ h1];have B1:=B0.step hb1;clear B0;go_wp2_with fail;refine(HW.out _ _ _ _).mono ?_;rintro e w2 ⟨rfl,hb2⟩;have hB2:Below w.heap.size w w2:=zA hB1 hb2;rw[zL h2];have B2:=B1.step hb2;obtain⟨x0,x1,x2,x3,x4,x5,x6,x7,x8⟩:=B2.nine;have f0:=B2.free 0;have f1:=B2.free 1;have f2:=B2.free 2;have f3:=B2.free 3;have f4:=B2.free 4;have f5:=B2.free 5;have f6:=B2.free 6;have f7:=B2.free 7;have f8:=B2.free 8;have B3:=B2.put9 (.int .i64 0) (.int .i64 0) (.slice none 0 0) (.slice none 0 0) (.int .i64 0) (.int .i64 0) (.int .i64 0) (.int .i64 0) (.slice none 0 0);obtain⟨y0,y1,y2,y3,y4,y5,y6,y7,y8⟩:=B3.nine;go_wp2_with fail;exact bodyPost_ret (v:=.tuple #[.agg #[.int .i64 0,.int .i64 0,.slice none 0 0,.slice none 0 0,.int .i64 0,.int .i64 0,.int .i64 0,.int .i64 0,.slice none 0 0],.int .i64 2]) (by simp[results,Tryz.results234,go_sem,y0,y1,y2,y3,y4,y5,y6,y7,y8]) rfl ⟨rfl,zgX hB2 (zE _) _ _ _ _ _ _ _ _ _⟩
theorem new12_ok(n:Nat)(least:Int)(w:World)(h1:1≤n∧n≤16)(h2:1≤least∧least≤32) :
 Calls Tryz.prog 234 #[.int .i64 (n:Int),.int .i64 least] w fun e w'=>∃h a c,e = .returned (.tuple #[.agg #[.int .i64 (n:Int),.int .i64 least,.slice (some ⟨h,0,none⟩) (2^n) (2^n),.slice none 0 0,.int .i64 0,.int .i64 0,.int .i64 1,.int .i64 2,.slice a 16 c],.int .i64 0])∧
  w.heap.size≤h∧(∀g o,a=some ⟨g,o,none⟩→w.heap.size≤g)∧Rd w' (some ⟨h,0,none⟩) (zaO (List.replicate (2^n) 0))∧Rd w' a (Cts (List.replicate 16 (32768,0)))∧Below w.heap.size w w':=by
 have HW:=zD fun n lo hi W=>zdO n lo hi W;have HT:=zD fun W=>zmQ 16 W (by omega) (by omega);rw[table_16.1,table_16.2,←Cts_fresh]at HT;have B0:=Blk.new w [.int .i64 0,.int .i64 0,.slice none 0 0,.slice none 0 0,.int .i64 0,.int .i64 0,.int .i64 0,.int .i64 0,.slice none 0 0] 77;have d1:decide (1≤(n:Int)∧(n:Int)≤16)=true:=zQ (by omega);have hps:2^n≤65536:=zfQ (n:=2) (by omega) (show n≤16 by omega);have hsh:IntKind.i64.wrap ((2:Int)^n)=((2^n:Nat):Int):=by
  have e:(2:Int)^n=((2^n:Nat):Int):=by simp
  rw[e];exact zbT (by omega)
 obtain⟨N,hN⟩:∃N,2^n=N:=⟨_,rfl⟩;rw[hN]at hsh hps⊢;clear hN;go_enter Tryz.func234,Tryz.ntmps234;go_wp2_with fail;refine(HW.out _ _ _ _).mono ?_;rintro e w1 ⟨rfl,hb1⟩;have hB1:Below w.heap.size w w1:=zA (by go_grown) hb1;have B1:=B0.step hb1;clear B0;rw[d1];go_wp2_with fail;refine(HW.out _ _ _ _).mono ?_;rintro e w2 ⟨rfl,hb2⟩;have hB2:Below w.heap.size w w2:=zA hB1 hb2;have B2:=B1.step hb2;clear B1;rw[zQ h2];have lt1:=B2.lt;go_wp2_with fail;refine(HT.out _).mono ?_;rintro e w3 ⟨a,c,rfl,hf3,hr3,hb3⟩;have hB3:=zA hB2 hb3;have B3:=B2.step hb3;clear B2;have Hr3:=zD hr3;clear hr3;obtain⟨w4,hw4⟩:∃w4,w3.alloc (.cells (List.replicate N (.int .i64 0)).toArray 3)=w4:=⟨_,rfl⟩;have hb4:Below w3.heap.size w3 w4:=by rw[←hw4];exact(zG _ _).alloc (zE _) _
 have H4:Blk w4 w3.heap.size (List.replicate N (.int .i64 0)) 3:=by rw[←hw4];exact Blk.new w3 _ _
 have hB4:=zA hB3 hb4;have B4:=B3.step hb4;obtain⟨x0,x1,x2,x3,x4,x5,x6,x7,x8⟩:=B4.nine;have f0:=B4.free 0;have f1:=B4.free 1;have f2:=B4.free 2;have f3:=B4.free 3;have f4:=B4.free 4;have f5:=B4.free 5;have f6:=B4.free 6;have f7:=B4.free 7;have f8:=B4.free 8;have B5:=B4.put9 (.int .i64 (n:Int)) (.int .i64 least) (.slice (some ⟨w3.heap.size,0,none⟩) N N) (.slice none 0 0) (.int .i64 0) (.int .i64 0) (.int .i64 1) (.int .i64 2) (.slice a 16 c);have hB5:=zgX hB4 (zE _) (.int .i64 (n:Int)) (.int .i64 least) (.slice (some ⟨w3.heap.size,0,none⟩) N N) (.slice none 0 0) (.int .i64 0) (.int .i64 0) (.int .i64 1) (.int .i64 2) (.slice a 16 c);obtain⟨y0,y1,y2,y3,y4,y5,y6,y7,y8⟩:=B5.nine;go_wp2_with (at_make;refine zbU rfl (zmG (.tmp 28) 39 3 8 (.int .i64 0) znT rfl .i64 N (by first|rfl|(show Value.int .i64 (wrap64 _)=_;rw[show wrap64 ((2:Int)^n)=(N:Int)from hsh])) (by omega) (by unfold maxLen;omega)) ?_;rw[hw4];clear hw4)
 exact bodyPost_ret (v:=.tuple #[.agg #[.int .i64 (n:Int),.int .i64 least,.slice (some ⟨w3.heap.size,0,none⟩) N N,.slice none 0 0,.int .i64 0,.int .i64 0,.int .i64 1,.int .i64 2,.slice a 16 c],.int .i64 0]) (by simp[results,Tryz.results234,go_sem,y0,y1,y2,y3,y4,y5,y6,y7,y8]) rfl
  ⟨_,_,_,rfl,hB3.size,fun g o e=>yD hB2.size (hf3 g o e),Rd.put9 (by rw[zpX];exact fun _=>⟨_,0,rfl,H4.cells⟩) (fun g o e _=>by cases e;have:=hb3.size;omega) _ _ _ _ _ _ _ _ _,
    (Hr3.out.step hb4).put9 (fun g o e _=>by have:=hf3 g o e;have:=hB2.size;have:=lt1;omega) _ _ _ _ _ _ _ _ _,hB5⟩
theorem new12_any(bits least:Int)(w:World) :
 Calls Tryz.prog 234 #[.int .i64 bits,.int .i64 least] w fun e w'=>∃p,e = .returned (.tuple #[MV (S12.newM bits least) p,.int .i64 (S12.newE bits least)])∧MIs (S12.newM bits least) p w'∧Far w.heap.size p∧Below w.heap.size w w':=by
 unfold S12.newM S12.newE;cases hno:S12.okN bits least with
 | false=>
   refine(new12_bad bits least w hno).mono ?_;rintro e w' ⟨rfl,hb⟩;exact⟨_,rfl,MIs.zero _,Far.none _,hb⟩
 | true=>
   have h:=hno;unfold S12.okN at h;simp only[yF,yK]at h;obtain⟨n,rfl⟩:∃n:Nat,bits=n:=⟨bits.toNat,by omega⟩;refine(new12_ok n least w (by omega) h.2).mono ?_;rintro e w' ⟨g,a,c,rfl,l1,l2,hg,ha,hb⟩;simp only[if_true,Int.toNat_natCast];have hps:2^n≤65536:=zfQ (n:=2) (by omega) (show n≤16 by omega);refine⟨⟨some ⟨g,0,none⟩,2^n,none,0,a,c⟩,?_,⟨hg,Rd.nil _ _,ha,fun _ hx=>absurd hx zaL,zE _,by simp;omega,zeG _,by simp⟩,⟨fun _ _ e=>by cases e;exact l1,(fun _ _ e=>(by cases e)),l2⟩,hb⟩;simp[MV,zbQ]
