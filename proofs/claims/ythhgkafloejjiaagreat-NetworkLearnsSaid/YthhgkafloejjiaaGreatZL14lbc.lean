/- A part of the proof of L14l. No condition. -/
import Derived.Deep.Slices
import Derived.Test.YthhgkafloejjiaaGreatZL14laq
import Derived.Test.YthhgkafloejjiaaGreatZL14lar
import Derived.Test.YthhgkafloejjiaaGreatZL14laz
set_option linter.all false
set_option maxRecDepth 100000
set_option maxHeartbeats 1000000
namespace Go.Proofs.YthhgkafloejjiaaGreat
open Go.RowKit
def Cts(l:List (Int×Int)):List Value:=l.flatMap fun c=>[.int .i64 c.1,.int .i64 c.2]
theorem zlY(c:Int×Int)(l:List (Int×Int)):Cts (c::l) = .int .i64 c.1 :: .int .i64 c.2::Cts l:=rfl
theorem yT(l:List (Int×Int)):(Cts l).length=l.length*2:=by
 induction l with
 | nil=>rfl
 | cons c l a=>rw[zlY];simp[a];omega
theorem zeD:∀{l:List (Int×Int)} {i:Nat} (a:i<l.length),(Cts l)[i*2]? = some (.int .i64 (l[i]).1)∧(Cts l)[i*2+1]? = some (.int .i64 (l[i]).2)
 | c::l,0,_=>⟨rfl,rfl⟩
 | c::l,i+1,a=>by
   have:=zeD (l:=l) (i:=i) (by simpa using a);rw[zlY,show(i+1)*2=i*2+1+1 by omega];simpa using this
theorem zqT(F:FuncId)(H:∀y w,(callFunc F y).run Tryz.prog w = .ok (.enter F y) w)(c:Value)(b:Int→Bool)(w:World)(xs:List Int)
 (q:∀x W,x∈xs→Below w w W→Calls Tryz.prog F #[.int .i64 x,c] W fun e j=>e = .returned (.bool (b x))∧Below W W j) (a:Option Addr) (cap:Nat) (G:xs.length≤9223372036854775807) (C:Rd w a (zaE xs)) :
 Calls Tryz.prog 221 #[.slice a xs.length cap,.func (.func F) #[] #[c]] w fun e j=>∃r:Int,e = .returned (.int .i64 r)∧decide (0≤r)=xs.any b∧Below w w j:=by
 have E:=zC q;clear q;go_enter Tryz.func221,Tryz.ntmps221;go_wp2;go_loopw [8] (fun i wr=>∃k:Nat,k≤xs.length∧i = .int .i64 k∧(xs.take k).any b=false∧Below w w wr) (fun i _=>xs.length-(intOf i).toNat)
 case atStart=>exact⟨0,by omega,rfl,rfl,zJ _ _⟩
 case round=>
  obtain⟨k,J,rfl,n,d⟩:=hrel;have I:w.heap.size≤wr.heap.size:=d.size;have s:=zC n;clear n;by_cases h:k<xs.length
  ·obtain⟨g,o,rfl,t⟩:=(C.step d).at (i:=k) (by rw[zR];exact h);have D:wr.cell? ⟨g,o+k,none⟩=some (.int .i64 xs[k]):=by rw[t k (by rw[zR];exact h)];simp[zaE]
   obtain⟨f,u,p⟩:=zh3 (E.out xs[k] wr (yR h) d) (zcA b xs k h) (zfA b xs k h);obtain⟨x,v⟩:=zvJ (xs[k]);rw[v]at D f u p;clear t v;cases ht:b x with
   | true=>
     have z:=zC (p.out ht);rw[ht]at f;clear ht;go_wp2_with fail;refine f.out.mono ?_;rintro e A ⟨rfl,l⟩;have m:=zA d l;go_wp2;go_returns;exact⟨_,rfl,by rw[z.out];simp,m⟩
   | false=>
     have B:=zC (show(xs.take (k+1)).any b=false by rw[u.out,s.out,ht];rfl);rw[ht]at f;clear ht;go_wp2_with fail;refine f.out.mono ?_;rintro e A ⟨rfl,l⟩;have m:=zA d l;go_wp2;go_roundw
     case rel=>exact⟨k+1,by omega,by go_num,B.out,m⟩
     case measure=>simp[intOf];omega
  ·obtain rfl:k=xs.length:=by omega
   go_wp2;go_returns;refine⟨_,rfl,?_,d⟩;have:=s.out;rw[zaD]at this;rw[this];rfl
theorem zlH(F:FuncId)(o:∀j w,(callFunc F j).run Tryz.prog w = .ok (.enter F j) w)(c:Value)(d:Int→Bool)(w:World)(xs:List Int)
 (i:∀x W,x∈xs→Below w w W→Calls Tryz.prog F #[.int .i64 x,c] W fun e f=>e = .returned (.bool (d x))∧Below W W f) (a:Option Addr) (cap:Nat) (m:xs.length≤9223372036854775807) (n:Rd w a (zaE xs)) :
 Calls Tryz.prog 216 #[.slice a xs.length cap,.func (.func F) #[] #[c]] w fun e f=>e = .returned (.bool (xs.any d))∧Below w w f:=by
 have g:=zC (zqT F o c d w xs i a cap m n);clear i;obtain⟨b,h⟩:=zvJ (xs.any d);rw[h]at g⊢;clear h;go_enter Tryz.func216,Tryz.ntmps216;go_wp2_with fail;refine g.out.mono ?_;rintro e p ⟨r,rfl,l,k⟩;go_wp2;go_returns;exact⟨by first|rfl|exact zaA l,k⟩
theorem zsE(F:FuncId)(J:∀z w,(callFunc F z).run Tryz.prog w = .ok (.enter F z) w)(b:Int×Int→Bool)(w:World)(xs:List (Int×Int))
 (t:∀x W,Calls Tryz.prog F #[.agg #[.int .i64 x.1,.int .i64 x.2]] W fun e j=>e = .returned (.bool (b x))∧Below W W j) (a:Option Addr) (cap:Nat) (I:xs.length≤100000) (E:Rd w a (Cts xs)) :
 Calls Tryz.prog 175 #[.slice a xs.length cap,.func (.func F) #[] #[]] w fun e j=>∃r:Int,e = .returned (.int .i64 r)∧decide (0≤r)=xs.any b∧Below w w j:=by
 have G:=zC t;clear t;go_enter Tryz.func175,Tryz.ntmps175;go_wp2;go_loopw [8] (fun i wr=>∃k:Nat,k≤xs.length∧i = .int .i64 k∧(xs.take k).any b=false∧Below w w wr) (fun i _=>xs.length-(intOf i).toNat)
 case atStart=>exact⟨0,by omega,rfl,rfl,zJ _ _⟩
 case round=>
  obtain⟨k,L,rfl,p,d⟩:=hrel;have K:w.heap.size≤wr.heap.size:=d.size;have u:=zC p;clear p;by_cases f:k<xs.length
  ·obtain⟨g,o,rfl,l⟩:=(E.step d) (fun e=>by have:=yG List.length e;rw[yT]at this;simp at this;omega);have s:=l (k*2) _ (zeD f).1;have h:=l (k*2+1) _ (zeD f).2;obtain⟨c,v,q⟩:=zh3 (G.out xs[k] wr) (zcA b xs k f) (zfA b xs k f);obtain⟨x,y⟩:=zvJ (xs[k]);rw[y]at s h c v q;clear l y;obtain⟨D,H⟩:=x;simp only at s h c;rw[←zcE]at h;cases ht:b (D,H)with
   | true=>
     have A:=zC (q.out ht);rw[ht]at c;clear ht;go_wp2_with fail;refine c.out.mono ?_;rintro e B ⟨rfl,m⟩;have n:=zA d m;go_wp2;go_returns;exact⟨_,rfl,by rw[A.out];simp,n⟩
   | false=>
     have C:=zC (show(xs.take (k+1)).any b=false by rw[v.out,u.out,ht];rfl);rw[ht]at c;clear ht;go_wp2_with fail;refine c.out.mono ?_;rintro e B ⟨rfl,m⟩;have n:=zA d m;go_wp2;go_roundw
     case rel=>exact⟨k+1,by omega,by go_num,C.out,n⟩
     case measure=>simp[intOf];omega
  ·obtain rfl:k=xs.length:=by omega
   go_wp2;go_returns;refine⟨_,rfl,?_,d⟩;have:=u.out;rw[zaD]at this;rw[this];rfl
theorem zmY(F:FuncId)(n:∀i w,(callFunc F i).run Tryz.prog w = .ok (.enter F i) w)(c:Int×Int→Bool)(w:World)(xs:List (Int×Int))
 (h:∀x W,Calls Tryz.prog F #[.agg #[.int .i64 x.1,.int .i64 x.2]] W fun e d=>e = .returned (.bool (c x))∧Below W W d) (a:Option Addr) (cap:Nat) (l:xs.length≤100000) (m:Rd w a (Cts xs)) :
 Calls Tryz.prog 169 #[.slice a xs.length cap,.func (.func F) #[] #[]] w fun e d=>e = .returned (.bool (xs.any c))∧Below w w d:=by
 have f:=zC (zsE F n c w xs h a cap l m);clear h;obtain⟨b,g⟩:=zvJ (xs.any c);rw[g]at f⊢;clear g;go_enter Tryz.func169,Tryz.ntmps169;go_wp2_with fail;refine f.out.mono ?_;rintro e o ⟨r,rfl,k,j⟩;go_wp2;go_returns;exact⟨by first|rfl|exact zaA k,j⟩
theorem zdO(n b a:Int)(w:World) :
 Calls Tryz.prog 207 #[n,b,a] w fun e c=>e = .returned (.bool (decide (b≤n∧n≤a)))∧Below w w c:=by
 go_enter Tryz.func207,Tryz.ntmps207;go_wp2;all_goals (go_returns;exact⟨zaA (by first|(simp;done)|(simp;omega)),by go_grown⟩)
theorem bad12_any(p n:Int)(w:World) :
 Calls Tryz.prog 215 #[.agg #[p,n]] w fun e c=>e = .returned (.bool (S08.check p n 255 != 0))∧Below w w c:=by
 have b:=zC fun W=>zeM p n 255 W;obtain⟨r,a⟩:=zvJ (S08.check p n 255);rw[a]at b⊢;clear a;go_enter Tryz.func215,Tryz.ntmps215;go_wp2_with fail;refine mnx w (b.out _) fun g f d _=> ?_;exact mf1 d
theorem far12_any(n L:Nat)(x:Int)(b:Nat)(a:Option Addr)(cap:Nat)(w:World)(i:w.cell? ⟨b,3,none⟩=some (.slice a L cap)) :
 Calls Tryz.prog 214 #[x,.pointer (some ⟨b,0,none⟩)] w fun e g=>e = .returned (.bool (!decide (0≤x∧x≤(L:Int))))∧Below w w g:=by
 have c:=zC fun W=>zdO x 0 (L:Int) W;obtain⟨r,d⟩:=zvJ (decide (0≤x∧x≤(L:Int)));rw[d]at c⊢;clear d;go_enter Tryz.func214,Tryz.ntmps214;go_wp2_with fail;refine(c.out _).mono ?_;rintro e h ⟨rfl,f⟩;exact mf1 f
end Go.Proofs.YthhgkafloejjiaaGreat
namespace Go.Proofs.YthhgkafloejjiaaGreat
open Go.RowKit
theorem bits_or_256{x:Nat}(d:x<256):bits .or .i64 256 (x:Int)=((256+x:Nat):Int):=by
 have c:(BitVec.ofInt 64 (256:Int)).toNat=256:=by decide
 have a:(BitVec.ofInt 64 (x:Int)).toNat=x:=by
  rw[BitVec.ofInt_natCast,BitVec.toNat_ofNat];exact Nat.mod_eq_of_lt om
 show IntKind.i64.wrap ((BitVec.ofInt 64 (256:Int) ||| BitVec.ofInt 64 (x:Int)).toNat:Int)=_;have h:=Nat.two_pow_add_eq_or_of_lt (b:=x) (i:=8) om 1;rw[BitVec.toNat_or,c,a,show(256 ||| x)=256+x from h.symm,zdN om]
theorem ztL(x:Nat)(c:x<9223372036854775808):bits .and .i64 (x:Int) 1=((x%2:Nat):Int):=by
 have b:(BitVec.ofInt 64 (1:Int)).toNat=1:=by decide
 have a:(BitVec.ofInt 64 (x:Int)).toNat=x:=by
  rw[BitVec.ofInt_natCast,BitVec.toNat_ofNat];exact Nat.mod_eq_of_lt om
 show IntKind.i64.wrap ((BitVec.ofInt 64 (x:Int) &&& BitVec.ofInt 64 (1:Int)).toNat:Int)=_;rw[BitVec.toNat_and,b,a,Nat.and_one_is_mod,zdN om]
def S12.optN(o:Option Nat):Int:=match o with|some b=>(b:Int)|none=>2
theorem S12.expI_eq(x pt:Int):S12.expI x pt=S12.optN (S12.exp x.toNat pt):=rfl
theorem zgN(x:Nat)(y:x<256)(pt:Int)(w:World) :
 Calls Tryz.prog 212 #[.int .u8 (x:Int),pt] w fun e u=>e = .returned (.tuple #[(S12.optN (S12.exp x pt)),.bool (S12.exp x pt).isSome])∧Below w w u:=by
 have z:=bits_or_256 y;have h:=zC (show S12.exp x pt=S12.expFrom x pt 8 from rfl);obtain⟨E,j⟩:=zvJ (S12.exp x pt);rw[j]at h⊢;clear j;obtain⟨n,b⟩:=zvJ (S12.optN E);rw[b];have i:=zC b;clear b;go_enter Tryz.func212,Tryz.ntmps212;go_wp2_with fail;go_loopw [7] (fun rest wr=>∃k:Nat,k≤8∧rest = .int .i64 ((k:Int)-1)∧E=S12.expFrom x pt k∧Below w w wr) (fun rest _=>(intOf rest+1).toNat)
 case atStart=>exact⟨8,by omega,rfl,h.out,by go_grown⟩
 case round=>
  obtain⟨k,A,rfl,a,g⟩:=hrel;cases k with
  | zero=>
    have v:E=none:=a;subst v;have p:n=2:=i.out.symm;subst p;clear a;exact mf1 g
  | succ k=>
    have s:(((k+1:Nat):Int)-1)=(k:Int):=by omega
    rw[s]
    have d:∀q:Nat,(((256+x)/2^q:Nat):Int)=(256+(x:Int))/2^q:=fun q=>by
     rw[Int.natCast_ediv,Int.natCast_pow,Int.natCast_add];rfl
    have f:(256+x)/2^k<9223372036854775808:=Nat.lt_of_le_of_lt (zfB _ _) om;have l:bits .and .i64 ((256+(x:Int))/2^k) 1=((((256+x)/2^k)%2:Nat):Int):=by rw[←d,ztL _ f]
    unfold S12.expFrom at a;rw[d]at a;by_cases c:(256+(x:Int))/2^(k+1)=pt
    ·rw[zQ c]at a;have t:((256+(x:Int))/2^(k+1)==pt)=true:=by simp[c]
     subst a;have b:n=((((256+x)/2^k)%2:Nat):Int):=i.out.symm;obtain⟨r,m⟩:∃r:Nat,((256+x)/2^k)%2=r:=⟨_,rfl⟩;rw[m]at l b;subst b;clear d f c m;exact mf1 g
    ·rw[zG c]at a;have t:((256+(x:Int))/2^(k+1)==pt)=false:=by simp[c]
     have o:=zC a;clear d f c a l;go_wp2;go_roundw
     case rel=>exact⟨k,by omega,rfl,o.out,g⟩
     case measure=>simp[intOf];try omega
end Go.Proofs.YthhgkafloejjiaaGreat
namespace Go.Proofs.YthhgkafloejjiaaGreat
open Go.RowKit
structure Pl where
 ah:Option Addr
 ch:Nat
 ab:Option Addr
 cb:Nat
 ac:Option Addr
 cc:Nat
def yX(m:S12.M)(p:Pl):List Value:=[.int .i64 m.bits,.int .i64 m.least,.slice p.ah m.heads.length p.ch,.slice p.ab m.bytes.length p.cb,.int .i64 m.at_,.int .i64 m.len,.int .i64 m.part,.int .i64 m.bit,.slice p.ac m.ctrs.length p.cc]
def MV(m:S12.M)(p:Pl):Value:=.agg (yX m p).toArray
structure MIs(m:S12.M)(p:Pl)(w:World):Prop where
 rdh:Rd w p.ah (zaE m.heads)
 rdb:Rd w p.ab (Bts m.bytes)
 rdc:Rd w p.ac (Cts m.ctrs)
 byt:S12.Byt m.bytes
 cb:m.bytes.length≤p.cb
 lh:m.heads.length≤4611686018427387904
 lb:m.bytes.length≤4611686018427387904
 lc:m.ctrs.length≤4611686018427387904
theorem MIs.step{m:S12.M}{p:Pl}{w w':World}(h:MIs m p w)(a:Below w w w'):MIs m p w':=⟨h.rdh.step a,h.rdb.step a,h.rdc.step a,h.byt,h.cb,h.lh,h.lb,h.lc⟩
theorem zuP(m:S12.M)(p:Pl)(w:World)(hl:m.bytes.length≤65536)(hM:MIs m p w) :
 Calls Tryz.prog 217 #[MV m p] w fun e w'=>e = .returned (.bool (S12.matched m))∧Below w w w':=by
 obtain⟨G,D,heads,f,at_,d,k,l,C⟩:=m;obtain⟨J,Q,z,q,P,O⟩:=p;obtain⟨_,aa,_,ad,af,_,_,_⟩:=hM;obtain⟨R,s⟩:=zvJ (S12.matched ⟨G,D,heads,f,at_,d,k,l,C⟩);rw[s];unfold S12.matched at s;simp only at aa ad af hl s;unfold MV yX;simp only;have HW:=zC fun n lo hi W=>zdO n lo hi W;have t:Below w w (w.alloc (.cells #[G,D,.slice J heads.length Q,.slice z f.length q,at_,d,k,l,.slice P C.length O] 43)):=(zJ _ _).alloc (zF _) _;have B0:=Blk.new w [G,D,.slice J heads.length Q,.slice z f.length q,at_,d,k,l,.slice P C.length O] 43;by_cases N:d=0
 ·rw[zQ N]at s;subst N;have M:R=(decide (at_=0)&&decide (l=2)):=s.symm;clear s;by_cases y:at_=0
  ·have e1:(at_==0)=true:=by simp[y]
   have h:R=(l==2):=by rw[M,zO y,zaP];rfl
   subst h;clear M y;go_enter Tryz.func217,Tryz.ntmps217;exact mf1 t
  ·have e1:(at_==0)=false:=by simp[y]
   have h:R=false:=by rw[M,zL y];rfl
   subst h;clear M y;go_enter Tryz.func217,Tryz.ntmps217;exact mf1 t
 rw[zG N]at s;have e0:(d==0)=false:=by simp[N]
 have v:=zC s;clear s;go_enter Tryz.func217,Tryz.ntmps217;obtain⟨I,am⟩:=zvJ ((w.alloc (.cells #[G,D,.slice J heads.length Q,.slice z f.length q,at_,d,k,l,.slice P C.length O] 43)));have A:Blk I w [G,D,.slice J heads.length Q,.slice z f.length q,at_,d,k,l,.slice P C.length O] 43:=by rw[←am];exact B0
 rw[am]at t;have p5:I.cell? ⟨w,5,none⟩=some (.int .i64 d):=A.cell 5;have T:Cells I [(⟨w,3,none⟩,.slice z f.length q),(⟨w,4,none⟩,at_),(⟨w,5,none⟩,d),(⟨w,6,none⟩,k),(⟨w,7,none⟩,l)]:=⟨A.cell 3,A.cell 4,A.cell 5,A.cell 6,A.cell 7,zT⟩;have aw:IntKind.i64.wrap ((f.length:Int)-1)=(f.length:Int)-1:=IntWalk.i64_in _ om;clear B0;go_wp2;refine zvL 26 0 [(U,0,2),(zvE,2,1),(U,3,10),(zvE,13,1),(U,14,7),(U,22,2),(zvE,21,1),(U,24,2)] (Keeps I [(⟨w,3,none⟩,.slice z f.length q),(⟨w,4,none⟩,at_),(⟨w,5,none⟩,d),(⟨w,6,none⟩,k),(⟨w,7,none⟩,l)]) (Keeps.start T) fun Y Q4 F4 hY j=> ?_;repeat refine mrd ?_
 refine mcl ?_;refine mck (Keeps.start T) (HW.out _ _ _ _) fun w1 ao F=> ?_;by_cases H:1≤d∧d≤255
 ·rw[zO H];repeat refine mrd ?_
  refine mcl ?_;refine mck F (HW.out _ _ _ _) fun w2 au B=> ?_;by_cases L:d≤at_∧at_≤(f.length:Int)-1
  ·rw[zO L];obtain⟨c,rfl⟩:∃c:Nat,at_=c:=⟨at_.toNat,by omega⟩;obtain⟨g,o,rfl,al⟩:=ziY aa (i:=c) om;have hx:=al c om;have ap:=ad.at c;have aq:=ad.get c;have Z:=zC fun W hW=>zjL g o q f c om om af om W hW;have h:=v.out;rw[zO H,zO L,Int.toNat_natCast,zaP,zaP]at h;obtain⟨X,xv,ai,an⟩:=zz2 (S12.rep f c) (f.getD c 0);rw[ai]at Z h;rw[an]at h hx ap aq;clear v ai an al;repeat refine mrd ?_
   refine mcl ?_;refine mck B (Z.out _ ((aa.step t).step B.1)) fun V ar u=> ?_;by_cases h3:d≤(X:Int)
   ·have e3:decide ((X:Int)<d)=false:=by simp;omega
    rw[zO h3,zaP]at h;have Hr:=zC h;clear h;repeat refine mrd ?_
    refine mdn j fun K a=> ?_;clear j hY;refine mok a ?_;clear a;have ak:=zA t u.1;obtain⟨x,rfl⟩:∃x:Nat,xv=x:=⟨xv.toNat,by omega⟩;have y1:V.cell? ⟨g,o+c,none⟩=some (.int .u8 (x:Int)):=(ak.cell (p:=⟨g,o+c,none⟩) (zE hx)).trans hx;have aj:Cells V [(⟨w,3,none⟩,.slice (some ⟨g,o,none⟩) f.length q),(⟨w,4,none⟩,c),(⟨w,6,none⟩,k),(⟨g,o+c,none⟩,.int .u8 (x:Int))]:=⟨u.2.1,u.2.2.1,u.2.2.2.2.1,y1,zT⟩;have z7:=u.2.2.2.2.2.1;have HX:=zC fun W=>zgN x om k W;have S:=Hr.out;rw[Int.toNat_natCast]at S;obtain⟨E,hE⟩:=zvJ (S12.exp x k);rw[hE]at HX S;have av:c<f.length:=by omega
    clear u B F ar au ao T p5 hE Hr Z;go_wp2;refine zvL 13 1 [(U,0,8),(zvE,8,1),(U,9,3),(zvE,12,1)] (Keeps V [(⟨w,3,none⟩,.slice (some ⟨g,o,none⟩) f.length q),(⟨w,4,none⟩,c),(⟨w,6,none⟩,k),(⟨g,o+c,none⟩,.int .u8 (x:Int))]) (Keeps.start aj) fun Y Q4 F4 hY j=> ?_;repeat refine mrd ?_
    refine mcl ?_;refine mck (Keeps.start aj) (HX.out _) fun w4 ay ae=> ?_;repeat refine mrd ?_
    refine mvl (ae) ?_;refine mdn j fun K a=> ?_;clear j hY;have ag:=zA ak ae.1;have ax:w4.cell? ⟨w,7,none⟩=some (.int .i64 l):=(ae.1.cell (p:=⟨w,7,none⟩) (zE z7)).trans z7;cases E with
    | none=>
      go_wp2;refine mok a ?_;clear a;have r:R=false:=S.symm;subst r;exact mf1 ag
    | some b=>
      go_wp2;refine mok a ?_;clear a;have r:R=((b:Int)==l):=S.symm;subst r;have eb:S12.optN (some b)=(b:Int):=rfl;exact mf1 ag
   ·have e3:decide ((X:Int)<d)=true:=by simp;omega
    rw[zL h3]at h;have r:R=false:=h.symm;subst r;clear h;repeat refine mrd ?_
    refine mdn j fun K a=> ?_;clear j hY;refine mok a ?_;clear a;go_wp2;go_returns;exact⟨rfl,zA t u.1⟩
  ·rw[zL L];have r:R=false:=by rw[←v.out,zO H,zL L];rfl
   subst r;clear v;repeat refine mrd ?_
   repeat first|refine mud ?_|refine msk (B) ?_
   repeat refine mrd ?_
   refine mdn j fun K a=> ?_;clear j hY;refine mok a ?_;clear a;go_wp2;go_returns;exact⟨rfl,zA t B.1⟩
 ·rw[zL H];have r:R=false:=by rw[←v.out,zL H];rfl
  subst r;clear v;repeat refine mrd ?_
  repeat first|refine mud ?_|refine msk (F) ?_
  repeat refine mrd ?_
  repeat first|refine mud ?_|refine msk (F) ?_
  repeat refine mrd ?_
  refine mdn j fun K a=> ?_;clear j hY;refine mok a ?_;clear a;go_wp2;go_returns;exact⟨rfl,zA t F.1⟩
theorem zfU(m:S12.M)(p:Pl)(w:World)(A:MIs m p w) :
 Calls Tryz.prog 206 #[MV m p] w fun e w'=>e = .returned (.int .i64 (S12.check m))∧Below w w w':=by
 obtain⟨R,a⟩:=zvJ (S12.check m);rw[a];unfold S12.check at a;have ap:=zC fun(hl:m.bytes.length≤65536) W y=>zuP m p W hl y;obtain⟨MT,aq⟩:=zvJ (S12.matched m);rw[aq]at a ap;obtain⟨FA,BA,aj,Q⟩:=zz2 (S12.far m) (S12.bad m);rw[aj,Q]at a;have aw:S12.form m=(decide (m.heads.length=2^m.bits.toNat)&&decide (m.ctrs.length=16)&&decide (1≤m.part∧m.part≤255)):=rfl;rw[aw]at a;obtain⟨S,ak⟩:=zh2 (show(m.heads.any fun h=> !decide (0≤h∧h≤(m.bytes.length:Int)))=FA from aj) (show(m.ctrs.any fun c=>S08.check c.1 c.2 255 != 0)=BA from Q);clear aj Q aq aw;have HM:=zC A;have aA:=A.lb;have aD:=A.lh;have aE:=A.lc;clear A;obtain⟨g,k,heads,b,at_,F,q,H,d⟩:=m;obtain⟨i,j,o,l,s,r⟩:=p;simp only at a aA aD aE S ak;unfold MV yX at *;simp only at *;have P:=zC fun n lo hi W=>zdO n lo hi W;have B0:=Blk.new w [g,k,.slice i heads.length j,.slice o b.length l,at_,F,q,H,.slice s d.length r] 43;have ao:Below w w (w.alloc (.cells #[g,k,.slice i heads.length j,.slice o b.length l,at_,F,q,H,.slice s d.length r] 43)):=(zJ _ _).alloc (zF _) _;obtain⟨w0,ag⟩:=zvJ ((w.alloc (.cells #[g,k,.slice i heads.length j,.slice o b.length l,at_,F,q,H,.slice s d.length r] 43)));rw[ag]at ao;have Z:Blk w0 w [g,k,.slice i heads.length j,.slice o b.length l,at_,F,q,H,.slice s d.length r] 43:=by rw[←ag];exact B0
 clear B0;have p0:w0.cell? ⟨w,0,none⟩=some (.int .i64 g):=Z.cell 0;go_enter Tryz.func206,Tryz.ntmps206;go_wp2_with fail;refine(P.out _ _ _ _).mono ?_;rintro e w1 ⟨rfl,an⟩;have L:=Z.step an;have au:=zA ao an;have p1:w1.cell? ⟨w,1,none⟩=some (.int .i64 k):=L.cell 1;by_cases G:¬(1≤g∧g≤16)
 ·rw[zQ om]at a;subst a;rw[zL G];exact mf1 au
 replace G:=Classical.not_not.1 G;rw[zO G];clear p0 Z ag;go_wp2_with fail;refine(P.out _ _ _ _).mono ?_;rintro e J ⟨rfl,av⟩;have v:=L.step av;have af:=zA au av;have p3:J.cell? ⟨w,3,none⟩=some (.slice o b.length l):=v.cell 3;by_cases E:¬(1≤k∧k≤32)
 ·rw[zQ om]at a;subst a;rw[zL E];exact mf1 af
 replace E:=Classical.not_not.1 E;rw[zG om]at a;rw[zO E];clear p1 L;by_cases h3:65536<b.length
 ·rw[zQ h3]at a;subst a;have e3:decide ((65536:Int)<(b.length:Int))=true:=by simp;omega
  exact mf1 af
 rw[zG h3]at a;have e3:decide ((65536:Int)<(b.length:Int))=false:=by simp;omega
 have D:Cells J [(⟨w,0,none⟩,g),(⟨w,2,none⟩,.slice i heads.length j)]:=⟨v.cell 0,v.cell 2,zT⟩;obtain⟨f,rfl⟩:∃f:Nat,g=f:=⟨g.toNat,by omega⟩;rw[Int.toNat_natCast]at a;have ax:2^f≤65536:=zcP (n:=2) om (show f≤16 by omega);have aB:IntKind.i64.wrap ((2:Int)^f)=((2^f:Nat):Int):=by
  have e:(2:Int)^f=((2^f:Nat):Int):=by simp
  rw[e];exact zdN om
 obtain⟨N,hN⟩:=zvJ (2^f);rw[hN]at aB ax a;clear hN;obtain⟨c1,ad⟩:=zvJ (((heads.length:Int) != (N:Int)));go_wp2_with fail;refine zvL 8 0 [(U,0,7),(zvE,7,1)] (Keeps J [(⟨w,0,none⟩,f),(⟨w,2,none⟩,.slice i heads.length j)]) (Keeps.start D) fun Y Q4 F4 hY hF=> ?_;repeat refine mrd ?_
 refine mvl (Keeps.start D) ?_;refine mdn hF fun K hK=> ?_;clear hF hY;refine mok hK ?_;clear hK;have ai:=(Keeps.start D).1;have C:=zA af ai;have z:=v.step ai;obtain⟨w3,al⟩:=zvJ J.drew;rw[al]at ai C z⊢;clear D p3 v al;by_cases t:¬heads.length=N
 ·obtain rfl:c1=true:=by rw[←ad];simp;omega
  rw[zL t,zdD,zdD,zQ rfl]at a;subst a;exact mf1 C
 replace t:=Classical.not_not.1 t;obtain rfl:c1=false:=by rw[←ad];simp;omega
 rw[zO t,zaP]at a;clear ad;have H4:=zC t;clear t;have q8:w3.cell? ⟨w,8,none⟩=some (.slice s d.length r):=z.cell 8;have q6:w3.cell? ⟨w,6,none⟩=some (.int .i64 q):=z.cell 6;by_cases u:¬d.length=16
 ·have e5:((d.length:Int) != 16)=true:=by simp;omega
  rw[zL u,zdD,zQ rfl]at a;subst a;exact mf1 C
 replace u:=Classical.not_not.1 u;have e5:((d.length:Int) != 16)=false:=by simp;omega
 rw[zO u,zaP]at a;go_wp2_with fail;refine mnb C (P.out _ _ _ _) fun V az M=> ?_;have B:=z.step az;by_cases I:¬(1≤q∧q≤255)
 ·rw[zL I]at a⊢;rw[zQ rfl]at a;subst a;exact mf1 M
 replace I:=Classical.not_not.1 I;rw[zO I]at a⊢;rw[zG by1]at a;clear q8 q6 z;have aC:d.length≤100000:=by omega
 have H5:=zC u;clear u e5;have l5:=B.lt;have q2:V.cell? ⟨w,2,none⟩=some (.slice i heads.length j):=B.cell 2;have q3:V.cell? ⟨w,3,none⟩=some (.slice o b.length l):=B.cell 3
 have O:=zC (zlH 214 (enters_of Tryz.func214 zk rfl) (.pointer (some ⟨w,0,none⟩)) (fun h=> !decide (0≤h∧h≤(b.length:Int))) V heads
  (fun x W _ y=>far12_any 0 b.length x w.heap.size o l W ((y.cell (p:=⟨w,3,none⟩) l5).trans q3)) i j om (HM.out.rdh.step M))
 have ae:=zC fun W (y:Below w w W)=>zmY 215 (enters_of Tryz.func215 zk rfl) (fun c=>S08.check c.1 c.2 255 != 0) W d
  (fun x W2=>bad12_any x.1 x.2 W2) s r aC (HM.out.rdc.step y)
 rw[S.out]at O;rw[ak.out]at ae;clear S ak;go_wp2_with fail;refine O.out.mono ?_;rintro e w5 ⟨rfl,ar⟩;have aa:=zA M ar;have X:=B.step ar;have r8:w5.cell? ⟨w,8,none⟩=some (.slice s d.length r):=X.cell 8;clear B q2 q3 O;cases FA with
 | true=>
   rw[zQ (.inl rfl)]at a;subst a;exact mf1 aa
 | false=>
 go_wp2_with fail;refine mnb aa (ae.out _ aa) fun w6 aF T=> ?_;have B7:=X.step aF;clear X r8 ae;cases BA with
 | true=>
   rw[zQ (.inr (.inl rfl))]at a;subst a;exact mf1 T
 | false=>
 obtain⟨s0,s1,s2,s3,s4,s5,s6,s7,s8⟩:=B7.c9;have ay:b.length≤65536:=by omega
 clear B7;go_wp2_with fail;refine mnb T (ap.out ay _ (HM.out.step T)) fun w7 aG am=> ?_;cases MT with
 | true=>
   rw[zG by1]at a;subst a;exact mf1 am
 | false=>
   rw[zQ by1]at a;subst a;exact mf1 am
theorem zlG(S:Nat)(m:S12.M)(p:Pl)(w:World)(a:Blk w S (yX m p) 240)(j:m.ctrs.length=16)(q:1≤m.len)(g o:Nat)(i:p.ac=some ⟨g,o,none⟩) :
 Calls Tryz.prog 213 #[.pointer (some ⟨S,0,none⟩)] w fun e n=>e = .returned (.pointer (some ⟨g,o+min m.len.toNat 15*2,none⟩))∧Below w w n:=by
 obtain⟨D,y,heads,v,at_,b,s,u,c⟩:=m;obtain⟨t,A,E,G,x,d⟩:=p;simp only at j q i⊢;subst i;unfold yX at a;simp only at a;obtain⟨k,r⟩:∃k:Nat,min b.toNat 15=k:=⟨_,rfl⟩;rw[r];have z:min b 15=(k:Int):=by omega
 have F:k<c.length:=by omega
 have f:Cells w [(⟨S,5,none⟩,b),(⟨S,8,none⟩,.slice (some ⟨g,o,none⟩) c.length d)]:=⟨a.cell 5,a.cell 8,zT⟩;clear j;go_enter Tryz.func213,Tryz.ntmps213;go_wp2;refine zvL 12 1 [(U,0,12)] (Keeps w [(⟨S,5,none⟩,b),(⟨S,8,none⟩,.slice (some ⟨g,o,none⟩) c.length d)]) (Keeps.start f) fun Y B C hY l=> ?_;repeat refine mrd ?_
 refine mdn l fun K h=> ?_;clear l hY;go_wp2;refine mok h ?_;clear h;go_wp2;go_returns;exact⟨rfl,(Keeps.start f).1⟩
theorem Cts_cells{w:World}{a:Option Addr}{l:List (Int×Int)}(h:Rd w a (Cts l)){k:Nat}(b:k<l.length):∃g o,a=some ⟨g,o,none⟩∧
 w.cell? ⟨g,o+k*2,none⟩=some (.int .i64 (l.getD k (0,0)).1)∧w.cell? ⟨g,o+k*2+1,none⟩=some (.int .i64 (l.getD k (0,0)).2):=by
 obtain⟨g,o,rfl,c⟩:=h (fun e=>by have:=yG List.length e;rw[yT]at this;simp at this;omega);refine⟨g,o,rfl,?_,?_⟩
 ·rw[c (k*2) _ (zeD b).1,S12.getD_in _ _ b]
 ·rw[zcE,c (k*2+1) _ (zeD b).2,S12.getD_in _ _ b]
theorem zuG(m:S12.M)(p:Pl)(w:World)(hM:MIs m p w) :
 Calls Tryz.prog 205 #[MV m p] w fun e w'=>e = .returned (.tuple #[(S12.predP m),.bool (S12.predB m)])∧Below w w w':=by
 have af:=zC fun W hW=>zfU m p W hW;obtain⟨C,z⟩:=zvJ (S12.check m);have a:S12.predP m=if C≠0 then 0 else if m.len=0 then 2048 else if m.bit=0 then 4096-S08.predict (m.ctrs.getD (min m.len.toNat 15) (0,0)).1 (m.ctrs.getD (min m.len.toNat 15) (0,0)).2 else S08.predict (m.ctrs.getD (min m.len.toNat 15) (0,0)).1 (m.ctrs.getD (min m.len.toNat 15) (0,0)).2:=by
  rw[←z];rfl
 have d:S12.predB m=(decide (C=0)&&decide (m.len≠0)):=by rw[←z];rfl
 obtain⟨PP,PB,aa,H⟩:=zz2 (S12.predP m) (S12.predB m);rw[aa]at a;rw[H]at d;rw[aa,H];rw[z]at af
 have am:C=0→m.ctrs.length=16∧0≤m.len:=fun h=>by
  have h2:=(S12.check_iff m).1 (z.trans h);refine⟨h2.ctrs,?_⟩;rcases(S12.matched_iff m).1 h2.mat with⟨h3,_⟩|h3
  ·omega
  ·have:=h3.len;omega
 obtain⟨L,HM⟩:=zh2 am hM;clear aa H z hM am;obtain⟨j,i,heads,u,at_,b,t,c,f⟩:=m;obtain⟨r,x,q,l,B,v⟩:=p;simp only at a d L;have ai:=zC fun S W=>zlG S ⟨j,i,heads,u,at_,b,t,c,f⟩ ⟨r,x,q,l,B,v⟩ W;unfold MV yX at *;simp only at *;have B0:=Blk.new w [j,i,.slice r heads.length x,.slice q u.length l,at_,b,t,c,.slice B f.length v] 43;have P:Below w w (w.alloc (.cells #[j,i,.slice r heads.length x,.slice q u.length l,at_,b,t,c,.slice B f.length v] 43)):=(zJ _ _).alloc (zF _) _;obtain⟨w0,U⟩:=zvJ ((w.alloc (.cells #[j,i,.slice r heads.length x,.slice q u.length l,at_,b,t,c,.slice B f.length v] 43)));rw[U]at P;have T:Blk w0 w [j,i,.slice r heads.length x,.slice q u.length l,at_,b,t,c,.slice B f.length v] 43:=by rw[←U];exact B0
 clear B0;obtain⟨G,K,O,R,N,V,M,Y,J⟩:=T.c9;go_enter Tryz.func205,Tryz.ntmps205;go_wp2_with fail;refine mnb P (af.out _ (HM.out.step P)) fun w1 ao X=> ?_;have B2:=T.step ao;clear G K O R N V M Y J T U;by_cases s:¬C=0
 ·rw[zQ s]at a;rw[zL s,zdD]at d;subst a d;have e1:(C != 0)=true:=by simp[s]
  exact mf1 X
 replace s:=Classical.not_not.1 s;subst s;rw[zG by1]at a;rw[zO rfl,zaP]at d;obtain⟨G,K,O,R,N,V,M,Y,J⟩:=B2.c9;by_cases n:b=0
 ·rw[zQ n]at a;rw[zL (fun h=>h n)]at d;subst a d;have e1:(b==0)=true:=by simp[n]
  exact mf1 X
 rw[zG n]at a;rw[zO n]at d;subst d;have e1:(b==0)=false:=by simp[n]
 obtain⟨Z,an⟩:=L.out rfl;obtain⟨k,hk⟩:∃k:Nat,min b.toNat 15=k:=⟨_,rfl⟩;rw[hk]at a;obtain⟨g,o,rfl,y,D⟩:=Cts_cells (HM.out.rdc) (k:=k) (by simp only;omega);simp only at y D;obtain⟨A,ae⟩:=zvJ (f.getD k (0,0));rw[ae]at y D a;have Q:=zC fun W=>zhD A.1 A.2 W;obtain⟨pv,I⟩:=zvJ (S08.predict A.1 A.2);have ar:0≤pv∧pv≤4096:=by rw[←I];unfold S08.predict;split<;>omega
 rw[I]at Q a;obtain⟨p0,p1⟩:=A;simp only at y D Q;have ad:=zC fun S W (hB:Blk W S _ 240)=>ai.out S W hB Z om g o rfl;rw[hk]at ad;have au:=zC Z;clear Z ae I ai L an hk;have lg:g<w.heap.size:=zE y;go_wp2_with fail;obtain⟨w2,al,S2,ak⟩:=al1 w1 [j,i,.slice r heads.length x,.slice q u.length l,at_,b,t,c,.slice (some ⟨g,o,none⟩) f.length v] 240;rw[al];refine(ad.out _ _ S2).mono ?_;rintro e w3 ⟨rfl,aj⟩;have aq:=zA X ak;have F:=zA aq aj;have y1:w3.cell? ⟨g,o+k*2,none⟩=some (.int .i64 p0):=(F.cell (p:=⟨g,o+k*2,none⟩) lg).trans y;have y2:w3.cell? ⟨g,o+k*2+1,none⟩=some (.int .i64 p1):=(F.cell (p:=⟨g,o+k*2+1,none⟩) lg).trans D;clear G K O R N V M Y J y D al S2;go_wp2_with fail;refine mnb F (Q.out _) fun w4 ap ag=> ?_;have B5:=(B2.step ak).step (zA aj ap);have z7:w4.cell? ⟨w,7,none⟩=some (.int .i64 c):=B5.cell 7;by_cases E:c=0
 ·rw[zQ E]at a;have eb:(c==0)=true:=by simp[E]
  subst a;exact mf1 ag
 ·rw[zG E]at a;have eb:(c==0)=false:=by simp[E]
  subst a;exact mf1 ag
theorem Blk.put9{w:World}{b:Nat}{t:TypeId}{l p n m u r q o s:Value}(h:Blk w b [l,p,n,m,u,r,q,o,s] t)(c f a e j i g d k:Value) :
 Blk (((((((((w.setCell ⟨b,0,none⟩ c).setCell ⟨b,1,none⟩ f).setCell ⟨b,2,none⟩ a).setCell ⟨b,3,none⟩ e).setCell ⟨b,4,none⟩ j).setCell ⟨b,5,none⟩ i).setCell ⟨b,6,none⟩ g).setCell ⟨b,7,none⟩ d).setCell ⟨b,8,none⟩ k) b [c,f,a,e,j,i,g,d,k] t:=
 ((((((((h.set 0 c).set 1 f).set 2 a).set 3 e).set 4 j).set 5 i).set 6 g).set 7 d).set 8 k
theorem zeN{k w:World}{B b:Nat}(h:Below B k w)(a:B≤b)(j f g e d l i m c:Value) :
 Below B k (((((((((w.setCell ⟨b,0,none⟩ j).setCell ⟨b,1,none⟩ f).setCell ⟨b,2,none⟩ g).setCell ⟨b,3,none⟩ e).setCell ⟨b,4,none⟩ d).setCell ⟨b,5,none⟩ l).setCell ⟨b,6,none⟩ i).setCell ⟨b,7,none⟩ m).setCell ⟨b,8,none⟩ c):=
 ((((((((h.setCell (p:=⟨b,0,none⟩) a j).setCell (p:=⟨b,1,none⟩) a f).setCell (p:=⟨b,2,none⟩) a g).setCell (p:=⟨b,3,none⟩) a e).setCell (p:=⟨b,4,none⟩) a d).setCell (p:=⟨b,5,none⟩) a l).setCell (p:=⟨b,6,none⟩) a i).setCell (p:=⟨b,7,none⟩) a m).setCell (p:=⟨b,8,none⟩) a c
def Far(B:Nat)(p:Pl):Prop:=(∀g o,p.ah=some ⟨g,o,none⟩→B≤g)∧(∀g o,p.ab=some ⟨g,o,none⟩→B≤g)∧(∀g o,p.ac=some ⟨g,o,none⟩→B≤g)
theorem Far.mono{B b:Nat}{p:Pl}(h:Far B p)(a:b≤B):Far b p:=⟨fun g o e=>yD a (h.1 g o e),fun g o e=>yD a (h.2.1 g o e),fun g o e=>yD a (h.2.2 g o e)⟩
theorem Far.none(B:Nat):Far B ⟨none,0,none,0,none,0⟩:=⟨(fun _ _ e=>(by cases e)),(fun _ _ e=>(by cases e)),(fun _ _ e=>(by cases e))⟩
theorem Rd.put9{w:World}{a:Option Addr}{vals:List Value}(h:Rd w a vals){b:Nat}(x:∀g o,a=some ⟨g,o,none⟩→vals≠ []→¬g=b)(k p f n t s r l z:Value) :
 Rd (((((((((w.setCell ⟨b,0,none⟩ k).setCell ⟨b,1,none⟩ p).setCell ⟨b,2,none⟩ f).setCell ⟨b,3,none⟩ n).setCell ⟨b,4,none⟩ t).setCell ⟨b,5,none⟩ s).setCell ⟨b,6,none⟩ r).setCell ⟨b,7,none⟩ l).setCell ⟨b,8,none⟩ z) a vals:=fun d=>by
 obtain⟨g,o,e,y⟩:=h d;refine⟨g,o,e,fun j u q=> ?_⟩;have c:∀(X:World) i (v:Value),(X.setCell ⟨b,i,none⟩ v).cell? ⟨g,o+j,none⟩=X.cell? ⟨g,o+j,none⟩:=fun X i v=>zaM X b i g (o+j) v (fun m=>x g o e d m.symm);rw[c,c,c,c,c,c,c,c,c];exact y j u q
structure Nine(w:World)(b:Nat)(c0 c1 c2 c3 c4 c5 c6 c7 c8:Value):Prop where
 e0:w.cell? ⟨b,0,none⟩=some c0
 e1:w.cell? ⟨b,1,none⟩=some c1
 e2:w.cell? ⟨b,2,none⟩=some c2
 e3:w.cell? ⟨b,3,none⟩=some c3
 e4:w.cell? ⟨b,4,none⟩=some c4
 e5:w.cell? ⟨b,5,none⟩=some c5
 e6:w.cell? ⟨b,6,none⟩=some c6
 e7:w.cell? ⟨b,7,none⟩=some c7
 e8:w.cell? ⟨b,8,none⟩=some c8
theorem Blk.nine{w:World}{b:Nat}{t:TypeId}{k g c a e i d f j:Value}(h:Blk w b [k,g,c,a,e,i,d,f,j] t):Nine w b k g c a e i d f j:=
 ⟨h.cell 0,h.cell 1,h.cell 2,h.cell 3,h.cell 4,h.cell 5,h.cell 6,h.cell 7,h.cell 8⟩
theorem zqZ:Elems Tryz.prog 41 3 1 8 [.int .i64 0]:=⟨Tryz.underlying41,by kernel_rfl,rfl,by decide⟩
def S12.zero:S12.M:=⟨0,0,[],[],0,0,0,0,[]⟩
theorem MIs.zero(w:World):MIs S12.zero ⟨none,0,none,0,none,0⟩ w:=
 ⟨Rd.nil _ _,Rd.nil _ _,Rd.nil _ _,fun _ a=>absurd a zbU,zF _,zfY _,zfY _,zfY _⟩
