/- A part of the proof of L14l. No condition. -/
import Derived.Laws.BytesArg
import Derived.Test.YthhgkafloejjiaaGreatZL14lbm
set_option linter.all false
set_option maxRecDepth 100000
set_option maxHeartbeats 4000000
namespace Go.Proofs.YthhgkafloejjiaaGreat
open Go.RowKit
theorem ropen10_bad(b:Int)(xs:List Int)(hash:Nat)(a:Option Addr)(cap:Nat)(w:World)(l:Tab xs a cap w)(j:¬S10.check b xs=0) :
 Calls Tryz.prog 50 #[zcK b xs a cap,.int .u32 (hash:Int)] w fun e o=>e = .returned (.tuple #[.agg #[.int .i64 0,.slice none 0 0],.int .i64 0,(S10.check b xs)])∧Below w w o:=by
 have k:=zC fun W (h:Tab xs a cap W)=>zcX b xs a cap W h;unfold zcK at *;have n:(S10.check b xs != 0)=true:=by simpa using j
 obtain⟨C,i⟩:=zvJ (S10.check b xs);rw[i]at n k⊢;clear j i;go_enter Tryz.func50,Tryz.ntmps50;go_wp2_with fail;refine mnx w (k.out _ (l.step zo)) fun m r t y=> ?_;have c:Blk m (w.heap.size+1) [.int .i64 0,.slice none 0 0] 40:=by
  have h:=(Blk.new (w.alloc (.cells #[b,.slice a xs.length cap] 40)) [.int .i64 0,.slice none 0 0] 40).step r;rwa[zY]at h
 have q:=c.cell 0;have s:=c.cell 1;have u:=c.free 0;have x:=c.free 1;have g:=(c.set 0 (.int .i64 0)).set 1 (.slice none 0 0);have f:=g.cell 0;have d:=g.cell 1;simp only[sC0,sCs,lgz,lgs]at f d q s;clear c g;go_wp2;exact bodyPost_ret (v:=.tuple #[.agg #[.int .i64 0,.slice none 0 0],.int .i64 0,C]) (by simp[results,Tryz.results50,go_sem,f,d]) rfl ⟨rfl,(t.setCell (p:=⟨w.heap.size+1,0,none⟩) by1 _).setCell (p:=⟨w.heap.size+1,1,none⟩) by1 _⟩
theorem ztU(n:Nat)(xs:List Int)(hash i:Nat)(I:n≤16)(L:xs.length=16*2^n)(Q:hash<4294967296)(J:S10.check (n:Int) xs=0)(Z:S10.find n xs hash=some i)(a:Option Addr)(cap:Nat)(w:World)(o:Tab xs a cap w) :
 Calls Tryz.prog 50 #[zcK (n:Int) xs a cap,.int .u32 (hash:Int)] w fun e F=>∃b G,e = .returned (.tuple #[zcK (n:Int) xs (some ⟨b,0,none⟩) G,i,.int .i64 0])∧OB F w.heap.size b G xs∧Below w w F:=by
 have M:=zC fun W (h:Tab xs a cap W)=>zcX (n:Int) xs a cap W h;rw[J]at M;have R:=zaX I;have aa:=zaJ n;have V:=zC fun W (h:Rd W a (Bts xs))=>zjW (n:Int) xs a cap W om om h;have k:=zC fun W (h:Tab xs a cap W)=>zpX n hash I Q xs L a cap W h;unfold S10.findI at k;rw[Z]at k;have z:optI (some i)=(i:Int):=rfl;rw[z]at k;have ab:(0:Int)≤(i:Int):=by omega
 clear J L R aa z;unfold zcK at *;go_enter Tryz.func50,Tryz.ntmps50;go_wp2_with fail;refine mnx w (M.out _ (o.step zo)) fun A K O z1=> ?_;have s:Blk A w [n,.slice a xs.length cap] 40:=((Blk.new w _ _).alloc _).step K;have u:Blk A (w.heap.size+1) [.int .i64 0,.slice none 0 0] 40:=by
  have h:=(Blk.new (w.alloc (.cells #[n,.slice a xs.length cap] 40)) [.int .i64 0,.slice none 0 0] 40).step K;rwa[zY]at h
 obtain⟨k1,k2⟩:=s.c2;go_wp2_with fail;refine(V.out _ (o.rd.step O)).mono ?_;rintro e f ⟨c,j,rfl,l,q⟩;have t:=zA O q;have z2:=t.size;have m:=s.step q;have y:=u.step q;obtain⟨k3,k4⟩:=m.c2;have l1:=m.lt;have l2:=y.lt;go_wp2_with fail;refine(k.out _ ((o.step t).step ((zJ _ f).alloc (zF _) _))).mono ?_;rintro e E ⟨rfl,N⟩;have r:Below f f E:=zA ((zJ _ f).alloc (zF _) _) N;have P:=zA t r;have x:Blk E f [n,.slice (some ⟨c,0,none⟩) xs.length j] 40:=(Blk.new f _ _).step N;have d:=y.step r;have H:=l.step r;have X:=x.cell 0;have Y:=x.cell 1;have S:=d.cell 0;have U:=d.cell 1;have f0:=d.free 0;have f1:=d.free 1;have g:=(d.set 0 (.int .i64 (n:Int))).set 1 (.slice (some ⟨c,0,none⟩) xs.length j);have C:=g.cell 0;have B:=g.cell 1;simp only[sC0,sCs,lgz,lgs]at X Y C B S U;have zb:w.heap.size+1<c:=by have:=u.lt;have:=l.1;omega
 have D:=((H.mono (base':=w.heap.size) om).other (w.heap.size+1) 0 (.int .i64 (n:Int)) om).other (w.heap.size+1) 1 (.slice (some ⟨c,0,none⟩) xs.length j) om;have T:=zC D;clear l H D g d x m y s u;go_wp2;exact bodyPost_ret (v:=.tuple #[.agg #[n,.slice (some ⟨c,0,none⟩) xs.length j],i,.int .i64 0]) (by simp[results,Tryz.results50,go_sem,C,B]) rfl ⟨c,j,rfl,T.out,(P.setCell (p:=⟨w.heap.size+1,0,none⟩) by1 _).setCell (p:=⟨w.heap.size+1,1,none⟩) by1 _⟩
end Go.Proofs.YthhgkafloejjiaaGreat
namespace Go.Proofs.YthhgkafloejjiaaGreat
open Go.RowKit
theorem zjJ{l:List Nat}{k:Nat}(a:k<l.length):l.take (k+1)=l.take k ++ [l.getD k 0]:=by
 rw[List.take_succ_eq_append_getElem a,zqY a]
theorem lstep_some(xs:List Int)(b x:Nat):S10.lstep xs (some b) x=if S10.prio xs x<S10.prio xs b then some x else some b:=rfl
theorem ropen10_new(n:Nat)(xs:List Int)(hash i:Nat)(R:n≤16)(hl:xs.length=16*2^n)(hh:hash<4294967296)(hc:S10.check (n:Int) xs=0)(hi:S10.find n xs hash=none)(ak:S10.least xs (S10.places n hash)=some i)(aN:i<2^n)(a:Option Addr)(cap:Nat)(w:World)(I:Tab xs a cap w) :
 Calls Tryz.prog 50 #[zcK (n:Int) xs a cap,.int .u32 (hash:Int)] w fun e w'=>∃b aY,e = .returned (.tuple #[zcK (n:Int) xs (some ⟨b,0,none⟩) aY,i,.int .i64 0])∧OB w' w.heap.size b aY (S10.fresh xs i (S10.mark hash))∧Below w w w':=by
 have HC:=zC fun W (h:Tab xs a cap W)=>zcX (n:Int) xs a cap W h;rw[hc]at HC;have bh:=zaX R;have a9:=zaJ n;have a5:=zC fun W (h:Rd W a (Bts xs))=>zjW (n:Int) xs a cap W om om h;have N:=zC fun W (h:Tab xs a cap W)=>zpX n hash R hh xs hl a cap W h;unfold S10.findI at N;rw[hi]at N;have eo:optI none = -1:=rfl;rw[eo]at N;have aP:=zC fun W=>zkR n hash R hh W;have aI:=zC fun(k:Nat) (E:k<2^n) W (h:Tab xs a cap W)=>rprio10_any n xs k R hl E a cap W h;have HM:=zC fun V=>zpU hash hh V;have an:=S10.places_ne n hash;have m:∀j∈S10.places n hash,j<2^n:=fun j h=>S10.plc_lt h;have ba:(S10.places n hash).length≤3:=S10.plc_len n hash 3;obtain⟨l,aw⟩:=zvJ (S10.places n hash);rw[aw]at aP an m ba ak;obtain⟨y,aE⟩:=zvJ (S10.mark hash);rw[aE]at HM⊢;have bl:1≤l.length:=List.length_pos_iff.2 an;have ax:=zC fun k (E:k<l.length)=>m (l.getD k 0) (by rw[zqY E];exact yR E);obtain⟨a6,a8,a4⟩:=zh3 (show 16*i+15<xs.length by omega) (show xs.length≤1048576 by omega) ak;clear hc hl eo hi aw aE an m ak a9;unfold zcK at *;go_enter Tryz.func50,Tryz.ntmps50;go_wp2_with fail;refine mnx w (HC.out _ (I.step zo)) fun P az aU z1=> ?_;have ae:Blk P w [n,.slice a xs.length cap] 40:=((Blk.new w _ _).alloc _).step az;have al:Blk P (w.heap.size+1) [.int .i64 0,.slice none 0 0] 40:=by
  have h:=(Blk.new (w.alloc (.cells #[n,.slice a xs.length cap] 40)) [.int .i64 0,.slice none 0 0] 40).step az;rwa[zY]at h
 obtain⟨k1,k2⟩:=ae.c2;go_wp2_with fail;refine(a5.out _ (I.rd.step aU)).mono ?_;rintro e f ⟨c,d,rfl,C,ai⟩;have af:=zA aU ai;have z2:=af.size;have O:=ae.step ai;have ah:=al.step ai;obtain⟨k3,k4⟩:=O.c2;have l1:=O.lt;have l2:=ah.lt;go_wp2_with fail;refine(N.out _ ((I.step af).step ((zJ _ f).alloc (zF _) _))).mono ?_;rintro e X ⟨rfl,aS⟩;have Q:Below f f X:=zA ((zJ _ f).alloc (zF _) _) aS;have a0:=zA af Q;have ac:Blk X f [n,.slice (some ⟨c,0,none⟩) xs.length d] 40:=(Blk.new f _ _).step aS;have ab:=O.step Q;have aX:=ah.step Q;have aG:=C.step Q;have m1:=ab.cell 0;simp only[lgz]at m1;have zb:w.heap.size+1<c:=by have:=al.lt;have:=C.1;omega
 have bn:c<f.heap.size:=C.lt;go_wp2_with fail;refine(aP.out _).mono ?_;rintro e w4 ⟨la,lc,rfl,aL,G⟩;have a3:=zA a0 G;have aQ:=ac.step G;have aC:=ab.step G;have aK:=aX.step G;have aW:=aG.step G;have bi:f.heap.size<X.heap.size:=ac.lt;have aH:=Rd.of_owns aL;obtain⟨Z,lo,rfl,am⟩:=aH (fun e=>by rw[←List.length_eq_zero_iff,ztM]at e;omega);have aR:=am 0 _ (Nts_at (show 0<l.length by omega));rw[Nat.add_zero]at aR;have ar:=zC am;have ay:S10.least xs (l.take 1)=some (l.getD 0 0):=by
  rw[zjJ (show 0<l.length by omega)];rfl
 have aT:=zC ay;have aF:=(ax.out 0 om);obtain⟨x0,aB⟩:=zvJ (l.getD 0 0);rw[aB]at aR aT aF;clear aL aH am ae al O ah k1 k2 k3 k4 m1 ab aX ay aB;go_wp2
 go_loopw [11,12] (fun bv t wr=>∃k o:Nat,1≤k∧k≤l.length∧t = .int .i64 (k:Int)∧bv = .int .i64 (o:Int)∧o<2^n∧S10.least xs (l.take k)=some o∧Below w4 w4 wr)
  (fun _ t _=>l.length-(intOf t).toNat)
 case atStart=>exact⟨1,x0,by omega,by omega,rfl,rfl,aF,aT.out,zJ _ _⟩
 case round=>
  obtain⟨k,o,bm,E,rfl,rfl,T,D,u⟩:=hrel;have aJ:=zC D;have ag:=zA a3 u;clear D;by_cases m:k<l.length
  ·have hx:=(u.cell (zE (ar.out k _ (Nts_at m)))).trans (ar.out k _ (Nts_at m));have S:=ax.out k m;have L:S10.least xs (l.take (k+1))=if S10.prio xs (l.getD k 0)<S10.prio xs o then some (l.getD k 0)else some o:=by
    rw[zjJ m,S10.least_snoc,aJ.out,lstep_some]
   obtain⟨x,aA⟩:=zvJ (l.getD k 0);rw[aA]at hx S L;have P1:=zC fun V hV=>aI.out x S V hV;have P2:=zC fun V hV=>aI.out o T V hV;obtain⟨px,pb,av,aO⟩:=zz2 (S10.prio xs x) (S10.prio xs o);rw[av]at P1 L;rw[aO]at P2 L;obtain⟨aq,be,bb⟩:=zh3 L S T;have bf:=aC.step u;obtain⟨q0,q1⟩:=bf.c2;have s:Cells wr [(⟨w,0,none⟩,n),(⟨w,1,none⟩,.slice a xs.length cap),(⟨Z,lo+k,none⟩,x)]:=⟨q0,q1,hx,zT⟩;clear L S T av aO aA;go_wp2;refine zvL 10 0 [(U,0,5),(U,6,2),(zvE,5,1),(zvE,8,1),(U,9,1)] (Keeps wr [(⟨w,0,none⟩,n),(⟨w,1,none⟩,.slice a xs.length cap),(⟨Z,lo+k,none⟩,x)]) (Keeps.start s) fun Y Q4 F4 hY H=> ?_;repeat refine mrd ?_
   refine mcl ?_;refine mck (Keeps.start s) (P1.out _ (I.step (zA ag (Keeps.start s).1))) fun w5 bc ad=> ?_;refine mcl ?_;refine mck ad (P2.out _ (I.step (zA ag ad.1))) fun w6 ao q=> ?_;repeat refine mrd ?_
   refine mdn H fun K F=> ?_;clear H hY;refine mok F ?_;clear F;have aM:=zA u q.1;have bp:w6.cell? ⟨Z,lo+k,none⟩=some (.int .i64 (x:Int)):=q.2.2.2.1;clear ad q s bc ao;by_cases hv:px<pb
   ·have aa:=zC (aq.out.trans (zQ hv));go_wp2;go_roundw
    case rel=>exact⟨k+1,x,by omega,by omega,by simp,rfl,be.out,aa.out,aM⟩
    case measure=>simp[intOf];omega
   ·have aa:=zC (aq.out.trans (zG hv));go_wp2;go_roundw
    case rel=>exact⟨k+1,o,by omega,by omega,by simp,rfl,bb.out,aa.out,aM⟩
    case measure=>simp[intOf];omega
  ·obtain rfl:k=l.length:=by omega
   have D:=aJ.out;rw[zaD,a4.out]at D;obtain rfl:i=o:=zI D;clear D;have ap:=aQ.step u;have aZ:=aK.step u;have aV:=aW.step u;have br:=a6.out;have bq:=a8.out;have bo:=C.2.1;obtain⟨bj,bk⟩:=zh2 aN C;clear T m aN aC aK aQ aW aG C ac;go_wp2
   go_loopw [13] (fun t wz=>∃k:Nat,k≤16∧t = .int .i64 (k:Int)∧Blk wz f [n,.slice (some ⟨c,0,none⟩) xs.length d] 40∧Blk wz (w.heap.size+1) [.int .i64 0,.slice none 0 0] 40∧
    OB wz P.heap.size c d (S10.setMany xs (16*i) (List.replicate k 0))∧Below w w wz)
    (fun t _=>16-(intOf t).toNat)
   case atStart=>exact⟨0,by omega,rfl,ap,aZ,aV,ag⟩
   case round=>
    obtain⟨k,E,rfl,z,M,r,aD⟩:=hrel;by_cases m:k<16
    ·have J:=z.cell 1;simp only[zvH]at J;have B:wr.cell? ⟨c,16*i+k,none⟩=some (.int .u8 ((S10.setMany xs (16*i) (List.replicate k 0)).getD (16*i+k) 0)):=r.at (by rw[zcU];omega);have p1:wr.frozen? ⟨c,16*i+k,none⟩=false:=r.free _;obtain⟨D1,D2⟩:=zh2 (z.other c (16*i+k) (.int .u8 0) om) (M.other c (16*i+k) (.int .u8 0) om)
     have D3:=zC (show OB (wr.setCell ⟨c,16*i+k,none⟩ (.int .u8 0)) P.heap.size c d (S10.setMany xs (16*i) (List.replicate (k+1) 0)) by
      rw[List.replicate_succ',znU,List.length_replicate];exact r.set (16*i+k) 0)
     have bd:=zC (aD.setCell (p:=⟨c,16*i+k,none⟩) (show w.heap.size≤c by omega) (.int .u8 0));clear z M r;go_wp2;go_roundw
     case rel=>exact⟨k+1,by omega,by simp,D1.out,D2.out,D3.out,bd.out⟩
     case measure=>simp[intOf];omega
    ·obtain rfl:k=16:=by omega
     have J:=z.cell 1;simp only[zvH]at J;have s:Cells wr [(⟨f,1,none⟩,.slice (some ⟨c,0,none⟩) xs.length d)]:=⟨J,zT⟩;have B:wr.cell? ⟨c,16*i,none⟩=some (.int .u8 ((S10.setMany xs (16*i) (List.replicate 16 0)).getD (16*i) 0)):=r.at (by rw[zcU];omega);have p1:wr.frozen? ⟨c,16*i,none⟩=false:=r.free _;obtain⟨v0,au⟩:=zvJ ((S10.setMany xs (16*i) (List.replicate 16 0)).getD (16*i) 0);rw[au]at B;clear au;have ef:(S10.setMany xs (16*i) (List.replicate 16 0)).set (16*i) (y:Int)=S10.fresh xs i y:=rfl;have eW:IntKind.i64.wrap (16*(i:Int))=((16*i:Nat):Int):=(zlE om om).trans om;obtain⟨j,hj⟩:=zvJ (16*i);rw[hj]at eW B p1 ef r;have a7:=zC ef;have bs:j<xs.length:=by omega
     have a1:=zC r;clear hj r ef;go_wp2;refine zvL 6 2 [(U,0,5),(zvE,5,1)] (Keeps wr [(⟨f,1,none⟩,.slice (some ⟨c,0,none⟩) xs.length d)]) (Keeps.start s) fun Y Q4 F4 hY H=> ?_;repeat refine mrd ?_
     refine mcl ?_;refine mck (Keeps.start s) (HM.out _) fun w6 ao q=> ?_;refine mdn H fun K F=> ?_;clear H hY;have e1:=z.step q.1;have A:=M.step q.1;have e3:=a1.out.step q.1;have q0:=(e1.other c j (.int .u8 (y:Int)) om).cell 0;have q1:=(e1.other c j (.int .u8 (y:Int)) om).cell 1;have p2:=(q.1.cell (zE B)).trans B;have p3:w6.frozen? ⟨c,j,none⟩=false:=e3.free _;have e4:=A.other c j (.int .u8 (y:Int)) om;have r0:=A.cell 0;have r1:=A.cell 1;have f0:=A.free 0;have f1:=A.free 1;have g:=(e4.set 0 (.int .i64 (n:Int))).set 1 (.slice (some ⟨c,0,none⟩) xs.length d);have g0:=g.cell 0;have g1:=g.cell 1;simp only[sC0,sCs,lgz,lgs]at q0 q1 g0 g1 r0 r1;have aj:=(((e3.set j (y:Int)).mono (base':=w.heap.size) om).other (w.heap.size+1) 0 (.int .i64 (n:Int)) om).other (w.heap.size+1) 1 (.slice (some ⟨c,0,none⟩) xs.length d) om;rw[a7.out]at aj;obtain⟨a2,bg⟩:=zh2 aj ((((zA aD q.1).setCell (p:=⟨c,j,none⟩) by7 (.int .u8 (y:Int))).setCell (p:=⟨w.heap.size+1,0,none⟩) by1 (.int .i64 (n:Int))).setCell (p:=⟨w.heap.size+1,1,none⟩) by1 (.slice (some ⟨c,0,none⟩) xs.length d));clear aj g e1 A e3 e4 z M q ao s B p1 J aV ap aZ;go_wp2_with fail;refine mok F ?_;clear F;go_wp2;exact bodyPost_ret (v:=.tuple #[.agg #[n,.slice (some ⟨c,0,none⟩) xs.length d],i,.int .i64 0]) (by simp[results,Tryz.results50,go_sem,g0,g1]) rfl ⟨c,d,rfl,a2.out,bg.out⟩
end Go.Proofs.YthhgkafloejjiaaGreat
namespace Go.Proofs.YthhgkafloejjiaaGreat
open Go.RowKit
theorem ropen10_any(b:Int)(xs:List Int)(hash:Nat)(m:hash<4294967296)(a:Option Addr)(cap:Nat)(w:World)(g:Tab xs a cap w) :
 Calls Tryz.prog 50 #[zcK b xs a cap,.int .u32 (hash:Int)] w fun e f=>∃V,e = .returned (.tuple #[V,(S10.openN b xs hash:Int),(S10.check b xs)])∧TO f w.heap.size (S10.openB b xs) (S10.openX b xs hash) V∧Below w w f:=by
 by_cases c:S10.check b xs=0
 ·have j:S10.openB b xs=b:=zQ c;have k:S10.openN b xs hash=((S10.find b.toNat xs hash).getD ((S10.least xs (S10.places b.toNat hash)).getD 0)):=zQ c;have h:S10.openX b xs hash=(if(S10.find b.toNat xs hash).isSome then xs else S10.fresh xs (S10.openN b xs hash) (S10.mark hash)):=zQ c;rw[h,k,j,c];obtain⟨n,rfl,p,q,_⟩:=S10.correct c;rw[Int.toNat_natCast];cases hi:S10.find n xs hash with
  | some i=>
    refine(ztU n xs hash i p q m c hi a cap w g).mono ?_;rintro e f ⟨r,t,rfl,l,d⟩;exact⟨_,rfl,TO.tab l rfl,d⟩
  | none=>
    obtain⟨i,o,s,_⟩:=S10.least_ok xs n hash;refine(ropen10_new n xs hash i p q m c hi o s a cap w g).mono ?_;rintro e f ⟨r,t,rfl,l,d⟩;rw[o];simp only[Option.getD_none,zcC,Option.isSome_none,Bool.false_eq_true,if_false];exact⟨_,rfl,TO.tab l (by unfold S10.fresh;rw[yH,zcU]),d⟩
 ·have j:S10.openB b xs=0:=zG c;have k:S10.openN b xs hash=0:=zG c;have h:S10.openX b xs hash = []:=zG c;rw[h,k,j];refine(ropen10_bad b xs hash a cap w g c).mono ?_;rintro e f ⟨rfl,d⟩;exact⟨_,rfl,TO.nil _ _,d⟩
theorem conv10(xs:List Int)(a:Option Addr)(cap:Nat)(w:World)(n:Rd w a (Bts xs)):(convert 38 9 (.slice a xs.length cap)).run Tryz.prog w = .ok (.string (strOfNums xs)) w:=by
 by_cases f:xs = []
 ·subst f;have c:strOfNums []=ByteArray.empty:=rfl;cases a with
  | none=>rw[c];exact run_convert_bytes_nil w 38 5 Tryz.underlying38 Tryz.underlying5 _ _ 9 Tryz.underlying9
  | some l=>
    obtain⟨b,o,g⟩:=l;have h:=run_convert_bytes_string (P:=Tryz.prog) w 38 9 5 (some ⟨b,o,g⟩) 0 cap Tryz.underlying38 Tryz.underlying5 Tryz.underlying9;rw[c];have d:=run_loadCells_list (P:=Tryz.prog) w ⟨b,o,g⟩ [] (fun j v m=>by simp at m);simp only[List.length_nil]at d;refine h.trans ?_;simp[Conv.bytesToString,d]
 ·obtain⟨b,o,rfl,k⟩:=n (fun e=>f (by have:=yG List.length e;rw[zaC]at this;exact List.length_eq_zero_iff.1 (by simpa using this)));exact run_convert_bytes_arg w 38 5 Tryz.underlying38 Tryz.underlying5 b o xs.length cap xs rfl (fun i p=>k i _ (Bts_ix p)) 9 Tryz.underlying9
theorem same10_any(g f:Int)(xs ys:List Int)(a b:Option Addr)(c d:Nat)(w:World)(q:Rd w a (Bts xs))(m:Rd w b (Bts ys)) :
 Calls Tryz.prog 53 #[zcK g xs a c,zcK f ys b d] w fun e s=>e = .returned (.bool (decide (g=f)&&((strOfNums xs).toList==(strOfNums ys).toList)))∧Below w w s:=by
 obtain⟨k,p,j,_,_⟩:=al2 w [g,.slice a xs.length c] [f,.slice b ys.length d] 40 40;have i:Below w w k:=by rw[←p];go_grown
 have n:Blk k (w.heap.size+1) [f,.slice b ys.length d] 40:=by
  have h:=Blk.new (w.alloc (Obj.cells #[g,.slice a xs.length c] 40)) [f,.slice b ys.length d] 40;rw[←p];simpa using h
 have t:=conv10 xs a c _ (q.step i);have r:=conv10 ys b d _ (m.step i);obtain⟨A,B⟩:=j.c2;obtain⟨v,z⟩:=n.c2;obtain⟨x,u,l,o⟩:=zz2 (strOfNums xs) (strOfNums ys);rw[l]at t⊢;rw[o]at r⊢;clear q m j n l o;unfold zcK;by_cases h:g=f
 ·subst h;go_enter Tryz.func53,Tryz.ntmps53;go_wp2;go_returns;exact⟨by simp,i⟩
 ·have y:(g==f)=false:=by simpa using h
  go_enter Tryz.func53,Tryz.ntmps53;go_wp2;go_returns;exact⟨by simp[h],i⟩
