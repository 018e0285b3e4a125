/- A part of the proof of L15. No condition. -/
import Derived.Test.YtahaacfikalheaaGreatZL15bm
import Derived.Test.YtahaacfikalheaaGreatZL15bp
import Derived.Test.YtahaacfikalheaaGreatZL15bq
set_option linter.all false
set_option maxRecDepth 100000
set_option maxHeartbeats 2000000
namespace Go.Proofs.YtahaacfikalheaaGreat
open Go.RowKit
theorem zdX:(Tryz.prog.info? 46).map (·.size)=some 3:=by kernel_rfl
theorem own_apart15{w:World}{B0 b n c:Nat}{a:Option Addr}{xs cs:List Value}(h:w.ownsRow B0 5 1 (.slice a n c) n xs)(hb:Blk w b cs 46):(Value.slice a n c).ownBlock≠some b:=zeS h hb (by decide)
theorem Nbs_Bts(l:List Nat):Nbs l=Bts (l.map fun(x:Nat)=>(x:Int)):=by simp[Nbs,Bts]
theorem cloneN15(l:List Nat)(a:Option Addr)(c:Nat)(w:World)(hl:l.length≤65536)(hrd:Rd w a (Nbs l)) :
 Calls Tryz.prog 53 #[.slice a l.length c] w fun e w'=>∃a' cap',e = .returned (.slice a' l.length cap')∧w'.ownsRow w.heap.size 5 1 (.slice a' l.length cap') l.length (Nbs l)∧Below w.heap.size w w':=by
 rw[Nbs_Bts]at hrd⊢;have h:=zfJ (l.map fun(x:Nat)=>(x:Int)) a c w (by rw[zaH];exact hl) hrd;rw[zaH]at h;exact h
theorem open15(lo wd:Nat)(out:List Nat)(a:Option Addr)(c:Nat)(w:World)(hl:out.length≤65536)(hlo:lo<4294967296)(hrd:Rd w a (Nbs out)) :
 Calls Tryz.prog 35 #[.agg #[.int .u32 (lo:Int),.int .u32 (wd:Int),.slice a out.length c]] w fun e w'=>∃b a' c',e = .returned (.pointer (some ⟨b,0,none⟩))∧EB w' w.heap.size b wd lo out a' c'∧Below w.heap.size w w':=by
 have HC:=zB fun(W:World) (hW:Below w.heap.size w W)=>cloneN15 out a c W hl (hrd.step hW);have e1:IntKind.u64.wrap (lo:Int)=lo:=IntWalk.u64_in _ (by omega);obtain⟨n,hn⟩:∃n,out.length=n:=⟨_,rfl⟩;rw[hn]at HC⊢;have Hn:=zB hn;clear hrd hl hn;go_enter Tryz.func35,Tryz.ntmps35;go_wp2_with fail;obtain⟨w0,hw0⟩:∃x,w.alloc (Obj.cells #[.int .u32 (lo:Int),.int .u32 (wd:Int),.slice a n c] 46)=x:=⟨_,rfl⟩;have b0:Blk w0 w.heap.size [.int .u32 (lo:Int),.int .u32 (wd:Int),.slice a n c] 46:=by rw[←hw0];exact Blk.new w _ _
 have B0:Below w.heap.size w w0:=by rw[←hw0];exact(zF w.heap.size w).alloc (zD _) _
 rw[hw0];clear hw0;have hC0:zbT [(⟨w.heap.size,0,none⟩,.int .u32 (lo:Int)),(⟨w.heap.size,1,none⟩,.int .u32 (wd:Int)),(⟨w.heap.size,2,none⟩,.slice a n c)] w0:=⟨b0.cell 0,b0.cell 1,b0.cell 2,yF⟩;refine zuL 11 1 [(U,[U,U,U,U,U,U,U,U]),(zuH,[zuH,zuH,zuH,zuH,zuH,zuH,zuH,zuH,U]),(U,[zuH,zuH,zuH,zuH,zuH,zuH,zuH,zuH,zuH,U]),(zuH,[zuH,zuH,zuH,zuH,zuH,zuH,zuH,zuH,zuH,zuH,U])] (zbT [(⟨w.heap.size,0,none⟩,.int .u32 (lo:Int)),(⟨w.heap.size,1,none⟩,.int .u32 (wd:Int)),(⟨w.heap.size,2,none⟩,.slice a n c)]) (by kernel_rfl) (hC0) (fun Y Q4 F4 hY hF=> ?_);simp only[zuJ]
 repeat
  apply zJ (by rw[hY];rfl)
  ·intro w2 hS2;(try simp only[Keeps,zbT,Cells]at hS2);go_simp;with_reducible rfl
  simp only[zuI]
 apply zR (by rw[hY];rfl)
 ·go_simp;with_reducible exact⟨rfl,rfl⟩
 refine(HC.out _ (zA B0 (yU _ w0))).mono ?_;rintro e w1 ⟨a1,c1,rfl,own1,hb1⟩;have B1:Below w0.heap.size w0 w1:=zA (yU _ w0) hb1;have hC1:=Cells.step B1 hC0;refine⟨_,rfl,hC1,?_⟩;simp only[zuI]
 repeat
  apply zJ (by rw[hY];rfl)
  ·intro w2 hS2;(try simp only[Keeps,zbT,Cells]at hS2);go_simp;with_reducible rfl
  simp only[zuI]
 have B2:Below w1.heap.size w1 (w1.alloc (Obj.cells #[.int .u32 (wd:Int),.int .u64 (lo:Int),.slice a1 n c1] 97)):=(zF _ _).alloc (zD _) _;have hC2:zbT [(⟨w.heap.size,0,none⟩,.int .u32 (lo:Int)),(⟨w.heap.size,1,none⟩,.int .u32 (wd:Int)),(⟨w.heap.size,2,none⟩,.slice a n c)] _:=Cells.step B2 hC1;refine zbZ (by rw[hY];rfl) (by go_simp;first|with_reducible exact⟨rfl,rfl⟩|with_reducible rfl) (hC2) ?_;simp only[zuI];refine yE (hF.out _ _ (fun K hK=> ?_));clear hF hY hC0 hC1 hC2;have E2:EB (w1.alloc (Obj.cells #[.int .u32 (wd:Int),.int .u64 (lo:Int),.slice a1 n c1] 97)) w.heap.size w1.heap.size wd lo out a1 c1:=by
  have:=B0.size;have:=B1.size;refine⟨by omega,?_,?_⟩
  ·rw[Hn.out];exact Blk.new w1 _ _
  ·rw[Hn.out];exact zcZ (yX (B:=0) own1 B2) (by show w.heap.size≤w0.drew.heap.size;exact B0.size)
 have B3:=zA (zA B0 B1) B2;have H:=zB (zaC E2 B3);clear E2 B3 B2 own1;go_wp2_with fail;refine OnlyK.mk (hK.out _ _ ?_);clear hK;go_wp2_with fail;go_returns;exact⟨_,_,_,rfl,H.out.1,H.out.2⟩
theorem encodeC15(lo wd:Nat)(out:List Nat)(a:Option Addr)(c bit p:Nat)(w:World)(hok:S15.Ok ⟨lo,wd,out⟩)(hwd:16777216≤wd)(hl:out.length≤65536)(hl2:(S15.enc1 ⟨lo,wd,out⟩ bit p).out.length≤65536)(hb:bit=0∨bit=1)(hp:1≤p∧p≤4095)(hrd:Rd w a (Nbs out)) :
 Calls Tryz.prog 18 #[.agg #[.int .u32 (lo:Int),.int .u32 (wd:Int),.slice a out.length c],.int .i64 (bit:Int),.int .i64 (p:Int)] w fun e w'=>∃a' c',e = .returned (.tuple #[.agg #[.int .u32 ((S15.enc1 ⟨lo,wd,out⟩ bit p).low:Int),.int .u32 ((S15.enc1 ⟨lo,wd,out⟩ bit p).width:Int),.slice a' (S15.enc1 ⟨lo,wd,out⟩ bit p).out.length c'],.int .i64 0])∧Rd w' a' (Nbs (S15.enc1 ⟨lo,wd,out⟩ bit p).out)∧(∀g o,a'=some ⟨g,o,none⟩→w.heap.size≤g)∧Below w.heap.size w w':=by
 have hlo:lo<4294967296:=hok.low;have hwt:wd<4294967296:=hok.wt;obtain⟨j,mv,ok1,hj,hw1⟩:=zhY hok hwd (b:=bit) hp;have HK:=zB fun(W:World)=>check15 (lo:Int) (wd:Int) out.length a c (by omega) hl W;have HP:=zB fun(W:World)=>zrX (p:Int) (by omega) W;have HO:=zB fun(W:World) (hW:Below w.heap.size w W)=>open15 lo wd out a c W hl hlo (hrd.step hW);have HE:=zB fun(B0 b:Nat) (a1:Option Addr) (c1:Nat) (W:World) (hE:EB W B0 b wd lo out a1 c1)=>encode15 B0 b wd lo out a1 c1 bit p W hE hok.by_ hl hlo hwd hwt hp.1 hp.2;have hL:=ok1.low;have hT:=ok1.wt;obtain⟨⟨l2,wi2,o2⟩,hE2⟩:∃E,S15.enc1 ⟨lo,wd,out⟩ bit p=E:=⟨_,rfl⟩;rw[hE2]at HE hL hT hl2⊢;simp only at HE hL hT hl2⊢;obtain⟨n,hn⟩:∃n,out.length=n:=⟨_,rfl⟩;obtain⟨n2,hn2⟩:∃n,o2.length=n:=⟨_,rfl⟩;rw[hn]at HK HO⊢;rw[hn2]at hl2⊢;have Hn2:=zB hn2;have e1:IntKind.u32.wrap (l2:Int)=l2:=zfN hL;have hn6:¬(65536:Int)<(n2:Int):=by omega
 clear hE2 mv ok1 hj hw1 hok hrd hn hn2 hl;rcases hb with rfl|rfl
 all_goals
  go_enter Tryz.func18,Tryz.ntmps18;go_wp2_with fail;obtain⟨w0,hw0⟩:∃x,(w.alloc (Obj.cells #[.int .u32 (lo:Int),.int .u32 (wd:Int),.slice a n c] 46)).alloc (Obj.cells #[.int .u32 0,.int .u32 0,.slice none 0 0] 46)=x:=⟨_,rfl⟩;have b0:Blk w0 w.heap.size [.int .u32 (lo:Int),.int .u32 (wd:Int),.slice a n c] 46:=by rw[←hw0];exact(Blk.new w _ _).alloc _
  have r0:Blk w0 (w.heap.size+1) [.int .u32 0,.int .u32 0,.slice none 0 0] 46:=by rw[←hw0,show w.heap.size+1=(w.alloc (Obj.cells #[.int .u32 (lo:Int),.int .u32 (wd:Int),.slice a n c] 46)).heap.size by simp];exact Blk.new _ _ _
  have B0:Below w.heap.size w w0:=by rw[←hw0];exact((zF w.heap.size w).alloc (zD _) _).alloc (by simp) _
  rw[hw0];clear hw0;refine(HK.out _).mono ?_;rintro e w1 ⟨rfl,hb1⟩;have b1:=b0.step hb1;have r1:=r0.step hb1;have B1:=zA B0 hb1;clear b0 r0 B0 hb1;have z0:=b1.cell 0;have z1:=b1.cell 1;have z2:=b1.cell 2;go_wp2_with fail;refine(HP.out _).mono ?_;rintro e w2 ⟨rfl,hb2⟩;have b2:=b1.step hb2;have r2:=r1.step hb2;have B2:=zA B1 hb2;clear b1 r1 B1 hb2 z0 z1 z2;have z0:=b2.cell 0;have z1:=b2.cell 1;have z2:=b2.cell 2;go_wp2_with fail;refine(HO.out _ B2).mono ?_;rintro e w3 ⟨b,a1,c1,rfl,E3,hb3⟩;have hE3:=zB E3;clear b2 z0 z1 z2;go_wp2_with fail;refine(HE.out _ b a1 c1 w3 E3).mono ?_;rintro e w4 ⟨rfl,⟨a2,c2,E4⟩,hb4⟩;have B24:=hb3.trans hb4;have hsz2:=B2.size;have r4:=r2.step B24;have B4:=zA B2 B24;clear r2 B2 hb3 hb4 E3 hE3 B24;have own4:=E4.own;have bk4:=E4.blk;rw[Hn2.out]at own4 bk4;have z0:=bk4.cell 0;have z1:=bk4.cell 1;have z2:=bk4.cell 2;go_wp2_with fail;have hC0:zbT [(⟨b,1,none⟩,.int .u64 (l2:Int)),(⟨b,0,none⟩,.int .u32 (wi2:Int)),(⟨b,2,none⟩,.slice a2 n2 c2)] w4:=⟨z1,z0,z2,yF⟩;refine zuL 15 2 [(U,[U,U,U,U,U,U,U,U,U,U,U,U,U,U,U])] (zbT [(⟨b,1,none⟩,.int .u64 (l2:Int)),(⟨b,0,none⟩,.int .u32 (wi2:Int)),(⟨b,2,none⟩,.slice a2 n2 c2)]) (by kernel_rfl) (hC0) (fun Y Q4 F4 hY hF=> ?_);simp only[zuJ]
  repeat
   apply zJ (by rw[hY];rfl)
   ·intro w2 hS2;(try simp only[Keeps,zbT,Cells]at hS2);go_simp;with_reducible rfl
   simp only[zuI]
  refine yE (hF.out _ _ (fun K hK=> ?_));clear hF hY hC0 z0 z1 z2 E4 bk4;have r5:=r4.step (yU _ w4);have B5:=zA B4 (yU _ w4);have own5:=yX (B:=0) own4 (yU _ w4);obtain⟨w5,hw5⟩:∃x,w4.drew=x:=⟨_,rfl⟩;rw[hw5]at r5 B5 own5⊢;clear hw5 r4 B4 own4;have hKK:=zB hK;clear hK;have rd5:=Rd.of_owns own5;have hlt5:=own5.lt;simp only[ldc,ldz];refine zT 46 (.tmp 6) (.tmp 56) (by rfl) (by rfl) (w.heap.size+1) (by rfl) [.int .u32 (l2:Int),.int .u32 (wi2:Int),.slice a2 n2 c2] (by rfl) _ 46 r5 zdX rfl (by simp[Value.oneCell']) ?_;intro wR ER gR sR;go_wp2_with fail;refine OnlyK.mk (hKK.out.out _ _ ?_);go_wp2_with fail;have hLd:=run_loadVar_mid wR _ 0 _ _ _ ER.cells Tryz.underlying46 rfl zdX;refine bodyPost_ret (v:=.tuple #[.agg #[.int .u32 (l2:Int),.int .u32 (wi2:Int),.slice a2 n2 c2],.int .i64 0]) ?_ rfl ?_
  ·exact zaI (show Tryz.f18.results = #[.cell 6 46,.tmp 7]from rfl) (p:=⟨w.heap.size+1,0,none⟩) rfl rfl hLd
  ·refine⟨a2,c2,rfl,?_,fun g o e=>by subst e;have:=(own5.lt g rfl).1;omega,B5.trans (yG gR (by omega) B5.size)⟩
   exact rd5.keptRow gR (fun g o e=>by
    subst e;have h1:=own_apart15 own5 r5;intro hg;subst hg;exact h1 rfl)
theorem finishC15(lo wd:Nat)(out:List Nat)(a:Option Addr)(c:Nat)(w:World)(hok:S15.Ok ⟨lo,wd,out⟩)(hwd:16777216≤wd)(hl:out.length≤65536)(hrd:Rd w a (Nbs out)) :
 Calls Tryz.prog 20 #[.agg #[.int .u32 (lo:Int),.int .u32 (wd:Int),.slice a out.length c]] w fun e w'=>∃a' c',e = .returned (.tuple #[.slice a' (S15.fin ⟨lo,wd,out⟩).length c',.int .i64 0])∧(S15.fin ⟨lo,wd,out⟩).length≤c'∧Rd w' a' (Nbs (S15.fin ⟨lo,wd,out⟩))∧Below w.heap.size w w':=by
 have hlo:lo<4294967296:=hok.low;have hwt:wd<4294967296:=hok.wt;have HK:=zB fun(W:World)=>check15 (lo:Int) (wd:Int) out.length a c (by omega) hl W;have HO:=zB fun(W:World) (hW:Below w.heap.size w W)=>open15 lo wd out a c W hl hlo (hrd.step hW);have HE:=zB fun(B0 b:Nat) (a1:Option Addr) (c1:Nat) (W:World) (hE:EB W B0 b wd lo out a1 c1)=>finish15 B0 b wd lo out a1 c1 W hE hok.by_ hl hlo hwd hwt;obtain⟨F,hF0⟩:∃F,S15.fin ⟨lo,wd,out⟩=F:=⟨_,rfl⟩;rw[hF0]at HE⊢;obtain⟨n,hn⟩:∃n,out.length=n:=⟨_,rfl⟩;obtain⟨n2,hn2⟩:∃n,F.length=n:=⟨_,rfl⟩;rw[hn]at HK HO⊢;rw[hn2]at HE⊢;clear hF0 hok hrd hn hn2 hl;go_enter Tryz.func20,Tryz.ntmps20;go_wp2_with fail;obtain⟨w0,hw0⟩:∃x,w.alloc (Obj.cells #[.int .u32 (lo:Int),.int .u32 (wd:Int),.slice a n c] 46)=x:=⟨_,rfl⟩;have b0:Blk w0 w.heap.size [.int .u32 (lo:Int),.int .u32 (wd:Int),.slice a n c] 46:=by rw[←hw0];exact Blk.new w _ _
 have B0:Below w.heap.size w w0:=by rw[←hw0];exact(zF w.heap.size w).alloc (zD _) _
 rw[hw0];clear hw0;refine(HK.out _).mono ?_;rintro e w1 ⟨rfl,hb1⟩;have b1:=b0.step hb1;have B1:=zA B0 hb1;clear b0 B0 hb1;have z0:=b1.cell 0;have z1:=b1.cell 1;have z2:=b1.cell 2;go_wp2_with fail;refine(HO.out _ B1).mono ?_;rintro e w3 ⟨b,a1,c1,rfl,E3,hb3⟩;clear b1 z0 z1 z2;go_wp2_with fail;refine(HE.out _ b a1 c1 w3 E3).mono ?_;rintro e w4 ⟨a2,c2,rfl,own4,hb4⟩;have B4:=zA B1 (hb3.trans hb4);have rd:=Rd.of_owns own4;obtain⟨_,_,e4,hle4,_⟩:=zaX own4;cases e4;clear E3 hb3 hb4 own4 B1;go_wp2_with fail;go_returns;exact⟨a2,c2,rfl,hle4,rd,B4⟩
theorem or15{k y:Nat}(hk:k<16777216)(hy:y<256):bits .or .u32 ((k*256:Nat):Int) (y:Int)=((k*256+y:Nat):Int):=by
 have h1:(BitVec.ofInt 32 ((k*256:Nat):Int)).toNat=k*256:=by
  rw[zdH,zfA];exact zcT (by omega)
 have h2:(BitVec.ofInt 32 (y:Int)).toNat=y:=by
  rw[zdH,zfA];exact zcT (by omega)
 have h3:=Nat.two_pow_add_eq_or_of_lt (b:=y) (i:=8) (by omega) k;rw[zdL]at h3;show IntKind.u32.wrap ((BitVec.ofInt 32 ((k*256:Nat):Int) ||| BitVec.ofInt 32 (y:Int)).toNat:Int)=_;rw[BitVec.toNat_or,h1,h2,←h3,zfN (by omega)]
structure DB(w:World)(b wd co:Nat)(inp:List Nat)(a:Option Addr)(c:Nat):Prop where
 blk:Blk w b [.int .u32 (wd:Int),.int .u32 (co:Int),.slice a inp.length c] 107
 rd:Rd w a (Nbs inp)
 ne:inp≠ []→∀g o,a=some ⟨g,o,none⟩→g≠b
 le:inp.length≤c
theorem DB.step{w w':World}{b wd co:Nat}{inp:List Nat}{a:Option Addr}{c:Nat}(h:DB w b wd co inp a c)(hb:Below w.heap.size w w'):DB w' b wd co inp a c:=⟨h.blk.step hb,h.rd.step hb,h.ne,h.le⟩
theorem DB.cells{w:World}{b wd co:Nat}{inp:List Nat}{a:Option Addr}{c:Nat}(h:DB w b wd co inp a c):w.cell? ⟨b,0,none⟩=some (.int .u32 (wd:Int))∧w.cell? ⟨b,1,none⟩=some (.int .u32 (co:Int))∧w.cell? ⟨b,2,none⟩=some (.slice a inp.length c):=⟨h.blk.cell 0,h.blk.cell 1,h.blk.cell 2⟩
theorem zlL{w:World}{b:Nat}{inp:List Nat}{a:Option Addr}(h:Rd w a (Nbs inp))(hn:inp≠ []→∀g o,a=some ⟨g,o,none⟩→g≠b)(k:Nat)(v:Value):Rd (w.setCell ⟨b,k,none⟩ v) a (Nbs inp):=by
 cases inp with
 | nil=>intro h;exact absurd rfl h
 | cons x xs=>exact h.keptRow (zaJ w b k v) (hn (by simp))
theorem DB.setW{w:World}{b wd co:Nat}{inp:List Nat}{a:Option Addr}{c:Nat}(h:DB w b wd co inp a c)(x:Nat):DB (w.setCell ⟨b,0,none⟩ (.int .u32 (x:Int))) b x co inp a c:=⟨h.blk.set 0 _,zlL h.rd h.ne 0 _,h.ne,h.le⟩
theorem DB.setC{w:World}{b wd co:Nat}{inp:List Nat}{a:Option Addr}{c:Nat}(h:DB w b wd co inp a c)(x:Nat):DB (w.setCell ⟨b,1,none⟩ (.int .u32 (x:Int))) b wd x inp a c:=⟨h.blk.set 1 _,zlL h.rd h.ne 1 _,h.ne,h.le⟩
theorem DB.lt{w:World}{b wd co:Nat}{inp:List Nat}{a:Option Addr}{c:Nat}(h:DB w b wd co inp a c):b<w.heap.size:=h.blk.lt
theorem Rd.tail15{w:World}{g o x:Nat}{xs:List Nat}(h:Rd w (some ⟨g,o,none⟩) (Nbs (x::xs))):Rd w (some ⟨g,o+1,none⟩) (Nbs xs):=fun _=>by
 obtain⟨g',o',e,hc⟩:=h (by simp[Nbs]);cases e;refine⟨g,o+1,rfl,fun j v hv=> ?_⟩;have:=hc (j+1) v (by simpa[Nbs] using hv);rw[show o+1+j=o+(j+1) by omega];exact this
theorem next15(b wd co:Nat)(inp:List Nat)(a:Option Addr)(c:Nat)(w:World)(h:DB w b wd co inp a c)(hB:S15.By inp)(hl:inp.length≤65536) :
 Calls Tryz.prog 58 #[.pointer (some ⟨b,0,none⟩)] w fun e w'=>e = .returned (.int .u8 (inp.headD 0:Nat))∧(∃a' c',DB w' b wd co (inp.drop 1) a' c')∧Below b w w':=by
 obtain⟨z0,z1,z2⟩:=h.cells;have f2:=h.blk.free 2;have HD:=zB h;cases inp with
 | nil=>
   clear h;go_enter Tryz.func58,Tryz.ntmps58;go_wp2_with fail;go_returns;exact⟨rfl,⟨a,c,HD.out⟩,zF _ _⟩
 | cons x xs=>
   obtain⟨g,o,rfl,hc⟩:=h.rd (by simp[Nbs]);have x0:w.cell? ⟨g,o,none⟩=some (.int .u8 (x:Int)):=hc 0 _ rfl;have hle:=h.le;have hgb:=h.ne (by simp) g o rfl;have hxb:x<256:=hB x (by simp);simp only[yO]at z2 hle hl;obtain⟨m,hm⟩:∃m,xs.length+1=m:=⟨_,rfl⟩;rw[hm]at z2 hle hl;have hm0:¬(m:Int)=0:=by omega
   have hm1:(0:Int)<(m:Int):=by omega
   have hm2:(1:Int)≤(m:Int):=by omega
   have hm3:(m:Int)≤(c:Int):=by omega
   have Hm:=zB hm;clear h hc hB hm;have hxs:xs.length=m-1:=by have:=Hm.out;omega
   have Hxs:=zB hxs;have HR:=zB HD.out.rd.tail15;have Hne:=zB HD.out.ne;have Hbk:=zB HD.out.blk;clear hxs HD;go_enter Tryz.func58,Tryz.ntmps58;by_cases hc1:c=1
   ·subst hc1;have hxn:xs = []:=List.eq_nil_of_length_eq_zero (by have:=Hxs.out;omega);have Hxn:=zB hxn;clear hxn;go_wp2_with fail;go_returns;refine⟨rfl,⟨some ⟨g,o,none⟩,0,?_,?_,?_,?_⟩,(zF b w).setCell (p:=⟨b,2,none⟩) (zD b) _⟩
    ·show Blk _ b [_,_,.slice _ xs.length _] _;rw[Hxn.out];exact Hbk.out.set 2 _
    ·show Rd _ _ (Nbs xs);rw[Hxn.out];intro h;exact absurd rfl h
    ·intro h;exact absurd Hxn.out h
    ·show xs.length≤_;rw[Hxn.out];exact zcA _
   ·go_wp2_with fail;go_returns;have hne:xs≠ []→∀g2 o2,some (⟨g,o+1,none⟩:Addr)=some ⟨g2,o2,none⟩→g2≠b:=fun _ g2 o2 e=>by cases e;exact hgb
    refine⟨rfl,⟨some ⟨g,o+1,none⟩,c-1,?_,zlL HR.out hne 2 _,hne,?_⟩,(zF b w).setCell (p:=⟨b,2,none⟩) (zD b) _⟩
    ·show Blk _ b [_,_,.slice _ xs.length _] _;rw[Hxs.out];exact Hbk.out.set 2 _
    ·show xs.length≤_;rw[Hxs.out];omega
theorem shift15(b wd co:Nat)(inp:List Nat)(a:Option Addr)(c:Nat)(w:World)(h:DB w b wd co inp a c)(hB:S15.By inp)(hl:inp.length≤65536)(hco:co<4294967296) :
 Calls Tryz.prog 40 #[.pointer (some ⟨b,0,none⟩)] w fun e w'=>e = .returned (.tuple #[])∧(∃a' c',DB w' b (S15.shift ⟨wd,co,inp⟩).width (S15.shift ⟨wd,co,inp⟩).code (S15.shift ⟨wd,co,inp⟩).inp a' c')∧Below b w w':=by
 have HN:=zB fun(W:World) (hW:Below w.heap.size w W)=>next15 b wd co inp a c W (h.step hW) hB hl;obtain⟨z0,z1,z2⟩:=h.cells;have hbl:=h.lt;obtain⟨y,hy⟩:∃y,inp.headD 0=y:=⟨_,rfl⟩;have hyb:y<256:=by
  rw[←hy];cases inp with
  | nil=>decide
  | cons x xs=>exact hB x (by simp)
 obtain⟨r,hr⟩:∃r,inp.drop 1=r:=⟨_,rfl⟩;rw[hy,hr]at HN;show Calls _ _ _ _ fun e w'=>e = .returned (.tuple #[])∧(∃a' c',DB w' b wd (co*256%4294967296+inp.headD 0) (inp.drop 1) a' c')∧Below b w w';rw[hy,hr];obtain⟨n,hn⟩:∃n,inp.length=n:=⟨_,rfl⟩;rw[hn]at z2;obtain⟨k,hk⟩:∃k,co%16777216=k:=⟨_,rfl⟩;obtain⟨t,ht⟩:∃t,k*256=t:=⟨_,rfl⟩;obtain⟨s,hs⟩:∃s,t+y=s:=⟨_,rfl⟩;have e0:co*256%4294967296+y=s:=by omega
 have e1:IntKind.u32.wrap ((co:Int)*256)=(t:Int):=by
  rw[IntKind.wrap_u32];omega
 have e2:IntKind.u32.wrap (y:Int)=(y:Int):=zfN (by omega);have e3:bits BinOp.or IntKind.u32 (t:Int) (y:Int)=(s:Int):=by
  rw[←ht,or15 (by omega) hyb,ht,hs]
 rw[e0];clear h hB hl hy hr hn ht hs hk e0;have hC0:zbT [(⟨b,1,none⟩,.int .u32 (co:Int))] w:=⟨z1,yF⟩;go_enter Tryz.func40,Tryz.ntmps40;go_wp2_with fail;refine zbL 12 13 0 [(.r,[true,true,true,true,true,true,true]),(.e,[false,false,false,false,false,false,false,true]),(.p,[false,false,false,false,false,false,false,false,true,true,true,true]),(.l,[false,false,false,false,false,false,false,false,false,false,false,false,true])] _ _ (zbT [(⟨b,1,none⟩,.int .u32 (co:Int))]) (by kernel_rfl) (yB 13 _).symm (by kernel_rfl) (by kernel_rfl) (by kernel_rfl) (by kernel_rfl) (hC0) (fun Y Q4 F4 hY hF=> ?_);simp only[zeR,lfc,lfn,ltc,ltz,ldc,ldz,zeE,zdE,zfU,lmc,lmn,lca,lna,lan]
 repeat
  first
   | (apply zaR (by rw[hY];rfl)
      ·intro w2;go_simp;with_reducible rfl
      simp only[zuI])
   | (apply zaQ (by rw[hY];rfl)
      ·intro w2 hS2;(try simp only[Keeps,zbT,Cells]at hS2);go_simp;with_reducible rfl
      simp only[zuI])
 apply zfR (by rw[hY];rfl)
 ·go_simp;with_reducible exact⟨rfl,rfl⟩
 refine(HN.out _ (yU _ w)).mono ?_;rintro e w1 ⟨rfl,⟨a1,c1,D1⟩,hb1⟩;have B1:=(yU b w).trans hb1;refine⟨_,rfl,⟨D1.cells.2.1,yF⟩,?_⟩;simp only[zuI]
 repeat
  first
   | (apply zaR (by rw[hY];rfl)
      ·intro w2;go_simp;with_reducible rfl
      simp only[zuI])
   | (apply zaQ (by rw[hY];rfl)
      ·intro w2 hS2;(try simp only[Keeps,zbT,Cells]at hS2);go_simp;with_reducible rfl
      simp only[zuI])
 have D2:=D1.setC s;have B2:=B1.setCell (p:=⟨b,1,none⟩) (zD b) (.int .u32 (s:Int));obtain⟨w2,hw2⟩:∃x,w1.setCell ⟨b,1,none⟩ (.int .u32 (s:Int))=x:=⟨_,rfl⟩;rw[hw2]at D2 B2;have q1:=D1.cells.2.1;have q1f:=D1.blk.free 1;refine zbD (by rw[hY];rfl) (by go_simp;first|with_reducible exact⟨rfl,rfl⟩|with_reducible rfl) ?_;simp only[zuI];(try rw[hw2]);refine zcR (hF.out _ _ (fun K hK=> ?_));clear hF hY hw2 q1 q1f D1 B1 hb1;refine OnlyK.mk (hK.out _ _ ?_);clear hK;go_wp2_with fail;go_returns;exact⟨rfl,⟨a1,c1,D2⟩,B2⟩
theorem normD_done{d:S15.D}(h:¬d.width<16777216):∀f,S15.normD f d=d
 | 0=>rfl
 | f+1=>by rw[S15.normD,zG h]
theorem By_drop{l:List Nat}(h:S15.By l)(n:Nat):S15.By (l.drop n):=fun x hx=>h x (List.mem_of_mem_drop hx)
theorem headD_lt{l:List Nat}(h:S15.By l):l.headD 0<256:=by
 cases l with
 | nil=>decide
 | cons x xs=>exact h x (by simp)
theorem decode15(b wd co:Nat)(inp:List Nat)(a:Option Addr)(c p:Nat)(w:World)(h:DB w b wd co inp a c)(hB:S15.By inp)(hl:inp.length≤65536)(hco:co<4294967296)(hw1:16777216≤wd)(hw2:wd<4294967296)(hp:1≤p∧p≤4095) :
 Calls Tryz.prog 43 #[.pointer (some ⟨b,0,none⟩),.int .i64 (p:Int)] w fun e w'=>e = .returned (.int .i64 (S15.bitD ⟨wd,co,inp⟩ p:Nat))∧(∃a' c',DB w' b (S15.dec1 ⟨wd,co,inp⟩ p).width (S15.dec1 ⟨wd,co,inp⟩ p).code (S15.dec1 ⟨wd,co,inp⟩ p).inp a' c')∧Below b w w':=by
 have HD:=zB h;have HBd:=zB fun(W:World)=>bound15 wd p hw2 hp.2 W;have CS:=zB fun(V:Nat) (W:World)=>small15 V W;have CN1:=zB fun(W:World) (hW:Below w.heap.size w W)=>ztJ b wd 1 p _ _ hw2 hp.2 W (h.blk.step hW) rfl;have CN0:=zB fun(W:World) (hW:Below w.heap.size w W)=>ztJ b wd 0 p _ _ hw2 hp.2 W (h.blk.step hW) rfl;have hwi1:=zjX hw1 hp (b:=1);have hwi0:=zjX hw1 hp (b:=0);obtain⟨D',hD'⟩:∃E,S15.dec1 ⟨wd,co,inp⟩ p=E:=⟨_,rfl⟩;have hN:S15.normD 4 ⟨S15.wid wd (S15.bitD ⟨wd,co,inp⟩ p) p,co-S15.off wd (S15.bitD ⟨wd,co,inp⟩ p) p,inp⟩=D':=hD';have hbd:S15.bitD ⟨wd,co,inp⟩ p=if co<S15.bound wd p then 1 else 0:=rfl
 rw[hD'];obtain⟨R,hR⟩:∃R,S15.bitD ⟨wd,co,inp⟩ p=R:=⟨_,rfl⟩;rw[hR]at hN hbd⊢;have ho0:S15.off wd 0 p=S15.bound wd p:=rfl;have ho1:S15.off wd 1 p=0:=rfl;obtain⟨V0,hV0⟩:∃R,S15.wid wd 0 p=R:=⟨_,rfl⟩;obtain⟨V1,hV1⟩:∃R,S15.wid wd 1 p=R:=⟨_,rfl⟩;have c1:((1:Nat):Int)=1:=rfl;have c0:((0:Nat):Int)=0:=rfl;simp only[c1]at CN1;simp only[c0]at CN0;clear c1 c0;rw[ho0,hV0]at CN0 hwi0;obtain⟨O1,hO1⟩:∃R,S15.off wd 1 p=R:=⟨_,rfl⟩;rw[hO1,hV1]at CN1 hwi1;rw[hO1]at ho1;have hN1:R=1→S15.normD 4 ⟨V1,co-O1,inp⟩=D':=fun e=>by rw[←hN,e,hO1,hV1]
 have hN0:R=0→S15.normD 4 ⟨V0,co-S15.bound wd p,inp⟩=D':=fun e=>by rw[←hN,e,ho0,hV0]
 obtain⟨B,hBB⟩:∃R,S15.bound wd p=R:=⟨_,rfl⟩;rw[hBB]at HBd CN0 hN0 hbd hwi0;have HN1:=zB hN1;have HN0:=zB hN0;have Hbd:=zB hbd;have HB:=zB hB;have Hl:=zB hl;have hbl:=h.lt;obtain⟨z0,z1,z2⟩:=h.cells;clear h hB hN hD' hR hbd hN1 hN0 ho0 hO1 hV0 hV1 hBB hl z2;go_enter Tryz.func43,Tryz.ntmps43;go_wp2_with fail;have hC0:zbT [(⟨b,1,none⟩,.int .u32 (co:Int)),(⟨b,0,none⟩,.int .u32 (wd:Int))] w:=⟨z1,z0,yF⟩;refine zuL 11 0 [(U,[U,U,U,U,U,U,U,U,U]),(zuH,[zuH,zuH,zuH,zuH,zuH,zuH,zuH,zuH,zuH,U]),(U,[zuH,zuH,zuH,zuH,zuH,zuH,zuH,zuH,zuH,zuH,U])] (zbT [(⟨b,1,none⟩,.int .u32 (co:Int)),(⟨b,0,none⟩,.int .u32 (wd:Int))]) (by kernel_rfl) (hC0) (fun Y Q4 F4 hY hF=> ?_);simp only[zuJ]
 repeat
  apply zJ (by rw[hY];rfl)
  ·intro w2 hS2;(try simp only[Keeps,zbT,Cells]at hS2);go_simp;with_reducible rfl
  simp only[zuI]
 apply zR (by rw[hY];rfl)
 ·go_simp;with_reducible exact⟨rfl,rfl⟩
 refine(HBd.out _).mono ?_;rintro e w1 ⟨rfl,hb1⟩;have B1:=zA (yU _ w) hb1;have hC1:=Cells.step B1 hC0;refine⟨_,rfl,hC1,?_⟩;simp only[zuI]
 repeat
  apply zJ (by rw[hY];rfl)
  ·intro w2 hS2;(try simp only[Keeps,zbT,Cells]at hS2);go_simp;with_reducible rfl
  simp only[zuI]
 refine yE (hF.out _ _ (fun K hK=> ?_));clear hF hY hC0 z0 z1 hb1;obtain⟨z1,z0,_⟩:=hC1;refine OnlyK.mk (hK.out _ _ ?_);clear hK;by_cases hlt:co<B
 case' pos=>
  have hR1:R=1:=by rw[Hbd.out,zO hlt]
  have hli:(co:Int)<(B:Int):=by omega
  have hN:=HN1.out hR1;have CN:=CN1;obtain⟨O,hO⟩:∃O,O=O1:=⟨_,rfl⟩;obtain⟨V,hV⟩:∃O,O=V1:=⟨_,rfl⟩;rw[←hO,←hV]at CN;have hNV:S15.normD 4 ⟨V,co-O,inp⟩=D':=by rw[hO,hV];exact hN
  have hOc:O≤co:=by omega
  have hVb:1≤V∧V<4294967296:=by rw[hV];omega
  subst hR1;clear hO hV hN;go_wp2_with fail
 case' neg=>
  have hR1:R=0:=by rw[Hbd.out,zG hlt]
  have hli:¬(co:Int)<(B:Int):=by omega
  have hN:=HN0.out hR1;have CN:=CN0;obtain⟨O,hO⟩:∃O,O=B:=⟨_,rfl⟩;obtain⟨V,hV⟩:∃O,O=V0:=⟨_,rfl⟩;rw[←hO,←hV]at CN;have hNV:S15.normD 4 ⟨V,co-O,inp⟩=D':=by rw[hO,hV];exact hN
  have hOc:O≤co:=by omega
  have hVb:1≤V∧V<4294967296:=by rw[hV];omega
  subst hR1;clear hO hV hN;go_wp2_with fail
 all_goals
  clear CN1 CN0 HN1 HN0 Hbd hlt hli hwi1 hwi0 ho1;obtain⟨C,hC⟩:∃C,co-O=C:=⟨_,rfl⟩;rw[hC]at hNV;have hw:IntKind.u32.wrap ((co:Int)-O)=(C:Int):=by
   rw[show(co:Int)-O=(C:Int) by omega];exact zfN (by omega)
  have hCb:C<4294967296:=by omega
  have hC3:zbT [(⟨b,1,none⟩,.int .u32 (co:Int))] w1:=⟨z1,yF⟩;clear hC;refine zbL 13 14 0 [(.r,[true,true,true,true,true,true,true,true,true]),(.e,[false,false,false,false,false,false,false,false,false,true]),(.p,[false,false,false,false,false,false,false,false,false,false,true,true,true]),(.l,[false,false,false,false,false,false,false,false,false,false,false,false,false,true])] _ _ (zbT [(⟨b,1,none⟩,.int .u32 (co:Int))]) (by kernel_rfl) (yB 14 _).symm (by kernel_rfl) (by kernel_rfl) (by kernel_rfl) (by kernel_rfl) (hC3) (fun Y Q4 F4 hY hF=> ?_);simp only[zeR,lfc,lfn,ltc,ltz,ldc,ldz,zeE,zdE,zfU,lmc,lmn,lca,lna,lan]
  repeat
   first
    | (apply zaR (by rw[hY];rfl)
       ·intro w2;go_simp;with_reducible rfl
       simp only[zuI])
    | (apply zaQ (by rw[hY];rfl)
       ·intro w2 hS2;(try simp only[Keeps,zbT,Cells]at hS2);go_simp;with_reducible rfl
       simp only[zuI])
  apply zfR (by rw[hY];rfl)
  ·go_simp;with_reducible exact⟨rfl,rfl⟩
  refine(CN.out _ (zA B1 (yU _ w1))).mono ?_;rintro e w2' ⟨rfl,w2,hb2,rfl⟩;have B2':Below w.heap.size w w2:=zA B1 (zA (yU _ w1) hb2);have D2:=(HD.out.step B2').setW V;have B2:=(B2'.mono (Nat.le_of_lt hbl)).setCell (p:=⟨b,0,none⟩) (zD b) (.int .u32 (V:Int));obtain⟨w3,hw3⟩:∃x,w2.setCell ⟨b,0,none⟩ (.int .u32 (V:Int))=x:=⟨_,rfl⟩;rw[hw3]at D2 B2⊢;clear hw3 hb2 B2' hC3;refine⟨_,rfl,⟨D2.cells.2.1,yF⟩,?_⟩;simp only[zuI]
  repeat
   first
    | (apply zaR (by rw[hY];rfl)
       ·intro w2;go_simp;with_reducible rfl
       simp only[zuI])
    | (apply zaQ (by rw[hY];rfl)
       ·intro w2 hS2;(try simp only[Keeps,zbT,Cells]at hS2);go_simp;with_reducible rfl
       simp only[zuI])
  have D4:=D2.setC C;have B4:=B2.setCell (p:=⟨b,1,none⟩) (zD b) (.int .u32 (C:Int));obtain⟨w4,hw4⟩:∃x,w3.setCell ⟨b,1,none⟩ (.int .u32 (C:Int))=x:=⟨_,rfl⟩;rw[hw4]at D4 B4;have q1:=D2.cells.2.1;have q1f:=D2.blk.free 1;refine zbD (by rw[hY];rfl) (by go_simp;first|with_reducible exact⟨rfl,rfl⟩|with_reducible rfl) ?_;simp only[zuI];(try rw[hw4]);refine zcR (hF.out _ _ (fun K hK=> ?_));have HD4:=zB D4;have hNV2:=zB hNV;clear hF hY hw4 q1 q1f D2 B2 hw D4 hNV z0 z1 B1;refine OnlyK.mk (hK.out _ _ ?_);clear hK;go_wp2_with fail;go_loopw [] (fun wr=>∃(f:Nat) (D1:S15.D) (a1:Option Addr) (c1:Nat),Hid (S15.normD f D1=D')∧Hid (DB wr b D1.width D1.code D1.inp a1 c1)∧Hid (D1.code<4294967296∧1≤D1.width∧D1.width<4294967296∧16777216≤D1.width*256^f∧S15.By D1.inp∧D1.inp.length≤65536)∧Below b w wr) (fun wr=>16777216-(intOf ((wr.cell? ⟨b,0,none⟩).getD undef)).toNat)
  case atStart=>exact⟨4,⟨V,C,inp⟩,a,c,hNV2,HD4,zB ⟨hCb,hVb.1,hVb.2,by show _≤V*256^4;have:=hVb.1;omega,HB.out,Hl.out⟩,B4⟩
  case round=>
   obtain⟨f,⟨wi,cc,ii⟩,a1,c1,hn,hE,hc,hBl⟩:=hrel;have hE':DB wr b wi cc ii a1 c1:=hE.out;have hc':cc<4294967296∧1≤wi∧wi<4294967296∧16777216≤wi*256^f∧S15.By ii∧ii.length≤65536:=hc.out;obtain⟨hc1,hc2,hc3,hc4,hc5,hc6⟩:=hc';obtain⟨y0,y1,y2⟩:=hE'.cells;have hm0:=zB y0;have hb0:=hE'.lt;go_wp2_with fail;refine(CS.out wi _).mono ?_;rintro e w6 ⟨rfl,hB7⟩;have E7:=hE'.step hB7;have hB8:=hBl.trans (hB7.mono (Nat.le_of_lt hb0));clear y0 y1 y2 hE';by_cases hs:wi<16777216
   ·rw[zQ hs];cases f with
    | zero=>rw[zcL,zaO]at hc4;omega
    | succ f=>
      have y0:=E7.cells.1;have y0f:=E7.blk.free 0;have E8:=E7.setW (wi*256);have hB9:=hB8.setCell (p:=⟨b,0,none⟩) (zD b) (.int .u32 ((wi*256:Nat):Int));have e2:((wi*256:Nat):Int)=(wi:Int)*256:=by omega
      rw[e2]at hB9 E8;obtain⟨w8,hw8⟩:∃x,w6.setCell ⟨b,0,none⟩ (.int .u32 ((wi:Int)*256))=x:=⟨_,rfl⟩;rw[hw8]at hB9 E8;have HSh:=shift15 b (wi*256) cc ii a1 c1 w8 E8 hc5 hc6 hc1;have hE8:=zB E8;have hH:=zB HSh;clear E7 E8 HSh e2;go_wp2_with (first|(rw[hw8])|fail);refine hH.out.mono ?_;rintro e w9 ⟨rfl,⟨a9,c9,E9⟩,hb9⟩;have hB10:=hB9.trans hb9;clear hw8;go_wp2_with fail;have hm1:=E9.cells.1;have hnn:=hn.out;rw[S15.normD,zO hs]at hnn;have hc7:16777216≤wi*256*256^f:=by
       rw[zcI,zdL (256^f) 256,←zaZ]at hc4;exact hc4
      have hh:=headD_lt hc5;refine⟨⟨f,S15.shift ⟨wi*256,cc,ii⟩,a9,c9,zB hnn,zB E9,zB ⟨by show cc*256%4294967296+ii.headD 0<_;omega,by show 1≤wi*256;omega,by show wi*256<_;omega,hc7,By_drop hc5 1,by show(ii.drop 1).length≤_;rw[zgS];omega⟩,hB10⟩,?_⟩;rw[hm1,hm0.out];show 16777216-(((S15.shift ⟨wi*256,cc,ii⟩).width:Nat):Int).toNat<16777216-((wi:Nat):Int).toNat;show 16777216-(((wi*256:Nat)):Int).toNat<16777216-((wi:Nat):Int).toNat;omega
   ·rw[yD hs];have hN9:=hn.out;rw[normD_done hs]at hN9;go_wp2_with fail;go_returns;refine⟨rfl,⟨a1,c1,?_⟩,hB8⟩;rw[←hN9];exact E7
theorem zbM:(Tryz.prog.info? 59).map (·.size)=some 3:=by kernel_rfl
theorem zhU{w:World}{B0 b n c:Nat}{a:Option Addr}{xs cs:List Value}(h:w.ownsRow B0 5 1 (.slice a n c) n xs)(hb:Blk w b cs 59):(Value.slice a n c).ownBlock≠some b:=zeS h hb (by decide)
theorem state15(b wd co:Nat)(inp:List Nat)(a:Option Addr)(c:Nat)(w:World)(h:DB w b wd co inp a c)(hl:inp.length≤65536) :
 Calls Tryz.prog 41 #[.pointer (some ⟨b,0,none⟩)] w fun e w'=>∃a' c',e = .returned (.agg #[.int .u32 (wd:Int),.int .u32 (co:Int),.slice a' inp.length c'])∧w'.ownsRow w.heap.size 5 1 (.slice a' inp.length c') inp.length (Nbs inp)∧Below w.heap.size w w':=by
 have HC:=zB fun(W:World) (hW:Below w.heap.size w W)=>cloneN15 inp a c W hl (h.rd.step hW);have HD:=zB h;obtain⟨n,hn⟩:∃n,inp.length=n:=⟨_,rfl⟩;rw[hn]at HC⊢;have Hn:=zB hn;clear h hl hn;go_enter Tryz.func41,Tryz.ntmps41;go_wp2_with fail;obtain⟨w0,hw0⟩:∃x,w.alloc (Obj.cells #[.int .u32 0,.int .u32 0,.slice none 0 0] 59)=x:=⟨_,rfl⟩;have r0:Blk w0 w.heap.size [.int .u32 0,.int .u32 0,.slice none 0 0] 59:=by rw[←hw0];exact Blk.new w _ _
 have B0:Below w.heap.size w w0:=by rw[←hw0];exact(zF w.heap.size w).alloc (zD _) _
 rw[hw0];clear hw0;have D0:=HD.out.step B0;have hbk:=D0.blk;rw[Hn.out]at hbk;have hC0:zbT [(⟨b,0,none⟩,.int .u32 (wd:Int)),(⟨b,1,none⟩,.int .u32 (co:Int)),(⟨b,2,none⟩,.slice a n c)] w0:=⟨hbk.cell 0,hbk.cell 1,hbk.cell 2,yF⟩;refine zuL 15 1 [(U,[U,U,U,U,U,U,U,U,U,U,U,U,U]),(zuH,[zuH,zuH,zuH,zuH,zuH,zuH,zuH,zuH,zuH,zuH,zuH,zuH,zuH,U]),(U,[zuH,zuH,zuH,zuH,zuH,zuH,zuH,zuH,zuH,zuH,zuH,zuH,zuH,zuH,U])] (zbT [(⟨b,0,none⟩,.int .u32 (wd:Int)),(⟨b,1,none⟩,.int .u32 (co:Int)),(⟨b,2,none⟩,.slice a n c)]) (by kernel_rfl) (hC0) (fun Y Q4 F4 hY hF=> ?_);simp only[zuJ]
 repeat
  apply zJ (by rw[hY];rfl)
  ·intro w2 hS2;(try simp only[Keeps,zbT,Cells]at hS2);go_simp;with_reducible rfl
  simp only[zuI]
 apply zR (by rw[hY];rfl)
 ·go_simp;with_reducible exact⟨rfl,rfl⟩
 refine(HC.out _ (zA B0 (yU _ w0))).mono ?_;rintro e w1 ⟨a1,c1,rfl,own1,hb1⟩;have B1:Below w0.heap.size w0 w1:=zA (yU _ w0) hb1;refine⟨_,rfl,Cells.step B1 hC0,?_⟩;simp only[zuI]
 repeat
  apply zJ (by rw[hY];rfl)
  ·intro w2 hS2;(try simp only[Keeps,zbT,Cells]at hS2);go_simp;with_reducible rfl
  simp only[zuI]
 refine yE (hF.out _ _ (fun K hK=> ?_));have r1:=r0.step B1;have B2:=zA B0 B1;have own2:=zcZ own1 (by show w.heap.size≤w0.drew.heap.size;exact B0.size);have hne:=zhU own2 r1;have hKK:=zB hK;clear hF hY hC0 hK hbk D0 B1 B0 r0 own1;simp only[ldc,ldz];refine zT 59 (.tmp 2) (.tmp 17) (by rfl) (by rfl) w.heap.size (by rfl) [.int .u32 (wd:Int),.int .u32 (co:Int),.slice a1 n c1] (by rfl) _ 59 r1 zbM rfl (by simp[Value.oneCell']) ?_;intro wR ER gR sR;go_wp2_with fail;refine OnlyK.mk (hKK.out.out _ _ ?_);go_wp2_with fail;have hLd:=run_loadVar_mid wR _ 0 _ _ _ ER.cells Tryz.underlying59 rfl zbM;refine bodyPost_ret (v:=.agg #[.int .u32 (wd:Int),.int .u32 (co:Int),.slice a1 n c1]) ?_ rfl ?_
 ·exact zbH (show Tryz.f41.results = #[.cell 2 59]from rfl) (p:=⟨w.heap.size,0,none⟩) rfl hLd
 ·exact⟨a1,c1,rfl,zcQ own2 gR hne,B2.trans (yG gR (by omega) B2.size)⟩
def S15.shN:Nat→S15.D→S15.D
 | 0,d=>d
 | n+1,d=>S15.shN n (S15.shift d)
theorem DB.new15{w:World}{inp:List Nat}{a:Option Addr}{c:Nat}(wd co:Nat)(hrd:Rd w a (Nbs inp))(hle:inp.length≤c){w':World}(hb:Below w.heap.size w w')(hw:Blk w' w.heap.size [.int .u32 (wd:Int),.int .u32 (co:Int),.slice a inp.length c] 107):DB w' w.heap.size wd co inp a c:=by
 refine⟨hw,hrd.step hb,fun hne g o e=> ?_,hle⟩;subst e;obtain⟨x,hx⟩:∃x,(Nbs inp)[0]? = some x:=by
  cases inp with
  | nil=>exact absurd rfl hne
  | cons y ys=>exact⟨_,rfl⟩
 obtain⟨g',o',e,hc⟩:=hrd (by intro h;rw[h]at hx;cases hx);cases e;have h1:=hc 0 x hx;intro hg;have h2:w.cell? ⟨g,o+0,none⟩=none:=by
  unfold World.cell?;rw[show w.heap[(⟨g,o+0,none⟩:Addr).block]? = none from yI (by show w.heap.size≤g;omega)]
 rw[h2]at h1;cases h1
theorem openC15(inp:List Nat)(a:Option Addr)(c:Nat)(w:World)(hB:S15.By inp)(hl:inp.length≤65536)(hle:inp.length≤c)(hrd:Rd w a (Nbs inp)) :
 Calls Tryz.prog 21 #[.slice a inp.length c] w fun e w'=>∃a' c',e = .returned (.agg #[.int .u32 ((S15.opn inp).width:Int),.int .u32 ((S15.opn inp).code:Int),.slice a' (S15.opn inp).inp.length c'])∧(S15.opn inp).inp.length≤c'∧Rd w' a' (Nbs (S15.opn inp).inp)∧Below w.heap.size w w':=by
 have HNew:=zB fun(W:World) (hW:Below w.heap.size w W) (W':World) (hb:Below W.heap.size W W') (hk:Blk W' W.heap.size [.int .u32 ((4294967295:Nat):Int),.int .u32 ((0:Nat):Int),.slice a inp.length c] 107)=>DB.new15 4294967295 0 (hrd.step hW) hle hb hk;obtain⟨E,hE⟩:∃E,S15.opn inp=E:=⟨_,rfl⟩;have hE2:S15.shN 4 ⟨4294967295,0,inp⟩=E:=hE;rw[hE];have HE:=zB hE2;have HB:=zB hB;have Hl:=zB hl;obtain⟨n,hn⟩:∃n,inp.length=n:=⟨_,rfl⟩;rw[hn]at HNew⊢;clear hE hE2 hB hl hle hrd hn;go_enter Tryz.func21,Tryz.ntmps21;go_wp2_with fail;obtain⟨w1,hw1⟩:∃x,(w.alloc (Obj.cells #[.int .u32 0,.int .u32 0,.slice none 0 0] 59))=x:=⟨_,rfl⟩;have r1:Blk w1 w.heap.size [.int .u32 0,.int .u32 0,.slice none 0 0] 59:=by rw[←hw1];exact Blk.new w _ _
 have B1:Below w.heap.size w w1:=by rw[←hw1];exact(zF w.heap.size w).alloc (zD _) _
 have hs1:w1.heap.size=w.heap.size+1:=by rw[←hw1];simp
 rw[hw1];have hB2:Below w1.heap.size w1 (w1.alloc (Obj.cells #[.int .u32 4294967295,.int .u32 0,.slice a n c] 107)):=(zF _ _).alloc (zD _) _;have D2:=HNew.out w1 B1 _ hB2 (Blk.new w1 _ _);have r2:=r1.step hB2;have B2:=zA B1 hB2;obtain⟨w2,hw2⟩:∃x,w1.alloc (Obj.cells #[.int .u32 4294967295,.int .u32 0,.slice a n c] 107)=x:=⟨_,rfl⟩;rw[hw2]at D2 r2 B2⊢;rw[hs1]at D2;have HD2:=zB D2;clear hw1 hw2 hB2 r1 B1 hs1 HNew D2;go_loopw [8] (fun i wr=>∃(k:Nat) (D1:S15.D) (a1:Option Addr) (c1:Nat),k≤4∧i = .int .i64 (k:Int)∧Hid (S15.shN (4-k) D1=E)∧Hid (DB wr (w.heap.size+1) D1.width D1.code D1.inp a1 c1)∧Hid (D1.code<4294967296∧S15.By D1.inp∧D1.inp.length≤65536)∧Blk wr w.heap.size [.int .u32 0,.int .u32 0,.slice none 0 0] 59∧Below w.heap.size w wr) (fun i _=>4-(intOf i).toNat)
 case atStart=>exact⟨0,⟨4294967295,0,inp⟩,a,c,by omega,rfl,HE,HD2,zB ⟨by show(0:Nat)<_;decide,HB.out,Hl.out⟩,r2,B2⟩
 case round=>
  obtain⟨k,⟨wi,cc,ii⟩,a1,c1,hk,rfl,hn,hE,hc,hr,hBl⟩:=hrel;have hE':DB wr (w.heap.size+1) wi cc ii a1 c1:=hE.out;have hc':cc<4294967296∧S15.By ii∧ii.length≤65536:=hc.out;by_cases hlt:k<4
  ·have hki:(k:Int)<4:=by omega
   have hSh:=zB (shift15 (w.heap.size+1) wi cc ii a1 c1 wr hE' hc'.2.1 hc'.2.2 hc'.1);clear hE';go_wp2_with fail;refine hSh.out.mono ?_;rintro e w9 ⟨rfl,⟨a9,c9,E9⟩,hb9⟩;have r9:Blk w9 w.heap.size [.int .u32 0,.int .u32 0,.slice none 0 0] 59:=by
    unfold Blk;rw[hb9.block w.heap.size (by omega)];exact hr
   have B9:=hBl.trans (hb9.mono (Nat.le_succ _));have hkw:IntKind.i64.wrap ((k:Int)+1)=(k:Int)+1:=IntWalk.i64_in _ (by omega);go_wp2_with fail;go_roundw
   case rel=>
    have hnn:=hn.out;rw[show 4-k=(4-(k+1))+1 by omega,S15.shN]at hnn;have hh:=headD_lt hc'.2.1;exact⟨k+1,S15.shift ⟨wi,cc,ii⟩,a9,c9,by omega,by go_num,zB hnn,zB E9,zB ⟨by show cc*256%4294967296+ii.headD 0<_;omega,By_drop hc'.2.1 1,by show(ii.drop 1).length≤_;rw[zgS];have:=hc'.2.2;omega⟩,r9,B9⟩
   case measure=>simp[intOf];omega
  ·have hki:¬(k:Int)<4:=by omega
   have hnn:=hn.out;rw[show 4-k=0 by omega,S15.shN]at hnn;have HS:=zB (state15 (w.heap.size+1) wi cc ii a1 c1 wr hE' hc'.2.2);obtain⟨m,hm⟩:∃m,ii.length=m:=⟨_,rfl⟩;rw[hm]at HS;subst hnn;clear hE' hn;have Hm:=zB hm;clear hm;go_wp2_with fail;refine HS.out.mono ?_;rintro e w9 ⟨a9,c9,rfl,own9,hb9⟩;have r9:=hr.step hb9;have B9:=zA hBl hb9;have hne:=zhU own9 r9;have H9:=zB own9;clear own9 hr hb9 hBl;go_wp2_with (first
    | (refine zT 59 (.tmp 2) (.tmp 14) (by rfl) (by rfl) w.heap.size (by rfl) [.int .u32 (wi:Int),.int .u32 (cc:Int),.slice a9 m c9] (by rfl) _ 59 r9 zbM rfl (by simp[Value.oneCell']) ?_;intro wR ER gR sR))
   have hLd:=run_loadVar_mid wR _ 0 _ _ _ ER.cells Tryz.underlying59 rfl zbM;refine bodyPost_ret (v:=.agg #[.int .u32 (wi:Int),.int .u32 (cc:Int),.slice a9 m c9]) ?_ rfl ?_
   ·exact zbH (show Tryz.f21.results = #[.cell 2 59]from rfl) (p:=⟨w.heap.size,0,none⟩) rfl hLd
   ·have hown:=zcQ H9.out gR hne;obtain⟨_,_,e,hle,_⟩:=zaX hown;cases e;exact⟨a9,c9,by rw[←Hm.out],by rw[←Hm.out]at hle;exact hle,Rd.of_owns hown,B9.trans (yG gR (zD _) B9.size)⟩
theorem owns_at15{w:World}{base:Nat}{e:TypeId}{size n cap:Nat}{a:Option Addr}{xs:List Value}(h:w.ownsRow base e size (.slice a n cap) n xs):∀g o,a=some ⟨g,o,none⟩→base≤g:=by
 intro g o he;rcases h.2 with⟨e1,_⟩|⟨g',cap',cur,e1,hb,_⟩
 ·simp only[Value.slice.injEq]at e1;rw[he]at e1;cases e1.1
 ·simp only[Value.slice.injEq]at e1;rw[e1.1]at he;cases he;exact hb
theorem ztB{P:Program}{fn:Func}{tmps:Array Value}{a b d:Nat}{t:TypeId}{p:Addr}{v u x:Value}{w:World}(hr:fn.results = #[.tmp d,.cell a t,.tmp b])(hp:tmps.getD a undef = .pointer (some p))(hu:tmps.getD b undef=u)(hx:tmps.getD d undef=x)
 (hL:(loadVar t p).run P w = .ok v w):(results fn tmps).run P w = .ok (.tuple #[x,v,u]) w:=by
 have hp2:(asAddr (.pointer (some p))).run P w = .ok p w:=by simp[asAddr,go_sem]
 have hp':tmps[a]?.getD undef = .pointer (some p):=by simpa using hp
 have hu':tmps[b]?.getD undef=u:=by simpa using hu
 have hx':tmps[d]?.getD undef=x:=by simpa using hx
 unfold results;rw[hr];simp[hp',hu',hx',hp2,hL]
theorem decodeC15(wd co:Nat)(inp:List Nat)(a:Option Addr)(c p:Nat)(w:World)(hB:S15.By inp)(hl:inp.length≤65536)(hco:co<4294967296)(hw1:16777216≤wd)(hw2:wd<4294967296)(hp:1≤p∧p≤4095)(hle:inp.length≤c)(hrd:Rd w a (Nbs inp))(hl2:(S15.dec1 ⟨wd,co,inp⟩ p).inp.length≤65536) :
 Calls Tryz.prog 22 #[.agg #[.int .u32 (wd:Int),.int .u32 (co:Int),.slice a inp.length c],.int .i64 (p:Int)] w fun e w'=>∃a' c',e = .returned (.tuple #[.int .i64 (S15.bitD ⟨wd,co,inp⟩ p:Nat),.agg #[.int .u32 ((S15.dec1 ⟨wd,co,inp⟩ p).width:Int),.int .u32 ((S15.dec1 ⟨wd,co,inp⟩ p).code:Int),.slice a' (S15.dec1 ⟨wd,co,inp⟩ p).inp.length c'],.int .i64 0])∧(S15.dec1 ⟨wd,co,inp⟩ p).inp.length≤c'∧Rd w' a' (Nbs (S15.dec1 ⟨wd,co,inp⟩ p).inp)∧(∀g o,a'=some ⟨g,o,none⟩→w.heap.size≤g)∧Below w.heap.size w w':=by
 have HK:=zB fun(W:World)=>checkD15 (wd:Int) (co:Int) inp.length a c (by omega) hl W;have HP:=zB fun(W:World)=>zrX (p:Int) (by omega) W;have HNew:=zB fun(W:World) (hW:Below w.heap.size w W) (W':World) (hb:Below W.heap.size W W') (hk:Blk W' W.heap.size [.int .u32 (wd:Int),.int .u32 (co:Int),.slice a inp.length c] 107)=>DB.new15 wd co (hrd.step hW) hle hb hk;have HDe:=zB fun(b:Nat) (W:World) (hD:DB W b wd co inp a c)=>decode15 b wd co inp a c p W hD hB hl hco hw1 hw2 hp;obtain⟨bt,hbt⟩:∃x,S15.bitD ⟨wd,co,inp⟩ p=x:=⟨_,rfl⟩;obtain⟨⟨w9,c9,i9⟩,hE⟩:∃x,S15.dec1 ⟨wd,co,inp⟩ p=x:=⟨_,rfl⟩;rw[hbt,hE]at HDe;rw[hE]at hl2;rw[hbt,hE];simp only at HDe hl2⊢;have HSt:=zB fun(b:Nat) (a':Option Addr) (c':Nat) (W:World) (hD:DB W b w9 c9 i9 a' c')=>state15 b w9 c9 i9 a' c' W hD hl2;obtain⟨n,hn⟩:∃n,inp.length=n:=⟨_,rfl⟩;obtain⟨m,hm⟩:∃n,i9.length=n:=⟨_,rfl⟩;rw[hn]at HK HNew⊢;rw[hm]at HSt⊢;clear hbt hE hn hm hB hl hle hrd hl2 hw1 hw2 hco;go_enter Tryz.func22,Tryz.ntmps22;go_wp2_with fail;obtain⟨w0,hw0⟩:∃x,(w.alloc (Obj.cells #[.int .u32 (wd:Int),.int .u32 (co:Int),.slice a n c] 59)).alloc (Obj.cells #[.int .u32 0,.int .u32 0,.slice none 0 0] 59)=x:=⟨_,rfl⟩;have b0:Blk w0 w.heap.size [.int .u32 (wd:Int),.int .u32 (co:Int),.slice a n c] 59:=by rw[←hw0];exact(Blk.new w _ _).alloc _
 have r0:Blk w0 (w.heap.size+1) [.int .u32 0,.int .u32 0,.slice none 0 0] 59:=by rw[←hw0,show w.heap.size+1=(w.alloc (Obj.cells #[.int .u32 (wd:Int),.int .u32 (co:Int),.slice a n c] 59)).heap.size by simp];exact Blk.new _ _ _
 have B0:Below w.heap.size w w0:=by rw[←hw0];exact((zF w.heap.size w).alloc (zD _) _).alloc (by simp) _
 rw[hw0];clear hw0;refine(HK.out _).mono ?_;rintro e w1 ⟨rfl,hb1⟩;have b1:=b0.step hb1;have r1:=r0.step hb1;have B1:=zA B0 hb1;clear b0 r0 B0 hb1;have z0:=b1.cell 0;have z1:=b1.cell 1;have z2:=b1.cell 2;go_wp2_with fail;refine(HP.out _).mono ?_;rintro e w2 ⟨rfl,hb2⟩;have b2:=b1.step hb2;have r2:=r1.step hb2;have B2:=zA B1 hb2;clear b1 r1 B1 hb2 z0 z1 z2;have z0:=b2.cell 0;have z1:=b2.cell 1;have z2:=b2.cell 2;go_wp2_with fail;have hB3:Below w2.heap.size w2 (w2.alloc (Obj.cells #[.int .u32 (wd:Int),.int .u32 (co:Int),.slice a n c] 107)):=(zF _ _).alloc (zD _) _;have D3:=HNew.out w2 B2 _ hB3 (Blk.new w2 _ _);have r3:=r2.step hB3;have B3:=zA B2 hB3;have hrb:=r2.lt;obtain⟨w3,hw3⟩:∃x,w2.alloc (Obj.cells #[.int .u32 (wd:Int),.int .u32 (co:Int),.slice a n c] 107)=x:=⟨_,rfl⟩;rw[hw3]at D3 r3 B3⊢;obtain⟨b,hb⟩:∃b,w2.heap.size=b:=⟨_,rfl⟩;rw[hb]at D3 hrb⊢;have hwb:=B2.size;rw[hb]at hwb;have HD3:=zB D3;clear hw3 hB3 b2 r2 B2 z0 z1 z2 D3 hb HNew;refine(HDe.out b w3 HD3.out).mono ?_;rintro e w4 ⟨rfl,⟨a4,c4,D4⟩,hb4⟩;have r4:Blk w4 (w.heap.size+1) [.int .u32 0,.int .u32 0,.slice none 0 0] 59:=by
  unfold Blk;rw[hb4.block _ hrb];exact r3
 have B4:=B3.trans (hb4.mono hwb);clear B3 hb4 r3 HD3;go_wp2_with fail;refine(HSt.out b a4 c4 w4 D4).mono ?_;rintro e w5 ⟨a5,c5,rfl,own5,hb5⟩;have r5:=r4.step hb5;have B5:=zA B4 hb5;have hz4:=B4.size;have hne:=zhU own5 r5;have H5:=zB own5;clear own5 r4 B4 hb5 D4;go_wp2_with (first
  | (refine zT 59 (.tmp 5) (.tmp 34) (by rfl) (by rfl) (w.heap.size+1) (by rfl) [.int .u32 (w9:Int),.int .u32 (c9:Int),.slice a5 m c5] (by rfl) _ 59 r5 zbM rfl (by simp[Value.oneCell']) ?_;intro wR ER gR sR))
 have hLd:=run_loadVar_mid wR _ 0 _ _ _ ER.cells Tryz.underlying59 rfl zbM;refine bodyPost_ret (v:=.tuple #[.int .i64 (bt:Int),.agg #[.int .u32 (w9:Int),.int .u32 (c9:Int),.slice a5 m c5],.int .i64 0]) ?_ rfl ?_
 ·exact ztB (show Tryz.f22.results = #[.tmp 4,.cell 5 59,.tmp 6]from rfl) (p:=⟨w.heap.size+1,0,none⟩) rfl rfl rfl hLd
 ·have hown:=zcQ H5.out gR hne;obtain⟨_,_,e,hle,_⟩:=zaX hown;cases e;exact⟨a5,c5,rfl,hle,Rd.of_owns hown,fun g o e=>yC hz4 (owns_at15 hown g o e),B5.trans (yG gR (by omega) B5.size)⟩
