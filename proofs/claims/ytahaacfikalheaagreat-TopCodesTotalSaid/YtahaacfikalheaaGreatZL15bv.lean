/- A part of the proof of L15. No condition. -/
import Derived.Test.YtahaacfikalheaaGreatZL15bs
import Derived.Test.YtahaacfikalheaaGreatZL15bu
set_option linter.all false
set_option maxRecDepth 100000
set_option maxHeartbeats 8000000
namespace Go.Proofs.YtahaacfikalheaaGreat
open Go.RowKit
structure CX(w:World)(a:Option Addr)(hv:List Value)(cs:List (List Nat)):Prop where
 len:hv.length=cs.length
 rd:Rd w a hv
 at_:∀(j:Nat) (l:List Nat),cs[j]? = some l→∃aj cj,hv[j]? = some (.slice aj l.length cj)∧Rd w aj (zhJ l)
theorem CX.step{w w':World}{a:Option Addr}{hv:List Value}{cs:List (List Nat)}(h:CX w a hv cs)(hb:Below w.heap.size w w'):CX w' a hv cs:=⟨h.len,h.rd.step hb,fun j l hj=>by
 obtain⟨aj,cj,h1,h2⟩:=h.at_ j l hj;exact⟨aj,cj,h1,h2.step hb⟩⟩
theorem KepX.grow15{E E':Nat→Prop}{a b c:World}(h1:KepX E a b)(h2:KepX E' b c)(he:∀k,k<a.heap.size→E' k→E k):KepX E a c:=
 ⟨h2.os.trans h1.os,h2.tape.trans h1.tape,h2.output.trans h1.output,yC h1.size h2.size,fun k hE hl=>(h2.same k (fun h=>hE (he k hl h)) (zaF hl h1.size)).trans (h1.same k hE hl)⟩
theorem NetE.grow15{E E':Nat→Prop}{N:S14.N}{VS:List Value}{w w':World}(h:NetE E N VS w)(hk:KepX E w w')(he:∀k,k<w.heap.size→E' k→E k):NetE E' N VS w':=h.imp fun _ e=>⟨e.1,fun W hW=>e.2 W (hk.grow15 hW he)⟩
def z16:List Value:=[.int .u32 0,.int .u32 0,.int .u32 0,.int .u32 0,.int .u32 0,.int .u32 0,.int .u32 0,.int .u32 0,.int .u32 0,.int .u32 0,.int .u32 0,.int .u32 0,.int .u32 0,.int .u32 0,.int .u32 0,.int .u32 0]
theorem padU15{l:List Nat}(h:l.length≤16):splice z16 0 (zhJ l)=zhJ (padN l):=by
 have e:z16=List.replicate 16 (.int .u32 0):=rfl;rw[e];unfold splice padN zhJ;rw[List.take_zero,List.nil_append,yK,List.drop_replicate,zaH,List.map_append,List.map_replicate];rfl
theorem make16(w:World):(Instr.makeSlice 35 (.int .i64 16) (.int .i64 16)).run Tryz.prog w = .ok (.slice (some ⟨w.heap.size,0,none⟩) 16 16) (w.alloc (.cells z16.toArray 44)):=by
 obtain⟨i,z,hi,hz,hsz,hby,_,hzc⟩:=elems_u32.open;have h2:z.cells = #[.int .u32 0]:=Array.ext' hzc;have h:=run_make (P:=Tryz.prog) w 35 44 i z Tryz.underlying35 hi hz .i64 .i64 16 16 (by decide) (by decide) (by rw[hby];decide) (by decide);rw[hsz,h2,show madeCells #[.int .u32 0] (Int.toNat 16*1)=z16.toArray by kernel_rfl]at h;exact h
theorem copy15(w:World)(g q cj:Nat)(aj:Option Addr)(x:List Nat)(hg:Blk w g z16 44)(hq:x.length=q)(h16:q≤16)(hr:Rd w aj (zhJ x)) :
 ∃w',(Builtin.copy_ #[35,35] 3 #[.slice (some ⟨g,0,none⟩) 16 16,.slice aj q cj]).run Tryz.prog w = .ok (.int .i64 (q:Int)) w'∧Blk w' g (zhJ (padN x)) 44∧Below g w w':=by
 have hlx:(zhJ x).length=Nat.min q 16:=by rw[zcH,hq];exact(zbF h16).symm
 have hs:(Tryz.prog.info? 44).map (·.size)=some 1:=by kernel_rfl
 rw[←padU15 (by omega)];by_cases h0:q=0
 ·subst h0;have hx:x = []:=List.eq_nil_of_length_eq_zero hq;subst hx;exact⟨w,run_copy_none (P:=Tryz.prog) w _ _ _ _ _ _ _ _ _ _ Tryz.underlying35 hs (by decide),hg,zF _ _⟩
 ·obtain⟨g2,o2,rfl,h2⟩:=hr (fun e=>by have:=yS List.length e;rw[zcH,List.length_nil]at this;omega);have hrun:=run_copy_row (P:=Tryz.prog) w 35 35 3 44 g 0 16 16 ⟨g2,o2,none⟩ q cj z16.toArray 44 (zhJ x) Tryz.underlying35 hs hg hlx (fun j v hv=>by rw[Addr.add_lit];exact h2 j v hv) (by rw[zcH,hq];show 0+q≤16;omega) (zuC x);refine⟨w.setRow g (z16.take 0++zhJ x++z16.drop (0+(zhJ x).length)).toArray,?_,?_,below_setRow (zF g w) (zD _) _⟩
  ·rw[hrun,zcH,hq];rfl
  ·have h:=setRow_heap w g z16.toArray (z16.take 0++zhJ x++z16.drop (0+(zhJ x).length)).toArray 44 _ hg;unfold Blk;rw[show(splice z16 0 (zhJ x))=z16.take 0++zhJ x++z16.drop (0+(zhJ x).length) by unfold splice;rw[zcU]];exact h
theorem padN_lt{l:List Nat}(h:∀x∈l,x<4294967296):∀x∈padN l,x<4294967296:=fun x hx=>by
 rcases List.mem_append.1 hx with hx|hx
 ·exact h x hx
 ·rw[(List.mem_replicate.1 hx).2];decide
theorem caseNet15(E:Nat→Prop)(N:S14.N)(n:Nat)(VS:List Value)(cs:List (List Nat))(a:Option Addr)(hv:List Value)(cap i:Nat)(w:World)(hI:S15.Inv N n)(hn:n%8=0)(hc:∀l∈cs,l.length≤16)(hx:∀l∈cs,∀x∈l,x<4294967296)(hE:∀k,E k→k<w.heap.size)(hV:NetE E N VS w)(hC:CX w a hv cs) :
 Calls Tryz.prog 15 #[.agg VS.toArray,.slice a cs.length cap,.int .i64 (i:Int)] w fun e w'=>∃VS',e = .returned (.tuple #[.agg VS'.toArray,.bool true])∧NetE E (S15.ctxN cs N i) VS' w'∧Below w.heap.size w w':=by
 obtain⟨W1,hW1⟩:∃W1,(w.alloc (.cells VS.toArray 40)).alloc (.cells zN 40)=W1:=⟨_,rfl⟩;have k1:Blk W1 w.heap.size VS 40:=by rw[←hW1];exact(Blk.new w _ _).alloc _
 have r1:Blk W1 (w.heap.size+1) [.slice none 0 0,.slice none 0 0,.slice none 0 0,.int .i64 0] 40:=by
  rw[←hW1];have h:=Blk.new (w.alloc (.cells VS.toArray 40)) [.slice none 0 0,.slice none 0 0,.slice none 0 0,.int .i64 0] 40;rwa[zV]at h
 have B1:Below w.heap.size w W1:=by rw[←hW1];exact((zF _ _).alloc (zD _) _).alloc (by simp) _
 have N1:=hV.grow15 (E':=fun b=>E b∨b=w.heap.size∨b=w.heap.size+1) (KepX.below B1) (fun k hk h=>h.elim (fun h=>h) (fun h=>by omega));have hVl:=hV.len;have hVo:=hV.one;have C1:=hC.step B1;unfold zN at hW1;have H:=zB (zaC N1 (zaC C1 hVo));have HI:=zB hI;have HE:=zB hE;clear hV hC N1 C1 hVo hI hE;go_enter Tryz.func15,Tryz.ntmps15;by_cases hi:cs.length≤i
 ·have hii:(cs.length:Int)≤(i:Int):=by omega
  have hctx:S15.ctxN cs N i=N:=zG (by omega);rw[hctx];obtain⟨m,hm⟩:∃m,cs.length=m:=⟨_,rfl⟩;rw[hm]at hii⊢;clear hm;go_wp2_with (first
   | (rw[hW1])
   | (refine yA 40 (.tmp 3) (by rfl) (by rfl) w.heap.size (by rfl) VS 40 k1 _ Tryz.underlying40 rfl (info_N.trans (yS some hVl.symm)) ?_)
   | (refine zT 40 (.tmp 6) (.tmp 14) (by rfl) (by rfl) (w.heap.size+1) (by rfl) VS (by rfl) _ 40 r1 (info_N.trans (yS some hVl.symm)) hVl.symm H.out.2.2 ?_;intro wR ER gR sR))
  have hL:=run_loadVar_mid wR _ 0 _ _ _ ER.cells Tryz.underlying40 rfl (info_N.trans (yS some hVl.symm));refine bodyPost_ret (v:=.tuple #[.agg VS.toArray,.bool true]) ?_ rfl ?_
  ·exact zaI (show Tryz.f15.results = #[.cell 6 40,.tmp 7]from rfl) (p:=⟨w.heap.size+1,0,none⟩) rfl rfl hL
  ·exact⟨VS,rfl,(H.out.1.kep (KepX.row gR (fun b e=>.inl (.inr (.inr (zK e).symm))))).mono (fun k _ h=>.inl h),B1.trans (yG gR (by omega) B1.size)⟩
 ·have hil:i<cs.length:=by omega
  have hii:¬(cs.length:Int)≤(i:Int):=by omega
  have hii2:(i:Int)<(cs.length:Int):=by omega
  have hii0:(0:Int)≤(i:Int):=by omega
  obtain⟨x,hxi⟩:∃x,cs[i]? = some x:=⟨_,zE hil⟩;have hctx:S15.ctxN cs N i=S14.opened (S14.withCtxs N (padN x)):=by
   unfold S15.ctxN;rw[zO hil,zI,hxi];rfl
  have hxm:=zdB hxi;have hx16:=hc x hxm;have hxu:=padN_lt (hx x hxm);rw[hctx];obtain⟨aj,cj,hj,hrj⟩:=H.out.2.1.at_ i x hxi;obtain⟨g,o,rfl,hcs⟩:=H.out.2.1.rd (fun e=>by rw[e]at hj;cases hj);have cj0:=hcs i _ hj;have hp1:=HI.out.part1 hn;have HX:=zB fun(VS':List Value) (W:World) (ac:Option Addr) (cc:Nat) (E':Nat→Prop) (hE':∀k,E' k→k<W.heap.size) (hN:NetE E' N VS' W) (hr:Rd W ac (zhJ (padN x)))=>ctx_all HI.out.1 hp1 (padN_len hx16) hxu hE' VS' ac cc hN hr;have Hrj:=zB hrj;obtain⟨m,hm⟩:∃m,cs.length=m:=⟨_,rfl⟩;rw[hm]at hii hii2⊢;obtain⟨q,hq⟩:∃q,x.length=q:=⟨_,rfl⟩;have Hq:=zB hq;rw[hq]at cj0 hx16;clear hm hcs hj hrj hctx hxi hxm hil hx hc hq;have hmk:=make16 W1;obtain⟨W2,hW2⟩:∃W,W1.alloc (.cells z16.toArray 44)=W:=⟨_,rfl⟩;have hG:Blk W2 W1.heap.size z16 44:=by rw[←hW2];exact Blk.new W1 _ _
  have hb2:Below W1.heap.size W1 W2:=by rw[←hW2];exact(zF _ _).alloc (zD _) _
  rw[hW2]at hmk;have s1:W1.heap.size=w.heap.size+2:=by rw[←hW1];simp
  rw[s1]at hmk hG
  have cj2:=(hb2.cell (p:=⟨g,o+i,none⟩) (by
   have:=zL cj0;exact this)).trans cj0
  have k2:=k1.step hb2;have r2:=r1.step hb2;have B2:=B1.trans (hb2.mono B1.size);obtain⟨W3,hcp,hP3,hb3⟩:=copy15 W2 (w.heap.size+2) q cj aj x hG Hq.out hx16 (Hrj.out.step hb2);have B3:=B2.trans (hb3.mono (show w.heap.size≤w.heap.size+2 by omega));have k3:Blk W3 w.heap.size VS 40:=by unfold Blk;rw[hb3.block _ (by omega)];exact k2
  have r3:Blk W3 (w.heap.size+1) [.slice none 0 0,.slice none 0 0,.slice none 0 0,.int .i64 0] 40:=by unfold Blk;rw[hb3.block _ (by omega)];exact r2
  have hb13:Below W1.heap.size W1 W3:=hb2.trans (by rw[s1];exact hb3);have N3:=H.out.1.step hb13;have HN3:=zB N3;have HP3:=zB hP3;clear cj0 hG k2 r2 hb3 hb2 B2 B1 k1 r1 hP3 hb13 N3;go_wp2_with (first
   | (rw[hW1])
   | (refine yA 40 (.tmp 3) (by rfl) (by rfl) w.heap.size (by rfl) VS 40 k3 _ Tryz.underlying40 rfl (info_N.trans (yS some hVl.symm)) ?_)
   | fail)
  have hEs:∀k,(E k∨k=w.heap.size∨k=w.heap.size+1)→k<W3.heap.size:=fun k h=>by
   have h3:=r3.lt;exact h.elim (fun h=>by have:=HE.out k h;omega) (fun h=>by omega)
  refine(HX.out VS W3 (some ⟨w.heap.size+2,0,none⟩) 16 _ hEs HN3.out (fun hne=>⟨_,_,rfl,HP3.out.cells⟩)).mono ?_;rintro e w4 ⟨V4,rfl,N4,hb4⟩;have k4:=k3.step hb4;have r4:=r3.step hb4;have B4:=zA B3 hb4;have HN4:=zB N4;have hl4:=N4.len;have ho4:=N4.one;clear k3 r3 B3 HN3 hb4 N4 HX hEs;go_wp2_with (first
   | (refine zT 40 (.tmp 3) (.tmp 26) (by rfl) (by rfl) w.heap.size (by rfl) V4 (by rfl) _ 40 k4 (info_N.trans (yS some hl4.symm)) (hVl.trans hl4.symm) ho4 ?_;intro w5 k5 g5 s5;have r5:=r4.keptRow g5 (by intro e;have:=zK e;omega);have N5:=zB (HN4.out.kep (KepX.row g5 (fun b e=>.inl (.inr (.inl (zK e).symm)))));have B5:=B4.trans (yG g5 (zD _) B4.size);clear k4 r4 B4 HN4 g5)
   | (refine yA 40 (.tmp 3) (by rfl) (by rfl) w.heap.size (by rfl) V4 40 k5 _ Tryz.underlying40 rfl (info_N.trans (yS some hl4.symm)) ?_)
   | (refine zT 40 (.tmp 6) (.tmp 28) (by rfl) (by rfl) (w.heap.size+1) (by rfl) V4 (by rfl) _ 40 r5 (info_N.trans (yS some hl4.symm)) hl4.symm ho4 ?_;intro wR ER gR sR))
  have hL:=run_loadVar_mid wR _ 0 _ _ _ ER.cells Tryz.underlying40 rfl (info_N.trans (yS some hl4.symm));refine bodyPost_ret (v:=.tuple #[.agg V4.toArray,.bool true]) ?_ rfl ?_
  ·exact zaI (show Tryz.f15.results = #[.cell 6 40,.tmp 7]from rfl) (p:=⟨w.heap.size+1,0,none⟩) rfl rfl hL
  ·exact⟨V4,rfl,(N5.out.kep (KepX.row gR (fun b e=>.inl (.inr (.inr (zK e).symm))))).mono (fun k _ h=>.inl h),B5.trans (yG gR (by omega) B5.size)⟩
def NoU8(vs:List Value):Prop:=∀(i:Nat) (x:Int),vs[i]? ≠some (.int .u8 x)
theorem Rd.rowT15{w w':World}{a:Option Addr}{l:List Nat}{b:Nat}{vs:List Value}{T:TypeId}(h:Rd w a (Nbs l))(hb:Blk w b vs T)(hv:NoU8 vs)(hg:w.grownBy w' (some b)):Rd w' a (Nbs l):=by
 cases l with
 | nil=>exact Rd.nil _ _
 | cons x l=>
   refine h.keptRow hg (fun g o e hgb=> ?_);obtain⟨g2,o2,e2,hc⟩:=h (by simp[Nbs]);rw[e]at e2;cases e2;have h0:=hc 0 _ rfl;rw[hgb,hb.cell]at h0;exact hv _ _ h0
theorem noU8_net{E:Nat→Prop}{N:S14.N}{VS:List Value}{w:World}(h:NetE E N VS w):NoU8 VS:=by
 obtain⟨L,rfl,_⟩:=h;intro i x e
 match i with
 | 0|1|2|3=>cases e
 | n+4=>cases e
theorem noU8_cv(x y:Int)(a:Option Addr)(n c:Nat):NoU8 [.int .u32 x,.int .u32 y,.slice a n c]:=fun i z e=>by
 match i with
 | 0|1|2=>cases e
 | n+3=>cases e
structure SE(E:Nat→Prop)(T:TypeId)(NB CB:Nat)(VK:List Value)(x y:Nat)(l:List Nat)(a:Option Addr)(c:Nat)(N:S14.N)(w:World):Prop where
 net:NetE E N VK w
 nb:Blk w NB VK 40
 cb:Blk w CB [.int .u32 (x:Int),.int .u32 (y:Int),.slice a l.length c] T
 rd:Rd w a (Nbs l)
 ne:NB≠CB
 en:E NB
 ec:E CB
 el:∀k,E k→k<w.heap.size
theorem SE.step{E:Nat→Prop}{T:TypeId}{NB CB x y c:Nat}{VK:List Value}{l:List Nat}{a:Option Addr}{N:S14.N}{w w':World}(h:SE E T NB CB VK x y l a c N w)(hb:Below w.heap.size w w'):SE E T NB CB VK x y l a c N w':=⟨h.net.step hb,h.nb.step hb,h.cb.step hb,h.rd.step hb,h.ne,h.en,h.ec,fun k e=>zaF (h.el k e) hb.size⟩
theorem SE.putN{E:Nat→Prop}{T:TypeId}{NB CB x y c:Nat}{VK V2:List Value}{l:List Nat}{a:Option Addr}{N N2:S14.N}{w w':World}(h:SE E T NB CB VK x y l a c N w)(hn:NetE E N2 V2 w)(hk:Blk w' NB V2 40)(hg:w.grownBy w' (some NB)):SE E T NB CB V2 x y l a c N2 w':=
 ⟨hn.kep (KepX.row hg (fun b e=>.inl (by rw[←zK e];exact h.en))),hk,h.cb.keptRow hg (fun e=>h.ne (zK e).symm),h.rd.rowT15 h.nb (noU8_net h.net) hg,h.ne,h.en,h.ec,fun k e=>zaF (h.el k e) hg.size⟩
theorem SE.putC{E:Nat→Prop}{T:TypeId}{NB CB x y c x2 y2 c2:Nat}{VK:List Value}{l l2:List Nat}{a a2:Option Addr}{N:S14.N}{w w':World}(h:SE E T NB CB VK x y l a c N w)(hr:Rd w a2 (Nbs l2))(hk:Blk w' CB [.int .u32 (x2:Int),.int .u32 (y2:Int),.slice a2 l2.length c2] T)(hg:w.grownBy w' (some CB)):SE E T NB CB VK x2 y2 l2 a2 c2 N w':=
 ⟨h.net.kep (KepX.row hg (fun b e=>.inl (by rw[←zK e];exact h.ec))),h.nb.keptRow hg (fun e=>h.ne (zK e)),hk,hr.rowT15 h.cb (noU8_cv _ _ _ _ _) hg,h.ne,h.en,h.ec,fun k e=>zaF (h.el k e) hg.size⟩
theorem wr15{b:Nat}(h:b=0∨b=1):wrap64 (b:Int)=(b:Int):=by rcases h with rfl|rfl<;>decide +kernel
theorem and1_15a:∀y<256,bits BinOp.and IntKind.u8 ((y:Nat):Int) 1=((y%2:Nat):Int):=by decide +kernel
theorem bit15{x K bt:Nat}(hx:x<256)(hbt:x/2^K%2=bt):bits BinOp.and IntKind.u8 ((x:Int)/2^K) 1=(bt:Int):=by
 have h:=and1_15a (x/2^K) (Nat.lt_of_le_of_lt (Nat.div_le_self _ _) hx);rw[Int.natCast_ediv,Int.natCast_pow]at h;rw[←hbt];exact h
theorem enc_round15{cs:List (List Nat)}{N0:S14.N}{P:List Nat→Nat}(R:S15.Run cs N0 P){E:Nat→Prop}{NB CB c2:Nat}{VJ:List Value}{a2:Option Addr}{w:World}{h r:List Nat}{bt:Nat}(hb:∀b∈h++r,b=0∨b=1)(h8:h.length%8=0)(hr:r.length<8)(hl:(h++r).length≤200)(hbt:bt=0∨bt=1)
 (S:SE E 46 NB CB VJ (S15.encR P [] S15.E0 (h++r)).low (S15.encR P [] S15.E0 (h++r)).width (S15.encR P [] S15.E0 (h++r)).out a2 c2 (S15.inR cs N0 h r) w) :
 ∃(N N2:S14.N) (lo wi:Nat) (ou:List Nat) (E2:S15.E) (p c co:Nat),SE E 46 NB CB VJ lo wi ou a2 c2 N w∧S15.costR P [] (h++r)=c∧c≤614400∧co≤3072∧
  S15.inR cs N0 h (r ++ [bt])=N2∧S15.encR P [] S15.E0 (h++(r ++ [bt]))=E2∧S15.costR P [] (h++(r ++ [bt]))=c+co∧
  (∀W,NetE E N VJ W→Calls Tryz.prog 16 #[.agg VJ.toArray] W fun e w'=>e = .returned (.tuple #[.int .i64 (p:Int),.int .i64 0])∧Below W.heap.size W w')∧
  (∀W,Calls Tryz.prog 17 #[.int .i64 (p:Int),.int .i64 (bt:Int)] W fun e w'=>e = .returned (.int .i64 (co:Int))∧Below W.heap.size W w')∧
  (∀W,Rd W a2 (Nbs ou)→Calls Tryz.prog 18 #[.agg #[.int .u32 (lo:Int),.int .u32 (wi:Int),.slice a2 ou.length c2],.int .i64 (bt:Int),.int .i64 (p:Int)] W fun e w'=>∃a' c',e = .returned (.tuple #[.agg #[.int .u32 (E2.low:Int),.int .u32 (E2.width:Int),.slice a' E2.out.length c'],.int .i64 0])∧Rd w' a' (Nbs E2.out)∧Below W.heap.size W w')∧
  (∀W,NetE E N VJ W→Calls Tryz.prog 19 #[.agg VJ.toArray,.int .i64 (bt:Int)] W fun e w'=>∃VS',e = .returned (.tuple #[.agg VS'.toArray,.int .i64 0])∧NetE (fun k=>k<W.heap.size) N2 VS' w'∧Below W.heap.size W w'):=by
 obtain⟨N,p,e1,e2,hp1,hp2,hsq,hG,hle⟩:=R.bit hb h8 hr (by omega);obtain⟨⟨lo,wi,ou⟩,c,e3,e4,hok,hwd,hol,hcl,hen⟩:=R.enc e2;obtain⟨f1,f2,f3⟩:=hen bt;rw[zcU]at f1 f2;rw[e1,e3]at S;rw[←f1]at f3;refine⟨N,_,lo,wi,ou,_,p,c,S15.cost p bt,S,e4,by omega,Nat.sub_le _ _,rfl,rfl,f2,fun W hW=> ?_,fun W=>cost15 p bt ⟨hp1,hp2⟩ hbt W,fun W hW=> ?_,fun W hW=> ?_⟩
 ·have H:=pred_all hG VJ W hW;rw[hsq]at H;exact H
 ·have ho:ou.length≤65536:=by
   have h1:ou.length≤4*(h++r).length:=hol;omega
  have H:=encodeC15 lo wi ou a2 c2 bt p W hok hwd ho (by rw[←f1];omega) hbt ⟨hp1,hp2⟩ hW;rw[←f1]at H;exact H.mono fun e w' ⟨a',c',g1,g2,_,g4⟩=>⟨a',c',g1,g2,g4⟩
 ·have H:=learn_all hG (by omega) (bit:=(bt:Int)) (by omega) VJ W hW;rw[hle bt]at H;exact H
theorem ziB(l:List S14.C)(hck:S14.check l=0)(cs:List (List Nat))(hc:∀x∈cs,x.length≤16)(hx:∀x∈cs,∀y∈x,y<4294967296)(data:List Nat)(hd:S15.By data)(hdl:data.length≤24)(a ac ad:Option Addr)(hv:List Value)(cap cc cd:Nat)(w:World)(hrl:Rd w a (zhK l))(hC:CX w ac hv cs)(hrd:Rd w ad (Nbs data)) :
 Calls Tryz.prog 7 #[.slice a l.length cap,.slice ac cs.length cc,.slice ad data.length cd] w fun e w'=>∃a' c',e = .returned (.tuple #[.slice a' (S15.fin (S15.encR (S15.P cs (S14.opened (S14.newN l))) [] S15.E0 (S15.bits data))).length c',.int .i64 (S15.costR (S15.P cs (S14.opened (S14.newN l))) [] (S15.bits data):Nat),.bool true])∧(S15.fin (S15.encR (S15.P cs (S14.opened (S14.newN l))) [] S15.E0 (S15.bits data))).length≤c'∧Rd w' a' (Nbs (S15.fin (S15.encR (S15.P cs (S14.opened (S14.newN l))) [] S15.E0 (S15.bits data))))∧Below w.heap.size w w':=by
 have R0:=S15.Run.of hck hc hx;obtain⟨N0,hN0⟩:∃N,S14.opened (S14.newN l)=N:=⟨_,rfl⟩;have HNew:=zB (new_all hck a cap w hrl);rw[hN0]at HNew R0⊢;obtain⟨P,hP⟩:∃P,S15.P cs N0=P:=⟨_,rfl⟩;rw[hP]at R0⊢;have R:=zB R0;have HBg:=zB fun W=>begin15 W;have HC:=zB hC;have Hrd:=zB hrd;have Hd:=zB hd;obtain⟨n,hn⟩:∃n,data.length=n:=⟨_,rfl⟩;have Hn:=zB hn;rw[hn]at hdl⊢;obtain⟨m,hm⟩:∃n,cs.length=n:=⟨_,rfl⟩;have Hm:=zB hm;rw[hm];obtain⟨q,hq⟩:∃n,l.length=n:=⟨_,rfl⟩;rw[hq]at HNew⊢;clear hN0 hrl hck hP R0 hC hrd hd hc hx hn hm hq;go_enter Tryz.func7,Tryz.ntmps7;go_wp2_with fail;refine HNew.out.mono ?_;rintro e w1 ⟨VS,rfl,hV,B1⟩;have b1:=Blk.new w1 [.slice none 0 0,.slice none 0 0,.slice none 0 0,.int .i64 0] 40;have hal:=(zF w1.heap.size w1).alloc (zD _) (Obj.cells #[.slice none 0 0,.slice none 0 0,.slice none 0 0,.int .i64 0] 40);have hl4:=hV.len;have ho4:=hV.one;have HV:=zB hV;clear hV HNew;go_wp2_with (first
  | (refine zT 40 (.tmp 9) (.tmp 27) (by rfl) (by rfl) w1.heap.size (by rfl) VS (by rfl) _ 40 b1 (info_N.trans (yS some hl4.symm)) hl4.symm ho4 ?_;intro w2 k2 g2 s2)
  | fail)
 refine(HBg.out _).mono ?_;rintro e w3 ⟨rfl,hb3⟩;have N1:=HV.out.grow15 (E':=fun k=>k=w1.heap.size) (KepX.below hal) (fun k hk h=>by have h:k=w1.heap.size:=h;omega);have N2:=N1.kep (KepX.row g2 (fun b e=>.inl (zK e).symm));have B2:Below w.heap.size w w2:=(zA B1 hal).trans (yG g2 B1.size (by have:=B1.size;simp;omega));have N3:=N2.step hb3;have k3:=k2.step hb3;have B3:=zA B2 hb3;have hlt:=k3.lt;have b3:=Blk.new w3 [.int .u32 0,.int .u32 0,.slice none 0 0] 46;have hal3:=(zF w3.heap.size w3).alloc (zD _) (Obj.cells #[.int .u32 0,.int .u32 0,.slice none 0 0] 46);have HN3:=zB N3;clear N1 N2 B2 k2 g2 s2 hb3 hal b1 HV N3;go_wp2_with (first
  | (refine zT 46 (.tmp 11) (.tmp 29) (by rfl) (by rfl) w3.heap.size (by rfl) [.int .u32 0,.int .u32 4294967295,.slice none 0 0] (by rfl) _ 46 b3 zdX rfl (by simp[Value.oneCell']) ?_;intro w4 k4 g4 s4)
  | fail)
 have N4:=(HN3.out.grow15 (E':=fun k=>k=w1.heap.size∨k=w3.heap.size) (KepX.below hal3) (fun k hk h=>h.elim (fun h=>h) (fun h=>by omega))).kep (KepX.row g4 (fun b e=>.inl (.inr (zK e).symm)));have B4:Below w.heap.size w w4:=(zA B3 hal3).trans (yG g4 B3.size (by have:=B3.size;simp;omega));have S4:SE (fun k=>k=w1.heap.size∨k=w3.heap.size) 46 w1.heap.size w3.heap.size VS S15.E0.low S15.E0.width S15.E0.out none 0 N0 w4:=⟨N4,(k3.step hal3).keptRow g4 (fun e=>by have:=zK e;omega),k4,(fun hne=>absurd rfl hne),by omega,.inl rfl,.inr rfl,fun k e=>by have:=k4.lt;omega⟩;have HS4:=zB S4;obtain⟨NB,hNB⟩:∃b,w1.heap.size=b:=⟨_,rfl⟩;obtain⟨CB,hCB⟩:∃b,w3.heap.size=b:=⟨_,rfl⟩;rw[hNB,hCB]at HS4;rw[hNB,hCB];have hwN:w.heap.size≤NB:=by rw[←hNB];exact B1.size
 have hwC:w.heap.size≤CB:=by rw[←hCB];exact B3.size
 clear N4 S4 k4 g4 s4 hal3 b3 HN3 k3 B3 hlt HBg hNB hCB;go_loopw [10,12,32] (fun er co i wr=>∃(k:Nat) (VK:List Value) (a1:Option Addr) (c1:Nat),k≤n∧er = .int .i64 0∧co = .int .i64 (S15.costR P [] (S15.bits (data.take k)):Nat)∧i = .int .i64 (k:Int)∧Hid (SE (fun k=>k=NB∨k=CB) 46 NB CB VK (S15.encR P [] S15.E0 (S15.bits (data.take k))).low (S15.encR P [] S15.E0 (S15.bits (data.take k))).width (S15.encR P [] S15.E0 (S15.bits (data.take k))).out a1 c1 (S15.pre cs N0 (S15.bits (data.take k))) wr)∧Below w.heap.size w wr) (fun _ _ i _=>n-(intOf i).toNat)
 case atStart=>exact⟨0,VS,none,0,by omega,rfl,rfl,rfl,HS4,B4⟩
 case round=>
  obtain⟨k,VK,a1,c1,hk,rfl,rfl,rfl,hS,hBl⟩:=hrel;have hb0:=zoG (data.take k);have hlen:(S15.bits (data.take k)).length=8*k:=by rw[ziN,yJ,Hn.out,zbF hk]
  by_cases hlt:k<n
  ·have hki:(k:Int)<(n:Int):=by omega
   have hk0:(0:Int)≤(k:Int):=by omega
   obtain⟨x,hx⟩:∃x,data.getD k 0=x:=⟨_,rfl⟩;have hxb:x<256:=by rw[←hx];exact zeJ Hd.out k
   have hbt:S15.bits (data.take (k+1))=S15.bits (data.take k)++S15.bitsK x 8:=by rw[bits_take (by rw[Hn.out];exact hlt),hx]
   obtain⟨g,o,rfl,hcs⟩:=(Hrd.out.step hBl) (fun e=>by have:=yS List.length e;rw[zgR,Hn.out,List.length_nil]at this;omega);have x0:wr.cell? ⟨g,o+k,none⟩=some (.int .u8 (x:Int)):=by rw[←hx];exact hcs k _ (Nbs_at (by rw[Hn.out];exact hlt))
   obtain⟨h0,hh0⟩:∃h,S15.bits (data.take k)=h:=⟨_,rfl⟩;rw[hh0]at hS hb0 hlen hbt⊢;have hI:=R.out.good h0 hb0 (by omega);have hS':=hS.out;have HCN:=zB (caseNet15 _ (S15.pre cs N0 h0) h0.length VK cs ac hv cc k wr hI (by omega) R.out.c R.out.x hS'.el hS'.net (HC.out.step hBl));rw[←inR_nil (cs:=cs) (N0:=N0) hlen]at HCN;have hl4:=hS'.net.len;have kN:=hS'.nb;rw[Hm.out]at HCN;have Hh:=zB (zaC hh0 (zaC hbt (zaC hb0 hlen)));clear hcs hh0 hbt hb0 hlen hI hS' hx;go_wp2_with (first
    | (refine yA 40 (.tmp 9) (by rfl) (by rfl) NB (by rfl) VK 40 kN _ Tryz.underlying40 rfl (info_N.trans (yS some hl4.symm)) ?_)
    | fail)
   refine HCN.out.mono ?_;rintro e w5 ⟨V5,rfl,N5,hb5⟩;have S5:=hS.out.step hb5;have B5:=zA hBl hb5;have hl5:=N5.len;have ho5:=N5.one;have k5:=S5.nb;have HS5:=zB S5;have HN5:=zB N5;clear HCN kN hS hb5 S5 N5;go_wp2_with (first
    | (refine zT 40 (.tmp 9) (.tmp 44) (by rfl) (by rfl) NB (by rfl) V5 (by rfl) _ 40 k5 (info_N.trans (yS some hl5.symm)) (hl4.trans hl5.symm) ho5 ?_;intro w6 k6 g6 s6)
    | fail)
   have S6:=HS5.out.putN HN5.out k6 g6;have B6:=B5.trans (yG g6 hwN B5.size);have HS6:=zB S6;clear k6 g6 s6 HS5 HN5 S6 B5 x0;obtain⟨wq,hwq⟩:∃q,wr=q:=⟨_,rfl⟩;go_loopw [10,12,16] (fun er co i wr=>∃(j:Nat) (VJ:List Value) (a2:Option Addr) (c2:Nat),j≤8∧er = .int .i64 0∧co = .int .i64 (S15.costR P [] (h0++S15.bitsK x j):Nat)∧i = .int .i64 (7-(j:Int))∧Hid (SE (fun k=>k=NB∨k=CB) 46 NB CB VJ (S15.encR P [] S15.E0 (h0++S15.bitsK x j)).low (S15.encR P [] S15.E0 (h0++S15.bitsK x j)).width (S15.encR P [] S15.E0 (h0++S15.bitsK x j)).out a2 c2 (S15.inR cs N0 h0 (S15.bitsK x j)) wr)∧Below w.heap.size w wr) (fun _ _ i _=>(intOf i+1).toNat)
   case atStart=>exact⟨0,V5,a1,c1,by omega,rfl,by rw[S15.bitsK,List.append_nil],rfl,by rw[S15.bitsK,List.append_nil];exact HS6,B6⟩
   case round=>
    clear HS6 B6;obtain⟨j,VJ,a2,c2,hj,rfl,rfl,rfl,hS,hBl2⟩:=hrel;by_cases hj8:j<8
    ·obtain⟨K,hK⟩:∃K:Nat,7-j=K:=⟨_,rfl⟩;have hKi:(7:Int)-(j:Int)=(K:Int):=by omega
     rw[hKi];have hK0:(0:Int)≤(K:Int):=by omega
     have hdt:decide ((0:Int)≤(K:Int))=true:=zQ hK0;have hnx:S15.bitsK x (j+1)=S15.bitsK x j ++ [x/2^(7-j)%2]:=rfl;rw[hK]at hnx;obtain⟨bt,hbt⟩:∃b,x/2^K%2=b:=⟨_,rfl⟩;rw[hbt]at hnx;have hbx:=bit15 hxb hbt;have hb01:bt=0∨bt=1:=by omega
     have hw64:=wr15 hb01;have hrl:=ziD x j;have hrb:=zqR x j;obtain⟨r,hr⟩:∃r,S15.bitsK x j=r:=⟨_,rfl⟩;rw[hr]at hnx hS hrl hrb⊢;obtain⟨N,N2,lo,wi,ou,E2,p,c,co,S,e1,e2,e3,e4,e5,e6,HPr,HCo,HEn,HLe⟩:=enc_round15 R.out (fun b hb=>(List.mem_append.1 hb).elim (Hh.out.2.2.1 b) (hrb b)) (by rw[Hh.out.2.2.2];omega) (by omega) (by rw[yN,Hh.out.2.2.2];omega) hb01 hS.out;rw[e1];rw[←hnx]at e4 e5 e6;obtain⟨cn,hcn⟩:∃y,c+co=y:=⟨_,rfl⟩;have hwc:IntKind.i64.wrap ((c:Int)+(co:Int))=(cn:Int):=by rw[←hcn,Int.natCast_add];exact IntWalk.i64_in _ (by omega)
     rw[hcn]at e6;have HE:=zB (zaC e4 (zaC e5 e6));have kN:=S.nb;have hlJ:=S.net.len;have HS:=zB S;have HPr:=zB HPr;have HCo:=zB HCo;have HEn:=zB HEn;have HLe:=zB HLe;have hwi:IntKind.i64.wrap ((K:Int)-1)=(K:Int)-1:=IntWalk.i64_in _ (by omega);clear e1 e4 e5 e6 hnx hbt hrl hrb hr hS S hcn;go_wp2_with (first
      | (refine yA 40 (.tmp 9) (by rfl) (by rfl) NB (by rfl) VJ 40 kN _ Tryz.underlying40 rfl (info_N.trans (yS some hlJ.symm)) ?_)
      | fail)
     refine(HPr.out _ HS.out.net).mono ?_;rintro e w7 ⟨rfl,hb7⟩;have HS7:=zB (HS.out.step hb7);have B7:=zA hBl2 hb7;clear hb7 kN HPr HS;go_wp2_with fail;refine(HCo.out _).mono ?_;rintro e w8 ⟨rfl,hb8⟩;have HS8:=zB (HS7.out.step hb8);have B8:=zA B7 hb8;have kC:=HS8.out.cb;clear hb8 HS7 HCo B7;go_wp2_with (first
      | (refine yA 46 (.tmp 11) (by rfl) (by rfl) CB (by rfl) _ 46 kC _ Tryz.underlying46 rfl zdX ?_)
      | fail)
     refine(HEn.out _ HS8.out.rd).mono ?_;rintro e w9 ⟨a3,c3,rfl,hr3,hb9⟩;have S9:=HS8.out.step hb9;have B9:=zA B8 hb9;have b9:=Blk.new w9 [.int .u32 0,.int .u32 0,.slice none 0 0] 46;have hal9:=(zF w9.heap.size w9).alloc (zD _) (Obj.cells #[.int .u32 0,.int .u32 0,.slice none 0 0] 46);have HS9:=zB S9;have Hr3:=zB hr3;have Hz:=zB (show w9.heap.size≤(w9.alloc (Obj.cells #[.int .u32 0,.int .u32 0,.slice none 0 0] 46)).heap.size by simp);clear S9 hb9 HS8 B8 kC hr3 HEn;go_wp2_with (first
      | (refine zT 46 (.tmp 20) (.tmp 76) (by rfl) (by rfl) w9.heap.size (by rfl) [.int .u32 (E2.low:Int),.int .u32 (E2.width:Int),.slice a3 E2.out.length c3] (by rfl) _ 46 b9 zdX rfl (by simp[Value.oneCell']) ?_;intro w10 k10 g10 s10;have hb10:=hal9.trans (yG g10 (zD _) Hz.out);have S10:=HS9.out.step hb10;have B10:=zA B9 hb10;have kC:=S10.cb;have Hr10:=zB (Hr3.out.step hb10);have HS10:=zB S10;clear g10 s10 hal9 b9 S10 hb10 B9 HS9 Hr3 Hz)
      | (refine yA 46 (.tmp 20) (by rfl) (by rfl) w9.heap.size (by rfl) _ 46 k10 _ Tryz.underlying46 rfl zdX ?_)
      | (refine zT 46 (.tmp 11) (.tmp 78) (by rfl) (by rfl) CB (by rfl) [.int .u32 (E2.low:Int),.int .u32 (E2.width:Int),.slice a3 E2.out.length c3] (by rfl) _ 46 kC zdX rfl (by simp[Value.oneCell']) ?_;intro w11 k11 g11 s11;have S11:=HS10.out.putC Hr10.out k11 g11;have B11:=B10.trans (yG g11 hwC B10.size);have kN:=S11.nb;have HS11:=zB S11;clear k10 k11 g11 s11 S11 B10 HS10 kC Hr10)
      | (refine yA 40 (.tmp 9) (by rfl) (by rfl) NB (by rfl) VJ 40 kN _ Tryz.underlying40 rfl (info_N.trans (yS some hlJ.symm)) ?_)
      | fail)
     refine(HLe.out _ HS11.out.net).mono ?_;rintro e w12 ⟨V12,rfl,N12,hb12⟩;have hm12:=N12.mono (E':=fun k=>k=NB∨k=CB) (fun k _ e=>HS11.out.el k e);have S12:=HS11.out.step hb12;have B12:=zA B11 hb12;have hl12:=N12.len;have ho12:=N12.one;have k12:=S12.nb;have HS12:=zB S12;have HN12:=zB hm12;clear N12 hm12 hb12 HS11 B11 HLe S12 kN;go_wp2_with (first
      | (refine zT 40 (.tmp 9) (.tmp 83) (by rfl) (by rfl) NB (by rfl) V12 (by rfl) _ 40 k12 (info_N.trans (yS some hl12.symm)) (hlJ.trans hl12.symm) ho12 ?_;intro w13 k13 g13 s13;have S13:=HS12.out.putN HN12.out k13 g13;have B13:=B12.trans (yG g13 hwN B12.size);have HS13:=zB S13;clear k13 g13 s13 S13 k12 HS12 HN12 B12)
      | fail)
     go_roundw
     case rel=>exact⟨j+1,V12,a3,c3,by omega,rfl,by rw[HE.out.2.2],by rw[show(7:Int)-((j+1:Nat):Int)=(K:Int)-1 by omega],by rw[HE.out.1,HE.out.2.1];exact HS13,B13⟩
     case measure=>simp[intOf]
    ·obtain rfl:j=8:=by omega
     rw[show(7:Int)-((8:Nat):Int) = -1 from rfl];obtain⟨q1,q2,q3,q4⟩:=Hh.out;rw[inR_end (ziD x 8),←q2]at hS;rw[←q2];have HS:=zB hS.out;clear hS q1 q2 q3 q4;go_wp2_with fail;go_roundw
     case rel=>exact⟨k+1,VJ,a2,c2,by omega,rfl,rfl,by go_num,HS,hBl2⟩
     case measure=>simp[intOf];omega
  ·obtain rfl:k=n:=by omega
   have ht:data.take k=data:=by rw[←Hn.out,zdT]
   rw[ht]at hS hlen⊢;obtain⟨h1,h2⟩:=zjJ R.out.pr (S15.bits data) [] S15.E0 zmP (by decide);have hl:=zkN R.out.pr (S15.bits data) [] S15.E0 zmP (by decide);obtain⟨⟨lo,wi,ou⟩,hE⟩:∃E,S15.encR P [] S15.E0 (S15.bits data)=E:=⟨_,rfl⟩;rw[hE]at hS h1 h2 hl;have HF:=zB (finishC15 lo wi ou a1 c1 wr h1 h2 (by have h3:ou.length≤S15.E0.out.length+4*(S15.bits data).length:=hl;have h4:S15.E0.out.length=0:=rfl;omega) hS.out.rd);have kC:Blk wr CB [.int .u32 (lo:Int),.int .u32 (wi:Int),.slice a1 ou.length c1] 46:=hS.out.cb;obtain⟨F,hF⟩:∃F,S15.fin ⟨lo,wi,ou⟩=F:=⟨_,rfl⟩;rw[hF]at HF;obtain⟨cc2,hcc⟩:∃c,S15.costR P [] (S15.bits data)=c:=⟨_,rfl⟩;rw[hcc];have Hq:=zB (zaC hE (zaC hF hcc));clear hcc hF hE h1 h2 hl hS ht hlen hb0;go_wp2_with (first
    | (refine yA 46 (.tmp 11) (by rfl) (by rfl) CB (by rfl) _ 46 kC _ Tryz.underlying46 rfl zdX ?_)
    | fail)
   refine HF.out.mono ?_;rintro e w7 ⟨a',c',rfl,h1,h2,hb7⟩;have Hr:=zB (zaC h1 (zaC h2 (zA hBl hb7)));clear h1 h2 hb7 HF kC;go_wp2;go_returns;rw[Hq.out.1,Hq.out.2.1,Hq.out.2.2];exact⟨a',c',rfl,Hr.out⟩
theorem zkE{w:World}{base b:Nat}{e:TypeId}{size n:Nat}{v:Value}{xs:List Value}(h:w.ownsRow base e size v n xs)(hb:b<base):v.ownBlock≠some b:=fun e=>by
 have:=(zbX h e).1;omega
structure SD(NB CB:Nat)(VK:List Value)(x y:Nat)(l:List Nat)(a:Option Addr)(c:Nat)(N:S14.N)(k:Nat)(ao:Option Addr)(co:Nat)(out:List Nat)(w:World):Prop where
 s:SE (fun q=>q=NB∨q=CB∨(Value.slice ao k co).ownBlock=some q) 59 NB CB VK x y l a c N w
 own:w.ownsRow (CB+1) 5 1 (.slice ao k co) k (Nbs out)
 lt:NB<CB
theorem SD.step{NB CB x y c k co:Nat}{VK:List Value}{l out:List Nat}{a ao:Option Addr}{N:S14.N}{w w':World}(h:SD NB CB VK x y l a c N k ao co out w)(hb:Below w.heap.size w w'):SD NB CB VK x y l a c N k ao co out w':=⟨h.s.step hb,yX (B:=0) h.own hb,h.lt⟩
theorem SD.putN{NB CB x y c k co:Nat}{VK V2:List Value}{l out:List Nat}{a ao:Option Addr}{N N2:S14.N}{w w':World}(h:SD NB CB VK x y l a c N k ao co out w)(hn:NetE (fun q=>q=NB∨q=CB∨(Value.slice ao k co).ownBlock=some q) N2 V2 w)(hk:Blk w' NB V2 40)(hg:w.grownBy w' (some NB)):SD NB CB V2 x y l a c N2 k ao co out w':=
 ⟨h.s.putN hn hk hg,zcQ h.own hg (zkE h.own (by have:=h.lt;omega)),h.lt⟩
theorem SD.putC{NB CB x y c k co x2 y2 c2:Nat}{VK:List Value}{l out l2:List Nat}{a ao a2:Option Addr}{N:S14.N}{w w':World}(h:SD NB CB VK x y l a c N k ao co out w)(hr:Rd w a2 (Nbs l2))(hk:Blk w' CB [.int .u32 (x2:Int),.int .u32 (y2:Int),.slice a2 l2.length c2] 59)(hg:w.grownBy w' (some CB)):SD NB CB VK x2 y2 l2 a2 c2 N k ao co out w':=
 ⟨h.s.putC hr hk hg,zcQ h.own hg (zkE h.own (by omega)),h.lt⟩
theorem SD.app{NB CB x y c k co c2:Nat}{VK:List Value}{l out out2:List Nat}{a ao a2:Option Addr}{N:S14.N}{w w1 w2:World}(h:SD NB CB VK x y l a c N k ao co out w)(hal:Below w.heap.size w w1)(ho:w2.ownsRow (CB+1) 5 1 (.slice a2 (k+1) c2) (k+1) (Nbs out2))(hg:w1.grownBy w2 (Value.slice ao k co).ownBlock)
 (hat:(Value.slice a2 (k+1) c2).ownBlock=(Value.slice ao k co).ownBlock∨(Value.slice a2 (k+1) c2).ownBlock=some w1.heap.size) (hd:∀g g' o,a=some ⟨g,o,none⟩→(Value.slice ao k co).ownBlock=some g'→g'<g):SD NB CB VK x y l a c N (k+1) a2 c2 out2 w2:=by
 have hl:=h.lt;refine⟨⟨?_,(h.s.nb.step hal).keptRow hg (fun e=>zkE h.own (by omega) e.symm),(h.s.cb.step hal).keptRow hg (fun e=>zkE h.own (by omega) e.symm),?_,h.s.ne,.inl rfl,.inr (.inl rfl),?_⟩,ho,h.lt⟩
 ·refine h.s.net.grow15 ((KepX.below hal).trans (KepX.row hg (fun b e=>.inl (.inr (.inr e))))) (fun q hq e=> ?_);rcases e with e|e|e
  ·exact .inl e
  ·exact .inr (.inl e)
  ·rcases hat with h2|h2
   ·exact .inr (.inr (h2▸e))
   ·rw[h2]at e;have:=zK e;have:=hal.size;omega
 ·refine(h.s.rd.step hal).kepX (X:=fun q=>(Value.slice ao k co).ownBlock=some q) (KepX.row hg (fun b e=>.inl e)) (fun g o e h2=> ?_);have:=hd g g o e h2;omega
 ·intro q e;rcases e with e|e|e
  ·have:=h.s.nb.lt;have:=hal.size;have:=hg.size;omega
  ·have:=h.s.cb.lt;have:=hal.size;have:=hg.size;omega
  ·obtain⟨_,cur,h2⟩:=zbX ho e;exact(Array.getElem?_eq_some_iff.1 h2).1
theorem dec_round15{cs:List (List Nat)}{N0:S14.N}{P:List Nat→Nat}(R:S15.Run cs N0 P){NB CB c2 k co n:Nat}{VJ:List Value}{a2 ao:Option Addr}{out:List Nat}{w:World}{D:S15.D}(hD:S15.Dk D)(hDl:D.inp.length≤1000){h r:List Nat}(h8:h.length%8=0)(hr:r.length<8)(hl:(h++r).length≤200)(hg:S15.decR P [] D n=h++r)
 (S:SD NB CB VJ (S15.decS P [] D n).width (S15.decS P [] D n).code (S15.decS P [] D n).inp a2 c2 (S15.inR cs N0 h r) k ao co out w) (hle:(S15.decS P [] D n).inp.length≤c2) :
 ∃(N N2:S14.N) (wi ce:Nat) (ip:List Nat) (D2:S15.D) (p b:Nat),SD NB CB VJ wi ce ip a2 c2 N k ao co out w∧(b=0∨b=1)∧S15.decR P [] D (n+1)=h++(r ++ [b])∧S15.decS P [] D (n+1)=D2∧S15.inR cs N0 h (r ++ [b])=N2∧
  (∀(E:Nat→Prop) W,NetE E N VJ W→Calls Tryz.prog 16 #[.agg VJ.toArray] W fun e w'=>e = .returned (.tuple #[.int .i64 (p:Int),.int .i64 0])∧Below W.heap.size W w')∧
  (∀W,Rd W a2 (Nbs ip)→Calls Tryz.prog 22 #[.agg #[.int .u32 (wi:Int),.int .u32 (ce:Int),.slice a2 ip.length c2],.int .i64 (p:Int)] W fun e w'=>∃a' c',e = .returned (.tuple #[.int .i64 (b:Int),.agg #[.int .u32 (D2.width:Int),.int .u32 (D2.code:Int),.slice a' D2.inp.length c'],.int .i64 0])∧D2.inp.length≤c'∧Rd w' a' (Nbs D2.inp)∧(∀g o,a'=some ⟨g,o,none⟩→W.heap.size≤g)∧Below W.heap.size W w')∧
  (∀(E:Nat→Prop) W,NetE E N VJ W→Calls Tryz.prog 19 #[.agg VJ.toArray,.int .i64 (b:Int)] W fun e w'=>∃VS',e = .returned (.tuple #[.agg VS'.toArray,.int .i64 0])∧NetE (fun k=>k<W.heap.size) N2 VS' w'∧Below W.heap.size W w'):=by
 obtain⟨N,p,e1,e2,hp1,hp2,hsq,hG,hle2⟩:=R.bit (fun b hb=>by rw[←hg]at hb;exact ziM P n _ _ b hb) h8 hr (by omega);obtain⟨⟨wi,ce,ip⟩,e3,hk,hkl,f1,f2,f3⟩:=R.dec hD hg e2 hp1 hp2;rw[e1,e3]at S;rw[e3]at hle;have hb01:S15.bitD ⟨wi,ce,ip⟩ p=0∨S15.bitD ⟨wi,ce,ip⟩ p=1:=by
  unfold S15.bitD;split
  ·exact .inr rfl
  ·exact .inl rfl
 rw[zcU]at f2;have hil:ip.length≤D.inp.length:=hkl;have hle':ip.length≤c2:=hle;rw[←f1]at f3;refine⟨N,_,wi,ce,ip,_,p,_,S,hb01,f2,rfl,rfl,fun E W hW=> ?_,fun W hW=> ?_,fun E W hW=> ?_⟩
 ·have H:=pred_all hG VJ W hW;rw[hsq]at H;exact H
 ·have H:=decodeC15 wi ce ip a2 c2 p W hk.by_ (by omega) hk.co hk.w1 hk.w2 ⟨hp1,hp2⟩ hle' hW (by rw[←f1];omega);rw[←f1]at H;exact H
 ·have H:=learn_all hG (by omega) (bit:=((S15.bitD ⟨wi,ce,ip⟩ p:Nat):Int)) (by omega) VJ W hW;rw[hle2]at H;exact H
theorem ziC(l:List S14.C)(hck:S14.check l=0)(cs:List (List Nat))(hc:∀x∈cs,x.length≤16)(hx:∀x∈cs,∀y∈x,y<4294967296)(code:List Nat)(hB:S15.By code)(hcl:code.length≤1000)(n:Nat)(hn:n≤24)(a ac ad:Option Addr)(hv:List Value)(cap cc cd:Nat)(hle:code.length≤cd)(w:World)(hrl:Rd w a (zhK l))(hC:CX w ac hv cs)(hrd:Rd w ad (Nbs code)) :
 Calls Tryz.prog 8 #[.slice a l.length cap,.slice ac cs.length cc,.slice ad code.length cd,.int .i64 (n:Int)] w fun e w'=>∃a' c',e = .returned (.tuple #[.slice a' n c',.bool true])∧Rd w' a' (Nbs (S15.bytes n (S15.decR (S15.P cs (S14.opened (S14.newN l))) [] (S15.opn code) (8*n))))∧Below w.heap.size w w':=by
 have R0:=S15.Run.of hck hc hx;obtain⟨N0,hN0⟩:∃N,S14.opened (S14.newN l)=N:=⟨_,rfl⟩;have HNew:=zB (new_all hck a cap w hrl);rw[hN0]at HNew R0⊢;obtain⟨P,hP⟩:∃P,S15.P cs N0=P:=⟨_,rfl⟩;rw[hP]at R0⊢;have R:=zB R0;obtain⟨hDk,hDl⟩:=opn_ok hB;have HOp:=zB fun W (hr:Rd W ad (Nbs code))=>openC15 code ad cd W hB (by omega) hle hr;obtain⟨D,hDD⟩:∃D,S15.opn code=D:=⟨_,rfl⟩;rw[hDD]at hDk hDl HOp⊢;have HD:=zB (zaC hDk (show D.inp.length≤1000 by omega));have HC:=zB hC;have Hrd:=zB hrd;obtain⟨cl,hcl2⟩:∃n,code.length=n:=⟨_,rfl⟩;rw[hcl2]at HOp⊢;obtain⟨m,hm⟩:∃n,cs.length=n:=⟨_,rfl⟩;have Hm:=zB hm;rw[hm];obtain⟨q,hq⟩:∃n,l.length=n:=⟨_,rfl⟩;rw[hq]at HNew⊢;clear hN0 hrl hck hP R0 hC hrd hc hx hm hq hDk hDl hDD hcl2 hcl hle hB;go_enter Tryz.func8,Tryz.ntmps8;go_wp2_with fail;refine HNew.out.mono ?_;rintro e w1 ⟨VS,rfl,hV,B1⟩;have b1:=Blk.new w1 [.slice none 0 0,.slice none 0 0,.slice none 0 0,.int .i64 0] 40;have hal:=(zF w1.heap.size w1).alloc (zD _) (Obj.cells #[.slice none 0 0,.slice none 0 0,.slice none 0 0,.int .i64 0] 40);have hl4:=hV.len;have ho4:=hV.one;have HV:=zB hV;clear hV HNew;go_wp2_with (first
  | (refine zT 40 (.tmp 10) (.tmp 25) (by rfl) (by rfl) w1.heap.size (by rfl) VS (by rfl) _ 40 b1 (info_N.trans (yS some hl4.symm)) hl4.symm ho4 ?_;intro w2 k2 g2 s2)
  | fail)
 have B2:Below w.heap.size w w2:=(zA B1 hal).trans (yG g2 B1.size (by have:=B1.size;simp;omega));refine(HOp.out _ (Hrd.out.step B2)).mono ?_;rintro e w3 ⟨ai,ci,rfl,hci,hri,hb3⟩;have N1:=HV.out.grow15 (E':=fun k=>k=w1.heap.size) (KepX.below hal) (fun k hk h=>by have h:k=w1.heap.size:=h;omega);have N2:=N1.kep (KepX.row g2 (fun b e=>.inl (zK e).symm));have N3:=N2.step hb3;have k3:=k2.step hb3;have B3:=zA B2 hb3;have hlt:=k3.lt;have b3:=Blk.new w3 [.int .u32 0,.int .u32 0,.slice none 0 0] 59;have hal3:=(zF w3.heap.size w3).alloc (zD _) (Obj.cells #[.int .u32 0,.int .u32 0,.slice none 0 0] 59);have HN3:=zB N3;have Hci:=zB (zaC hci hri);clear N1 N2 B2 k2 g2 s2 hb3 hal b1 HV N3 hci hri HOp;go_wp2_with (first
  | (refine zT 59 (.tmp 12) (.tmp 28) (by rfl) (by rfl) w3.heap.size (by rfl) [.int .u32 (D.width:Int),.int .u32 (D.code:Int),.slice ai D.inp.length ci] (by rfl) _ 59 b3 zbM rfl (by simp[Value.oneCell']) ?_;intro w4 k4 g4 s4)
  | fail)
 have N4:=(HN3.out.grow15 (E':=fun k=>k=w1.heap.size∨k=w3.heap.size∨(Value.slice none 0 0).ownBlock=some k) (KepX.below hal3) (fun k hk h=>h.elim (fun h=>h) (fun h=>h.elim (fun h=>by omega) (fun h=>by simp[Value.ownBlock]at h)))).kep (KepX.row g4 (fun b e=>.inl (.inr (.inl (zK e).symm))));have B4:Below w.heap.size w w4:=(zA B3 hal3).trans (yG g4 B3.size (by have:=B3.size;simp;omega))
 have S4:SD w1.heap.size w3.heap.size VS D.width D.code D.inp ai ci N0 0 none 0 [] w4:=⟨⟨N4,(k3.step hal3).keptRow g4 (fun e=>by have:=zK e;omega),k4,(Hci.out.2.step hal3).rowT15 b3 (noU8_cv _ _ _ _ _) g4,by omega,.inl rfl,.inr (.inl rfl),fun k e=>by
  have:=k4.lt;rcases e with e|e|e
  ·omega
  ·omega
  ·simp[Value.ownBlock]at e⟩,World.ownsRow_nil _ _ _ _,hlt⟩
 have HS4:=zB S4;obtain⟨NB,hNB⟩:∃b,w1.heap.size=b:=⟨_,rfl⟩;obtain⟨CB,hCB⟩:∃b,w3.heap.size=b:=⟨_,rfl⟩;rw[hNB,hCB]at HS4;rw[hNB,hCB];have hwN:w.heap.size≤NB:=by rw[←hNB];exact B1.size
 have hwC:w.heap.size≤CB:=by rw[←hCB];exact B3.size
 clear N4 S4 k4 g4 s4 hal3 b3 HN3 k3 B3 hlt hNB hCB;go_wp2_with fail;go_loopw [11,13,30] (fun er oc i wr=>∃(k:Nat) (VK:List Value) (a1 ao:Option Addr) (c1 co:Nat),k≤n∧er = .int .i64 0∧oc = .slice ao k co∧i = .int .i64 (k:Int)∧Hid (SD NB CB VK (S15.decS P [] D (8*k)).width (S15.decS P [] D (8*k)).code (S15.decS P [] D (8*k)).inp a1 c1 (S15.pre cs N0 (S15.decR P [] D (8*k))) k ao co (S15.bytes k (S15.decR P [] D (8*k))) wr)∧Hid ((S15.decS P [] D (8*k)).inp.length≤c1)∧Below w.heap.size w wr) (fun _ _ i _=>n-(intOf i).toNat)
 case atStart=>exact⟨0,VS,ai,none,ci,0,by omega,rfl,rfl,rfl,HS4,zB Hci.out.1,B4⟩
 case round=>
  obtain⟨k,VK,a1,ao,c1,co,hk,rfl,rfl,rfl,hS,hc1,hBl⟩:=hrel;by_cases hlt:k<n
  ·have hki:(k:Int)<(n:Int):=by omega
   have hk0:(0:Int)≤(k:Int):=by omega
   have hlen:=ztT P (8*k) [] D;have hb0:=ziM P (8*k) [] D;obtain⟨h0,hh0⟩:∃h,S15.decR P [] D (8*k)=h:=⟨_,rfl⟩;rw[hh0]at hS hb0 hlen;have hI:=R.out.good h0 hb0 (by omega);have hS':=hS.out.s;have HCN:=zB (caseNet15 _ (S15.pre cs N0 h0) h0.length VK cs ac hv cc k wr hI (by omega) R.out.c R.out.x hS'.el hS'.net (HC.out.step hBl));rw[←inR_nil (cs:=cs) (N0:=N0) hlen]at HCN;have hl4:=hS'.net.len;have kN:=hS'.nb;rw[Hm.out]at HCN;have Hh:=zB (zaC hh0 (zaC hb0 hlen));clear hh0 hb0 hlen hI hS';go_wp2_with (first
    | (refine yA 40 (.tmp 10) (by rfl) (by rfl) NB (by rfl) VK 40 kN _ Tryz.underlying40 rfl (info_N.trans (yS some hl4.symm)) ?_)
    | fail)
   refine HCN.out.mono ?_;rintro e w5 ⟨V5,rfl,N5,hb5⟩;have S5:=hS.out.step hb5;have B5:=zA hBl hb5;have hl5:=N5.len;have ho5:=N5.one;have k5:=S5.s.nb;have HS5:=zB S5;have HN5:=zB N5;clear HCN kN hS hb5 S5 N5;go_wp2_with (first
    | (refine zT 40 (.tmp 10) (.tmp 38) (by rfl) (by rfl) NB (by rfl) V5 (by rfl) _ 40 k5 (info_N.trans (yS some hl5.symm)) (hl4.trans hl5.symm) ho5 ?_;intro w6 k6 g6 s6)
    | fail)
   have S6:=HS5.out.putN HN5.out k6 g6;have B6:=B5.trans (yG g6 hwN B5.size);have HS6:=zB S6;clear k6 g6 s6 HS5 HN5 S6 B5;obtain⟨wq,hwq⟩:∃q,wr=q:=⟨_,rfl⟩;go_loopw [11,16,46] (fun er xx i wr=>∃(j xv:Nat) (r:List Nat) (VJ:List Value) (a2:Option Addr) (c2:Nat),j≤8∧er = .int .i64 0∧xx = .int .i64 (xv:Int)∧i = .int .i64 (j:Int)∧Hid (r.length=j∧S15.num 0 r=xv∧S15.decR P [] D (8*k+j)=h0++r∧(S15.decS P [] D (8*k+j)).inp.length≤c2∧(0<j→∀g g' o,a2=some ⟨g,o,none⟩→(Value.slice ao k co).ownBlock=some g'→g'<g))∧Hid (SD NB CB VJ (S15.decS P [] D (8*k+j)).width (S15.decS P [] D (8*k+j)).code (S15.decS P [] D (8*k+j)).inp a2 c2 (S15.inR cs N0 h0 r) k ao co (S15.bytes k h0) wr)∧Below w.heap.size w wr) (fun _ _ i _=>8-(intOf i).toNat)
   case atStart=>exact⟨0,0,[],V5,a1,c1,by omega,rfl,rfl,rfl,zB ⟨rfl,rfl,by rw[List.append_nil];exact Hh.out.1,hc1.out,fun h=>absurd h (by omega)⟩,HS6,B6⟩
   case round=>
    clear HS6 B6;obtain⟨j,xv,r,VJ,a2,c2,hj,rfl,rfl,rfl,hR,hS,hBl2⟩:=hrel;by_cases hj8:j<8
    ·have hji:(j:Int)<8:=by omega
     obtain⟨r1,r2,r3,r4,r5⟩:=hR.out;obtain⟨N,N2,wi,ce,ip,D2,p,b,S,hb01,e1,e2,e3,HPr,HDe,HLe⟩:=dec_round15 R.out HD.out.1 HD.out.2 (by rw[Hh.out.2.2];omega) (by omega) (by rw[yN,Hh.out.2.2];omega) r3 hS.out r4;have hxl:=num_lt r 0 (fun y hy=>ziM P (8*k+j) [] D y (by rw[r3];exact List.mem_append_right _ hy));have hp7:2^r.length≤2^7:=zdA (by decide) (by omega);rw[r2]at hxl;have hxv:xv<128:=by omega
     obtain⟨xn,hxn⟩:∃x,2*xv+b=x:=⟨_,rfl⟩;have hw1:IntKind.i64.wrap (2*(xv:Int))=2*(xv:Int):=IntWalk.i64_in _ (by omega);have hw2:IntKind.i64.wrap (2*(xv:Int)+(b:Int))=(xn:Int):=by
      rw[show 2*(xv:Int)+(b:Int)=(xn:Int) by omega];exact IntWalk.i64_in _ (by omega)
     have hw3:IntKind.i64.wrap ((j:Int)+1)=(j:Int)+1:=IntWalk.i64_in _ (by omega);have HE:=zB (zaC e1 (zaC e2 (zaC e3 (show S15.num 0 (r ++ [b])=xn by rw[num_snoc,r2,hxn]))));have Hr1:=zB r1;have kN:=S.s.nb;have hlJ:=S.s.net.len;have HS:=zB S;have HPr:=zB HPr;have HDe:=zB HDe;have HLe:=zB HLe;clear e1 e2 e3 hS S hxn r1 r2 r3 r4 r5 hR hxl hp7;go_wp2_with (first
      | (refine yA 40 (.tmp 10) (by rfl) (by rfl) NB (by rfl) VJ 40 kN _ Tryz.underlying40 rfl (info_N.trans (yS some hlJ.symm)) ?_)
      | fail)
     refine(HPr.out _ _ HS.out.s.net).mono ?_;rintro e w7 ⟨rfl,hb7⟩;have HS7:=zB (HS.out.step hb7);have B7:=zA hBl2 hb7;have kC:=HS7.out.s.cb;clear hb7 kN HPr HS;go_wp2_with (first
      | (refine yA 59 (.tmp 12) (by rfl) (by rfl) CB (by rfl) _ 59 kC _ Tryz.underlying59 rfl zbM ?_)
      | fail)
     refine(HDe.out _ HS7.out.s.rd).mono ?_;rintro e w9 ⟨a3,c3,rfl,hc3,hr3,hfar,hb9⟩
     have hloc:∀g g' o,a3=some ⟨g,o,none⟩→(Value.slice ao k co).ownBlock=some g'→g'<g:=fun g g' o e1 e2=>by
      have h1:=HS7.out.s.el g' (.inr (.inr e2));have h2:=hfar g o e1;omega
     have S9:=HS7.out.step hb9;have B9:=zA B7 hb9;have b9:=Blk.new w9 [.int .u32 0,.int .u32 0,.slice none 0 0] 59;have hal9:=(zF w9.heap.size w9).alloc (zD _) (Obj.cells #[.int .u32 0,.int .u32 0,.slice none 0 0] 59);have HS9:=zB S9;have Hr3:=zB hr3;have Hc3:=zB (zaC hc3 hloc);have Hz:=zB (show w9.heap.size≤(w9.alloc (Obj.cells #[.int .u32 0,.int .u32 0,.slice none 0 0] 59)).heap.size by simp);clear S9 hb9 HS7 B7 kC hr3 HDe hc3 hfar hloc;go_wp2_with (first
      | (refine zT 59 (.tmp 20) (.tmp 58) (by rfl) (by rfl) w9.heap.size (by rfl) [.int .u32 (D2.width:Int),.int .u32 (D2.code:Int),.slice a3 D2.inp.length c3] (by rfl) _ 59 b9 zbM rfl (by simp[Value.oneCell']) ?_;intro w10 k10 g10 s10;have hb10:=hal9.trans (yG g10 (zD _) Hz.out);have S10:=HS9.out.step hb10;have B10:=zA B9 hb10;have kC:=S10.s.cb;have Hr10:=zB (Hr3.out.step hb10);have HS10:=zB S10;clear g10 s10 hal9 b9 S10 hb10 B9 HS9 Hr3 Hz)
      | (refine yA 59 (.tmp 20) (by rfl) (by rfl) w9.heap.size (by rfl) _ 59 k10 _ Tryz.underlying59 rfl zbM ?_)
      | (refine zT 59 (.tmp 12) (.tmp 60) (by rfl) (by rfl) CB (by rfl) [.int .u32 (D2.width:Int),.int .u32 (D2.code:Int),.slice a3 D2.inp.length c3] (by rfl) _ 59 kC zbM rfl (by simp[Value.oneCell']) ?_;intro w11 k11 g11 s11;have S11:=HS10.out.putC Hr10.out k11 g11;have B11:=B10.trans (yG g11 hwC B10.size);have kN:=S11.s.nb;have HS11:=zB S11;clear k10 k11 g11 s11 S11 B10 HS10 kC Hr10)
      | (refine yA 40 (.tmp 10) (by rfl) (by rfl) NB (by rfl) VJ 40 kN _ Tryz.underlying40 rfl (info_N.trans (yS some hlJ.symm)) ?_)
      | fail)
     refine(HLe.out _ _ HS11.out.s.net).mono ?_;rintro e w12 ⟨V12,rfl,N12,hb12⟩;have hm12:=N12.mono (E':=fun q=>q=NB∨q=CB∨(Value.slice ao k co).ownBlock=some q) (fun k _ e=>HS11.out.s.el k e);have S12:=HS11.out.step hb12;have B12:=zA B11 hb12;have hl12:=N12.len;have ho12:=N12.one;have k12:=S12.s.nb;have HS12:=zB S12;have HN12:=zB hm12;clear N12 hm12 hb12 HS11 B11 HLe S12 kN;go_wp2_with (first
      | (refine zT 40 (.tmp 10) (.tmp 69) (by rfl) (by rfl) NB (by rfl) V12 (by rfl) _ 40 k12 (info_N.trans (yS some hl12.symm)) (hlJ.trans hl12.symm) ho12 ?_;intro w13 k13 g13 s13;have S13:=HS12.out.putN HN12.out k13 g13;have B13:=B12.trans (yG g13 hwN B12.size);have HS13:=zB S13;clear k13 g13 s13 S13 k12 HS12 HN12 B12)
      | fail)
     go_roundw
     case rel=>exact⟨j+1,xn,r ++ [b],V12,a3,c3,by omega,rfl,rfl,rfl,zB ⟨by rw[yN,zcF,Hr1.out],HE.out.2.2.2,HE.out.1,by rw[show 8*k+(j+1)=8*k+j+1 from rfl,HE.out.2.1];exact Hc3.out.1,fun _=>Hc3.out.2⟩,by rw[show 8*k+(j+1)=8*k+j+1 from rfl,HE.out.2.1,HE.out.2.2.1];exact HS13,B13⟩
     case measure=>simp[intOf];omega
    ·obtain rfl:j=8:=by omega
     obtain⟨r1,r2,r3,r4,r5⟩:=hR.out;have hxl:=num_lt r 0 (fun y hy=>ziM P (8*k+8) [] D y (by rw[r3];exact List.mem_append_right _ hy));rw[r2,r1]at hxl;have hxv:xv<256:=by omega
     have hw8:IntKind.u8.wrap (xv:Int)=(xv:Int):=IntWalk.u8_in _ (by omega);have hw3:IntKind.i64.wrap ((k:Int)+1)=(k:Int)+1:=IntWalk.i64_in _ (by omega);have hby:Nbs (S15.bytes k h0) ++ [.int .u8 (xv:Int)]=Nbs (S15.bytes (k+1) (h0++r)):=by
      rw[zsR k h0 r Hh.out.2.2 r1,r2];unfold Nbs;rw[List.map_append];rfl
     have Hby:=zB (zaC hby (zaC r3 (zaC r4 (zaC (r5 (by omega)) (inR_end (cs:=cs) (N0:=N0) (h:=h0) r1)))));have hal:=(zF wr.heap.size wr).alloc (zD _) (Obj.cells #[.int .u8 (xv:Int)] 5);have Hown:=zB hS.out.own;have hCs:=hS.out.s.cb.lt;clear hby r1 r2 r3 r4 r5 hR hxl;go_wp2_with (first
      | (at_builtin
         refine zjE (.tmp 82) (.tmp 85) 24 5 1 1 _ (CB+1) zdR rfl rfl _ k (Nbs (S15.bytes k h0)) rfl (Hown.out.alloc _) (some ⟨wr.heap.size,0,none⟩) 1 1 [.int .u8 (xv:Int)] rfl rfl (Rd.new wr [.int .u8 (xv:Int)] 5) (by simp[Value.oneCell']) (by unfold maxLen;omega) (by omega) (by simp;omega) ?_;intro a3 c3 w8 hown8 hgrow8 hat8;have S8:=hS.out.app hal (by rw[←Hby.out.1];exact hown8) hgrow8 hat8 Hby.out.2.2.2.1;have HS8:=zB S8;have B8:=(zA hBl2 hal).grown hgrow8 (by have:=hBl2.size;simp;omega) (fun q e=>by have:=(zbX Hown.out e).1;omega);clear hown8 hgrow8 hat8 S8 hal Hown)
      | fail)
     go_roundw
     case rel=>
      have h8:8*(k+1)=8*k+8:=rfl;refine⟨k+1,VJ,a2,a3,c2,c3,by omega,rfl,rfl,by go_num,?_,zB Hby.out.2.2.1,B8⟩;rw[h8,Hby.out.2.1,←Hby.out.2.2.2.2];exact HS8
     case measure=>simp[intOf];omega
  ·obtain rfl:k=n:=by omega
   have HS:=zB hS.out.own;clear hS hc1;go_wp2;go_returns;exact⟨ao,co,rfl,Rd.of_owns HS.out,hBl⟩
