/- A part of the proof of L14n. No condition. -/
import Derived.Test.YtieeogndnhighaaGreatZL14nbo
import Derived.Test.YtieeogndnhighaaGreatZL14nbt
import Derived.Test.YtieeogndnhighaaGreatZL14nbz
set_option linter.all false
set_option maxRecDepth 100000
set_option maxHeartbeats 2000000
namespace Go.Proofs.YtieeogndnhighaaGreat
open Go.RowKit
theorem rnew12_new(bits least:Int)(h1:1≤bits∧bits≤16)(h2:1≤least∧least≤32)(w:World) :
 Calls Tryz.prog 70 #[.int .i64 bits,.int .i64 least] w fun e w'=>∃p,e = .returned (.tuple #[MV (S12.newM bits least) p,.int .i64 0])∧MIs (S12.newM bits least) p w'∧Far w.heap.size p∧Below w.heap.size w w':=by
 obtain⟨n,rfl⟩:∃n:Nat,bits=n:=⟨bits.toNat,by omega⟩;rw[newM_ok14 h1 h2];refine(rnew12_ok n least w (by omega) h2).mono ?_;rintro e w' ⟨g,a,c,rfl,f1,f2,hg,ha,hb⟩;have hps:2^n≤65536:=zfQ (n:=2) (by omega) (show n≤16 by omega);refine⟨⟨some ⟨g,0,none⟩,2^n,none,0,a,c⟩,?_,⟨hg,Rd.nil _ _,ha,fun _ hx=>absurd hx zaL,zE _,by simp[S12.start];omega,zeG _,by simp[S12.start]⟩,⟨fun _ _ e=>by cases e;exact f1,(fun _ _ e=>(by cases e)),f2⟩,hb⟩;simp[MV,zbQ,S12.start]
theorem zlC(n:Nat)(h1:1≤n)(h2:n≤65536)(w:World):Calls Tryz.prog 68 #[.int .i64 (n:Int)] w fun e w'=>∃a cap,e = .returned (.tuple #[.slice a n cap,.int .i64 (S08.tableErr n)])∧(∀g o,a=some ⟨g,o,none⟩→w.heap.size≤g)∧Rd w' a (Cts (List.replicate n (32768,0)))∧Below w.heap.size w w':=by
 have hl:S08.tableLen (n:Int)=n:=by unfold S08.tableLen;split<;>omega
 refine(zhF (n:Int) w (by omega) (by omega)).mono ?_;rintro e w' ⟨a,cap,rfl,ho,hb⟩;rw[hl]at ho⊢;rw[←zfR]at ho;obtain⟨hr,hf⟩:=Rd.of_owns2 ho;exact⟨a,cap,rfl,hf,hr,hb⟩
theorem MIs.kepF14{m:S12.M}{p:Pl}{w w':World}{B:Nat}(h:MIs m p w)(hf:Far B p)(hk:KepX (fun k=>k<B) w w'):MIs m p w':=
 ⟨h.rdh.kepX hk (fun g o e=>by have:=hf.1 g o e;show¬g<_;omega),h.rdb.kepX hk (fun g o e=>by have:=hf.2.1 g o e;show¬g<_;omega),h.rdc.kepX hk (fun g o e=>by have:=hf.2.2 g o e;show¬g<_;omega),h.byt,h.cb,h.lh,h.lb,h.lc⟩
theorem match_ok14{c:S14.C}{k:Int}(h:c.kind=3)(hok:S14.ok c k=true):(1≤c.bits∧c.bits≤16)∧1≤c.limit∧c.limit≤32:=by
 unfold S14.ok at hok;rw[zK (by omega),zK (by omega),zK (by omega),zU h]at hok;unfold S14.okMatch at hok;simp only[yF,S14.has_iff]at hok;exact⟨hok.1.2,hok.2⟩
theorem zcI(c:S14.C)(w:World):∃W1,((w.alloc (.cells (zT c).toArray 54)).alloc (.cells zP 83)).alloc (.cells zP 83)=W1∧
 Blk W1 w.heap.size (zT c) 54∧Blk W1 (w.heap.size+1) (yG S14.P0 zbC) 83∧Blk W1 (w.heap.size+2) (yG S14.P0 zbC) 83∧Below w.heap.size w W1∧W1.heap.size=w.heap.size+3:=by
 refine⟨_,rfl,((Blk.new w _ _).alloc _).alloc _,?_,?_,(((zG _ _).alloc (zE _) _).alloc (by simp) _).alloc (by simp;omega) _,by simp⟩
 ·have h:=(zeE (w.alloc (.cells (zT c).toArray 54))).alloc (.cells zP 83);rwa[yA]at h
 ·have h:=zeE ((w.alloc (.cells (zT c).toArray 54)).alloc (.cells zP 83));rwa[yA,yA]at h
theorem zcV{w w':World}{b B:Nat}(h:w.grownBy w' (some b))(hb:b<B):KepX (fun k=>k<B) w w':=KepX.row h (fun k e=>.inl (by show k<_;have:=zO e;omega))
theorem rmake14_0(c:S14.C)(k:Int)(hok:S14.ok c k=true)(hk16:k≤16)(hkd:c.kind=0)(w:World) :
 Calls Tryz.prog 45 #[CV c] w fun e w'=>∃y,e = .returned (PV (S14.freshA c) y)∧PRob 0 w.heap.size (S14.freshA c) y w'∧Below w.heap.size w w':=by
 have hi:=S14.ok_is hok;have hbt:=hi.bits;obtain⟨n,hn⟩:∃n:Nat,c.bits=n:=⟨c.bits.toNat,by omega⟩;obtain⟨P,hP⟩:∃P,2^n=P:=⟨_,rfl⟩;have hp:=zdP (n:=n) (by omega);rw[hP]at hp;have HSz:=zD fun W=>zaM n (by omega) W;rw[hP]at HSz;have hfr:S14.freshA c=S14.P0:=by
  unfold S14.freshA;rw[zK (by omega),zK (by omega),zK (by omega),zK (by omega),zK (by omega)]
 rw[hfr];clear hfr;obtain⟨W1,hW1,k1,kR,kP,B1,hW1s⟩:=zcI c w;have HW1s:=zD hW1s;obtain⟨kind,bits,limit,rate,first,second⟩:=c;unfold CV zT at *;simp only at *;subst hkd hn;obtain⟨x0,x1,x2,x3,x4,x5⟩:=k1.six;clear hok hbt hi hp hP hW1s;go_enter Tryz.func45,Tryz.ntmps45;go_wp2_with (first
  | (refine yU 83 zP zbS (by rfl) (by rfl) ?_;first|rw[hW1]|skip)
  | fail)
 refine(HSz.out _).mono ?_;rintro e w2 ⟨rfl,hb2⟩;have k12:=k1.step hb2;have kR2:=kR.step hb2;have kP2:=kP.step hb2;have B2:=zA B1 hb2;have hb2':w.heap.size+3≤w2.heap.size:=by have:=hb2.size;have:=HW1s.out;omega
 obtain⟨x0,x1,x2,x3,x4,x5⟩:=k12.six;clear k1 kR kP hb2 B1 hW1;go_wp2_with (first
  | fail
  | (refine yC 83 (.tmp 3) (by rfl) (by rfl) (w.heap.size+2) (by rfl) (yG S14.P0 zbC) 83 kP2 _ Tryz.underlying83 rfl (info_P.trans rfl) ?_)
  | (refine yE 83 (.tmp 2) (.tmp 66) (by rfl) (by rfl) (w.heap.size+1) (by rfl) (yG S14.P0 zbC) (by rfl) _ 83 kR2 (info_P.trans rfl) rfl (zaE _ _) ?_;intro wL EL gL sL))
 have hL:=run_loadVar_mid wL _ 0 _ _ _ EL.cells Tryz.underlying83 rfl (info_P.trans rfl);refine bodyPost_ret (v:=.agg ((yG S14.P0 zbC):List Value).toArray) ?_ rfl ?_
 ·exact zaB (show Tryz.f45.results = #[.cell 2 83]from rfl) (p:=⟨w.heap.size+1,0,none⟩) rfl hL
 ·exact⟨zbC,rfl,PRob.zero _ _ _,B2.trans (yB gL (by omega) B2.size)⟩
theorem rmake14_4(c:S14.C)(k:Int)(hok:S14.ok c k=true)(hk16:k≤16)(hkd:c.kind=4)(w:World) :
 Calls Tryz.prog 45 #[CV c] w fun e w'=>∃y,e = .returned (PV (S14.freshA c) y)∧PRob 0 w.heap.size (S14.freshA c) y w'∧Below w.heap.size w w':=by
 have hi:=S14.ok_is hok;have hbt:=hi.bits;obtain⟨n,hn⟩:∃n:Nat,c.bits=n:=⟨c.bits.toNat,by omega⟩;obtain⟨P,hP⟩:∃P,2^n=P:=⟨_,rfl⟩;have hp:=zdP (n:=n) (by omega);rw[hP]at hp;have HSz:=zD fun W=>zaM n (by omega) W;rw[hP]at HSz;have hfr:S14.freshA c=S14.P0:=by
  unfold S14.freshA;rw[zK (by omega),zK (by omega),zK (by omega),zK (by omega),zK (by omega)]
 rw[hfr];clear hfr;obtain⟨W1,hW1,k1,kR,kP,B1,hW1s⟩:=zcI c w;have HW1s:=zD hW1s;obtain⟨kind,bits,limit,rate,first,second⟩:=c;unfold CV zT at *;simp only at *;subst hkd hn;obtain⟨x0,x1,x2,x3,x4,x5⟩:=k1.six;clear hok hbt hi hp hP hW1s;go_enter Tryz.func45,Tryz.ntmps45;go_wp2_with (first
  | (refine yU 83 zP zbS (by rfl) (by rfl) ?_;first|rw[hW1]|skip)
  | fail)
 refine(HSz.out _).mono ?_;rintro e w2 ⟨rfl,hb2⟩;have k12:=k1.step hb2;have kR2:=kR.step hb2;have kP2:=kP.step hb2;have B2:=zA B1 hb2;have hb2':w.heap.size+3≤w2.heap.size:=by have:=hb2.size;have:=HW1s.out;omega
 obtain⟨x0,x1,x2,x3,x4,x5⟩:=k12.six;clear k1 kR kP hb2 B1 hW1;go_wp2_with (first
  | fail
  | (refine yC 83 (.tmp 3) (by rfl) (by rfl) (w.heap.size+2) (by rfl) (yG S14.P0 zbC) 83 kP2 _ Tryz.underlying83 rfl (info_P.trans rfl) ?_)
  | (refine yE 83 (.tmp 2) (.tmp 66) (by rfl) (by rfl) (w.heap.size+1) (by rfl) (yG S14.P0 zbC) (by rfl) _ 83 kR2 (info_P.trans rfl) rfl (zaE _ _) ?_;intro wL EL gL sL))
 have hL:=run_loadVar_mid wL _ 0 _ _ _ EL.cells Tryz.underlying83 rfl (info_P.trans rfl);refine bodyPost_ret (v:=.agg ((yG S14.P0 zbC):List Value).toArray) ?_ rfl ?_
 ·exact zaB (show Tryz.f45.results = #[.cell 2 83]from rfl) (p:=⟨w.heap.size+1,0,none⟩) rfl hL
 ·exact⟨zbC,rfl,PRob.zero _ _ _,B2.trans (yB gL (by omega) B2.size)⟩
theorem rmake14_1(c:S14.C)(k:Int)(hok:S14.ok c k=true)(hk16:k≤16)(hkd:c.kind=1)(w:World) :
 Calls Tryz.prog 45 #[CV c] w fun e w'=>∃y,e = .returned (PV (S14.freshA c) y)∧PRob 0 w.heap.size (S14.freshA c) y w'∧Below w.heap.size w w':=by
 have hi:=S14.ok_is hok;have hbt:=hi.bits;obtain⟨n,hn⟩:∃n:Nat,c.bits=n:=⟨c.bits.toNat,by omega⟩;obtain⟨P,hP⟩:∃P,2^n=P:=⟨_,rfl⟩;have hp:=zdP (n:=n) (by omega);rw[hP]at hp;have HSz:=zD fun W=>zaM n (by omega) W;rw[hP]at HSz;have hfr:S14.freshA c=S14.fresh1 P:=by
  unfold S14.freshA;rw[zU hkd,hn,Int.toNat_natCast,hP]
 rw[hfr];have HT:=zD fun W=>zlC P hp.1 hp.2 W
 have HPV:=zD fun(a:Option Addr) (cap:Nat)=>(show(yG S14.P0 zbC).set 0 (.slice a P cap)=yG (S14.fresh1 P) {zbC with a1:=a,c1:=cap} by
  unfold yG S14.fresh1;simp only[yR];rfl)
 have HPI:=zD fun(a:Option Addr) (cap:Nat) (w':World)=>PIs.fresh1 (n:=P) (w:=w') (a:=a) (cap:=cap);clear hfr;obtain⟨W1,hW1,k1,kR,kP,B1,hW1s⟩:=zcI c w;have HW1s:=zD hW1s;obtain⟨kind,bits,limit,rate,first,second⟩:=c;unfold CV zT at *;simp only at *;subst hkd hn;obtain⟨x0,x1,x2,x3,x4,x5⟩:=k1.six;clear hok hbt hi hp hP hW1s;go_enter Tryz.func45,Tryz.ntmps45;go_wp2_with (first
  | (refine yU 83 zP zbS (by rfl) (by rfl) ?_;first|rw[hW1]|skip)
  | fail)
 refine(HSz.out _).mono ?_;rintro e w2 ⟨rfl,hb2⟩;have k12:=k1.step hb2;have kR2:=kR.step hb2;have kP2:=kP.step hb2;have B2:=zA B1 hb2;have hb2':w.heap.size+3≤w2.heap.size:=by have:=hb2.size;have:=HW1s.out;omega
 obtain⟨x0,x1,x2,x3,x4,x5⟩:=k12.six;clear k1 kR kP hb2 B1 hW1;clear x1 x2 x3 x4 x5 k12;go_wp2_with fail;refine(HT.out _).mono ?_;rintro e w4 ⟨a,cap,rfl,hfar,hrd,hb4⟩;have kR4:=kR2.step hb4;have kP4:=kP2.step hb4;have B4:=zA B2 hb4;have f0:w4.cell? ⟨w.heap.size+1+1,0,none⟩=some (.slice none 0 0):=kP4.cell 0;have f0f:w4.frozen? ⟨w.heap.size+1+1,0,none⟩=false:=kP4.free 0;obtain⟨W5,hW5⟩:∃W,w4.setCell ⟨w.heap.size+1+1,0,none⟩ (.slice a P cap)=W:=⟨_,rfl⟩;have kP5:Blk W5 (w.heap.size+2) ((yG S14.P0 zbC).set 0 (.slice a P cap)) 83:=by rw[←hW5];exact kP4.set 0 _
 have g5:w4.grownBy W5 (some (w.heap.size+2)):=by rw[←hW5];exact zaK _ _ _ _
 have kR5:=kR4.keptRow g5 (by intro e;have:=zO e;omega);have B5:=B4.trans (yB g5 (by omega) B4.size);rw[HPV.out]at kP5;have HX:=zD fun(w':World) (hk:KepX (fun k=>k<w.heap.size+3) W5 w')=>HPI.out a cap w' (hrd.kepX ((zcV g5 (by omega)).trans hk) (fun g o e=>by have h1:=hfar g o e;have h2:=hb2';show¬g<_;omega));clear hrd hfar g5 kR4 kP4 B4 kR2 kP2;go_wp2_with (first
  | (rw[hW5])
  | (refine yC 83 (.tmp 3) (by rfl) (by rfl) (w.heap.size+2) (by rfl) (yG (S14.fresh1 P) {zbC with a1:=a,c1:=cap}) 83 kP5 _ Tryz.underlying83 rfl (info_P.trans rfl) ?_)
  | (refine yE 83 (.tmp 2) (.tmp 66) (by rfl) (by rfl) (w.heap.size+1) (by rfl) (yG (S14.fresh1 P) {zbC with a1:=a,c1:=cap}) (by rfl) _ 83 kR5 (info_P.trans rfl) rfl (zaE _ _) ?_;intro wL EL gL sL))
 have hL:=run_loadVar_mid wL _ 0 _ _ _ EL.cells Tryz.underlying83 rfl (info_P.trans rfl);refine bodyPost_ret (v:=.agg ((yG (S14.fresh1 P) {zbC with a1:=a,c1:=cap}):List Value).toArray) ?_ rfl ?_
 ·exact zaB (show Tryz.f45.results = #[.cell 2 83]from rfl) (p:=⟨w.heap.size+1,0,none⟩) rfl hL
 ·exact⟨{zbC with a1:=a,c1:=cap},rfl,fun w' hk=>HX.out w' ((zcV gL (by omega)).trans (hk.toX14.mono0 (by omega))),B5.trans (yB gL (by omega) B5.size)⟩
theorem rmake14_5(c:S14.C)(k:Int)(hok:S14.ok c k=true)(hk16:k≤16)(hkd:c.kind=5)(w:World) :
 Calls Tryz.prog 45 #[CV c] w fun e w'=>∃y,e = .returned (PV (S14.freshA c) y)∧PRob 0 w.heap.size (S14.freshA c) y w'∧Below w.heap.size w w':=by
 have hi:=S14.ok_is hok;have hbt:=hi.bits;obtain⟨n,hn⟩:∃n:Nat,c.bits=n:=⟨c.bits.toNat,by omega⟩;obtain⟨P,hP⟩:∃P,2^n=P:=⟨_,rfl⟩;have hp:=zdP (n:=n) (by omega);rw[hP]at hp;have HSz:=zD fun W=>zaM n (by omega) W;rw[hP]at HSz;have hm:=hi.mix hkd;obtain⟨q,hq⟩:∃q:Nat,c.second-c.first+1=(q:Int):=⟨(c.second-c.first+1).toNat,by omega⟩;have hq1:1≤q∧q≤16:=by omega
 obtain⟨ws,hws⟩:∃l,List.replicate P (List.replicate q (65536/(q:Int)))=l:=⟨_,rfl⟩;have hfr:S14.freshA c = {S14.P0 with mi:=(q:Int),mw:=ws}:=by
  unfold S14.freshA;rw[zK (by omega),zK (by omega),zK (by omega),zU hkd,hn,hq,Int.toNat_natCast,Int.toNat_natCast,hP,hws]
 rw[hfr];have HN:=zD fun W=>refNew13_new q P W hq1.1 hq1.2 hp.1 hp.2;rw[hws]at HN;have hws3:wrap64 (q:Int)=q:=IntWalk.wrap64_in _ ⟨by omega,by omega⟩;have hws1:IntKind.i64.wrap (c.second-c.first)=c.second-c.first:=IntWalk.i64_in _ (by omega);have hws2:IntKind.i64.wrap (c.second-c.first+1)=(q:Int):=by rw[hq];exact IntWalk.i64_in _ (by omega)
 clear hfr hws hm hq1;obtain⟨W1,hW1,k1,kR,kP,B1,hW1s⟩:=zcI c w;have HW1s:=zD hW1s;obtain⟨kind,bits,limit,rate,first,second⟩:=c;unfold CV zT at *;simp only at *;subst hkd hn;obtain⟨x0,x1,x2,x3,x4,x5⟩:=k1.six;clear hok hbt hi hp hP hW1s;go_enter Tryz.func45,Tryz.ntmps45;go_wp2_with (first
  | (refine yU 83 zP zbS (by rfl) (by rfl) ?_;first|rw[hW1]|skip)
  | fail)
 refine(HSz.out _).mono ?_;rintro e w2 ⟨rfl,hb2⟩;have k12:=k1.step hb2;have kR2:=kR.step hb2;have kP2:=kP.step hb2;have B2:=zA B1 hb2;have hb2':w.heap.size+3≤w2.heap.size:=by have:=hb2.size;have:=HW1s.out;omega
 obtain⟨x0,x1,x2,x3,x4,x5⟩:=k12.six;clear k1 kR kP hb2 B1 hW1;clear x1 x2 x3 k12;go_wp2_with fail;refine(HN.out _).mono ?_;rintro e w4 ⟨V,rfl,hV,hb4⟩;obtain⟨a,cap,hVe⟩:=hV.shape;have kR4:=kR2.step hb4;have kP4:=kP2.step hb4;have B4:=zA B2 hb4;have HX:=zD fun(w':World) (hk:KepX (fun k=>k<w.heap.size+3) w4 w')=>PIs.ofX (hVe▸((hV.low hb2').kepX hk).own.mix);obtain⟨VN,hVN⟩:∃VN:List Value,[.int .i64 (q:Int),.slice a ws.length cap]=VN:=⟨_,rfl⟩;have hV2:V = .agg VN.toArray:=by rw[←hVN];exact hVe
 have hmo:∀v∈VN,v.oneCell'=true:=by rw[←hVN];simp[Value.oneCell']
 have hml:VN.length=2:=by rw[←hVN];rfl
 have Hmo:=zD hmo;have Hml:=zD hml;have hth:w4.there (w.heap.size+2) 13 VN.toArray.size:=by
  have hvs:VN.toArray.size=2:=by simp[hml]
  rw[hvs];exact kP4.there14 (by rw[yW];exact(by decide:15≤16))
 have HPV:=zD (show splice (yG S14.P0 zbC) 13 VN=yG {S14.P0 with mi:=(q:Int),mw:=ws} {zbC with a3:=a,c3:=cap} by rw[←hVN];rfl);subst hV2;clear hVe;clear hV kR2 kP2 hVN hmo hml;go_wp2_with (first
  | (refine wpList_store_mid (by rfl) 79 (.tmp 57) (.tmp 55) (by rfl) (w.heap.size+2) 13 (VN).toArray (by rfl) (by rfl) hth (info_X14.trans (yQ some (Hml.out.symm.trans List.size_toArray.symm))) (all_oneCell_toArray Hmo.out) ?_;have kP7:=kP4.setCells (VN) 13 (by rw[yW,Hml.out];decide);rw[HPV.out]at kP7;have g7:=zaD (w.heap.size+2) (VN) 13 w4;obtain⟨W7,hW7⟩:∃W,w4.setCells (w.heap.size+2) 13 (VN)=W:=⟨_,rfl⟩;rw[hW7]at kP7 g7;have hW7':w4.setCells (w.heap.size+2) 13 ((VN).toArray).toList=W7:=hW7;rw[hW7'];have kR7:=kR4.keptRow g7 (by intro e;have:=zO e;omega);have B7:=B4.trans (yB g7 (by omega) B4.size))
  | (refine yC 83 (.tmp 3) (by rfl) (by rfl) (w.heap.size+2) (by rfl) (yG {S14.P0 with mi:=(q:Int),mw:=ws} {zbC with a3:=a,c3:=cap}) 83 kP7 _ Tryz.underlying83 rfl (info_P.trans rfl) ?_)
  | (refine yE 83 (.tmp 2) (.tmp 66) (by rfl) (by rfl) (w.heap.size+1) (by rfl) (yG {S14.P0 with mi:=(q:Int),mw:=ws} {zbC with a3:=a,c3:=cap}) (by rfl) _ 83 kR7 (info_P.trans rfl) rfl (zaE _ _) ?_;intro wL EL gL sL))
 have hL:=run_loadVar_mid wL _ 0 _ _ _ EL.cells Tryz.underlying83 rfl (info_P.trans rfl);refine bodyPost_ret (v:=.agg ((yG {S14.P0 with mi:=(q:Int),mw:=ws} {zbC with a3:=a,c3:=cap})).toArray) ?_ rfl ?_
 ·exact zaB (show Tryz.f45.results = #[.cell 2 83]from rfl) (p:=⟨w.heap.size+1,0,none⟩) rfl hL
 ·exact⟨{zbC with a3:=a,c3:=cap},rfl,fun w' hk=>HX.out w' (((zcV g7 (by omega)).trans (zcV gL (by omega))).trans (hk.toX14.mono0 (by omega))),B7.trans (yB gL (by omega) B7.size)⟩
theorem rmake14_6(c:S14.C)(k:Int)(hok:S14.ok c k=true)(hk16:k≤16)(hkd:c.kind=6)(w:World) :
 Calls Tryz.prog 45 #[CV c] w fun e w'=>∃y,e = .returned (PV (S14.freshA c) y)∧PRob 0 w.heap.size (S14.freshA c) y w'∧Below w.heap.size w w':=by
 have hi:=S14.ok_is hok;have hbt:=hi.bits;obtain⟨n,hn⟩:∃n:Nat,c.bits=n:=⟨c.bits.toNat,by omega⟩;obtain⟨P,hP⟩:∃P,2^n=P:=⟨_,rfl⟩;have hp:=zdP (n:=n) (by omega);rw[hP]at hp;have HSz:=zD fun W=>zaM n (by omega) W;rw[hP]at HSz;have hf:=refine_ok14 hkd hok;obtain⟨ws,hws⟩:∃l,zcT S11.first P=l:=⟨_,rfl⟩;have hfr:S14.freshA c = {S14.P0 with ac:=ws}:=by
  unfold S14.freshA;rw[zK (by omega),zK (by omega),zK (by omega),zK (by omega),zU hkd,hn,Int.toNat_natCast,hP,hws]
 rw[hfr];have HN:=zD fun W=>refNew11_new P W hp.1 hp.2;rw[hws]at HN;clear hfr hws hf;obtain⟨W1,hW1,k1,kR,kP,B1,hW1s⟩:=zcI c w;have HW1s:=zD hW1s;obtain⟨kind,bits,limit,rate,first,second⟩:=c;unfold CV zT at *;simp only at *;subst hkd hn;obtain⟨x0,x1,x2,x3,x4,x5⟩:=k1.six;clear hok hbt hi hp hP hW1s;go_enter Tryz.func45,Tryz.ntmps45;go_wp2_with (first
  | (refine yU 83 zP zbS (by rfl) (by rfl) ?_;first|rw[hW1]|skip)
  | fail)
 refine(HSz.out _).mono ?_;rintro e w2 ⟨rfl,hb2⟩;have k12:=k1.step hb2;have kR2:=kR.step hb2;have kP2:=kP.step hb2;have B2:=zA B1 hb2;have hb2':w.heap.size+3≤w2.heap.size:=by have:=hb2.size;have:=HW1s.out;omega
 obtain⟨x0,x1,x2,x3,x4,x5⟩:=k12.six;clear k1 kR kP hb2 B1 hW1;clear x1 x2 x3 x4 x5 k12;go_wp2_with fail;refine(HN.out _).mono ?_;rintro e w4 ⟨V,rfl,hV,hb4⟩;obtain⟨a,cap,rfl⟩:=hV.shape;have kR4:=kR2.step hb4;have kP4:=kP2.step hb4;have B4:=zA B2 hb4;have f0:w4.cell? ⟨w.heap.size+1+1,15,none⟩=some (.slice none 0 0):=kP4.cell 15;have f0f:w4.frozen? ⟨w.heap.size+1+1,15,none⟩=false:=kP4.free 15;obtain⟨W5,hW5⟩:∃W,w4.setCell ⟨w.heap.size+1+1,15,none⟩ (.slice a ws.length cap)=W:=⟨_,rfl⟩;have kP5:Blk W5 (w.heap.size+2) ((yG S14.P0 zbC).set 15 (.slice a ws.length cap)) 83:=by rw[←hW5];exact kP4.set 15 _
 have g5:w4.grownBy W5 (some (w.heap.size+2)):=by rw[←hW5];exact zaK _ _ _ _
 have kR5:=kR4.keptRow g5 (by intro e;have:=zO e;omega);have B5:=B4.trans (yB g5 (by omega) B4.size);have HX:=zD fun(w':World) (hk:KepX (fun k=>k<w.heap.size+3) W5 w')=>PIs.ofA (((hV.low hb2').kepX ((zcV g5 (by omega)).trans hk)).is);have HPV:=zD (show(yG S14.P0 zbC).set 15 (.slice a ws.length cap)=yG {S14.P0 with ac:=ws} {zbC with a4:=a,c4:=cap}from rfl);rw[HPV.out]at kP5;clear hV kR2 kP2 g5 kR4 kP4 B4;go_wp2_with (first
  | (rw[hW5])
  | (refine yC 83 (.tmp 3) (by rfl) (by rfl) (w.heap.size+2) (by rfl) (yG {S14.P0 with ac:=ws} {zbC with a4:=a,c4:=cap}) 83 kP5 _ Tryz.underlying83 rfl (info_P.trans rfl) ?_)
  | (refine yE 83 (.tmp 2) (.tmp 66) (by rfl) (by rfl) (w.heap.size+1) (by rfl) (yG {S14.P0 with ac:=ws} {zbC with a4:=a,c4:=cap}) (by rfl) _ 83 kR5 (info_P.trans rfl) rfl (zaE _ _) ?_;intro wL EL gL sL))
 have hL:=run_loadVar_mid wL _ 0 _ _ _ EL.cells Tryz.underlying83 rfl (info_P.trans rfl);refine bodyPost_ret (v:=.agg ((yG {S14.P0 with ac:=ws} {zbC with a4:=a,c4:=cap}):List Value).toArray) ?_ rfl ?_
 ·exact zaB (show Tryz.f45.results = #[.cell 2 83]from rfl) (p:=⟨w.heap.size+1,0,none⟩) rfl hL
 ·exact⟨{zbC with a4:=a,c4:=cap},rfl,fun w' hk=>HX.out w' ((zcV gL (by omega)).trans (hk.toX14.mono0 (by omega))),B5.trans (yB gL (by omega) B5.size)⟩
theorem rmake14_3(c:S14.C)(k:Int)(hok:S14.ok c k=true)(hk16:k≤16)(hkd:c.kind=3)(w:World) :
 Calls Tryz.prog 45 #[CV c] w fun e w'=>∃y,e = .returned (PV (S14.freshA c) y)∧PRob 0 w.heap.size (S14.freshA c) y w'∧Below w.heap.size w w':=by
 have hi:=S14.ok_is hok;have hbt:=hi.bits;obtain⟨n,hn⟩:∃n:Nat,c.bits=n:=⟨c.bits.toNat,by omega⟩;obtain⟨P,hP⟩:∃P,2^n=P:=⟨_,rfl⟩;have hp:=zdP (n:=n) (by omega);rw[hP]at hp;have HSz:=zD fun W=>zaM n (by omega) W;rw[hP]at HSz;have hm:=match_ok14 hkd hok;obtain⟨M,hM⟩:∃m,S12.newM c.bits c.limit=m:=⟨_,rfl⟩;have hfr:S14.freshA c = {S14.P0 with m:=M}:=by
  unfold S14.freshA;rw[zK (by omega),zK (by omega),zU hkd,hM]
 rw[hfr];have HN:=zD fun W=>rnew12_new c.bits c.limit hm.1 hm.2 W;rw[hM]at HN;clear hfr hM hm;obtain⟨W1,hW1,k1,kR,kP,B1,hW1s⟩:=zcI c w;have HW1s:=zD hW1s;obtain⟨kind,bits,limit,rate,first,second⟩:=c;unfold CV zT at *;simp only at *;subst hkd hn;obtain⟨x0,x1,x2,x3,x4,x5⟩:=k1.six;clear hok hbt hi hp hP hW1s;go_enter Tryz.func45,Tryz.ntmps45;go_wp2_with (first
  | (refine yU 83 zP zbS (by rfl) (by rfl) ?_;first|rw[hW1]|skip)
  | fail)
 refine(HSz.out _).mono ?_;rintro e w2 ⟨rfl,hb2⟩;have k12:=k1.step hb2;have kR2:=kR.step hb2;have kP2:=kP.step hb2;have B2:=zA B1 hb2;have hb2':w.heap.size+3≤w2.heap.size:=by have:=hb2.size;have:=HW1s.out;omega
 obtain⟨x0,x1,x2,x3,x4,x5⟩:=k12.six;clear k1 kR kP hb2 B1 hW1;clear x3 x4 x5 k12;go_wp2_with fail;refine(HN.out _).mono ?_;rintro e w4 ⟨p,rfl,hI,hfar,hb4⟩;have kR4:=kR2.step hb4;have kP4:=kP2.step hb4;have B4:=zA B2 hb4;have hth:w4.there (w.heap.size+2) 4 9:=kP4.there14 (by rw[yW];decide);have HX:=zD fun(w':World) (hk:KepX (fun k=>k<w.heap.size+3) w4 w')=>PIs.ofM (hI.kepF14 (hfar.mono hb2') hk);have HPV:=zD (show splice (yG S14.P0 zbC) 4 (zbQ M p)=yG {S14.P0 with m:=M} {zbC with pl:=p}from rfl);have hmo:=MVals_one M p;have hml:(zbQ M p).length=9:=rfl;unfold MV;obtain⟨VN,hVN⟩:∃v,zbQ M p=v:=⟨_,rfl⟩;rw[hVN]at HPV hmo hml⊢;have Hmo:=zD hmo;have Hml:=zD hml;have hvs:VN.toArray.size=9:=by simp[hml]
 have hth:w4.there (w.heap.size+2) 4 VN.toArray.size:=by rw[hvs];exact hth
 clear hI hfar kR2 kP2 hVN hmo hml x1 x2;go_wp2_with (first
  | (refine wpList_store_mid (by rfl) 77 (.tmp 43) (.tmp 41) (by rfl) (w.heap.size+2) 4 (VN).toArray (by rfl) (by rfl) hth (info_M14.trans (yQ some (Hml.out.symm.trans List.size_toArray.symm))) (all_oneCell_toArray Hmo.out) ?_;have kP7:=kP4.setCells (VN) 4 (by rw[yW,Hml.out];decide);rw[HPV.out]at kP7;have g7:=zaD (w.heap.size+2) (VN) 4 w4;obtain⟨W7,hW7⟩:∃W,w4.setCells (w.heap.size+2) 4 (VN)=W:=⟨_,rfl⟩;rw[hW7]at kP7 g7;have hW7':w4.setCells (w.heap.size+2) 4 ((VN).toArray).toList=W7:=hW7;rw[hW7'];have kR7:=kR4.keptRow g7 (by intro e;have:=zO e;omega);have B7:=B4.trans (yB g7 (by omega) B4.size))
  | (refine yC 83 (.tmp 3) (by rfl) (by rfl) (w.heap.size+2) (by rfl) (yG {S14.P0 with m:=M} {zbC with pl:=p}) 83 kP7 _ Tryz.underlying83 rfl (info_P.trans rfl) ?_)
  | (refine yE 83 (.tmp 2) (.tmp 66) (by rfl) (by rfl) (w.heap.size+1) (by rfl) (yG {S14.P0 with m:=M} {zbC with pl:=p}) (by rfl) _ 83 kR7 (info_P.trans rfl) rfl (zaE _ _) ?_;intro wL EL gL sL))
 have hL:=run_loadVar_mid wL _ 0 _ _ _ EL.cells Tryz.underlying83 rfl (info_P.trans rfl);refine bodyPost_ret (v:=.agg ((yG {S14.P0 with m:=M} {zbC with pl:=p})).toArray) ?_ rfl ?_
 ·exact zaB (show Tryz.f45.results = #[.cell 2 83]from rfl) (p:=⟨w.heap.size+1,0,none⟩) rfl hL
 ·exact⟨{zbC with pl:=p},rfl,fun w' hk=>HX.out w' (((zcV g7 (by omega)).trans (zcV gL (by omega))).trans (hk.toX14.mono0 (by omega))),B7.trans (yB gL (by omega) B7.size)⟩
theorem rmake14_2(c:S14.C)(k:Int)(hok:S14.ok c k=true)(hk16:k≤16)(hkd:c.kind=2)(w:World) :
 Calls Tryz.prog 45 #[CV c] w fun e w'=>∃y,e = .returned (PV (S14.freshA c) y)∧PRob 0 w.heap.size (S14.freshA c) y w'∧Below w.heap.size w w':=by
 have hi:=S14.ok_is hok;have hbt:=hi.bits;obtain⟨n,hn⟩:∃n:Nat,c.bits=n:=⟨c.bits.toNat,by omega⟩;obtain⟨P,hP⟩:∃P,2^n=P:=⟨_,rfl⟩;have hp:=zdP (n:=n) (by omega);rw[hP]at hp;have HSz:=zD fun W=>zaM n (by omega) W;rw[hP]at HSz;obtain⟨ws,hws⟩:∃l,List.replicate 215 ((32768:Int),(0:Int))=l:=⟨_,rfl⟩;have hwl:ws.length=215:=by rw[←hws,yR]
 have Hok:=zD (OK8.newX c.bits);obtain⟨XX,hXX⟩:∃x,S10.newX c.bits=x:=⟨_,rfl⟩;obtain⟨B,hB⟩:∃x,S10.newB c.bits=x:=⟨_,rfl⟩;have hfr:S14.freshA c = {S14.P0 with ctrs:=ws,sb:=B,sd:=XX}:=by
  unfold S14.freshA;rw[zK (by omega),zU hkd];unfold S14.freshH;rw[hws,hXX,hB]
 rw[hfr];have HC:=zD fun W=>zlF W;have HT:=zD fun W=>zlC 215 (by omega) (by omega) W;have HN:=zD fun W=>rnew10_any c.bits W;obtain⟨E,hE⟩:∃x,S10.newE c.bits=x:=⟨_,rfl⟩;rw[hws]at HT;rw[hXX,hB,hE]at HN;rw[hXX]at Hok;have Hwl:=zD hwl;clear hfr hws hXX hB hE hwl;obtain⟨W1,hW1,k1,kR,kP,B1,hW1s⟩:=zcI c w;have HW1s:=zD hW1s;obtain⟨kind,bits,limit,rate,first,second⟩:=c;unfold CV zT at *;simp only at *;subst hkd hn;obtain⟨x0,x1,x2,x3,x4,x5⟩:=k1.six;clear hok hbt hi hp hP hW1s;go_enter Tryz.func45,Tryz.ntmps45;go_wp2_with (first
  | (refine yU 83 zP zbS (by rfl) (by rfl) ?_;first|rw[hW1]|skip)
  | fail)
 refine(HSz.out _).mono ?_;rintro e w2 ⟨rfl,hb2⟩;have k12:=k1.step hb2;have kR2:=kR.step hb2;have kP2:=kP.step hb2;have B2:=zA B1 hb2;have hb2':w.heap.size+3≤w2.heap.size:=by have:=hb2.size;have:=HW1s.out;omega
 obtain⟨x0,x1,x2,x3,x4,x5⟩:=k12.six;clear k1 kR kP hb2 B1 hW1;clear x2 x3 x4 x5;go_wp2_with fail;refine(HC.out _).mono ?_;rintro e w3 ⟨rfl,hb3⟩;have k13:=k12.step hb3;have kR3:=kR2.step hb3;have kP3:=kP2.step hb3;have B3:=zA B2 hb3;clear k12 kR2 kP2 x1;go_wp2_with fail;refine(HT.out _).mono ?_;rintro e w4 ⟨a,cap,rfl,hfar,hrd,hb4⟩;have k14:=k13.step hb4;have kR4:=kR3.step hb4;have kP4:=kP3.step hb4;have B4:=zA B3 hb4;have hb3':=hb3.size;have hb4':=hb4.size;have f0:w4.cell? ⟨w.heap.size+1+1,0,none⟩=some (.slice none 0 0):=kP4.cell 0;have f0f:w4.frozen? ⟨w.heap.size+1+1,0,none⟩=false:=kP4.free 0;obtain⟨W5,hW5⟩:∃W,w4.setCell ⟨w.heap.size+1+1,0,none⟩ (.slice a 215 cap)=W:=⟨_,rfl⟩;have kP5:Blk W5 (w.heap.size+2) ((yG S14.P0 zbC).set 0 (.slice a 215 cap)) 83:=by rw[←hW5];exact kP4.set 0 _
 have g5:w4.grownBy W5 (some (w.heap.size+2)):=by rw[←hW5];exact zaK _ _ _ _
 have kR5:=kR4.keptRow g5 (by intro e;have:=zO e;omega);have B5:=B4.trans (yB g5 (by omega) B4.size);have k15:=k14.keptRow g5 (by intro e;have:=zO e;omega);have x1:=k15.cell 1;simp only[zrD]at x1;have Hrd:=zD (hrd.kepX (zcV (B:=w.heap.size+3) g5 (by omega)) (fun g o e=>by have h1:=hfar g o e;show¬g<_;omega));have Hfar:=zD (fun g o (e:a=some ⟨g,o,none⟩)=>(by have h1:=hfar g o e;omega:w.heap.size+3≤g));have hsz5:w.heap.size+3≤W5.heap.size:=by have:=g5.size;omega
 clear kR4 kP4 hrd hfar k13 k14 kR3 kP3 B4 B3 g5;go_wp2_with (first|(rw[hW5])|fail);refine(HN.out _).mono ?_;rintro e w6 ⟨V,rfl,TOv,hb6⟩;obtain⟨aT,cT,hVe,hT,hF8⟩:=TOv.open Hok.out;unfold zdY at hVe;have kR6:=kR5.step hb6;have kP6:=kP5.step hb6;have B6:=zA B5 hb6;have HX:=zD fun(w':World) (hk:KepX (fun k=>k<w.heap.size+3) w6 w')=>PIs.ofH (l:=ws) (B:=B) (c:=cap) (cT:=cT) ((Hrd.out.step hb6).kepX hk (fun g o e=>by have:=Hfar.out g o e;show¬g<_;omega)) (hT.kepX hk (fun g o e=>by have:=hF8 g o e;show¬g<_;omega));obtain⟨VN,hVN⟩:∃VN:List Value,[.int .i64 B,.slice aT XX.length cT]=VN:=⟨_,rfl⟩;have hV2:V = .agg VN.toArray:=by rw[←hVN];exact hVe
 have hmo:∀v∈VN,v.oneCell'=true:=by rw[←hVN];simp[Value.oneCell']
 have hml:VN.length=2:=by rw[←hVN];rfl
 have Hmo:=zD hmo;have Hml:=zD hml;have hth:w6.there (w.heap.size+2) 1 VN.toArray.size:=by
  have hvs:VN.toArray.size=2:=by simp[hml]
  rw[hvs];exact kP6.there14 (by rw[zdT,yW];exact(by decide:3≤16))
 have HPV:=zD (show splice ((yG S14.P0 zbC).set 0 (.slice a 215 cap)) 1 VN=yG {S14.P0 with ctrs:=ws,sb:=B,sd:=XX} {zbC with a1:=a,c1:=cap,a2:=aT,c2:=cT} by rw[←hVN];unfold yG;simp only[Hwl.out];rfl);subst hV2;clear hVe;clear hVN hmo hml hT hF8 TOv kR5 kP5 k15 x1;go_wp2_with (first
  | (refine wpList_store_mid (by rfl) 75 (.tmp 32) (.tmp 30) (by rfl) (w.heap.size+2) 1 (VN).toArray (by rfl) (by rfl) hth (info_Sl14.trans (yQ some (Hml.out.symm.trans List.size_toArray.symm))) (all_oneCell_toArray Hmo.out) ?_;have kP7:=kP6.setCells (VN) 1 (by rw[zdT,yW,Hml.out];decide);rw[HPV.out]at kP7;have g7:=zaD (w.heap.size+2) (VN) 1 w6;obtain⟨W7,hW7⟩:∃W,w6.setCells (w.heap.size+2) 1 (VN)=W:=⟨_,rfl⟩;rw[hW7]at kP7 g7;have hW7':w6.setCells (w.heap.size+2) 1 ((VN).toArray).toList=W7:=hW7;rw[hW7'];have kR7:=kR6.keptRow g7 (by intro e;have:=zO e;omega);have B7:=B6.trans (yB g7 (by omega) B6.size))
  | (refine yC 83 (.tmp 3) (by rfl) (by rfl) (w.heap.size+2) (by rfl) (yG {S14.P0 with ctrs:=ws,sb:=B,sd:=XX} {zbC with a1:=a,c1:=cap,a2:=aT,c2:=cT}) 83 kP7 _ Tryz.underlying83 rfl (info_P.trans rfl) ?_)
  | (refine yE 83 (.tmp 2) (.tmp 66) (by rfl) (by rfl) (w.heap.size+1) (by rfl) (yG {S14.P0 with ctrs:=ws,sb:=B,sd:=XX} {zbC with a1:=a,c1:=cap,a2:=aT,c2:=cT}) (by rfl) _ 83 kR7 (info_P.trans rfl) rfl (zaE _ _) ?_;intro wL EL gL sL))
 have hL:=run_loadVar_mid wL _ 0 _ _ _ EL.cells Tryz.underlying83 rfl (info_P.trans rfl);refine bodyPost_ret (v:=.agg ((yG {S14.P0 with ctrs:=ws,sb:=B,sd:=XX} {zbC with a1:=a,c1:=cap,a2:=aT,c2:=cT})).toArray) ?_ rfl ?_
 ·exact zaB (show Tryz.f45.results = #[.cell 2 83]from rfl) (p:=⟨w.heap.size+1,0,none⟩) rfl hL
 ·exact⟨{zbC with a1:=a,c1:=cap,a2:=aT,c2:=cT},rfl,fun w' hk=>HX.out w' (((zcV g7 (by omega)).trans (zcV gL (by omega))).trans (hk.toX14.mono0 (by omega))),B7.trans (yB gL (by omega) B7.size)⟩
theorem rmake14_any(c:S14.C)(k:Int)(hok:S14.ok c k=true)(hk16:k≤16)(w:World) :
 Calls Tryz.prog 45 #[CV c] w fun e w'=>∃y,e = .returned (PV (S14.freshA c) y)∧PRob 0 w.heap.size (S14.freshA c) y w'∧Below w.heap.size w w':=by
 rcases(S14.ok_is hok).kind with h|h|h|h|h|h|h
 ·exact rmake14_0 c k hok hk16 h w
 ·exact rmake14_1 c k hok hk16 h w
 ·exact rmake14_2 c k hok hk16 h w
 ·exact rmake14_3 c k hok hk16 h w
 ·exact rmake14_4 c k hok hk16 h w
 ·exact rmake14_5 c k hok hk16 h w
 ·exact rmake14_6 c k hok hk16 h w
def XNw(R NB:Nat)(u v:Value)(k:Nat):Prop:=k≤R∨k=NB∨u.ownBlock=some k∨v.ownBlock=some k
theorem zjS{w:World}{b1 b2:Nat}{e t:TypeId}{s1 s2 n1 n2:Nat}{v u:Value}{xs ys:List Value}(h:w.ownsRow b1 e s1 v n1 xs)(k:w.ownsRow b2 t s2 u n2 ys)(hne:¬e=t):v.ownBlock=none∨v.ownBlock≠u.ownBlock:=by
 cases hv:v.ownBlock with
 | none=>exact .inl rfl
 | some g=>
   refine .inr fun hu=> ?_;obtain⟨_,c1,e1⟩:=zaQ h hv;obtain⟨_,c2,e2⟩:=zaQ k hu.symm;rw[e1]at e2;simp only[Option.some.injEq]at e2;cases e2;exact hne rfl
theorem Cells14_one(x:S14.C):∀u∈zT x,u.oneCell'=true:=fun u hu=>by
 simp only[zT,List.mem_cons,zaL,or_false]at hu;rcases hu with rfl|rfl|rfl|rfl|rfl|rfl<;>rfl
theorem Cs14_snoc(l:List S14.C)(x:S14.C):zcS (l ++ [x])=zcS l++zT x:=by
 unfold zcS;simp
theorem rnew14_good(l:List S14.C)(F:S14.C→S14.P)(N':S14.N)(a0:Option Addr)(cap:Nat)(w:World)(hrd:Rd w a0 (zcS l))(hck:S14.check l=0)
 (HF:∀(k:Nat) (c:S14.C),l[k]? = some c→∀W,Calls Tryz.prog 45 #[CV c] W fun e w'=>∃y,e = .returned (PV (F c) y)∧PRob 0 W.heap.size (F c) y w'∧Below W.heap.size W w')
 (HOp:zpV w ⟨l,l.map F,List.replicate 16 0,1⟩ N') :
 Calls Tryz.prog 16 #[.slice a0 l.length cap] w fun e w'=>∃L,e = .returned (.tuple #[NV N' L,.int .i64 0])∧(∀W,KepX (fun k=>k<w.heap.size) w' W→NIs N' L W)∧Below w.heap.size w w':=by
 obtain⟨hl1,hl16,hok⟩:=S14.check_zero hck;obtain⟨g,o,rfl,hcs⟩:=hrd (fun e=>by have h:=yQ List.length e;rw[yT,List.length_nil]at h;omega)
 have HC:=zD fun(W:World) (hW:Below w.heap.size w W)=>(show Calls Tryz.prog 29 #[.slice (some ⟨g,o,none⟩) l.length cap] W fun e w'=>e = .returned (.int .i64 0)∧Below W.heap.size W w' by
  have:=zgH l (some ⟨g,o,none⟩) cap W (by omega) (hrd.step hW);rwa[hck]at this)
 have HFr:=zD HF;have HOP:=zD HOp;have Hrd:=zD hrd;obtain⟨nc,hnc⟩:∃n,l.length=n:=⟨_,rfl⟩;rw[hnc]at HC hl1 hl16;have Hnc:=zD hnc;rw[hnc];have hgl:g<w.heap.size:=by
  obtain⟨v0,hv0⟩:∃v,(zcS l)[0]? = some v:=⟨_,zI (by rw[yT];omega)⟩;exact zJ (hcs 0 v0 hv0)
 clear hrd hck HF HOp hok hnc;obtain⟨W1,hW1⟩:∃W1,w.alloc (.cells #[.slice none 0 0,.slice none 0 0,.slice none 0 0,.int .i64 0] 26)=W1:=⟨_,rfl⟩;have k1:Blk W1 w.heap.size [.slice none 0 0,.slice none 0 0,.slice none 0 0,.int .i64 0] 26:=by rw[←hW1];exact Blk.new w _ _
 have B1:Below w.heap.size w W1:=by rw[←hW1];exact(zG _ _).alloc (zE _) _
 go_enter Tryz.func16,Tryz.ntmps16;go_wp2_with (rw[hW1]);refine(HC.out _ B1).mono ?_;rintro e w2 ⟨rfl,hb2⟩;have k2:=k1.step hb2;have B2:=zA B1 hb2;clear k1 B1 hb2 hW1;obtain⟨X,hX⟩:∃X,w2.heap.size=X:=⟨_,rfl⟩;obtain⟨W3,hW3⟩:∃W3,w2.alloc (.cells (List.replicate 16 (.int .u32 0)).toArray 109)=W3:=⟨_,rfl⟩;have kX3:Blk W3 X (List.replicate 16 (.int .u32 0)) 109:=by rw[←hW3,←hX];exact Blk.new w2 _ _
 have hb3:Below w2.heap.size w2 W3:=by rw[←hW3];exact(zG _ _).alloc (zE _) _
 have hmk:(Instr.makeSlice 24 (.int .i64 16) (.int .i64 16)).run Tryz.prog w2 = .ok (.slice (some ⟨X,0,none⟩) 16 16) W3:=by rw[←hW3,←hX];exact mk16 w2
 obtain⟨NB,hNB⟩:∃X,W3.heap.size=X:=⟨_,rfl⟩;obtain⟨W4,hW4⟩:∃W4,W3.alloc (.cells #[.slice none 0 0,.slice none 0 0,.slice none 0 0,.int .i64 0] 26)=W4:=⟨_,rfl⟩;have kN4:Blk W4 NB [.slice none 0 0,.slice none 0 0,.slice none 0 0,.int .i64 0] 26:=by rw[←hW4,←hNB];exact Blk.new W3 _ _
 have hb4:Below W3.heap.size W3 W4:=by rw[←hW4];exact(zG _ _).alloc (zE _) _
 have hXN:X<NB:=by rw[←hNB];exact kX3.lt
 have hRX:w.heap.size<X:=by rw[←hX];exact k2.lt
 have kX4:=kX3.step hb4;have k24:=(k2.step hb3).step hb4;have B4:=zA (zA B2 hb3) hb4;clear kX3 k2 B2 hb3 hb4;go_wp2_with (first
  | (rw[hW4,hNB])
  | (rw[hW4])
  | (refine yE 26 (.tmp 5) (.tmp 14) (by rfl) (by rfl) NB (by rfl) [.slice none 0 0,.slice none 0 0,.slice (some ⟨X,0,none⟩) 16 16,.int .i64 1] (by rfl) _ 26 kN4 info_N rfl (by simp[Value.oneCell']) ?_;intro wL EL gL sL;clear sL;have kXL:Blk wL X (List.replicate 16 (.int .u32 0)) 109:=kX4.keptRow gL (by intro e;have:=zO e;omega);have k2L:Blk wL w.heap.size [.slice none 0 0,.slice none 0 0,.slice none 0 0,.int .i64 0] 26:=k24.keptRow gL (by intro e;have:=zO e;omega);have BL:Below w.heap.size w wL:=B4.trans (yB gL (by omega) B4.size);clear kX4 k24 gL))
 clear hmk hW3 hX kN4 hNB hW4 B4;obtain⟨G,hG⟩:∃G,wL.heap.size=G:=⟨_,rfl⟩;have hNG:NB<G:=by rw[←hG];exact EL.lt
 have hXG:X<G:=by omega
 have hgG:g<G:=by have:=BL.size;omega
 go_loopw [6] (fun i wr=>∃(k:Nat) (a1:Option Addr) (c1:Nat) (a:Option Addr) (c:Nat) (ys:List Lay),k≤nc∧i = .int .i64 (k:Int)∧ys.length=k∧
  Hid (wr.ownsRow G 54 6 (.slice a1 k c1) k (zcS (l.take k)))∧Hid (wr.ownsRow G 83 16 (.slice a k c) k (PCs ((l.take k).map F) ys))∧
  Blk wr NB [.slice a1 k c1,.slice a k c,.slice (some ⟨X,0,none⟩) 16 16,.int .i64 1] 26∧KepX (fun k=>k=NB) wL wr∧
  Hid (∀(j:Nat) (p:S14.P) (y:Lay),((l.take k).map F)[j]? = some p→ys[j]? = some y→PRobX (XNw w.heap.size NB (.slice a1 k c1) (.slice a k c)) p y wr)) (fun i _=>nc-(intOf i).toNat)
 case atStart=>exact⟨0,none,0,none,0,[],by omega,rfl,rfl,zD (World.ownsRow_nil wL _ _ _),zD (World.ownsRow_nil wL _ _ _),EL,KepX.refl _ _,zD (fun j p y h=>by simp at h)⟩
 case round=>
  clear EL;obtain⟨k,a1,c1,a,c,ys,hk,rfl,hys,hown1,hown,EB,hKX,hrob⟩:=hrel;have hzr:G≤wr.heap.size:=by rw[←hG];exact hKX.size
  have hBr:Below w.heap.size w wr:=hKX.toBelow BL (fun k e=>by omega);have e0:=EB.cell 0;have e1:=EB.cell 1;simp only[zrD]at e0 e1;by_cases hlt:k<nc
  ·have hkz:(k:Int)<(nc:Int):=by omega
   obtain⟨x,hx⟩:∃x,l[k]? = some x:=⟨_,zI (by have:=Hnc.out;omega)⟩;obtain⟨g1,o1,ex,hcs1⟩:=(Hrd.out.step hBr) (fun e=>by have h:=yQ List.length e;have:=Hnc.out;rw[yT,List.length_nil]at h;omega);cases ex;obtain⟨x0,x1,x2,x3,x4,x5⟩:=zhK hcs1 hx;have HX:=zD (show∀W,Calls Tryz.prog 45 #[.agg #[.int .i64 x.kind,.int .i64 x.bits,.int .i64 x.limit,.int .i64 x.rate,.int .i64 x.first,.int .i64 x.second]] W _ from HFr.out k x hx);have Hx:=zD hx;have hS8:∀K,Below G wr K→Below G wr K∧Cells K [(⟨NB,0,none⟩,.slice a1 k c1),(⟨g,o+k*6,none⟩,.int .i64 x.kind),(⟨g,o+k*6+1,none⟩,.int .i64 x.bits),(⟨g,o+k*6+2,none⟩,.int .i64 x.limit),(⟨g,o+k*6+3,none⟩,.int .i64 x.rate),(⟨g,o+k*6+4,none⟩,.int .i64 x.first),(⟨g,o+k*6+5,none⟩,.int .i64 x.second)]:=fun K hK=>⟨hK,(hK.cell hNG).trans e0,(hK.cell hgG).trans x0,(hK.cell hgG).trans x1,(hK.cell hgG).trans x2,(hK.cell hgG).trans x3,(hK.cell hgG).trans x4,(hK.cell hgG).trans x5,yJ⟩;clear hcs1 hx;go_wp2_with fail;refine zrE 8 2 [(U,[U,U,U,U,U,U]),(zrA,[zrA,zrA,zrA,zrA,zrA,zrA,U]),(zrA,[zrA,zrA,zrA,zrA,zrA,zrA,zrA,U])] (fun K=>Below G wr K∧Cells K [(⟨NB,0,none⟩,.slice a1 k c1),(⟨g,o+k*6,none⟩,.int .i64 x.kind),(⟨g,o+k*6+1,none⟩,.int .i64 x.bits),(⟨g,o+k*6+2,none⟩,.int .i64 x.limit),(⟨g,o+k*6+3,none⟩,.int .i64 x.rate),(⟨g,o+k*6+4,none⟩,.int .i64 x.first),(⟨g,o+k*6+5,none⟩,.int .i64 x.second)]) (by kernel_rfl) (hS8 _ ((zG _ _).drew.mono hzr)) (fun Y Q4 F4 hY hF=> ?_);simp only[zrC]
   repeat
    apply zF (by rw[hY];rfl)
    ·intro w2 hS2;(try simp only[Keeps,Cells]at hS2);go_simp;with_reducible rfl
    simp only[zrB]
   have hb6:Below wr.heap.size wr (wr.drew.alloc (.cells #[.int .i64 x.kind,.int .i64 x.bits,.int .i64 x.limit,.int .i64 x.rate,.int .i64 x.first,.int .i64 x.second] 54)):=by
    have hd:Below wr.heap.size wr wr.drew:=(zG _ _).drew;exact hd.alloc hd.size _
   have Hr6:Hid (Rd (wr.drew.alloc (.cells #[.int .i64 x.kind,.int .i64 x.bits,.int .i64 x.limit,.int .i64 x.rate,.int .i64 x.first,.int .i64 x.second] 54)) (some ⟨wr.heap.size,0,none⟩) (zT x)):=zD (fun _=>⟨_,0,rfl,(Blk.new wr.drew (zT x) 54).cells⟩);refine zbN (by rw[hY];rfl) (by go_simp;first|with_reducible exact⟨rfl,rfl⟩|with_reducible rfl) (hS8 _ (hb6.mono hzr)) ?_;simp only[zrB];obtain⟨D6,hD6⟩:∃D,wr.heap.size=D:=⟨_,rfl⟩;obtain⟨w6,hw6⟩:∃W,wr.drew.alloc (.cells #[.int .i64 x.kind,.int .i64 x.bits,.int .i64 x.limit,.int .i64 x.rate,.int .i64 x.first,.int .i64 x.second] 54)=W:=⟨_,rfl⟩;rw[hw6,hD6]at Hr6;rw[hw6]at hb6;rw[hw6,hD6];have Ho16:=zD (yO (B:=0) hown1.out hb6);have Ho26:=zD (yO (B:=0) hown.out hb6);have E6:=EB.step hb6;have hz6:G≤w6.heap.size:=yD hzr hb6.size;have KX6:=hKX.trans (KepX.below hb6);have Hrob6:=zD (show∀(j:Nat) (p:S14.P) (y:Lay),((l.take k).map F)[j]? = some p→ys[j]? = some y→PRobX (XNw w.heap.size NB (.slice a1 k c1) (.slice a k c)) p y w6 from fun j p y h1 h2=>(hrob.out j p y h1 h2).kep (KepX.below hb6));refine zdC (.tmp 22) (.tmp 27) 22 54 6 48 _ G zhV (.slice a1 k c1) k (zcS (l.take k)) ⟨D6,0,none⟩ 1 1 (zT x) (by rw[hY];rfl) rfl rfl rfl rfl (by simp[zT]) (Cells14_one x) (by unfold maxLen;omega) (by omega) Ho16.out Hr6.out hz6 ?_;intro a8 c8 w8 hown8 hg8 hat8;have hne1:=zbB Ho16.out E6 (by decide);have E8:=E6.keptRow hg8 (Ne.symm hne1);have hB8:Below G wr w8:=(hb6.mono hzr).trans (Below.grown (zG _ _) hg8 hz6 (fun r e=>(zaQ Ho16.out e).1));have Ho28:=zD (Ho26.out.kept hg8 (zjS Ho26.out Ho16.out (by decide)));have Ho18:Hid (w8.ownsRow G 54 6 (.slice a8 (k+1) c8) (k+1) (zcS (l.take (k+1)))):=zD (by rw[zeA Hx.out,Cs14_snoc];exact hown8);have KX8:KepX (fun k=>k=NB) wL w8:=KX6.rowB hg8 (fun b e=>.inr (by rw[hG];exact(zaQ Ho16.out e).1))
   have Hrob8:=zD (show∀(j:Nat) (p:S14.P) (y:Lay),((l.take k).map F)[j]? = some p→ys[j]? = some y→PRobX (XNw w.heap.size NB (.slice a8 (k+1) c8) (.slice a k c)) p y w8 from fun j p y h1 h2=>(Hrob6.out j p y h1 h2).append hg8 (fun b e=>.inr (.inr (.inl e))) (fun b hb hx=>by
    rcases hx with h|h|h|h
    ·exact .inl h
    ·exact .inr (.inl h)
    ·rcases hat8 with e|e
     ·exact .inr (.inr (.inl (e▸h)))
     ·rw[e]at h;cases h;omega
    ·exact .inr (.inr (.inr h))))
   refine⟨hS8 _ hB8,?_⟩;simp only[zrB];clear hown8 hg8 hat8 hne1 Hrob6 Ho16 Ho26 Hr6 hw6 hD6 hown1 hown hrob E6 KX6 hKX hb6 hz6 EB hS8;refine zZ (hF _ _ (fun K hK=> ?_));clear hF hY;have HK:=zD hK;clear hK;have f0:=E8.cell 0;have f0f:=E8.free 0;simp only[lgz]at f0;obtain⟨w9,hw9⟩:∃W,w8.setCell ⟨NB,0,none⟩ (.slice a8 (k+1) c8)=W:=⟨_,rfl⟩;have E9:Blk w9 NB [.slice a8 (k+1) c8,.slice a k c,.slice (some ⟨X,0,none⟩) 16 16,.int .i64 1] 26:=by rw[←hw9];exact E8.set 0 _
   have hgs:w8.grownBy w9 (some NB):=by rw[←hw9];exact zaK w8 NB 0 _
   have KX9:=KX8.trans (KepX.row hgs (fun b e=>.inl (zO e).symm));have Ho19:=zD (zcG Ho18.out hgs hNG);have Ho29:=zD (zcG Ho28.out hgs hNG);have Hrob9:=zD (show∀(j:Nat) (p:S14.P) (y:Lay),((l.take k).map F)[j]? = some p→ys[j]? = some y→PRobX (XNw w.heap.size NB (.slice a8 (k+1) c8) (.slice a k c)) p y w9 from fun j p y h1 h2=>(Hrob8.out j p y h1 h2).kep (KepX.row hgs (fun b e=>.inl (.inr (.inl (zO e).symm)))));have hz9:G≤w9.heap.size:=by rw[←hG];exact KX9.size
   have hB9w:Below w.heap.size w w9:=KX9.toBelow BL (fun k e=>by omega);clear x0 x1 x2 x3 x4 x5 e0 e1 Ho18 Ho28 Hrob8 KX8 E8 hB8 hgs;go_wp2_with (first|(rw[hw9])|fail);refine OnlyK.mk (HK.out _ _ ?_);clear HK f0 f0f hw9;obtain⟨g1,o1,ex,hcs1⟩:=(Hrd.out.step hB9w) (fun e=>by have h:=yQ List.length e;have:=Hnc.out;rw[yT,List.length_nil]at h;omega);cases ex;obtain⟨x0,x1,x2,x3,x4,x5⟩:=zhK hcs1 Hx.out;have e1:=E9.cell 1;simp only[zrD]at e1;have hS9:∀K,Below G w9 K→Below G w9 K∧Cells K [(⟨NB,1,none⟩,.slice a k c),(⟨g,o+k*6,none⟩,.int .i64 x.kind),(⟨g,o+k*6+1,none⟩,.int .i64 x.bits),(⟨g,o+k*6+2,none⟩,.int .i64 x.limit),(⟨g,o+k*6+3,none⟩,.int .i64 x.rate),(⟨g,o+k*6+4,none⟩,.int .i64 x.first),(⟨g,o+k*6+5,none⟩,.int .i64 x.second)]:=fun K hK=>⟨hK,(hK.cell hNG).trans e1,(hK.cell hgG).trans x0,(hK.cell hgG).trans x1,(hK.cell hgG).trans x2,(hK.cell hgG).trans x3,(hK.cell hgG).trans x4,(hK.cell hgG).trans x5,yJ⟩;clear hcs1 hB9w;go_wp2_with fail;refine zrE 9 2 [(U,[U,U,U,U,U,U]),(zrA,[zrA,zrA,zrA,zrA,zrA,zrA,U]),(zrA,[zrA,zrA,zrA,zrA,zrA,zrA,zrA,U]),(zrA,[zrA,zrA,zrA,zrA,zrA,zrA,zrA,zrA,U])] (fun K=>Below G w9 K∧Cells K [(⟨NB,1,none⟩,.slice a k c),(⟨g,o+k*6,none⟩,.int .i64 x.kind),(⟨g,o+k*6+1,none⟩,.int .i64 x.bits),(⟨g,o+k*6+2,none⟩,.int .i64 x.limit),(⟨g,o+k*6+3,none⟩,.int .i64 x.rate),(⟨g,o+k*6+4,none⟩,.int .i64 x.first),(⟨g,o+k*6+5,none⟩,.int .i64 x.second)]) (by kernel_rfl) (hS9 _ ((zG _ _).drew.mono hz9)) (fun Y Q4 F4 hY hF=> ?_);simp only[zrC]
   repeat
    apply zF (by rw[hY];rfl)
    ·intro w2 hS2;(try simp only[Keeps,Cells]at hS2);go_simp;with_reducible rfl
    simp only[zrB]
   apply zS (by rw[hY];rfl)
   ·go_simp;with_reducible exact⟨rfl,rfl⟩
   refine(HX.out _).mono ?_;rintro e w10 ⟨y,rfl,hY10,hb10'⟩;have hb10:Below w9.heap.size w9 w10:=zA (zG _ _).drew hb10';refine⟨_,rfl,hS9 _ (hb10.mono hz9),?_⟩;simp only[zrB];have hb11':Below w10.heap.size w10 (w10.alloc (.cells (yG (F x) y).toArray 83)):=(zG _ _).alloc (zE _) _;have hb11:=zA hb10 hb11';have Hr11:Hid (Rd (w10.alloc (.cells (yG (F x) y).toArray 83)) (some ⟨w10.heap.size,0,none⟩) (yG (F x) y)):=zD (fun _=>⟨_,0,rfl,(Blk.new w10 (yG (F x) y) 83).cells⟩);have hz9d:w9.drew.heap.size=w9.heap.size:=rfl;have HY11:Hid (PRob 0 w9.heap.size (F x) y (w10.alloc (.cells (yG (F x) y).toArray 83))):=zD (hY10.kept (Kept.below hb11'));unfold PV;obtain⟨v0,v1,v2,v3,v4,v5,v6,v7,v8,v9,v10,v11,v12,v13,v14,v15,hVS⟩:=PVals_16 (F x) y;rw[hVS]at hb11' hb11 Hr11 HY11⊢;have HVS:=zD hVS;clear hVS hY10 hz9d;refine zbN (by rw[hY];rfl) (by go_simp;first|with_reducible exact⟨rfl,rfl⟩|with_reducible rfl) (hS9 _ (hb11.mono hz9)) ?_;simp only[zrB];obtain⟨D11,hD11⟩:∃D,w10.heap.size=D:=⟨_,rfl⟩;obtain⟨w11,hw11⟩:∃W,w10.alloc (.cells #[v0,v1,v2,v3,v4,v5,v6,v7,v8,v9,v10,v11,v12,v13,v14,v15] 83)=W:=⟨_,rfl⟩;rw[hw11,hD11]at Hr11;rw[hw11]at hb11 HY11;rw[hw11,hD11];have hz11:G≤w11.heap.size:=yD hz9 hb11.size;have Ho111:=zD (yO (B:=0) Ho19.out hb11);have Ho211:=zD (yO (B:=0) Ho29.out hb11);have E11:=E9.step hb11;have KX11:=KX9.trans (KepX.below hb11);refine zdC (.tmp 31) (.tmp 37) 23 83 16 240 _ G zhU (.slice a k c) k (PCs ((l.take k).map F) ys) ⟨D11,0,none⟩ 1 1 [v0,v1,v2,v3,v4,v5,v6,v7,v8,v9,v10,v11,v12,v13,v14,v15] (by rw[hY];rfl) rfl rfl rfl rfl (by simp) (HVS.out▸zaE (F x) y) (by unfold maxLen;omega) (by omega) Ho211.out Hr11.out hz11 ?_;intro a12 c12 w12 hown12 hg12 hat12;have hne2:=zbB Ho211.out E11 (by decide);have E12:=E11.keptRow hg12 (Ne.symm hne2);have hB12:Below G w9 w12:=(hb11.mono hz9).trans (Below.grown (zG _ _) hg12 hz11 (fun r e=>(zaQ Ho211.out e).1));have Ho112:=zD (Ho111.out.kept hg12 (zjS Ho111.out Ho211.out (by decide)))
   have Ho212:Hid (w12.ownsRow G 83 16 (.slice a12 (k+1) c12) (k+1) (PCs ((l.take (k+1)).map F) (ys ++ [y]))):=zD (by
    rw[zeA Hx.out,List.map_append,List.map_cons,List.map_nil,PCs_snoc _ _ _ _ (by rw[hys,zaA,zcN];have:=Hnc.out;omega),HVS.out];exact hown12)
   have KX12:KepX (fun k=>k=NB) wL w12:=KX11.rowB hg12 (fun b e=>.inr (by rw[hG];exact(zaQ Ho211.out e).1))
   have Hrob12:Hid (∀(j:Nat) (p:S14.P) (y':Lay),((l.take (k+1)).map F)[j]? = some p→(ys ++ [y])[j]? = some y'→PRobX (XNw w.heap.size NB (.slice a8 (k+1) c8) (.slice a12 (k+1) c12)) p y' w12):=zD (fun j p y' h1 h2=>by
    have h8:PRobX (XNw w.heap.size NB (.slice a8 (k+1) c8) (.slice a k c)) p y' w11:=by
     rw[zeA Hx.out,List.map_append,List.map_cons,List.map_nil]at h1;have hlk:((l.take k).map F).length=k:=by rw[zaA,zcN];have:=Hnc.out;omega
     rcases Nat.lt_trichotomy j k with hj|hj|hj
     ·rw[zfB (by omega)]at h1 h2;exact(Hrob9.out j p y' h1 h2).kep (KepX.below hb11)
     ·subst hj;rw[yP (by omega),hlk,Nat.sub_self]at h1;rw[yP (by omega),hys,Nat.sub_self]at h2;simp only[lgz,Option.some.injEq]at h1 h2;subst h1;subst h2;refine HY11.out.toX (fun b _ hb=>⟨zeG _,?_⟩);rcases hb with hb|rfl|hb|hb
      ·have:=hgG;omega
      ·omega
      ·exact(Ho19.out.lt b hb).2
      ·exact(Ho29.out.lt b hb).2
     ·rw[yP (by omega),yY (by simp;omega)]at h1;cases h1
    exact h8.append hg12 (fun b e=>.inr (.inr (.inr e))) (fun b hb hx=>by
     rcases hx with h|h|h|h
     ·exact .inl h
     ·exact .inr (.inl h)
     ·exact .inr (.inr (.inl h))
     ·rcases hat12 with e|e
      ·exact .inr (.inr (.inr (e▸h)))
      ·rw[e]at h;cases h;omega))
   refine⟨hS9 _ hB12,?_⟩;simp only[zrB];clear hown12 hg12 hat12 hne2 Hrob9 Ho111 Ho211 Ho19 Ho29 Hr11 hw11 hD11 E11 E9 KX11 KX9 hb11 hb10 hb10' hS9 HY11 hb11';refine zZ (hF _ _ (fun K hK=> ?_));clear hF hY;have HK:=zD hK;clear hK;have f1:=E12.cell 1;have f1f:=E12.free 1;simp only[zrD]at f1;obtain⟨w13,hw13⟩:∃W,w12.setCell ⟨NB,1,none⟩ (.slice a12 (k+1) c12)=W:=⟨_,rfl⟩;have E13:Blk w13 NB [.slice a8 (k+1) c8,.slice a12 (k+1) c12,.slice (some ⟨X,0,none⟩) 16 16,.int .i64 1] 26:=by rw[←hw13];exact E12.set 1 _
   have hgs:w12.grownBy w13 (some NB):=by rw[←hw13];exact zaK w12 NB 1 _
   have KX13:=KX12.trans (KepX.row hgs (fun b e=>.inl (zO e).symm));have Ho113:=zD (zcG Ho112.out hgs hNG);have Ho213:=zD (zcG Ho212.out hgs hNG);have Hrob13:=zD (show∀(j:Nat) (p:S14.P) (y':Lay),((l.take (k+1)).map F)[j]? = some p→(ys ++ [y])[j]? = some y'→PRobX (XNw w.heap.size NB (.slice a8 (k+1) c8) (.slice a12 (k+1) c12)) p y' w13 from fun j p y' h1 h2=>(Hrob12.out j p y' h1 h2).kep (KepX.row hgs (fun b e=>.inl (.inr (.inl (zO e).symm)))));clear x0 x1 x2 x3 x4 x5 e1 Ho112 Ho212 Hrob12 KX12 E12 hB12 hgs;go_wp2_with (first|(rw[hw13])|fail);refine OnlyK.mk (HK.out _ _ ?_);clear HK f1 f1f hw13;go_wp2;go_roundw
   case rel=>exact⟨k+1,a8,c8,a12,c12,ys ++ [y],by omega,by simp,by rw[zdI,hys];rfl,Ho113,Ho213,E13,KX13,Hrob13⟩
   case measure=>simp[intOf];omega
  ·obtain rfl:k=nc:=by omega
   obtain⟨hc1,hc2⟩:k≤c∧c≤maxLen:=by
    obtain⟨a0,c0,e,h1,h2⟩:=zaU hown.out;simp only[Value.slice.injEq]at e;omega
   obtain⟨gC,rfl,hgC,_,hd1,hd2⟩:=zcH hown1.out hl1;have htk:l.take k=l:=zdB (by rw[Hnc.out];exact zE _);have k2r:=k2L.kepX hKX (by omega);rw[htk]at hown hrob hown1;have hlm:(l.map F).length=k:=by rw[zaA];exact Hnc.out
   have hCd:∀b,(Value.slice a k c).ownBlock=some b→gC≠b:=fun b hb e=>by
    rcases zjS hown1.out hown.out (by decide)with h|h
    ·cases h
    ·exact h (by rw[hb,←e];rfl)
   have HrC:=zD (Rd.of_owns hown1.out);have HrX:=zD (show Rd wr (some ⟨X,0,none⟩) (zmF (List.replicate 16 0))from fun _=>⟨X,0,rfl,(kXL.kepX hKX (show¬X=NB by omega)).cells⟩)
   have hNI:∀W2,KepX (fun k=>k≤w.heap.size) wr W2→NIs ⟨l,l.map F,List.replicate 16 0,1⟩ ⟨some ⟨gC,0,none⟩,c1,a,c,some ⟨X,0,none⟩,16,ys⟩ W2:=fun W2 h2=>
    {rc:=HrC.out.kepX h2 (fun g o e=>by cases e;have:=BL.size;show¬gC≤_;omega)
     rp:=(Rd.of_owns hown.out).kepX h2 (fun g o e=>by
      have:=(hown.out.lt g (by rw[e];rfl)).1;have:=BL.size;show¬g≤_;omega)
     rx:=HrX.out.kepX h2 (fun g o e=>by cases e;show¬X≤_;omega)
     ly:=by rw[hys];exact hlm.symm
     ps:=fun j p y h1 h3=>((hrob.out j p y h1 h3).change (fun b _ hb=>.inl hb)).kep h2 |>.is
     xs:=fun x hx=>by have:=List.eq_of_mem_replicate hx;omega
     l1:=⟨by show l.length≤_;rw[Hnc.out];exact hd1,hd2⟩
     l2:=⟨by show(l.map F).length≤_;rw[hlm];exact hc1,hc2⟩
     l3:=⟨by simp,by simp⟩}
   have HPo:=HOP.out ⟨some ⟨gC,0,none⟩,c1,a,c,some ⟨X,0,none⟩,16,ys⟩ wr (fun k=>k≤w.heap.size) hBr (fun k e=>by have e:k≤w.heap.size:=e;omega) hNI (by
    show wr.ownsRow w.heap.size 83 16 (.slice a (l.map F).length c) (l.map F).length (PCs (l.map F) ys)
    rw[hlm];exact zcM hown.out (by rw[←hG];exact BL.size)) (fun j p y h1 h3=>(hrob.out j p y h1 h3).change (fun b _ hb=>by
     rcases hb with h|h
     ·exact .inl h
     ·refine .inr (.inr (.inr ?_));have h:(Value.slice a (l.map F).length c).ownBlock=some b:=h;rwa[hlm]at h)) (fun b hb=>by
     show¬b≤w.heap.size;have hb:(Value.slice a (l.map F).length c).ownBlock=some b:=hb;rw[hlm]at hb;have:=(hown.out.lt b hb).1;have:=BL.size;omega) (fun W2 h2=>by
     have h2:KepX (fun k=>k≤w.heap.size∨(Value.slice a (l.map F).length c).ownBlock=some k) wr W2:=h2;rw[hlm]at h2
     exact⟨HrC.out.kepX h2 (fun g o e=>by cases e;exact fun h=>h.elim (fun h=>by have h:gC≤w.heap.size:=h;have:=BL.size;omega) (fun h=>hCd _ h rfl)),
      HrX.out.kepX h2 (fun g o e=>by cases e;exact fun h=>h.elim (fun h=>by have h:X≤w.heap.size:=h;omega) (fun h=>by have:=(hown.out.lt _ h).1;omega))⟩)
   unfold NV zbP at HPo;simp only[hlm,Hnc.out,yR]at HPo;have hfar:∀b,(Value.slice a k c).ownBlock=some b→G≤b:=fun b hb=>(hown.out.lt b hb).1;have Hfar:=zD hfar;have HPO:=zD HPo;clear hfar HPo hNI hown hown1 hrob htk hKX e0 e1 hlm hCd HrC HrX;go_wp2_with (first
    | (refine yC 26 (.tmp 5) (by rfl) (by rfl) NB (by rfl) [.slice (some ⟨gC,0,none⟩) k c1,.slice a k c,.slice (some ⟨X,0,none⟩) 16 16,.int .i64 1] 26 EB _ Tryz.underlying26 rfl info_N ?_))
   refine HPO.out.mono ?_;rintro e w8 ⟨rfl,ys',hVN,hN',hb8⟩;have HN':=zD hN';have HVN:=zD hVN;have k28:=k2r.kepX hb8 (fun hx=>by have:=Hfar.out _ hx;have:=BL.size;omega);have EB8:=EB.kepX hb8 (fun hx=>by have:=Hfar.out _ hx;omega);have B8:=hb8.toBelow hBr (fun b hb=>by have:=Hfar.out _ hb;have:=BL.size;omega);clear hN' k2r hb8 EB hBr hVN;go_wp2_with (first
    | (refine yC 26 (.tmp 5) (by rfl) (by rfl) NB (by rfl) [.slice (some ⟨gC,0,none⟩) k c1,.slice a k c,.slice (some ⟨X,0,none⟩) 16 16,.int .i64 1] 26 EB8 _ Tryz.underlying26 rfl info_N ?_)
    | (refine yE 26 (.tmp 2) (.tmp 42) (by rfl) (by rfl) w.heap.size (by rfl) [.slice (some ⟨gC,0,none⟩) k c1,.slice a k c,.slice (some ⟨X,0,none⟩) 16 16,.int .i64 1] (by rfl) _ 26 k28 info_N rfl (by simp[Value.oneCell']) ?_;intro wM EM gM sM))
   have hL:=run_loadVar_mid wM _ 0 _ _ _ EM.cells Tryz.underlying26 rfl info_N;refine bodyPost_ret (v:=.tuple #[.agg #[.slice (some ⟨gC,0,none⟩) k c1,.slice a k c,.slice (some ⟨X,0,none⟩) 16 16,.int .i64 1],.int .i64 0]) ?_ rfl ?_
   ·exact zaX (show Tryz.f16.results = #[.cell 2 26,.tmp 3]from rfl) (p:=⟨w.heap.size,0,none⟩) rfl rfl hL
   ·refine⟨_,?_,fun W hW=>HN'.out W ((KepX.row gM (fun b e=>.inl (by show _≤_;have:=zO e;omega))).trans (hW.mono (fun b _ h=>by show _≤_;have h:b<w.heap.size:=h;omega))),B8.trans (yB gM (zE _) B8.size)⟩;exact yQ (fun v=>Ending.returned (.tuple #[.agg (List.toArray v),.int .i64 0])) HVN.out.symm
