/- A part of the proof of L14n. No condition. -/
import Derived.Test.YtieeogndnhighaaGreatZL14nbl
import Derived.Test.YtieeogndnhighaaGreatZL14nbu
set_option linter.all false
set_option maxRecDepth 100000
set_option maxHeartbeats 2000000
namespace Go.Proofs.YtieeogndnhighaaGreat
open Go.RowKit
theorem zdQ:(Tryz.prog.info? 54).map (·.size)=some 6:=by kernel_rfl
theorem info_Xr14:(Tryz.prog.info? 79).map (·.size)=some 2:=by kernel_rfl
theorem info_Ar14:(Tryz.prog.info? 81).map (·.size)=some 1:=by kernel_rfl
theorem zhR{b:Int}{n:Nat}(h:b=(n:Int)):(2:Int)^b.toNat=((2^n:Nat):Int):=by rw[h];simp
theorem rpart14_0(c:S14.C)(p:S14.P)(y:Lay)(pt:Int)(n:Nat)(hn:c.bits=(n:Int))(hn16:n≤16)(w:World)(hP:PIs p y w)(hk:c.kind=0) :
 Calls Tryz.prog 52 #[CV c,PV p y,.int .i64 pt] w fun e w'=>e = .returned (.bool (S14.right c p pt))∧Below w.heap.size w w':=by
 have HE:=zD fun(W:World) (hW:Below w.heap.size w W)=>rempty14_0 c p y W (hP.step hW) hk;have HSz:=zD fun W=>zaM n (by omega) W;obtain⟨R,hR⟩:∃R,S14.right c p pt=R:=⟨_,rfl⟩;rw[hR];unfold S14.right at hR;rw[zU hk]at hR;obtain⟨E,hE⟩:∃E,S14.bare p=E:=⟨_,rfl⟩;rw[hE]at HE hR;obtain⟨W1,hW1,k1,k2,B1⟩:=zbO w c 54 p y;unfold PV at HE⊢;unfold CV at HE⊢;obtain⟨VP,hVP⟩:∃v,yG p y=v:=⟨_,rfl⟩;have HPl:=zD (show some 16=some VP.length by rw[←hVP];rfl);rw[hVP]at HE k2 hW1⊢;clear hVP;obtain⟨P,hP2⟩:∃P,2^n=P:=⟨_,rfl⟩;have hpw:=zdP hn16;rw[hP2]at HSz hpw;obtain⟨kind,bits,limit,rate,first,second⟩:=c;simp only at hk hn hR;have hfs':=zeV zcX zcX;subst hk hn;unfold zT at *;simp only at HE k1 hW1⊢;have HR:=zD hR;clear hR hP;go_enter Tryz.func52,Tryz.ntmps52;go_wp2_with (first
  | (rw[hW1])
  | (refine yC 54 (.tmp 3) (by rfl) (by rfl) w.heap.size (by rfl) [.int .i64 0,.int .i64 (n:Int),.int .i64 limit,.int .i64 rate,.int .i64 first,.int .i64 second] 54 k1 _ Tryz.underlying54 rfl zdQ ?_)
  | (refine yC 83 (.tmp 4) (by rfl) (by rfl) (w.heap.size+1) (by rfl) VP 83 k2 _ Tryz.underlying83 rfl (info_P.trans HPl.out) ?_))
 refine(HE.out _ B1).mono ?_;rintro e w2 ⟨rfl,hb2⟩;have B2:=zA B1 hb2;have x1:=(k1.step hb2).cell 1;simp only[zrD]at x1;cases E with
 | false=>
   obtain rfl:R=false:=by rw[←HR.out];try simp
   clear HR;go_wp2;go_returns;exact⟨rfl,B2⟩
 | true=>
   go_wp2_with fail;refine(HSz.out _).mono ?_;rintro e w3 ⟨rfl,hb3⟩;have hb23:=zA hb2 hb3;have B3:=zA B1 hb23;have kk1:=k1.step hb23;have kk2:=k2.step hb23;have x0:=kk1.cell 0;have x1:=kk1.cell 1;have x2:=kk1.cell 2;have x4:=kk1.cell 4;have x5:=kk1.cell 5;simp only[zrD]at x0 x1 x2 x4 x5;obtain rfl:R=true:=by rw[←HR.out]
   clear HR;go_wp2;go_returns;exact⟨by first|rfl|simp,B3⟩
theorem rpart14_4(c:S14.C)(p:S14.P)(y:Lay)(pt:Int)(n:Nat)(hn:c.bits=(n:Int))(hn16:n≤16)(w:World)(hP:PIs p y w)(hk:c.kind=4) :
 Calls Tryz.prog 52 #[CV c,PV p y,.int .i64 pt] w fun e w'=>e = .returned (.bool (S14.right c p pt))∧Below w.heap.size w w':=by
 have HE:=zD fun(W:World) (hW:Below w.heap.size w W)=>rempty14_4 c p y W (hP.step hW) hk;have HSz:=zD fun W=>zaM n (by omega) W;obtain⟨R,hR⟩:∃R,S14.right c p pt=R:=⟨_,rfl⟩;rw[hR];unfold S14.right at hR;rw[zK (by omega),zK (by omega),zK (by omega),zK (by omega),zU hk]at hR;obtain⟨E,hE⟩:∃E,S14.bare p=E:=⟨_,rfl⟩;rw[hE]at HE hR;obtain⟨W1,hW1,k1,k2,B1⟩:=zbO w c 54 p y;unfold PV at HE⊢;unfold CV at HE⊢;obtain⟨VP,hVP⟩:∃v,yG p y=v:=⟨_,rfl⟩;have HPl:=zD (show some 16=some VP.length by rw[←hVP];rfl);rw[hVP]at HE k2 hW1⊢;clear hVP;obtain⟨P,hP2⟩:∃P,2^n=P:=⟨_,rfl⟩;have hpw:=zdP hn16;rw[hP2]at HSz hpw;obtain⟨kind,bits,limit,rate,first,second⟩:=c;simp only at hk hn hR;have hfs':=zeV zcX zcX;subst hk hn;unfold zT at *;simp only at HE k1 hW1⊢;have HR:=zD hR;clear hR hP;go_enter Tryz.func52,Tryz.ntmps52;go_wp2_with (first
  | (rw[hW1])
  | (refine yC 54 (.tmp 3) (by rfl) (by rfl) w.heap.size (by rfl) [.int .i64 4,.int .i64 (n:Int),.int .i64 limit,.int .i64 rate,.int .i64 first,.int .i64 second] 54 k1 _ Tryz.underlying54 rfl zdQ ?_)
  | (refine yC 83 (.tmp 4) (by rfl) (by rfl) (w.heap.size+1) (by rfl) VP 83 k2 _ Tryz.underlying83 rfl (info_P.trans HPl.out) ?_))
 refine(HE.out _ B1).mono ?_;rintro e w2 ⟨rfl,hb2⟩;have B2:=zA B1 hb2;have x1:=(k1.step hb2).cell 1;simp only[zrD]at x1;cases E with
 | false=>
   obtain rfl:R=false:=by rw[←HR.out];try simp
   clear HR;go_wp2;go_returns;exact⟨rfl,B2⟩
 | true=>
   go_wp2_with fail;refine(HSz.out _).mono ?_;rintro e w3 ⟨rfl,hb3⟩;have hb23:=zA hb2 hb3;have B3:=zA B1 hb23;have kk1:=k1.step hb23;have kk2:=k2.step hb23;have x0:=kk1.cell 0;have x1:=kk1.cell 1;have x2:=kk1.cell 2;have x4:=kk1.cell 4;have x5:=kk1.cell 5;simp only[zrD]at x0 x1 x2 x4 x5;obtain rfl:R=true:=by rw[←HR.out]
   clear HR;go_wp2;go_returns;exact⟨by first|rfl|simp,B3⟩
theorem rpart14_1(c:S14.C)(p:S14.P)(y:Lay)(pt:Int)(n:Nat)(hn:c.bits=(n:Int))(hn16:n≤16)(hl:p.ctrs.length≤9223372036854775807)(w:World)(hP:PIs p y w)(hk:c.kind=1) :
 Calls Tryz.prog 52 #[CV c,PV p y,.int .i64 pt] w fun e w'=>e = .returned (.bool (S14.right c p pt))∧Below w.heap.size w w':=by
 have HE:=zD fun(W:World) (hW:Below w.heap.size w W)=>rempty14_1 c p y W (hP.step hW) hk;have HSz:=zD fun W=>zaM n (by omega) W;have HC:=zD fun(W:World) (hW:Below w.heap.size w W)=>zgG p.ctrs y.a1 y.c1 (2^n) c.limit W hl (hP.rc.step hW);obtain⟨R,hR⟩:∃R,S14.right c p pt=R:=⟨_,rfl⟩;rw[hR];unfold S14.right at hR;rw[zK (by omega),zU hk]at hR;obtain⟨E,hE⟩:∃E,S14.bare {p with ctrs:=[]}=E:=⟨_,rfl⟩;rw[hE]at HE hR;obtain⟨W1,hW1,k1,k2,B1⟩:=zbO w c 54 p y;have c0:W1.cell? ⟨w.heap.size+1,0,none⟩=some (.slice y.a1 p.ctrs.length y.c1):=k2.cell 0;unfold PV at HE⊢;unfold CV at HE⊢;obtain⟨VP,hVP⟩:∃v,yG p y=v:=⟨_,rfl⟩;have HPl:=zD (show some 16=some VP.length by rw[←hVP];rfl);rw[hVP]at HE k2 hW1⊢;clear hVP;obtain⟨P,hP2⟩:∃P,2^n=P:=⟨_,rfl⟩;have hpw:=zdP hn16;rw[hP2]at HSz hpw HC;obtain⟨kind,bits,limit,rate,first,second⟩:=c;simp only at hk hn hR;have hfs':=zeV zcX zcX;subst hk hn;unfold zT at *;simp only at HE k1 hW1⊢;obtain⟨Q,hQ⟩:∃Q,S14.okCtrs p.ctrs P limit=Q:=⟨_,rfl⟩;simp only at HC;simp only[Int.toNat_natCast]at hR;rw[hP2,hQ]at hR;rw[hQ]at HC;have HR:=zD hR;clear hR hP;go_enter Tryz.func52,Tryz.ntmps52;go_wp2_with (first
  | (rw[hW1])
  | (refine yC 54 (.tmp 3) (by rfl) (by rfl) w.heap.size (by rfl) [.int .i64 1,.int .i64 (n:Int),.int .i64 limit,.int .i64 rate,.int .i64 first,.int .i64 second] 54 k1 _ Tryz.underlying54 rfl zdQ ?_)
  | (refine yC 83 (.tmp 4) (by rfl) (by rfl) (w.heap.size+1) (by rfl) VP 83 k2 _ Tryz.underlying83 rfl (info_P.trans HPl.out) ?_))
 refine(HE.out _ B1).mono ?_;rintro e w2 ⟨rfl,hb2⟩;have B2:=zA B1 hb2;have x1:=(k1.step hb2).cell 1;simp only[zrD]at x1;cases E with
 | false=>
   obtain rfl:R=false:=by rw[←HR.out];try simp
   clear HR;go_wp2;go_returns;exact⟨rfl,B2⟩
 | true=>
   go_wp2_with fail;refine(HSz.out _).mono ?_;rintro e w3 ⟨rfl,hb3⟩;have hb23:=zA hb2 hb3;have B3:=zA B1 hb23;have kk1:=k1.step hb23;have kk2:=k2.step hb23;have x0:=kk1.cell 0;have x1:=kk1.cell 1;have x2:=kk1.cell 2;have x4:=kk1.cell 4;have x5:=kk1.cell 5;simp only[zrD]at x0 x1 x2 x4 x5;have q0:=(hb23.cell (zJ c0)).trans c0;obtain rfl:R=Q:=by rw[←HR.out];try simp
   clear HR hQ;go_wp2_with fail;refine(HC.out _ B3).mono ?_;rintro e w4 ⟨rfl,hb4⟩;have B4:=zA B3 hb4;go_wp2;go_returns;exact⟨rfl,B4⟩
theorem rpart14_3(c:S14.C)(p:S14.P)(y:Lay)(pt:Int)(n:Nat)(hn:c.bits=(n:Int))(hn16:n≤16)(w:World)(hP:PIs p y w)(hk:c.kind=3) :
 Calls Tryz.prog 52 #[CV c,PV p y,.int .i64 pt] w fun e w'=>e = .returned (.bool (S14.right c p pt))∧Below w.heap.size w w':=by
 have HE:=zD fun(W:World) (hW:Below w.heap.size w W)=>rempty14_3 c p y W (hP.step hW) hk;have HSz:=zD fun W=>zaM n (by omega) W;have HC:=zD fun(W:World) (hW:Below w.heap.size w W)=>rcheck12_any p.m y.pl W (hP.mch.step hW);have v9:∃x2 x3 x4 x5 x7 x8:Value,zbQ p.m y.pl = [.int .i64 p.m.bits,.int .i64 p.m.least,x2,x3,x4,x5,.int .i64 p.m.part,x7,x8]:=⟨_,_,_,_,_,_,rfl⟩;obtain⟨R,hR⟩:∃R,S14.right c p pt=R:=⟨_,rfl⟩;rw[hR];unfold S14.right at hR;rw[zK (by omega),zK (by omega),zK (by omega),zU hk]at hR;obtain⟨E,hE⟩:∃E,S14.bare {p with m:=S14.zM}=E:=⟨_,rfl⟩;rw[hE]at HE hR;obtain⟨W1,hW1,k1,k2,B1⟩:=zbO w c 54 p y;have hra:=k2.mid14 (o:=4) (n:=9) (sub:=zbQ p.m y.pl) rfl;have c4:W1.cell? ⟨w.heap.size+1,4,none⟩=some (.int .i64 p.m.bits):=k2.cell 4;have c5:W1.cell? ⟨w.heap.size+1,5,none⟩=some (.int .i64 p.m.least):=k2.cell 5;have c10:W1.cell? ⟨w.heap.size+1,10,none⟩=some (.int .i64 p.m.part):=k2.cell 10;unfold MV at HC;obtain⟨x2,x3,x4,x5,x7,x8,hV9⟩:=v9;rw[hV9]at HC hra;clear hV9;have r6:W1.cell? ⟨w.heap.size+1,6,none⟩=some x2:=hra 2 _ rfl;have r7:W1.cell? ⟨w.heap.size+1,7,none⟩=some x3:=hra 3 _ rfl;have r8:W1.cell? ⟨w.heap.size+1,8,none⟩=some x4:=hra 4 _ rfl;have r9:W1.cell? ⟨w.heap.size+1,9,none⟩=some x5:=hra 5 _ rfl;have r11:W1.cell? ⟨w.heap.size+1,11,none⟩=some x7:=hra 7 _ rfl;have r12:W1.cell? ⟨w.heap.size+1,12,none⟩=some x8:=hra 8 _ rfl;obtain⟨Q,hQ⟩:∃q,S12.check p.m=q:=⟨_,rfl⟩;rw[hQ]at HC hR;obtain⟨m1,hm1⟩:∃x,p.m.bits=x:=⟨_,rfl⟩;obtain⟨m2,hm2⟩:∃x,p.m.least=x:=⟨_,rfl⟩;obtain⟨m7,hm7⟩:∃x,p.m.part=x:=⟨_,rfl⟩;rw[hm1,hm2,hm7]at hR HC;rw[hm1]at c4;rw[hm2]at c5;rw[hm7]at c10;clear hm1 hm2 hm7 hQ hra;unfold PV at HE⊢;unfold CV at HE⊢;obtain⟨VP,hVP⟩:∃v,yG p y=v:=⟨_,rfl⟩;have HPl:=zD (show some 16=some VP.length by rw[←hVP];rfl);rw[hVP]at HE k2 hW1⊢;clear hVP;obtain⟨P,hP2⟩:∃P,2^n=P:=⟨_,rfl⟩;have hpw:=zdP hn16;rw[hP2]at HSz hpw;obtain⟨kind,bits,limit,rate,first,second⟩:=c;simp only at hk hn hR;have hfs':=zeV zcX zcX;subst hk hn;unfold zT at *;simp only at HE k1 hW1⊢;obtain⟨d1,hd1⟩:∃d,(m1==(n:Int))=d:=⟨_,rfl⟩;obtain⟨d2,hd2⟩:∃d,(m2==limit)=d:=⟨_,rfl⟩;obtain⟨d3,hd3⟩:∃d,(m7==pt)=d:=⟨_,rfl⟩;obtain⟨d4,hd4⟩:∃d,(Q==0)=d:=⟨_,rfl⟩;have hd4':decide (Q=0)=d4:=by rw[←hd4];rfl
 rw[hd1,hd2,hd3,hd4']at hR;clear hd4';have HR:=zD hR;clear hR hP;go_enter Tryz.func52,Tryz.ntmps52;go_wp2_with (first
  | (rw[hW1])
  | (refine yC 54 (.tmp 3) (by rfl) (by rfl) w.heap.size (by rfl) [.int .i64 3,.int .i64 (n:Int),.int .i64 limit,.int .i64 rate,.int .i64 first,.int .i64 second] 54 k1 _ Tryz.underlying54 rfl zdQ ?_)
  | (refine yC 83 (.tmp 4) (by rfl) (by rfl) (w.heap.size+1) (by rfl) VP 83 k2 _ Tryz.underlying83 rfl (info_P.trans HPl.out) ?_))
 refine(HE.out _ B1).mono ?_;rintro e w2 ⟨rfl,hb2⟩;have B2:=zA B1 hb2;have x1:=(k1.step hb2).cell 1;simp only[zrD]at x1;cases E with
 | false=>
   obtain rfl:R=false:=by rw[←HR.out];try simp
   clear HR;go_wp2;go_returns;exact⟨rfl,B2⟩
 | true=>
   go_wp2_with fail;refine(HSz.out _).mono ?_;rintro e w3 ⟨rfl,hb3⟩;have hb23:=zA hb2 hb3;have B3:=zA B1 hb23;have kk1:=k1.step hb23;have kk2:=k2.step hb23;have x0:=kk1.cell 0;have x1:=kk1.cell 1;have x2:=kk1.cell 2;have x4:=kk1.cell 4;have x5:=kk1.cell 5;simp only[zrD]at x0 x1 x2 x4 x5;have q4:=(hb23.cell (zJ c4)).trans c4;have q5:=(hb23.cell (zJ c5)).trans c5;have q10:=(hb23.cell (zJ c10)).trans c10;have s6:=(hb23.cell (zJ r6)).trans r6;have s7:=(hb23.cell (zJ r7)).trans r7;have s8:=(hb23.cell (zJ r8)).trans r8;have s9:=(hb23.cell (zJ r9)).trans r9;have s11:=(hb23.cell (zJ r11)).trans r11;have s12:=(hb23.cell (zJ r12)).trans r12;cases d1 with
   | false=>
     obtain rfl:R=false:=by rw[←HR.out];try simp
     clear HR;go_wp2;go_returns;exact⟨by first|rfl|simp,B3⟩
   | true=>
   cases d2 with
   | false=>
     obtain rfl:R=false:=by rw[←HR.out];try simp
     clear HR;go_wp2;go_returns;exact⟨by first|rfl|simp,B3⟩
   | true=>
   cases d3 with
   | false=>
     obtain rfl:R=false:=by rw[←HR.out];try simp
     clear HR;go_wp2;go_returns;exact⟨by first|rfl|simp,B3⟩
   | true=>
     obtain rfl:R=d4:=by rw[←HR.out];try simp
     clear HR;go_wp2_with fail;refine(HC.out _ B3).mono ?_;rintro e w4 ⟨rfl,hb4⟩;have B4:=zA B3 hb4;go_wp2;go_returns;exact⟨by first|rfl|simp,B4⟩
theorem rpart14_5(c:S14.C)(p:S14.P)(y:Lay)(pt:Int)(n:Nat)(hn:c.bits=(n:Int))(hn16:n≤16)(hfs:0≤c.first∧c.first≤c.second∧c.second≤1000)(w:World)(hP:PIs p y w)(hk:c.kind=5) :
 Calls Tryz.prog 52 #[CV c,PV p y,.int .i64 pt] w fun e w'=>e = .returned (.bool (S14.right c p pt))∧Below w.heap.size w w':=by
 have HE:=zD fun(W:World) (hW:Below w.heap.size w W)=>rempty14_5 c p y W (hP.step hW) hk;have HSz:=zD fun W=>zaM n (by omega) W;have HC:=zD fun(W:World) (hW:Below w.heap.size w W)=>zoL p.mi p.mw _ W (hP.mix.step hW);obtain⟨R,hR⟩:∃R,S14.right c p pt=R:=⟨_,rfl⟩;rw[hR];unfold S14.right at hR;rw[zK (by omega),zK (by omega),zK (by omega),zK (by omega),zK (by omega),zU hk]at hR;obtain⟨E,hE⟩:∃E,S14.bare {p with mi:=0,mw:=[]}=E:=⟨_,rfl⟩;rw[hE]at HE hR;obtain⟨W1,hW1,k1,k2,B1⟩:=zbO w c 54 p y;have hra:=k2.mid14 (o:=13) (n:=2) (sub:=MixC p y) rfl;have c13:W1.cell? ⟨w.heap.size+1,13,none⟩=some (.int .i64 p.mi):=k2.cell 13;have c14:W1.cell? ⟨w.heap.size+1,14,none⟩=some (.slice y.a3 p.mw.length y.c3):=k2.cell 14;obtain⟨Q,hQ⟩:∃q,S13.check 16 p.mi p.mw=q:=⟨_,rfl⟩;unfold MixC at HC hra;rw[hQ]at HC hR;obtain⟨mi,hmi⟩:∃x,p.mi=x:=⟨_,rfl⟩;obtain⟨l3,hl3⟩:∃x,p.mw.length=x:=⟨_,rfl⟩;rw[hmi,hl3]at hR HC hra;rw[hmi]at c13;rw[hl3]at c14;clear hmi hl3 hQ;unfold PV at HE⊢;unfold CV at HE⊢;obtain⟨VP,hVP⟩:∃v,yG p y=v:=⟨_,rfl⟩;have HPl:=zD (show some 16=some VP.length by rw[←hVP];rfl);rw[hVP]at HE k2 hW1⊢;clear hVP;obtain⟨P,hP2⟩:∃P,2^n=P:=⟨_,rfl⟩;have hpw:=zdP hn16;rw[hP2]at HSz hpw;obtain⟨kind,bits,limit,rate,first,second⟩:=c;simp only at hk hn hR;have hfs':=zeV zcX zcX;subst hk hn;unfold zT at *;simp only at HE k1 hW1⊢;have hwp:(2:Int)^(n:Int).toNat=(P:Int):=by rw[zhR rfl,hP2]
 rw[hwp]at hR;simp only at hfs;have hw1:wrap64 (second-first)=second-first:=IntWalk.wrap64_in _ ⟨by omega,by omega⟩;have hw2:wrap64 (second-first+1)=second-first+1:=IntWalk.wrap64_in _ ⟨by omega,by omega⟩;obtain⟨d1,hd1⟩:∃d,(mi==second-first+1)=d:=⟨_,rfl⟩;obtain⟨d2,hd2⟩:∃d,((l3:Int)==(P:Int))=d:=⟨_,rfl⟩;have hd2':decide ((l3:Int)=(P:Int))=d2:=by rw[←hd2];rfl
 obtain⟨d4,hd4⟩:∃d,(Q==0)=d:=⟨_,rfl⟩;have hd4':decide (Q=0)=d4:=by rw[←hd4];rfl
 rw[hd1,hd2',hd4']at hR;clear hd4' hd2' hwp;have HR:=zD hR;clear hR hP;go_enter Tryz.func52,Tryz.ntmps52;go_wp2_with (first
  | (rw[hW1])
  | (refine yC 54 (.tmp 3) (by rfl) (by rfl) w.heap.size (by rfl) [.int .i64 5,.int .i64 (n:Int),.int .i64 limit,.int .i64 rate,.int .i64 first,.int .i64 second] 54 k1 _ Tryz.underlying54 rfl zdQ ?_)
  | (refine yC 83 (.tmp 4) (by rfl) (by rfl) (w.heap.size+1) (by rfl) VP 83 k2 _ Tryz.underlying83 rfl (info_P.trans HPl.out) ?_))
 refine(HE.out _ B1).mono ?_;rintro e w2 ⟨rfl,hb2⟩;have B2:=zA B1 hb2;have x1:=(k1.step hb2).cell 1;simp only[zrD]at x1;cases E with
 | false=>
   obtain rfl:R=false:=by rw[←HR.out];try simp
   clear HR;go_wp2;go_returns;exact⟨rfl,B2⟩
 | true=>
   go_wp2_with fail;refine(HSz.out _).mono ?_;rintro e w3 ⟨rfl,hb3⟩;have hb23:=zA hb2 hb3;have B3:=zA B1 hb23;have kk1:=k1.step hb23;have kk2:=k2.step hb23;have x0:=kk1.cell 0;have x1:=kk1.cell 1;have x2:=kk1.cell 2;have x4:=kk1.cell 4;have x5:=kk1.cell 5;simp only[zrD]at x0 x1 x2 x4 x5;have q13:=(hb23.cell (zJ c13)).trans c13;have q14:=(hb23.cell (zJ c14)).trans c14;have hra3:=zaC hra hb23;cases d1 with
   | false=>
     obtain rfl:R=false:=by rw[←HR.out];try simp
     clear HR;go_wp2;go_returns;exact⟨by first|rfl|simp,B3⟩
   | true=>
   cases d2 with
   | false=>
     obtain rfl:R=false:=by rw[←HR.out];try simp
     clear HR;go_wp2;go_returns;exact⟨by first|rfl|simp,B3⟩
   | true=>
     obtain rfl:R=d4:=by rw[←HR.out];try simp
     clear HR;go_wp2_with (first
      | (refine wpList_load_mid (by rfl) 79 (.tmp 104) (by rfl) (w.heap.size+1) 13 (by rfl) [.int .i64 mi,.slice y.a3 l3 y.c3] _ hra3 Tryz.underlying79 rfl info_Xr14 ?_))
     refine(HC.out _ B3).mono ?_;rintro e w4 ⟨rfl,hb4⟩;have B4:=zA B3 hb4;go_wp2;go_returns;exact⟨by first|rfl|simp,B4⟩
theorem rpart14_6(c:S14.C)(p:S14.P)(y:Lay)(pt:Int)(n:Nat)(hn:c.bits=(n:Int))(hn16:n≤16)(w:World)(hP:PIs p y w)(hk:c.kind=6) :
 Calls Tryz.prog 52 #[CV c,PV p y,.int .i64 pt] w fun e w'=>e = .returned (.bool (S14.right c p pt))∧Below w.heap.size w w':=by
 have HE:=zD fun(W:World) (hW:Below w.heap.size w W)=>rempty14_6 c p y W (hP.step hW) hk;have HSz:=zD fun W=>zaM n (by omega) W;obtain⟨a6,cap6,hV6,hl6,hc6,hrd6⟩:=hP.apm;have HC:=zD fun(W:World) (hW:Below w.heap.size w W)=>zoM p.ac a6 cap6 W (by omega) (hrd6.step hW);obtain⟨R,hR⟩:∃R,S14.right c p pt=R:=⟨_,rfl⟩;rw[hR];unfold S14.right at hR;rw[zK (by omega),zK (by omega),zK (by omega),zK (by omega),zK (by omega),zK (by omega),zU hk]at hR;obtain⟨E,hE⟩:∃E,S14.bare {p with ac:=[]}=E:=⟨_,rfl⟩;rw[hE]at HE hR;obtain⟨W1,hW1,k1,k2,B1⟩:=zbO w c 54 p y;have hra:=k2.mid14 (o:=15) (n:=1) (sub:=ApmC p y) rfl;have c15:W1.cell? ⟨w.heap.size+1,15,none⟩=some (.slice y.a4 p.ac.length y.c4):=k2.cell 15;obtain⟨Q,hQ⟩:∃q,S11.check p.ac=q:=⟨_,rfl⟩;unfold ApmC at hra hV6;rw[hQ]at HC hR;rw[←hV6]at HC;obtain⟨l4,hl4⟩:∃x,p.ac.length=x:=⟨_,rfl⟩;rw[hl4]at hR HC hra hl6 c15;clear hl4 hQ hV6;unfold PV at HE⊢;unfold CV at HE⊢;obtain⟨VP,hVP⟩:∃v,yG p y=v:=⟨_,rfl⟩;have HPl:=zD (show some 16=some VP.length by rw[←hVP];rfl);rw[hVP]at HE k2 hW1⊢;clear hVP;obtain⟨P,hP2⟩:∃P,2^n=P:=⟨_,rfl⟩;have hpw:=zdP hn16;rw[hP2]at HSz hpw;obtain⟨kind,bits,limit,rate,first,second⟩:=c;simp only at hk hn hR;have hfs':=zeV zcX zcX;subst hk hn;unfold zT at *;simp only at HE k1 hW1⊢;have hwp:(2:Int)^(n:Int).toNat=(P:Int):=by rw[zhR rfl,hP2]
 rw[hwp]at hR;obtain⟨d2,hd2⟩:∃d,((l4:Int)==33*(P:Int))=d:=⟨_,rfl⟩;have hd2':decide ((l4:Int)=33*(P:Int))=d2:=by rw[←hd2];rfl
 obtain⟨d4,hd4⟩:∃d,(Q==0)=d:=⟨_,rfl⟩;have hd4':decide (Q=0)=d4:=by rw[←hd4];rfl
 rw[hd2',hd4']at hR;clear hd4' hd2' hwp;have HR:=zD hR;clear hR hP;go_enter Tryz.func52,Tryz.ntmps52;go_wp2_with (first
  | (rw[hW1])
  | (refine yC 54 (.tmp 3) (by rfl) (by rfl) w.heap.size (by rfl) [.int .i64 6,.int .i64 (n:Int),.int .i64 limit,.int .i64 rate,.int .i64 first,.int .i64 second] 54 k1 _ Tryz.underlying54 rfl zdQ ?_)
  | (refine yC 83 (.tmp 4) (by rfl) (by rfl) (w.heap.size+1) (by rfl) VP 83 k2 _ Tryz.underlying83 rfl (info_P.trans HPl.out) ?_))
 refine(HE.out _ B1).mono ?_;rintro e w2 ⟨rfl,hb2⟩;have B2:=zA B1 hb2;have x1:=(k1.step hb2).cell 1;simp only[zrD]at x1;cases E with
 | false=>
   obtain rfl:R=false:=by rw[←HR.out];try simp
   clear HR;go_wp2;go_returns;exact⟨rfl,B2⟩
 | true=>
   go_wp2_with fail;refine(HSz.out _).mono ?_;rintro e w3 ⟨rfl,hb3⟩;have hb23:=zA hb2 hb3;have B3:=zA B1 hb23;have kk1:=k1.step hb23;have kk2:=k2.step hb23;have x0:=kk1.cell 0;have x1:=kk1.cell 1;have x2:=kk1.cell 2;have x4:=kk1.cell 4;have x5:=kk1.cell 5;simp only[zrD]at x0 x1 x2 x4 x5;have q15:=(hb23.cell (zJ c15)).trans c15;have hra3:=zaC hra hb23;cases d2 with
   | false=>
     obtain rfl:R=false:=by rw[←HR.out];try simp
     clear HR;go_wp2;go_returns;exact⟨by first|rfl|simp,B3⟩
   | true=>
     obtain rfl:R=d4:=by rw[←HR.out];try simp
     clear HR;go_wp2_with (first
      | (refine wpList_load_mid (by rfl) 81 (.tmp 119) (by rfl) (w.heap.size+1) 15 (by rfl) [.slice y.a4 l4 y.c4] _ hra3 Tryz.underlying81 rfl info_Ar14 ?_))
     refine(HC.out _ B3).mono ?_;rintro e w4 ⟨rfl,hb4⟩;have B4:=zA B3 hb4;go_wp2;go_returns;exact⟨by first|rfl|simp,B4⟩
theorem rpart14_2(c:S14.C)(p:S14.P)(y:Lay)(pt:Int)(n:Nat)(hn:c.bits=(n:Int))(hn16:n≤16)(hl:p.ctrs.length≤9223372036854775807)(w:World)(hP:PIs p y w)(hk:c.kind=2) :
 Calls Tryz.prog 52 #[CV c,PV p y,.int .i64 pt] w fun e w'=>e = .returned (.bool (S14.right c p pt))∧Below w.heap.size w w':=by
 have HE:=zD fun(W:World) (hW:Below w.heap.size w W)=>rempty14_2 c p y W (hP.step hW) hk;have HSz:=zD fun W=>zaM n (by omega) W;have HCt:=zD fun W=>zlF W;have HT:=zD fun(W:World) (hW:Below w.heap.size w W)=>zgG p.ctrs y.a1 y.c1 215 c.limit W hl (hP.rc.step hW);have HC:=zD fun(W:World) (hW:Below w.heap.size w W)=>(show Calls Tryz.prog 81 #[.agg #[.int .i64 p.sb,.slice y.a2 p.sd.length y.c2]] W _ from zeJ p.sb p.sd y.a2 y.c2 W (hP.tab.step hW));have HBw:=zD fun W=>zaY p.slot 0 (((2^n:Nat):Int)-1) W;obtain⟨R,hR⟩:∃R,S14.right c p pt=R:=⟨_,rfl⟩;rw[hR];unfold S14.right at hR;rw[zK (by omega),zK (by omega),zU hk]at hR;obtain⟨E,hE⟩:∃E,S14.bare {p with ctrs:=[],sb:=0,sd:=[],slot:=0}=E:=⟨_,rfl⟩;rw[hE]at HE hR;obtain⟨W1,hW1,k1,k2,B1⟩:=zbO w c 54 p y;have hra:=k2.mid14 (o:=1) (n:=2) (sub:=SlotC p y) rfl;unfold SlotC at hra;have c0:W1.cell? ⟨w.heap.size+1,0,none⟩=some (.slice y.a1 p.ctrs.length y.c1):=k2.cell 0;have c1:W1.cell? ⟨w.heap.size+1,1,none⟩=some (.int .i64 p.sb):=k2.cell 1;have c2:W1.cell? ⟨w.heap.size+1,2,none⟩=some (.slice y.a2 p.sd.length y.c2):=k2.cell 2;have c3:W1.cell? ⟨w.heap.size+1,3,none⟩=some (.int .i64 p.slot):=k2.cell 3;obtain⟨Q,hQ⟩:∃q,S10.check p.sb p.sd=q:=⟨_,rfl⟩;rw[hQ]at HC hR;obtain⟨T,hT⟩:∃q,S14.okCtrs p.ctrs 215 c.limit=q:=⟨_,rfl⟩;rw[hT]at HT hR;obtain⟨m1,hm1⟩:∃m,p.ctrs.length=m:=⟨_,rfl⟩;obtain⟨m2,hm2⟩:∃m,p.sd.length=m:=⟨_,rfl⟩;obtain⟨sb,hsb⟩:∃m,p.sb=m:=⟨_,rfl⟩;obtain⟨sl,hsl⟩:∃m,p.slot=m:=⟨_,rfl⟩;rw[hm1]at HT c0;rw[hm2,hsb]at HC hra;rw[hm2]at c2;rw[hsb]at c1 hR;rw[hsl]at c3 HBw hR;clear hm1 hm2 hsb hsl hQ hT;unfold PV at HE⊢;unfold CV at HE⊢;obtain⟨VP,hVP⟩:∃v,yG p y=v:=⟨_,rfl⟩;have HPl:=zD (show some 16=some VP.length by rw[←hVP];rfl);rw[hVP]at HE k2 hW1⊢;clear hVP;obtain⟨P,hP2⟩:∃P,2^n=P:=⟨_,rfl⟩;have hpw:=zdP hn16;rw[hP2]at HSz hpw HBw;obtain⟨kind,bits,limit,rate,first,second⟩:=c;simp only at hk hn hR;have hfs':=zeV zcX zcX;subst hk hn;unfold zT at *;simp only at HE k1 hW1⊢;have hwp:(2:Int)^(n:Int).toNat=(P:Int):=by rw[zhR rfl,hP2]
 rw[hwp]at hR;have hwP:wrap64 ((P:Int)-1)=(P:Int)-1:=IntWalk.wrap64_in _ ⟨by omega,by omega⟩;have hwP2:IntKind.i64.wrap ((P:Int)-1)=(P:Int)-1:=zdM (by omega) (by omega);obtain⟨h,hh⟩:∃q,S14.has sl 0 ((P:Int)-1)=q:=⟨_,rfl⟩;rw[hh]at HBw hR;obtain⟨d1,hd1⟩:∃d,(sb==(n:Int))=d:=⟨_,rfl⟩;obtain⟨d2,hd2⟩:∃d,(Q==0)=d:=⟨_,rfl⟩;have hd2':decide (Q=0)=d2:=by rw[←hd2];rfl
 rw[hd1,hd2']at hR;clear hd2' hh hwp;have HR:=zD hR;clear hR hP;go_enter Tryz.func52,Tryz.ntmps52;go_wp2_with (first
  | (rw[hW1])
  | (refine yC 54 (.tmp 3) (by rfl) (by rfl) w.heap.size (by rfl) [.int .i64 2,.int .i64 (n:Int),.int .i64 limit,.int .i64 rate,.int .i64 first,.int .i64 second] 54 k1 _ Tryz.underlying54 rfl zdQ ?_)
  | (refine yC 83 (.tmp 4) (by rfl) (by rfl) (w.heap.size+1) (by rfl) VP 83 k2 _ Tryz.underlying83 rfl (info_P.trans HPl.out) ?_))
 refine(HE.out _ B1).mono ?_;rintro e w2 ⟨rfl,hb2⟩;have B2:=zA B1 hb2;have x1:=(k1.step hb2).cell 1;simp only[zrD]at x1;cases E with
 | false=>
   obtain rfl:R=false:=by rw[←HR.out];try simp
   clear HR;go_wp2;go_returns;exact⟨rfl,B2⟩
 | true=>
   go_wp2_with fail;refine(HSz.out _).mono ?_;rintro e w3 ⟨rfl,hb3⟩;have hb23:=zA hb2 hb3;have B3:=zA B1 hb23;have kk1:=k1.step hb23;have kk2:=k2.step hb23;have x0:=kk1.cell 0;have x1:=kk1.cell 1;have x2:=kk1.cell 2;have x4:=kk1.cell 4;have x5:=kk1.cell 5;simp only[zrD]at x0 x1 x2 x4 x5;have q0:=(hb23.cell (zJ c0)).trans c0;have q1:=(hb23.cell (zJ c1)).trans c1;have q2:=(hb23.cell (zJ c2)).trans c2;have q3:=(hb23.cell (zJ c3)).trans c3;have hCS:Cells w3 [(⟨w.heap.size,1,none⟩,.int .i64 (n:Int)),(⟨w.heap.size,2,none⟩,.int .i64 limit),(⟨w.heap.size+1,0,none⟩,.slice y.a1 m1 y.c1),(⟨w.heap.size+1,1,none⟩,.int .i64 sb),(⟨w.heap.size+1,2,none⟩,.slice y.a2 m2 y.c2),(⟨w.heap.size+1,3,none⟩,.int .i64 sl)]:=⟨x1,x2,q0,q1,q2,q3,yJ⟩;clear c0 c1 c2 c3 kk1 kk2;cases T with
   | false=>
     obtain rfl:R=false:=by rw[←HR.out];try simp
     clear HR;go_wp2_with fail;refine zrE 27 1 [(U,[U,U,zrA,U,U]),(zrA,[zrA,zrA,U]),(zrA,[zrA,zrA,zrA,zrA,zrA,U]),(U,[zrA,zrA,zrA,zrA,zrA,zrA,U,U,U,U,U,U,U,U,U,U,U]),(zrA,[zrA,zrA,zrA,zrA,zrA,zrA,zrA,zrA,zrA,zrA,zrA,zrA,zrA,zrA,zrA,zrA,zrA,U]),(U,[zrA,zrA,zrA,zrA,zrA,zrA,zrA,zrA,zrA,zrA,zrA,zrA,zrA,zrA,zrA,zrA,zrA,zrA,U,U,U,U,U,U,U]),(zrA,[zrA,zrA,zrA,zrA,zrA,zrA,zrA,zrA,zrA,zrA,zrA,zrA,zrA,zrA,zrA,zrA,zrA,zrA,zrA,zrA,zrA,zrA,zrA,zrA,zrA,U]),(U,[zrA,zrA,zrA,zrA,zrA,zrA,zrA,zrA,zrA,zrA,zrA,zrA,zrA,zrA,zrA,zrA,zrA,zrA,zrA,zrA,zrA,zrA,zrA,zrA,zrA,zrA,U])] (Keeps w3 [(⟨w.heap.size,1,none⟩,.int .i64 (n:Int)),(⟨w.heap.size,2,none⟩,.int .i64 limit),(⟨w.heap.size+1,0,none⟩,.slice y.a1 m1 y.c1),(⟨w.heap.size+1,1,none⟩,.int .i64 sb),(⟨w.heap.size+1,2,none⟩,.slice y.a2 m2 y.c2),(⟨w.heap.size+1,3,none⟩,.int .i64 sl)]) (by kernel_rfl) (Keeps.start hCS) (fun Y Q4 F4 hY hF=> ?_);simp only[zrC]
     repeat
      apply zF (by rw[hY];rfl)
      ·intro w2 hS2;(try simp only[Keeps,Cells]at hS2);go_simp;with_reducible rfl
      simp only[zrB]
     apply zS (by rw[hY];rfl)
     ·go_simp;with_reducible exact⟨rfl,rfl⟩
     refine(HCt.out _).mono ?_;rintro e w4 ⟨rfl,hb4⟩;have hk4:=(Keeps.start hCS).step hb4;refine⟨_,rfl,hk4,?_⟩;simp only[zrB]
     repeat
      apply zF (by rw[hY];rfl)
      ·intro w2 hS2;(try simp only[Keeps,Cells]at hS2);go_simp;with_reducible rfl
      simp only[zrB]
     apply zS (by rw[hY];rfl)
     ·go_simp;with_reducible exact⟨rfl,rfl⟩
     refine(HT.out _ (zA B3 hk4.1)).mono ?_;rintro e w5 ⟨rfl,hb5⟩;have hk5:=hk4.step hb5;refine⟨_,rfl,hk5,?_⟩;simp only[zrB]
     repeat
      first
       | (apply zR (by rw[hY];rfl);simp only[zrB])
       | (apply zF (by rw[hY];rfl)
          ·intro w2 hS2;(try simp only[Keeps,Cells]at hS2);go_simp;with_reducible rfl
          simp only[zrB])
     repeat
      first
       | (apply zR (by rw[hY];rfl);simp only[zrB])
       | (refine yM (by rw[hY];rfl) (hk5) ?_;simp only[zrB])
     repeat
      first
       | (apply zR (by rw[hY];rfl);simp only[zrB])
       | (apply zF (by rw[hY];rfl)
          ·intro w2 hS2;(try simp only[Keeps,Cells]at hS2);go_simp;with_reducible rfl
          simp only[zrB])
     repeat
      first
       | (apply zR (by rw[hY];rfl);simp only[zrB])
       | (refine yM (by rw[hY];rfl) (hk5) ?_;simp only[zrB])
     repeat
      first
       | (apply zR (by rw[hY];rfl);simp only[zrB])
       | (apply zF (by rw[hY];rfl)
          ·intro w2 hS2;(try simp only[Keeps,Cells]at hS2);go_simp;with_reducible rfl
          simp only[zrB])
     refine zZ (hF.out _ _ (fun K hK=> ?_));clear hF hY;have B9:=zA B3 hk5.1;go_wp2_with fail;refine OnlyK.mk (hK.out _ _ ?_);clear hK;go_wp2;go_returns;exact⟨by first|rfl|simp,B9⟩
   | true=>
   cases d1 with
   | false=>
     obtain rfl:R=false:=by rw[←HR.out];try simp
     clear HR;go_wp2_with fail;refine zrE 27 1 [(U,[U,U,zrA,U,U]),(zrA,[zrA,zrA,U]),(zrA,[zrA,zrA,zrA,zrA,zrA,U]),(U,[zrA,zrA,zrA,zrA,zrA,zrA,U,U,U,U,U,U,U,U,U,U,U]),(zrA,[zrA,zrA,zrA,zrA,zrA,zrA,zrA,zrA,zrA,zrA,zrA,zrA,zrA,zrA,zrA,zrA,zrA,U]),(U,[zrA,zrA,zrA,zrA,zrA,zrA,zrA,zrA,zrA,zrA,zrA,zrA,zrA,zrA,zrA,zrA,zrA,zrA,U,U,U,U,U,U,U]),(zrA,[zrA,zrA,zrA,zrA,zrA,zrA,zrA,zrA,zrA,zrA,zrA,zrA,zrA,zrA,zrA,zrA,zrA,zrA,zrA,zrA,zrA,zrA,zrA,zrA,zrA,U]),(U,[zrA,zrA,zrA,zrA,zrA,zrA,zrA,zrA,zrA,zrA,zrA,zrA,zrA,zrA,zrA,zrA,zrA,zrA,zrA,zrA,zrA,zrA,zrA,zrA,zrA,zrA,U])] (Keeps w3 [(⟨w.heap.size,1,none⟩,.int .i64 (n:Int)),(⟨w.heap.size,2,none⟩,.int .i64 limit),(⟨w.heap.size+1,0,none⟩,.slice y.a1 m1 y.c1),(⟨w.heap.size+1,1,none⟩,.int .i64 sb),(⟨w.heap.size+1,2,none⟩,.slice y.a2 m2 y.c2),(⟨w.heap.size+1,3,none⟩,.int .i64 sl)]) (by kernel_rfl) (Keeps.start hCS) (fun Y Q4 F4 hY hF=> ?_);simp only[zrC]
     repeat
      apply zF (by rw[hY];rfl)
      ·intro w2 hS2;(try simp only[Keeps,Cells]at hS2);go_simp;with_reducible rfl
      simp only[zrB]
     apply zS (by rw[hY];rfl)
     ·go_simp;with_reducible exact⟨rfl,rfl⟩
     refine(HCt.out _).mono ?_;rintro e w4 ⟨rfl,hb4⟩;have hk4:=(Keeps.start hCS).step hb4;refine⟨_,rfl,hk4,?_⟩;simp only[zrB]
     repeat
      apply zF (by rw[hY];rfl)
      ·intro w2 hS2;(try simp only[Keeps,Cells]at hS2);go_simp;with_reducible rfl
      simp only[zrB]
     apply zS (by rw[hY];rfl)
     ·go_simp;with_reducible exact⟨rfl,rfl⟩
     refine(HT.out _ (zA B3 hk4.1)).mono ?_;rintro e w5 ⟨rfl,hb5⟩;have hk5:=hk4.step hb5;refine⟨_,rfl,hk5,?_⟩;simp only[zrB]
     repeat
      first
       | (apply zR (by rw[hY];rfl);simp only[zrB])
       | (apply zF (by rw[hY];rfl)
          ·intro w2 hS2;(try simp only[Keeps,Cells]at hS2);go_simp;with_reducible rfl
          simp only[zrB])
     repeat
      first
       | (apply zR (by rw[hY];rfl);simp only[zrB])
       | (refine yM (by rw[hY];rfl) (hk5) ?_;simp only[zrB])
     repeat
      first
       | (apply zR (by rw[hY];rfl);simp only[zrB])
       | (apply zF (by rw[hY];rfl)
          ·intro w2 hS2;(try simp only[Keeps,Cells]at hS2);go_simp;with_reducible rfl
          simp only[zrB])
     repeat
      first
       | (apply zR (by rw[hY];rfl);simp only[zrB])
       | (refine yM (by rw[hY];rfl) (hk5) ?_;simp only[zrB])
     repeat
      first
       | (apply zR (by rw[hY];rfl);simp only[zrB])
       | (apply zF (by rw[hY];rfl)
          ·intro w2 hS2;(try simp only[Keeps,Cells]at hS2);go_simp;with_reducible rfl
          simp only[zrB])
     refine zZ (hF.out _ _ (fun K hK=> ?_));clear hF hY;have B9:=zA B3 hk5.1;go_wp2_with fail;refine OnlyK.mk (hK.out _ _ ?_);clear hK;go_wp2;go_returns;exact⟨by first|rfl|simp,B9⟩
   | true=>
   cases d2 with
   | false=>
     obtain rfl:R=false:=by rw[←HR.out];try simp
     clear HR;go_wp2_with fail;refine zrE 27 1 [(U,[U,U,zrA,U,U]),(zrA,[zrA,zrA,U]),(zrA,[zrA,zrA,zrA,zrA,zrA,U]),(U,[zrA,zrA,zrA,zrA,zrA,zrA,U,U,U,U,U,U,U,U,U,U,U]),(zrA,[zrA,zrA,zrA,zrA,zrA,zrA,zrA,zrA,zrA,zrA,zrA,zrA,zrA,zrA,zrA,zrA,zrA,U]),(U,[zrA,zrA,zrA,zrA,zrA,zrA,zrA,zrA,zrA,zrA,zrA,zrA,zrA,zrA,zrA,zrA,zrA,zrA,U,U,U,U,U,U,U]),(zrA,[zrA,zrA,zrA,zrA,zrA,zrA,zrA,zrA,zrA,zrA,zrA,zrA,zrA,zrA,zrA,zrA,zrA,zrA,zrA,zrA,zrA,zrA,zrA,zrA,zrA,U]),(U,[zrA,zrA,zrA,zrA,zrA,zrA,zrA,zrA,zrA,zrA,zrA,zrA,zrA,zrA,zrA,zrA,zrA,zrA,zrA,zrA,zrA,zrA,zrA,zrA,zrA,zrA,U])] (Keeps w3 [(⟨w.heap.size,1,none⟩,.int .i64 (n:Int)),(⟨w.heap.size,2,none⟩,.int .i64 limit),(⟨w.heap.size+1,0,none⟩,.slice y.a1 m1 y.c1),(⟨w.heap.size+1,1,none⟩,.int .i64 sb),(⟨w.heap.size+1,2,none⟩,.slice y.a2 m2 y.c2),(⟨w.heap.size+1,3,none⟩,.int .i64 sl)]) (by kernel_rfl) (Keeps.start hCS) (fun Y Q4 F4 hY hF=> ?_);simp only[zrC]
     repeat
      apply zF (by rw[hY];rfl)
      ·intro w2 hS2;(try simp only[Keeps,Cells]at hS2);go_simp;with_reducible rfl
      simp only[zrB]
     apply zS (by rw[hY];rfl)
     ·go_simp;with_reducible exact⟨rfl,rfl⟩
     refine(HCt.out _).mono ?_;rintro e w4 ⟨rfl,hb4⟩;have hk4:=(Keeps.start hCS).step hb4;refine⟨_,rfl,hk4,?_⟩;simp only[zrB]
     repeat
      apply zF (by rw[hY];rfl)
      ·intro w2 hS2;(try simp only[Keeps,Cells]at hS2);go_simp;with_reducible rfl
      simp only[zrB]
     apply zS (by rw[hY];rfl)
     ·go_simp;with_reducible exact⟨rfl,rfl⟩
     refine(HT.out _ (zA B3 hk4.1)).mono ?_;rintro e w5 ⟨rfl,hb5⟩;have hk5:=hk4.step hb5;refine⟨_,rfl,hk5,?_⟩;simp only[zrB]
     repeat
      first
       | (apply zR (by rw[hY];rfl);simp only[zrB])
       | (apply zF (by rw[hY];rfl)
          ·intro w2 hS2;(try simp only[Keeps,Cells]at hS2);go_simp;with_reducible rfl
          simp only[zrB])
     apply zS (by rw[hY];rfl)
     ·go_simp;with_reducible exact⟨rfl,rfl⟩
     refine(HC.out _ (zA B3 hk5.1)).mono ?_;rintro e w6 ⟨rfl,hb6⟩;have hk6:=hk5.step hb6;refine⟨_,rfl,hk6,?_⟩;simp only[zrB]
     repeat
      first
       | (apply zR (by rw[hY];rfl);simp only[zrB])
       | (apply zF (by rw[hY];rfl)
          ·intro w2 hS2;(try simp only[Keeps,Cells]at hS2);go_simp;with_reducible rfl
          simp only[zrB])
     repeat
      first
       | (apply zR (by rw[hY];rfl);simp only[zrB])
       | (refine yM (by rw[hY];rfl) (hk6) ?_;simp only[zrB])
     repeat
      first
       | (apply zR (by rw[hY];rfl);simp only[zrB])
       | (apply zF (by rw[hY];rfl)
          ·intro w2 hS2;(try simp only[Keeps,Cells]at hS2);go_simp;with_reducible rfl
          simp only[zrB])
     refine zZ (hF.out _ _ (fun K hK=> ?_));clear hF hY;have B9:=zA B3 hk6.1;go_wp2_with fail;refine OnlyK.mk (hK.out _ _ ?_);clear hK;go_wp2;go_returns;exact⟨by first|rfl|simp,B9⟩
   | true=>
     obtain rfl:R=h:=by rw[←HR.out];try simp
     clear HR;go_wp2_with fail;refine zrE 27 1 [(U,[U,U,zrA,U,U]),(zrA,[zrA,zrA,U]),(zrA,[zrA,zrA,zrA,zrA,zrA,U]),(U,[zrA,zrA,zrA,zrA,zrA,zrA,U,U,U,U,U,U,U,U,U,U,U]),(zrA,[zrA,zrA,zrA,zrA,zrA,zrA,zrA,zrA,zrA,zrA,zrA,zrA,zrA,zrA,zrA,zrA,zrA,U]),(U,[zrA,zrA,zrA,zrA,zrA,zrA,zrA,zrA,zrA,zrA,zrA,zrA,zrA,zrA,zrA,zrA,zrA,zrA,U,U,U,U,U,U,U]),(zrA,[zrA,zrA,zrA,zrA,zrA,zrA,zrA,zrA,zrA,zrA,zrA,zrA,zrA,zrA,zrA,zrA,zrA,zrA,zrA,zrA,zrA,zrA,zrA,zrA,zrA,U]),(U,[zrA,zrA,zrA,zrA,zrA,zrA,zrA,zrA,zrA,zrA,zrA,zrA,zrA,zrA,zrA,zrA,zrA,zrA,zrA,zrA,zrA,zrA,zrA,zrA,zrA,zrA,U])] (Keeps w3 [(⟨w.heap.size,1,none⟩,.int .i64 (n:Int)),(⟨w.heap.size,2,none⟩,.int .i64 limit),(⟨w.heap.size+1,0,none⟩,.slice y.a1 m1 y.c1),(⟨w.heap.size+1,1,none⟩,.int .i64 sb),(⟨w.heap.size+1,2,none⟩,.slice y.a2 m2 y.c2),(⟨w.heap.size+1,3,none⟩,.int .i64 sl)]) (by kernel_rfl) (Keeps.start hCS) (fun Y Q4 F4 hY hF=> ?_);simp only[zrC]
     repeat
      apply zF (by rw[hY];rfl)
      ·intro w2 hS2;(try simp only[Keeps,Cells]at hS2);go_simp;with_reducible rfl
      simp only[zrB]
     apply zS (by rw[hY];rfl)
     ·go_simp;with_reducible exact⟨rfl,rfl⟩
     refine(HCt.out _).mono ?_;rintro e w4 ⟨rfl,hb4⟩;have hk4:=(Keeps.start hCS).step hb4;refine⟨_,rfl,hk4,?_⟩;simp only[zrB]
     repeat
      apply zF (by rw[hY];rfl)
      ·intro w2 hS2;(try simp only[Keeps,Cells]at hS2);go_simp;with_reducible rfl
      simp only[zrB]
     apply zS (by rw[hY];rfl)
     ·go_simp;with_reducible exact⟨rfl,rfl⟩
     refine(HT.out _ (zA B3 hk4.1)).mono ?_;rintro e w5 ⟨rfl,hb5⟩;have hk5:=hk4.step hb5;refine⟨_,rfl,hk5,?_⟩;simp only[zrB]
     repeat
      first
       | (apply zR (by rw[hY];rfl);simp only[zrB])
       | (apply zF (by rw[hY];rfl)
          ·intro w2 hS2;(try simp only[Keeps,Cells]at hS2);go_simp;with_reducible rfl
          simp only[zrB])
     apply zS (by rw[hY];rfl)
     ·go_simp;with_reducible exact⟨rfl,rfl⟩
     refine(HC.out _ (zA B3 hk5.1)).mono ?_;rintro e w6 ⟨rfl,hb6⟩;have hk6:=hk5.step hb6;refine⟨_,rfl,hk6,?_⟩;simp only[zrB]
     repeat
      first
       | (apply zR (by rw[hY];rfl);simp only[zrB])
       | (apply zF (by rw[hY];rfl)
          ·intro w2 hS2;(try simp only[Keeps,Cells]at hS2);go_simp;with_reducible rfl
          simp only[zrB])
     apply zS (by rw[hY];rfl)
     ·go_simp;with_reducible exact⟨rfl,rfl⟩
     refine(HBw.out _).mono ?_;rintro e w7 ⟨rfl,hb7⟩;have hk7:=hk6.step hb7;refine⟨_,rfl,hk7,?_⟩;simp only[zrB]
     repeat
      first
       | (apply zR (by rw[hY];rfl);simp only[zrB])
       | (apply zF (by rw[hY];rfl)
          ·intro w2 hS2;(try simp only[Keeps,Cells]at hS2);go_simp;with_reducible rfl
          simp only[zrB])
     refine zZ (hF.out _ _ (fun K hK=> ?_));clear hF hY;have B9:=zA B3 hk7.1;go_wp2_with fail;refine OnlyK.mk (hK.out _ _ ?_);clear hK;go_wp2;go_returns;exact⟨by first|rfl|simp,B9⟩
theorem rpart14_any(k:Nat)(c:S14.C)(p:S14.P)(y:Lay)(pt:Int)(hok:S14.ok c (k:Int)=true)(hk:k≤16)(hl:p.ctrs.length≤9223372036854775807)(w:World)(hP:PIs p y w) :
 Calls Tryz.prog 52 #[CV c,PV p y,.int .i64 pt] w fun e w'=>e = .returned (.bool (S14.right c p pt))∧Below w.heap.size w w':=by
 have hi:=S14.ok_is hok;have hb:c.bits=(c.bits.toNat:Int):=(Int.toNat_of_nonneg hi.bits.1).symm;have hb16:c.bits.toNat≤16:=by have:=hi.bits;omega
 rcases hi.kind with h|h|h|h|h|h|h
 ·exact rpart14_0 c p y pt _ hb hb16 w hP h
 ·exact rpart14_1 c p y pt _ hb hb16 hl w hP h
 ·exact rpart14_2 c p y pt _ hb hb16 hl w hP h
 ·exact rpart14_3 c p y pt _ hb hb16 w hP h
 ·exact rpart14_4 c p y pt _ hb hb16 w hP h
 ·have hm:=hi.mix h;exact rpart14_5 c p y pt _ hb hb16 ⟨hm.1,hm.2.1,by omega⟩ w hP h
 ·exact rpart14_6 c p y pt _ hb hb16 w hP h
theorem znC(N:S14.N)(L:NLay)(w:World)(hN:NIs N L w)(hl1:N.comps.length≤4611686018427387904)(hlc:∀p∈N.parts,p.ctrs.length≤9223372036854775807) :
 Calls Tryz.prog 19 #[NV N L] w fun e w'=>e = .returned (.int .i64 (S14.checkNet N))∧Below w.heap.size w w':=by
 have B0:Below w.heap.size w (w.alloc (.cells (zbP N L).toArray 26)):=(zG _ _).alloc (zE _) _;have HC:=zD fun(W:World) (hW:Below w.heap.size w W)=>zgH N.comps L.a1 L.c1 W hl1 (hN.rc.step hW);have HBw:=zD fun W=>zaY N.part 1 255 W;have HN:=zD hN;have Hlc:=zD hlc;obtain⟨R,hR⟩:∃R,S14.checkNet N=R:=⟨_,rfl⟩;rw[hR];unfold S14.checkNet at hR;have HZ:=zD (fun h=>S14.check_zero_N (l:=N.comps) h);obtain⟨E,hE⟩:∃E,S14.check N.comps=E:=⟨_,rfl⟩;rw[hE]at hR HC HZ;obtain⟨inr,hinr⟩:∃b,S14.has N.part 1 255=b:=⟨_,rfl⟩;rw[hinr]at hR HBw;unfold NV zbP at *;obtain⟨nc,hnc⟩:∃n,N.comps.length=n:=⟨_,rfl⟩;obtain⟨np,hnp⟩:∃n,N.parts.length=n:=⟨_,rfl⟩;obtain⟨nx,hnx⟩:∃n,N.ctxs.length=n:=⟨_,rfl⟩;obtain⟨pt,hpt⟩:∃n,N.part=n:=⟨_,rfl⟩;rw[hnc,hnp,hnx]at hR;rw[hnc]at HZ HC;rw[hnc,hnp,hnx,hpt]at B0;rw[hpt]at HBw;rw[hnc,hnp,hnx,hpt];have Hnc:=zD hnc;have Hnp:=zD hnp;have Hpt:=zD hpt;clear hnc hnp hnx hpt hN hlc hE hinr hl1;obtain⟨W0,hW0⟩:∃W0,w.alloc (.cells #[.slice L.a1 nc L.c1,.slice L.a2 np L.c2,.slice L.a3 nx L.c3,.int .i64 pt] 26)=W0:=⟨_,rfl⟩;have k0:Blk W0 w.heap.size [.slice L.a1 nc L.c1,.slice L.a2 np L.c2,.slice L.a3 nx L.c3,.int .i64 pt] 26:=by rw[←hW0];exact Blk.new w _ _
 rw[show([.slice L.a1 nc L.c1,.slice L.a2 np L.c2,.slice L.a3 nx L.c3,.int .i64 pt]:List Value).toArray = #[.slice L.a1 nc L.c1,.slice L.a2 np L.c2,.slice L.a3 nx L.c3,.int .i64 pt]from rfl,hW0]at B0;have HC0:=zD (HC.out W0 B0);clear HC;by_cases hE0:E=0
 ·subst hE0;obtain⟨h1c,h16c,hok⟩:=HZ.out rfl;have Hok:=zD hok;rw[zK (by simp)]at hR;clear HZ hok;by_cases hnp:np=nc
  ·by_cases hnx:nx=16
   ·rw[zK (by omega)]at hR;have e1:((np:Int) != (nc:Int))=false:=by simp[hnp]
    have e2:((nx:Int) != 16)=false:=by simp[hnx]
    have Hnp2:=zD hnp;clear hnp hnx;cases inr with
    | false=>
      rw[zU rfl]at hR;subst hR;have c0:=k0.cell 0;have c1:=k0.cell 1;have c2:=k0.cell 2;have c3:=k0.cell 3;simp only[zrD]at c0 c1 c2 c3;go_enter Tryz.func19,Tryz.ntmps19;go_wp2_with (rw[hW0]);refine HC0.out.mono ?_;rintro e w1 ⟨rfl,hb1⟩;have k1:=k0.step hb1;have B1:=zA B0 hb1;clear c0 c1 c2 c3 k0;have k0:=k1;have c0:=k0.cell 0;have c1:=k0.cell 1;have c2:=k0.cell 2;have c3:=k0.cell 3;simp only[zrD]at c0 c1 c2 c3;go_wp2_with fail;refine(HBw.out _).mono ?_;rintro e w2 ⟨rfl,hb2⟩;have B2:=zA B1 hb2;go_wp2;go_returns;exact⟨rfl,B2⟩
    | true=>
      rw[zK (by simp)]at hR;have HR2:=zD hR;clear hR;have c0:=k0.cell 0;have c1:=k0.cell 1;have c2:=k0.cell 2;have c3:=k0.cell 3;simp only[zrD]at c0 c1 c2 c3;go_enter Tryz.func19,Tryz.ntmps19;go_wp2_with (rw[hW0]);refine HC0.out.mono ?_;rintro e w1 ⟨rfl,hb1⟩;have k1:=k0.step hb1;have B1:=zA B0 hb1;clear c0 c1 c2 c3 k0;have k0:=k1;have c0:=k0.cell 0;have c1:=k0.cell 1;have c2:=k0.cell 2;have c3:=k0.cell 3;simp only[zrD]at c0 c1 c2 c3;go_wp2_with fail;refine(HBw.out _).mono ?_;rintro e w2 ⟨rfl,hb2⟩;have k2:=k1.step hb2;have B2:=zA B1 hb2;clear c0 c1 c2 c3 k0;have k0:=k2;have c0:=k0.cell 0;have c1:=k0.cell 1;have c2:=k0.cell 2;have c3:=k0.cell 3;simp only[zrD]at c0 c1 c2 c3;go_wp2_with fail;clear c0 c1 c2 c3 k0 e1 e2
      go_loopw [4] (fun i wr=>∃(k:Nat),k≤np∧i = .int .i64 (k:Int)∧Hid (∀(j:Nat) (c:S14.C) (p:S14.P),j<k→N.comps[j]? = some c→N.parts[j]? = some p→S14.right c p pt=true)∧
       Blk wr w.heap.size [.slice L.a1 nc L.c1,.slice L.a2 np L.c2,.slice L.a3 nx L.c3,.int .i64 pt] 26∧Below w.heap.size w wr) (fun i _=>np-(intOf i).toNat)
      case atStart=>exact⟨0,by omega,rfl,zD (fun j c p hj=>by omega),k2,B2⟩
      case round=>
       clear k1 k2 B1 B2;obtain⟨k,hk,rfl,hall,k0,hB⟩:=hrel;by_cases hlt:k<np
       ·have hkz:(k:Int)<(nc:Int):=by have:=Hnp2.out;omega
        have hkz2:(k:Int)<(np:Int):=by omega
        obtain⟨x,hx⟩:∃x,N.comps[k]? = some x:=⟨_,zI (by have:=Hnc.out;have:=Hnp2.out;omega)⟩;obtain⟨g,o,hga,hcsC⟩:=HN.out.rc (fun e=>by have h1:=yQ List.length e;rw[yT]at h1;simp at h1;have:=Hnc.out;omega);obtain⟨g2,o2,p,y,hga2,hp,hy,hrgP,hPI⟩:=HN.out.part_at (k:=k) (by have:=Hnp.out;omega)
        have hrgC:w.rangeAt g (o+k*6) (zT x):=fun j v hv=>by
         have hj:j<6:=(List.getElem?_eq_some_iff.1 hv).1;have h1:=hcsC (6*k+j) v ((zoC _ hx hj).trans hv);rw[show o+(6*k+j)=o+k*6+j by omega]at h1;exact h1
        have Hx:=zD hx;have Hp:=zD hp;have hokx:=Hok.out k x hx;have hX2:=fun(W:World) (hW:Below w.heap.size w W)=>rpart14_any k x p y N.part hokx (by omega) (Hlc.out p (yN hp)) W (hPI.step hW);obtain⟨q,hq⟩:∃q,S14.right x p N.part=q:=⟨_,rfl⟩;rw[hq,Hpt.out]at hX2;rw[Hpt.out]at hq;have Hq:=zD hq
        have HBad:=zD (fun(x':S14.C) (h1:N.comps[k]? = some x') (h2:N.parts[k]? = some p) (h3:S14.right x p pt=false)=>(show R=3 by
         rw[←HR2.out];refine zK (fun hA=> ?_);have:=hA k x p hx hp;rw[Hpt.out,h3]at this;cases this))
        rw[hga2]at k0⊢;rw[hga]at k0⊢;unfold PV CV at hX2;have hi16:some 16=some (yG p y).length:=rfl;obtain⟨PQ,hPQ⟩:∃PQ,yG p y=PQ:=⟨_,rfl⟩;rw[hPQ]at hX2 hrgP hi16;have HI16:=zD hi16;have hrp:=fun(W:World) (hW:Below wr.heap.size wr W)=>zaC hrgP (zA hB hW);have hrc:=fun(W:World) (hW:Below wr.heap.size wr W)=>zaC hrgC (zA hB hW);have hCS:Cells wr [(⟨w.heap.size,0,none⟩,.slice (some ⟨g,o,none⟩) nc L.c1),(⟨w.heap.size,1,none⟩,.slice (some ⟨g2,o2,none⟩) np L.c2),(⟨w.heap.size,3,none⟩,.int .i64 pt)]:=⟨k0.cell 0,k0.cell 1,k0.cell 3,yJ⟩;have hS0:=Keeps.start hCS;have HX:=zD (fun(W:World) (hW:Below wr.heap.size wr W)=>hX2 W (zA hB hW));have c01:=k0.cell 1;simp only[zrD]at c01;clear hX2 hPQ hx hp hy hq hrgP hPI hga hga2 hokx hi16 hrgC;go_wp2_with fail;refine zrE 14 0 [(U,[U,U,U,U]),(U,[zrA,zrA,zrA,zrA,U]),(U,[zrA,zrA,zrA,zrA,zrA,U,U,U,U]),(U,[zrA,zrA,zrA,zrA,zrA,zrA,zrA,zrA,zrA,U]),(U,[zrA,zrA,zrA,zrA,zrA,zrA,zrA,zrA,zrA,zrA,U,U]),(zrA,[zrA,zrA,zrA,zrA,zrA,zrA,zrA,zrA,zrA,zrA,zrA,zrA,U]),(U,[zrA,zrA,zrA,zrA,zrA,zrA,zrA,zrA,zrA,zrA,zrA,zrA,zrA,U])] (Keeps wr [(⟨w.heap.size,0,none⟩,.slice (some ⟨g,o,none⟩) nc L.c1),(⟨w.heap.size,1,none⟩,.slice (some ⟨g2,o2,none⟩) np L.c2),(⟨w.heap.size,3,none⟩,.int .i64 pt)]) (by kernel_rfl) (Keeps.start hCS) (fun Y Q4 F4 hY hF=> ?_);simp only[zrC]
        repeat
         apply zF (by rw[hY];rfl)
         ·intro w2 hS2;(try simp only[Keeps,Cells]at hS2);go_simp;with_reducible rfl
         simp only[zrB]
        repeat
         first
          | (apply zF (by rw[hY];rfl)
             ·intro w2 hS2;exact zfA 83 (.tmp 43) (by rfl) g2 (o2+k*16) (by rfl) PQ (hrp w2 hS2.1) _ Tryz.underlying83 rfl (info_P.trans HI16.out)
             simp only[zrB])
          | (apply zF (by rw[hY];rfl)
             ·intro w2 hS2;exact zfA 54 (.tmp 38) (by rfl) g (o+k*6) (by rfl) (zT x) (hrc w2 hS2.1) _ Tryz.underlying54 rfl zdQ
             simp only[zrB])
          | (apply zF (by rw[hY];rfl)
             ·intro w2 hS2;(try simp only[Keeps,Cells]at hS2);go_simp;with_reducible rfl
             simp only[zrB])
        apply zS (by rw[hY];rfl)
        ·go_simp;with_reducible exact⟨rfl,rfl⟩
        refine(HX.out _ hS0.1).mono ?_;rintro e w6 ⟨rfl,hb6⟩;have hk6:=hS0.step hb6;refine⟨_,rfl,hk6,?_⟩;simp only[zrB]
        repeat
         apply zF (by rw[hY];rfl)
         ·intro w2 hS2;(try simp only[Keeps,Cells]at hS2);go_simp;with_reducible rfl
         simp only[zrB]
        refine zZ (hF.out _ _ (fun K hK=> ?_));clear hF hY;refine OnlyK.mk (hK.out _ _ ?_);clear hK;have B7:=zA hB hk6.1;have k07:=k0.step hk6.1;cases q with
        | false=>
          obtain rfl:=HBad.out x Hx.out Hp.out Hq.out;go_wp2;go_returns;exact⟨rfl,B7⟩
        | true=>
          go_wp2;go_roundw
          case rel=>
           refine⟨k+1,by omega,by simp,zD (fun j c' p' hj h1 h2=> ?_),k07,B7⟩;rcases Nat.lt_succ_iff_lt_or_eq.1 hj with h|rfl
           ·exact hall.out j c' p' h h1 h2
           ·have e1:=Hx.out;rw[h1]at e1;cases e1;have e2:=Hp.out;rw[h2]at e2;cases e2;exact Hq.out
          case measure=>simp[intOf];omega
       ·obtain rfl:k=np:=by omega
        have hR0:R=0:=by
         rw[←HR2.out];refine zU (fun j c p h1 h2=> ?_);rw[Hpt.out];exact hall.out j c p (by have:=(List.getElem?_eq_some_iff.1 h2).1;have:=Hnp.out;omega) h1 h2
        subst hR0;have c01:=k0.cell 1;simp only[zrD]at c01;go_wp2;go_returns;exact⟨rfl,hB⟩
   ·rw[zU (.inr hnx)]at hR;subst hR;have e1:((np:Int) != (nc:Int))=false:=by simp[hnp]
    have e2:((nx:Int) != 16)=true:=by simp;omega
    clear hnp hnx;have c0:=k0.cell 0;have c1:=k0.cell 1;have c2:=k0.cell 2;have c3:=k0.cell 3;simp only[zrD]at c0 c1 c2 c3;go_enter Tryz.func19,Tryz.ntmps19;go_wp2_with (rw[hW0]);refine HC0.out.mono ?_;rintro e w1 ⟨rfl,hb1⟩;have k1:=k0.step hb1;have B1:=zA B0 hb1;clear c0 c1 c2 c3 k0;have k0:=k1;have c0:=k0.cell 0;have c1:=k0.cell 1;have c2:=k0.cell 2;have c3:=k0.cell 3;simp only[zrD]at c0 c1 c2 c3;go_wp2;go_returns;exact⟨rfl,B1⟩
  ·rw[zU (.inl hnp)]at hR;subst hR;have e1:((np:Int) != (nc:Int))=true:=by simp;omega
   clear hnp;have c0:=k0.cell 0;have c1:=k0.cell 1;have c2:=k0.cell 2;have c3:=k0.cell 3;simp only[zrD]at c0 c1 c2 c3;go_enter Tryz.func19,Tryz.ntmps19;go_wp2_with (rw[hW0]);refine HC0.out.mono ?_;rintro e w1 ⟨rfl,hb1⟩;have k1:=k0.step hb1;have B1:=zA B0 hb1;clear c0 c1 c2 c3 k0;have k0:=k1;have c0:=k0.cell 0;have c1:=k0.cell 1;have c2:=k0.cell 2;have c3:=k0.cell 3;simp only[zrD]at c0 c1 c2 c3;go_wp2;go_returns;exact⟨rfl,B1⟩
 ·rw[zU hE0]at hR;subst hR;have e0:(E != 0)=true:=by simp[hE0]
  clear hE0;have c0:=k0.cell 0;have c1:=k0.cell 1;have c2:=k0.cell 2;have c3:=k0.cell 3;simp only[zrD]at c0 c1 c2 c3;go_enter Tryz.func19,Tryz.ntmps19;go_wp2_with (rw[hW0]);refine HC0.out.mono ?_;rintro e w1 ⟨rfl,hb1⟩;have B1:=zA B0 hb1;go_wp2;go_returns;exact⟨rfl,B1⟩
