/- A part of the proof of L14n. No condition. -/
import Derived.Test.YtieeogndnhighaaGreatZL14nba
import Derived.Test.YtieeogndnhighaaGreatZL14nbs
set_option linter.all false
set_option maxRecDepth 100000
set_option maxHeartbeats 40000000
namespace Go.Proofs.YtieeogndnhighaaGreat
open Go.RowKit
theorem zdM{x:Int}(h1 : -9223372036854775808≤x)(h2:x≤9223372036854775807):IntKind.i64.wrap x=x:=by
 rw[zfZ];omega
theorem zmX(c:S14.C)(p:S14.P)(y:Lay)(pt:Int)(n P:Nat)(hn:n≤16)(hb:c.bits=n)(hP2:2^n=P)(w:World)(hP:PIs p y w) :
 Calls Tryz.prog 288 #[CV c,PV p y,.int .i64 pt] w fun e w'=>e = .returned (.bool (S14.bare {p with ac:=[]}&&decide ((p.ac.length:Int)=33*(P:Int))&&decide (S11.check p.ac=0)))∧Below w.heap.size w w':=by
 have hp:=zdP hn;rw[hP2]at hp;have HS:=zD fun W=>zdE c n P hn hb hP2 W;have HB:=zD fun W=>zdH {p with ac:=[]} {y with a4:=none,c4:=0} W hP.mch.lh hP.mch.lb hP.mch.lc;obtain⟨am,cm,hVe,hm1,hm2,hmr⟩:=hP.apm;have hVe:Value.agg #[.slice y.a4 p.ac.length y.c4] = .agg #[.slice am p.ac.length cm]:=hVe;obtain⟨rfl,rfl⟩:y.a4=am∧y.c4=cm:=by simpa using hVe
 have HC:=zD fun(W:World) (hW:Below w.heap.size w W)=>check11_any p.ac y.a4 y.c4 W (by omega) (hmr.step hW);obtain⟨W1,hW1,k1,k2,B1⟩:=zbO w c 121 p y;have c15:=k2.cell 15;have k3:=k2.set 15 (.slice none 0 0);have c15f:=k2.free 15;have hz:(yG p y).set 15 (.slice none 0 0)=yG {p with ac:=[]} {y with a4:=none,c4:=0}:=rfl;rw[hz]at k3;have hc15:(yG p y)[15]? = some (.slice y.a4 p.ac.length y.c4):=rfl;rw[hc15]at c15;unfold PV at HB⊢;unfold CV at HS⊢;obtain⟨VP,hVP⟩:∃v,yG p y=v:=⟨_,rfl⟩;obtain⟨VZ,hVZ⟩:∃v,yG {p with ac:=[]} {y with a4:=none,c4:=0}=v:=⟨_,rfl⟩;have hVZl:some 16=some VZ.length:=by rw[←hVZ];rfl
 rw[hVP]at hW1 k2⊢;rw[hVZ]at HB k3;obtain⟨q,hq⟩:∃q,S14.bare {p with ac:=[]}=q:=⟨_,rfl⟩;rw[hq]at HB⊢;obtain⟨E,hE⟩:∃q,S11.check p.ac=q:=⟨_,rfl⟩;rw[hE]at HC⊢;obtain⟨m,hm⟩:∃m,p.ac.length=m:=⟨_,rfl⟩;rw[hm]at HC c15 hm1⊢;obtain⟨kind,bits,limit,rate,first,second⟩:=c;unfold zT at *;simp only at HS k1 hW1⊢;clear hq hE hm hb hP hVe hVP hVZ hz hc15 hmr;obtain⟨T,hT⟩:∃T:Int,33*(P:Int)=T:=⟨_,rfl⟩;have hwT:IntKind.i64.wrap (33*(P:Int))=T:=by rw[hT];exact zdM (by omega) (by omega)
 rw[hT];obtain⟨d,hd⟩:∃d,decide ((m:Int)=T)=d:=⟨_,rfl⟩;have hcmp:((m:Int)==T)=d:=by rw[←hd];rfl
 rw[hd];clear hd hT;have hW1s:W1.heap.size=w.heap.size+2:=by rw[←hW1];simp
 go_enter Tryz.func288,Tryz.ntmps288;go_wp2_with (rw[hW1]);obtain⟨W3,hW3⟩:∃W,W1.setCell ⟨w.heap.size+1,15,none⟩ (.slice none 0 0)=W:=⟨_,rfl⟩;have hW3s:W3.heap.size=w.heap.size+2:=by rw[←hW3];simp[hW1s]
 have k1':=k1.other (w.heap.size+1) 15 (.slice none 0 0) (by omega);have B3:Below w.heap.size w (W1.setCell ⟨w.heap.size+1,15,none⟩ (.slice none 0 0)):=B1.setCell (p:=⟨w.heap.size+1,15,none⟩) (by simp) _;rw[hW3]at k1' B3 k3⊢;obtain⟨W4,hW4⟩:∃W,W3.alloc (.cells #[.slice y.a4 m y.c4] 81)=W:=⟨_,rfl⟩;have k1':=k1'.alloc (.cells #[.slice y.a4 m y.c4] 81);have k3:=k3.alloc (.cells #[.slice y.a4 m y.c4] 81);have k7:=Blk.new W3 [.slice y.a4 m y.c4] 81;have B4:=B3.alloc B3.size (.cells #[.slice y.a4 m y.c4] 81);rw[hW3s,show W3.alloc (.cells [.slice y.a4 m y.c4].toArray 81)=W4 from hW4]at k7;rw[hW4]at k1' B4 k3⊢;clear hW4 hW3 hW3s B3 hW1 hW1s k1 k2 B1 c15 c15f;have hCS:Cells W4 [(⟨w.heap.size,0,none⟩,.int .i64 kind),(⟨w.heap.size,1,none⟩,.int .i64 bits),(⟨w.heap.size,2,none⟩,.int .i64 limit),(⟨w.heap.size,3,none⟩,.int .i64 rate),(⟨w.heap.size,4,none⟩,.int .i64 first),(⟨w.heap.size,5,none⟩,.int .i64 second),(⟨w.heap.size+2,0,none⟩,.slice y.a4 m y.c4)]:=⟨k1'.cell 0,k1'.cell 1,k1'.cell 2,k1'.cell 3,k1'.cell 4,k1'.cell 5,k7.cell 0,yJ⟩;have HBs:=zD HB;clear HB;cases d with
 | true=>
   cases q with
   | false=>
     go_wp2_with fail;refine zrE 17 1 [(U,[U]),(zrA,[zrA,U]),(U,[zrA,zrA,U,U,U,U,U,U]),(zrA,[zrA,zrA,zrA,zrA,zrA,zrA,zrA,zrA,U]),(U,[zrA,zrA,zrA,zrA,zrA,zrA,zrA,zrA,zrA,U,U,U,U,U]),(zrA,[zrA,zrA,zrA,zrA,zrA,zrA,zrA,zrA,zrA,zrA,zrA,zrA,zrA,zrA,U]),(U,[zrA,zrA,zrA,zrA,zrA,zrA,zrA,zrA,zrA,zrA,zrA,zrA,zrA,zrA,zrA,U,U])] (Keeps W4 [(⟨w.heap.size,0,none⟩,.int .i64 kind),(⟨w.heap.size,1,none⟩,.int .i64 bits),(⟨w.heap.size,2,none⟩,.int .i64 limit),(⟨w.heap.size,3,none⟩,.int .i64 rate),(⟨w.heap.size,4,none⟩,.int .i64 first),(⟨w.heap.size,5,none⟩,.int .i64 second),(⟨w.heap.size+2,0,none⟩,.slice y.a4 m y.c4)]) (by kernel_rfl) (Keeps.start hCS) (fun Y Q4 F4 hY hF=> ?_);simp only[zrC]
     repeat
      apply zF (by rw[hY];rfl)
      ·intro w2 hS2;(try simp only[Keeps,Cells]at hS2);go_simp;with_reducible rfl
      simp only[zrB]
     apply zF (by rw[hY];rfl)
     ·intro w2 hS2;exact zbZ 83 (.tmp 4) (by rfl) (w.heap.size+1) (by rfl) VZ (k3.step hS2.1).cells _ Tryz.underlying83 rfl (info_P.trans hVZl)
     simp only[zrB];apply zS (by rw[hY];rfl)
     ·go_simp;with_reducible exact⟨rfl,rfl⟩
     refine(HBs.out.out _).mono ?_;rintro e w3 ⟨rfl,hb3⟩;have hk3:=(Keeps.start hCS).step hb3;refine⟨_,rfl,hk3,?_⟩;simp only[zrB]
     repeat
      apply zF (by rw[hY];rfl)
      ·intro w2 hS2;(try simp only[Keeps,Cells]at hS2);go_simp;with_reducible rfl
      simp only[zrB]
     repeat
      first
       | (apply zR (by rw[hY];rfl);simp only[zrB])
       | (refine yM (by rw[hY];rfl) (hk3) ?_;simp only[zrB])
     repeat
      apply zF (by rw[hY];rfl)
      ·intro w2 hS2;(try simp only[Keeps,Cells]at hS2);go_simp;with_reducible rfl
      simp only[zrB]
     repeat
      first
       | (apply zR (by rw[hY];rfl);simp only[zrB])
       | (refine yM (by rw[hY];rfl) (hk3) ?_;simp only[zrB])
     repeat
      apply zF (by rw[hY];rfl)
      ·intro w2 hS2;(try simp only[Keeps,Cells]at hS2);go_simp;with_reducible rfl
      simp only[zrB]
     refine zZ (hF.out _ _ (fun K hK=> ?_));clear hF hY;have B9:=zA B4 hk3.1;go_wp2_with fail;refine OnlyK.mk (hK.out _ _ ?_);clear hK;go_wp2;go_returns;exact⟨yZ (by simp),B9⟩
   | true=>
     go_wp2_with fail;refine zrE 17 1 [(U,[U]),(zrA,[zrA,U]),(U,[zrA,zrA,U,U,U,U,U,U]),(zrA,[zrA,zrA,zrA,zrA,zrA,zrA,zrA,zrA,U]),(U,[zrA,zrA,zrA,zrA,zrA,zrA,zrA,zrA,zrA,U,U,U,U,U]),(zrA,[zrA,zrA,zrA,zrA,zrA,zrA,zrA,zrA,zrA,zrA,zrA,zrA,zrA,zrA,U]),(U,[zrA,zrA,zrA,zrA,zrA,zrA,zrA,zrA,zrA,zrA,zrA,zrA,zrA,zrA,zrA,U,U])] (Keeps W4 [(⟨w.heap.size,0,none⟩,.int .i64 kind),(⟨w.heap.size,1,none⟩,.int .i64 bits),(⟨w.heap.size,2,none⟩,.int .i64 limit),(⟨w.heap.size,3,none⟩,.int .i64 rate),(⟨w.heap.size,4,none⟩,.int .i64 first),(⟨w.heap.size,5,none⟩,.int .i64 second),(⟨w.heap.size+2,0,none⟩,.slice y.a4 m y.c4)]) (by kernel_rfl) (Keeps.start hCS) (fun Y Q4 F4 hY hF=> ?_);simp only[zrC]
     repeat
      apply zF (by rw[hY];rfl)
      ·intro w2 hS2;(try simp only[Keeps,Cells]at hS2);go_simp;with_reducible rfl
      simp only[zrB]
     apply zF (by rw[hY];rfl)
     ·intro w2 hS2;exact zbZ 83 (.tmp 4) (by rfl) (w.heap.size+1) (by rfl) VZ (k3.step hS2.1).cells _ Tryz.underlying83 rfl (info_P.trans hVZl)
     simp only[zrB];apply zS (by rw[hY];rfl)
     ·go_simp;with_reducible exact⟨rfl,rfl⟩
     refine(HBs.out.out _).mono ?_;rintro e w3 ⟨rfl,hb3⟩;have hk3:=(Keeps.start hCS).step hb3;refine⟨_,rfl,hk3,?_⟩;simp only[zrB]
     repeat
      apply zF (by rw[hY];rfl)
      ·intro w2 hS2;(try simp only[Keeps,Cells]at hS2);go_simp;with_reducible rfl
      simp only[zrB]
     apply zS (by rw[hY];rfl)
     ·go_simp;with_reducible exact⟨rfl,rfl⟩
     refine(HS.out _).mono ?_;rintro e w4 ⟨rfl,hb4⟩;have hk4:=hk3.step hb4;refine⟨_,rfl,hk4,?_⟩;simp only[zrB]
     repeat
      apply zF (by rw[hY];rfl)
      ·intro w2 hS2;(try simp only[Keeps,Cells]at hS2);go_simp;with_reducible rfl
      simp only[zrB]
     apply zS (by rw[hY];rfl)
     ·go_simp;with_reducible exact⟨rfl,rfl⟩
     refine(HC.out _ (zA B4 hk4.1)).mono ?_;rintro e w5 ⟨rfl,hb5⟩;have hk5:=hk4.step hb5;refine⟨_,rfl,hk5,?_⟩;simp only[zrB]
     repeat
      apply zF (by rw[hY];rfl)
      ·intro w2 hS2;(try simp only[Keeps,Cells]at hS2);go_simp;with_reducible rfl
      simp only[zrB]
     refine zZ (hF.out _ _ (fun K hK=> ?_));clear hF hY;have B9:=zA B4 hk5.1;go_wp2_with fail;refine OnlyK.mk (hK.out _ _ ?_);clear hK;go_wp2;go_returns;exact⟨yZ (by first|(simp;done)|(simp;rfl)|rfl),B9⟩
 | false=>
   cases q with
   | false=>
     go_wp2_with fail;refine zrE 17 1 [(U,[U]),(zrA,[zrA,U]),(U,[zrA,zrA,U,U,U,U,U,U]),(zrA,[zrA,zrA,zrA,zrA,zrA,zrA,zrA,zrA,U]),(U,[zrA,zrA,zrA,zrA,zrA,zrA,zrA,zrA,zrA,U,U,U,U,U]),(zrA,[zrA,zrA,zrA,zrA,zrA,zrA,zrA,zrA,zrA,zrA,zrA,zrA,zrA,zrA,U]),(U,[zrA,zrA,zrA,zrA,zrA,zrA,zrA,zrA,zrA,zrA,zrA,zrA,zrA,zrA,zrA,U,U])] (Keeps W4 [(⟨w.heap.size,0,none⟩,.int .i64 kind),(⟨w.heap.size,1,none⟩,.int .i64 bits),(⟨w.heap.size,2,none⟩,.int .i64 limit),(⟨w.heap.size,3,none⟩,.int .i64 rate),(⟨w.heap.size,4,none⟩,.int .i64 first),(⟨w.heap.size,5,none⟩,.int .i64 second),(⟨w.heap.size+2,0,none⟩,.slice y.a4 m y.c4)]) (by kernel_rfl) (Keeps.start hCS) (fun Y Q4 F4 hY hF=> ?_);simp only[zrC]
     repeat
      apply zF (by rw[hY];rfl)
      ·intro w2 hS2;(try simp only[Keeps,Cells]at hS2);go_simp;with_reducible rfl
      simp only[zrB]
     apply zF (by rw[hY];rfl)
     ·intro w2 hS2;exact zbZ 83 (.tmp 4) (by rfl) (w.heap.size+1) (by rfl) VZ (k3.step hS2.1).cells _ Tryz.underlying83 rfl (info_P.trans hVZl)
     simp only[zrB];apply zS (by rw[hY];rfl)
     ·go_simp;with_reducible exact⟨rfl,rfl⟩
     refine(HBs.out.out _).mono ?_;rintro e w3 ⟨rfl,hb3⟩;have hk3:=(Keeps.start hCS).step hb3;refine⟨_,rfl,hk3,?_⟩;simp only[zrB]
     repeat
      apply zF (by rw[hY];rfl)
      ·intro w2 hS2;(try simp only[Keeps,Cells]at hS2);go_simp;with_reducible rfl
      simp only[zrB]
     repeat
      first
       | (apply zR (by rw[hY];rfl);simp only[zrB])
       | (refine yM (by rw[hY];rfl) (hk3) ?_;simp only[zrB])
     repeat
      apply zF (by rw[hY];rfl)
      ·intro w2 hS2;(try simp only[Keeps,Cells]at hS2);go_simp;with_reducible rfl
      simp only[zrB]
     repeat
      first
       | (apply zR (by rw[hY];rfl);simp only[zrB])
       | (refine yM (by rw[hY];rfl) (hk3) ?_;simp only[zrB])
     repeat
      apply zF (by rw[hY];rfl)
      ·intro w2 hS2;(try simp only[Keeps,Cells]at hS2);go_simp;with_reducible rfl
      simp only[zrB]
     refine zZ (hF.out _ _ (fun K hK=> ?_));clear hF hY;have B9:=zA B4 hk3.1;go_wp2_with fail;refine OnlyK.mk (hK.out _ _ ?_);clear hK;go_wp2;go_returns;exact⟨yZ (by simp),B9⟩
   | true=>
     go_wp2_with fail;refine zrE 17 1 [(U,[U]),(zrA,[zrA,U]),(U,[zrA,zrA,U,U,U,U,U,U]),(zrA,[zrA,zrA,zrA,zrA,zrA,zrA,zrA,zrA,U]),(U,[zrA,zrA,zrA,zrA,zrA,zrA,zrA,zrA,zrA,U,U,U,U,U]),(zrA,[zrA,zrA,zrA,zrA,zrA,zrA,zrA,zrA,zrA,zrA,zrA,zrA,zrA,zrA,U]),(U,[zrA,zrA,zrA,zrA,zrA,zrA,zrA,zrA,zrA,zrA,zrA,zrA,zrA,zrA,zrA,U,U])] (Keeps W4 [(⟨w.heap.size,0,none⟩,.int .i64 kind),(⟨w.heap.size,1,none⟩,.int .i64 bits),(⟨w.heap.size,2,none⟩,.int .i64 limit),(⟨w.heap.size,3,none⟩,.int .i64 rate),(⟨w.heap.size,4,none⟩,.int .i64 first),(⟨w.heap.size,5,none⟩,.int .i64 second),(⟨w.heap.size+2,0,none⟩,.slice y.a4 m y.c4)]) (by kernel_rfl) (Keeps.start hCS) (fun Y Q4 F4 hY hF=> ?_);simp only[zrC]
     repeat
      apply zF (by rw[hY];rfl)
      ·intro w2 hS2;(try simp only[Keeps,Cells]at hS2);go_simp;with_reducible rfl
      simp only[zrB]
     apply zF (by rw[hY];rfl)
     ·intro w2 hS2;exact zbZ 83 (.tmp 4) (by rfl) (w.heap.size+1) (by rfl) VZ (k3.step hS2.1).cells _ Tryz.underlying83 rfl (info_P.trans hVZl)
     simp only[zrB];apply zS (by rw[hY];rfl)
     ·go_simp;with_reducible exact⟨rfl,rfl⟩
     refine(HBs.out.out _).mono ?_;rintro e w3 ⟨rfl,hb3⟩;have hk3:=(Keeps.start hCS).step hb3;refine⟨_,rfl,hk3,?_⟩;simp only[zrB]
     repeat
      apply zF (by rw[hY];rfl)
      ·intro w2 hS2;(try simp only[Keeps,Cells]at hS2);go_simp;with_reducible rfl
      simp only[zrB]
     apply zS (by rw[hY];rfl)
     ·go_simp;with_reducible exact⟨rfl,rfl⟩
     refine(HS.out _).mono ?_;rintro e w4 ⟨rfl,hb4⟩;have hk4:=hk3.step hb4;refine⟨_,rfl,hk4,?_⟩;simp only[zrB]
     repeat
      apply zF (by rw[hY];rfl)
      ·intro w2 hS2;(try simp only[Keeps,Cells]at hS2);go_simp;with_reducible rfl
      simp only[zrB]
     repeat
      first
       | (apply zR (by rw[hY];rfl);simp only[zrB])
       | (refine yM (by rw[hY];rfl) (hk4) ?_;simp only[zrB])
     repeat
      apply zF (by rw[hY];rfl)
      ·intro w2 hS2;(try simp only[Keeps,Cells]at hS2);go_simp;with_reducible rfl
      simp only[zrB]
     refine zZ (hF.out _ _ (fun K hK=> ?_));clear hF hY;have B9:=zA B4 hk4.1;go_wp2_with fail;refine OnlyK.mk (hK.out _ _ ?_);clear hK;go_wp2;go_returns;exact⟨yZ (by simp),B9⟩
theorem zlJ(c:S14.C)(h:0≤c.first∧c.first≤c.second∧c.second≤9223372036854775806)(w:World):Calls Tryz.prog 264 #[CV c] w fun e w'=>e = .returned (.int .i64 (c.second-c.first+1))∧Below w.heap.size w w':=by
 obtain⟨kind,bits,limit,rate,first,second⟩:=c;unfold CV zT;simp only at h⊢;have e1:IntKind.i64.wrap (second-first)=second-first:=zdM (by omega) (by omega);have e2:IntKind.i64.wrap (second-first+1)=second-first+1:=zdM (by omega) (by omega);go_enter Tryz.func264,Tryz.ntmps264;go_wp2;go_returns;exact⟨rfl,(zG _ _).alloc (zE _) _⟩
theorem zqL(c:S14.C)(p:S14.P)(y:Lay)(pt:Int)(n P:Nat)(hn:n≤16)(hb:c.bits=n)(hP2:2^n=P)(hfs:0≤c.first∧c.first≤c.second∧c.second≤9223372036854775806)(w:World)(hP:PIs p y w) :
 Calls Tryz.prog 268 #[CV c,PV p y,.int .i64 pt] w fun e w'=>e = .returned (.bool (S14.bare {p with mi:=0,mw:=[]}&&(p.mi==c.second-c.first+1)&&decide ((p.mw.length:Int)=(P:Int))&&decide (S13.check 16 p.mi p.mw=0)))∧Below w.heap.size w w':=by
 have hp:=zdP hn;rw[hP2]at hp;have HS:=zD fun W=>zdE c n P hn hb hP2 W;have HB:=zD fun W=>zdH {p with mi:=0,mw:=[]} {y with a3:=none,c3:=0} W hP.mch.lh hP.mch.lb hP.mch.lc;have HC:=zD fun(W:World) (hW:Below w.heap.size w W)=>check13_any p.mi p.mw (.agg (MixC p y).toArray) W (hP.mix.step hW);unfold MixC at HC;obtain⟨W1,hW1,k1,k2,B1⟩:=zbO w c 120 p y;have c13:=k2.cell 13;have c14:=k2.cell 14;have c13f:=k2.free 13;have c14f:=k2.free 14;have k3:=(k2.set 13 (.int .i64 0)).set 14 (.slice none 0 0);have hz:((yG p y).set 13 (.int .i64 0)).set 14 (.slice none 0 0)=yG {p with mi:=0,mw:=[]} {y with a3:=none,c3:=0}:=rfl;rw[hz]at k3;have hc13:(yG p y)[13]? = some (.int .i64 p.mi):=rfl;have hc14:(yG p y)[14]? = some (.slice y.a3 p.mw.length y.c3):=rfl;rw[hc13]at c13;rw[hc14]at c14;unfold PV at HB⊢;unfold CV at HS⊢;obtain⟨VP,hVP⟩:∃v,yG p y=v:=⟨_,rfl⟩;obtain⟨VZ,hVZ⟩:∃v,yG {p with mi:=0,mw:=[]} {y with a3:=none,c3:=0}=v:=⟨_,rfl⟩;have hVZl:some 16=some VZ.length:=by rw[←hVZ];rfl
 rw[hVP]at hW1 k2⊢;rw[hVZ]at HB k3;obtain⟨q,hq⟩:∃q,S14.bare {p with mi:=0,mw:=[]}=q:=⟨_,rfl⟩;rw[hq]at HB⊢;obtain⟨E,hE⟩:∃q,S13.check 16 p.mi p.mw=q:=⟨_,rfl⟩;rw[hE]at HC⊢;obtain⟨m,hm⟩:∃m,p.mw.length=m:=⟨_,rfl⟩;obtain⟨mi,hmi⟩:∃m,p.mi=m:=⟨_,rfl⟩;rw[hm,hmi]at HC;rw[hm]at c14⊢;rw[hmi]at c13⊢;have HI:=zD fun W=>zlJ c hfs W;unfold CV at HI;obtain⟨kind,bits,limit,rate,first,second⟩:=c;unfold zT at *;simp only at HS HI k1 hW1⊢;obtain⟨T,hT⟩:∃T:Int,second-first+1=T:=⟨_,rfl⟩;rw[hT]at HI⊢;obtain⟨d,hd⟩:∃d,(mi==T)=d:=⟨_,rfl⟩;rw[hd];obtain⟨d2,hd2⟩:∃d,decide ((m:Int)=(P:Int))=d:=⟨_,rfl⟩;have hcmp2:((m:Int)==(P:Int))=d2:=by rw[←hd2];rfl
 rw[hd2];clear hq hE hm hb hP hVP hVZ hz hc13 hc14 hmi hT hd2 hfs hP2;have hW1s:W1.heap.size=w.heap.size+2:=by rw[←hW1];simp
 go_enter Tryz.func268,Tryz.ntmps268;go_wp2_with (rw[hW1]);obtain⟨W3,hW3⟩:∃W,(W1.setCell ⟨w.heap.size+1,13,none⟩ (.int .i64 0)).setCell ⟨w.heap.size+1,14,none⟩ (.slice none 0 0)=W:=⟨_,rfl⟩;have hW3s:W3.heap.size=w.heap.size+2:=by rw[←hW3];simp[hW1s]
 have k1':=(k1.other (w.heap.size+1) 13 (.int .i64 0) (by omega)).other (w.heap.size+1) 14 (.slice none 0 0) (by omega);have B3:Below w.heap.size w ((W1.setCell ⟨w.heap.size+1,13,none⟩ (.int .i64 0)).setCell ⟨w.heap.size+1,14,none⟩ (.slice none 0 0)):=(B1.setCell (p:=⟨w.heap.size+1,13,none⟩) (by simp) _).setCell (p:=⟨w.heap.size+1,14,none⟩) (by simp) _;rw[hW3]at k1' B3 k3⊢;obtain⟨W4,hW4⟩:∃W,W3.alloc (.cells #[.int .i64 mi,.slice y.a3 m y.c3] 79)=W:=⟨_,rfl⟩;have k1':=k1'.alloc (.cells #[.int .i64 mi,.slice y.a3 m y.c3] 79);have k3:=k3.alloc (.cells #[.int .i64 mi,.slice y.a3 m y.c3] 79);have k7:=Blk.new W3 [.int .i64 mi,.slice y.a3 m y.c3] 79;have B4:=B3.alloc B3.size (.cells #[.int .i64 mi,.slice y.a3 m y.c3] 79);rw[hW3s,show W3.alloc (.cells [.int .i64 mi,.slice y.a3 m y.c3].toArray 79)=W4 from hW4]at k7;rw[hW4]at k1' B4 k3⊢;clear hW4 hW3 hW3s B3 hW1 hW1s k1 k2 B1 c13 c13f c14 c14f;have hCS:Cells W4 [(⟨w.heap.size,0,none⟩,.int .i64 kind),(⟨w.heap.size,1,none⟩,.int .i64 bits),(⟨w.heap.size,2,none⟩,.int .i64 limit),(⟨w.heap.size,3,none⟩,.int .i64 rate),(⟨w.heap.size,4,none⟩,.int .i64 first),(⟨w.heap.size,5,none⟩,.int .i64 second),(⟨w.heap.size+2,0,none⟩,.int .i64 mi),(⟨w.heap.size+2,1,none⟩,.slice y.a3 m y.c3)]:=⟨k1'.cell 0,k1'.cell 1,k1'.cell 2,k1'.cell 3,k1'.cell 4,k1'.cell 5,k7.cell 0,k7.cell 1,yJ⟩;have HBs:=zD HB;clear HB;cases q with
 | false=>
   go_wp2_with fail;refine zrE 23 1 [(U,[U]),(zrA,[zrA,U]),(U,[zrA,zrA,U,U,U,U]),(zrA,[zrA,zrA,zrA,zrA,zrA,zrA,U]),(U,[zrA,zrA,zrA,zrA,zrA,zrA,zrA,U,U,U,U,U,U,U,U]),(zrA,[zrA,zrA,zrA,zrA,zrA,zrA,zrA,zrA,zrA,zrA,zrA,zrA,zrA,zrA,zrA,U]),(U,[zrA,zrA,zrA,zrA,zrA,zrA,zrA,zrA,zrA,zrA,zrA,zrA,zrA,zrA,zrA,zrA,U,U,U,U]),(zrA,[zrA,zrA,zrA,zrA,zrA,zrA,zrA,zrA,zrA,zrA,zrA,zrA,zrA,zrA,zrA,zrA,zrA,zrA,zrA,zrA,U]),(U,[zrA,zrA,zrA,zrA,zrA,zrA,zrA,zrA,zrA,zrA,zrA,zrA,zrA,zrA,zrA,zrA,zrA,zrA,zrA,zrA,zrA,U,U])] (Keeps W4 [(⟨w.heap.size,0,none⟩,.int .i64 kind),(⟨w.heap.size,1,none⟩,.int .i64 bits),(⟨w.heap.size,2,none⟩,.int .i64 limit),(⟨w.heap.size,3,none⟩,.int .i64 rate),(⟨w.heap.size,4,none⟩,.int .i64 first),(⟨w.heap.size,5,none⟩,.int .i64 second),(⟨w.heap.size+2,0,none⟩,.int .i64 mi),(⟨w.heap.size+2,1,none⟩,.slice y.a3 m y.c3)]) (by kernel_rfl) (Keeps.start hCS) (fun Y Q4 F4 hY hF=> ?_);simp only[zrC]
   repeat
    apply zF (by rw[hY];rfl)
    ·intro w2 hS2;(try simp only[Keeps,Cells]at hS2);go_simp;with_reducible rfl
    simp only[zrB]
   apply zF (by rw[hY];rfl)
   ·intro w2 hS2;exact zbZ 83 (.tmp 4) (by rfl) (w.heap.size+1) (by rfl) VZ (k3.step hS2.1).cells _ Tryz.underlying83 rfl (info_P.trans hVZl)
   simp only[zrB];apply zS (by rw[hY];rfl)
   ·go_simp;with_reducible exact⟨rfl,rfl⟩
   refine(HBs.out.out _).mono ?_;rintro e w3 ⟨rfl,hb3⟩;have hk3:=(Keeps.start hCS).step hb3;refine⟨_,rfl,hk3,?_⟩;simp only[zrB]
   repeat
    apply zF (by rw[hY];rfl)
    ·intro w2 hS2;(try simp only[Keeps,Cells]at hS2);go_simp;with_reducible rfl
    simp only[zrB]
   repeat
    first
     | (apply zR (by rw[hY];rfl);simp only[zrB])
     | (refine yM (by rw[hY];rfl) (hk3) ?_;simp only[zrB])
   repeat
    apply zF (by rw[hY];rfl)
    ·intro w2 hS2;(try simp only[Keeps,Cells]at hS2);go_simp;with_reducible rfl
    simp only[zrB]
   repeat
    first
     | (apply zR (by rw[hY];rfl);simp only[zrB])
     | (refine yM (by rw[hY];rfl) (hk3) ?_;simp only[zrB])
   repeat
    apply zF (by rw[hY];rfl)
    ·intro w2 hS2;(try simp only[Keeps,Cells]at hS2);go_simp;with_reducible rfl
    simp only[zrB]
   repeat
    first
     | (apply zR (by rw[hY];rfl);simp only[zrB])
     | (refine yM (by rw[hY];rfl) (hk3) ?_;simp only[zrB])
   repeat
    apply zF (by rw[hY];rfl)
    ·intro w2 hS2;(try simp only[Keeps,Cells]at hS2);go_simp;with_reducible rfl
    simp only[zrB]
   refine zZ (hF.out _ _ (fun K hK=> ?_));clear hF hY;have B9:=zA B4 hk3.1;go_wp2_with fail;refine OnlyK.mk (hK.out _ _ ?_);clear hK;go_wp2;go_returns;exact⟨yZ (by first|(simp;done)|(simp;rfl)|rfl),B9⟩
 | true=>
   cases d with
   | false=>
     go_wp2_with fail;refine zrE 23 1 [(U,[U]),(zrA,[zrA,U]),(U,[zrA,zrA,U,U,U,U]),(zrA,[zrA,zrA,zrA,zrA,zrA,zrA,U]),(U,[zrA,zrA,zrA,zrA,zrA,zrA,zrA,U,U,U,U,U,U,U,U]),(zrA,[zrA,zrA,zrA,zrA,zrA,zrA,zrA,zrA,zrA,zrA,zrA,zrA,zrA,zrA,zrA,U]),(U,[zrA,zrA,zrA,zrA,zrA,zrA,zrA,zrA,zrA,zrA,zrA,zrA,zrA,zrA,zrA,zrA,U,U,U,U]),(zrA,[zrA,zrA,zrA,zrA,zrA,zrA,zrA,zrA,zrA,zrA,zrA,zrA,zrA,zrA,zrA,zrA,zrA,zrA,zrA,zrA,U]),(U,[zrA,zrA,zrA,zrA,zrA,zrA,zrA,zrA,zrA,zrA,zrA,zrA,zrA,zrA,zrA,zrA,zrA,zrA,zrA,zrA,zrA,U,U])] (Keeps W4 [(⟨w.heap.size,0,none⟩,.int .i64 kind),(⟨w.heap.size,1,none⟩,.int .i64 bits),(⟨w.heap.size,2,none⟩,.int .i64 limit),(⟨w.heap.size,3,none⟩,.int .i64 rate),(⟨w.heap.size,4,none⟩,.int .i64 first),(⟨w.heap.size,5,none⟩,.int .i64 second),(⟨w.heap.size+2,0,none⟩,.int .i64 mi),(⟨w.heap.size+2,1,none⟩,.slice y.a3 m y.c3)]) (by kernel_rfl) (Keeps.start hCS) (fun Y Q4 F4 hY hF=> ?_);simp only[zrC]
     repeat
      apply zF (by rw[hY];rfl)
      ·intro w2 hS2;(try simp only[Keeps,Cells]at hS2);go_simp;with_reducible rfl
      simp only[zrB]
     apply zF (by rw[hY];rfl)
     ·intro w2 hS2;exact zbZ 83 (.tmp 4) (by rfl) (w.heap.size+1) (by rfl) VZ (k3.step hS2.1).cells _ Tryz.underlying83 rfl (info_P.trans hVZl)
     simp only[zrB];apply zS (by rw[hY];rfl)
     ·go_simp;with_reducible exact⟨rfl,rfl⟩
     refine(HBs.out.out _).mono ?_;rintro e w3 ⟨rfl,hb3⟩;have hk3:=(Keeps.start hCS).step hb3;refine⟨_,rfl,hk3,?_⟩;simp only[zrB]
     repeat
      apply zF (by rw[hY];rfl)
      ·intro w2 hS2;(try simp only[Keeps,Cells]at hS2);go_simp;with_reducible rfl
      simp only[zrB]
     apply zS (by rw[hY];rfl)
     ·go_simp;with_reducible exact⟨rfl,rfl⟩
     refine(HI.out _).mono ?_;rintro e w4 ⟨rfl,hb4⟩;have hk4:=hk3.step hb4;refine⟨_,rfl,hk4,?_⟩;simp only[zrB]
     repeat
      apply zF (by rw[hY];rfl)
      ·intro w2 hS2;(try simp only[Keeps,Cells]at hS2);go_simp;with_reducible rfl
      simp only[zrB]
     repeat
      first
       | (apply zR (by rw[hY];rfl);simp only[zrB])
       | (refine yM (by rw[hY];rfl) (hk4) ?_;simp only[zrB])
     repeat
      apply zF (by rw[hY];rfl)
      ·intro w2 hS2;(try simp only[Keeps,Cells]at hS2);go_simp;with_reducible rfl
      simp only[zrB]
     repeat
      first
       | (apply zR (by rw[hY];rfl);simp only[zrB])
       | (refine yM (by rw[hY];rfl) (hk4) ?_;simp only[zrB])
     repeat
      apply zF (by rw[hY];rfl)
      ·intro w2 hS2;(try simp only[Keeps,Cells]at hS2);go_simp;with_reducible rfl
      simp only[zrB]
     refine zZ (hF.out _ _ (fun K hK=> ?_));clear hF hY;have B9:=zA B4 hk4.1;go_wp2_with fail;refine OnlyK.mk (hK.out _ _ ?_);clear hK;go_wp2;go_returns;exact⟨yZ (by first|(simp;done)|(simp;rfl)|rfl),B9⟩
   | true=>
     cases d2 with
     | false=>
       go_wp2_with fail;refine zrE 23 1 [(U,[U]),(zrA,[zrA,U]),(U,[zrA,zrA,U,U,U,U]),(zrA,[zrA,zrA,zrA,zrA,zrA,zrA,U]),(U,[zrA,zrA,zrA,zrA,zrA,zrA,zrA,U,U,U,U,U,U,U,U]),(zrA,[zrA,zrA,zrA,zrA,zrA,zrA,zrA,zrA,zrA,zrA,zrA,zrA,zrA,zrA,zrA,U]),(U,[zrA,zrA,zrA,zrA,zrA,zrA,zrA,zrA,zrA,zrA,zrA,zrA,zrA,zrA,zrA,zrA,U,U,U,U]),(zrA,[zrA,zrA,zrA,zrA,zrA,zrA,zrA,zrA,zrA,zrA,zrA,zrA,zrA,zrA,zrA,zrA,zrA,zrA,zrA,zrA,U]),(U,[zrA,zrA,zrA,zrA,zrA,zrA,zrA,zrA,zrA,zrA,zrA,zrA,zrA,zrA,zrA,zrA,zrA,zrA,zrA,zrA,zrA,U,U])] (Keeps W4 [(⟨w.heap.size,0,none⟩,.int .i64 kind),(⟨w.heap.size,1,none⟩,.int .i64 bits),(⟨w.heap.size,2,none⟩,.int .i64 limit),(⟨w.heap.size,3,none⟩,.int .i64 rate),(⟨w.heap.size,4,none⟩,.int .i64 first),(⟨w.heap.size,5,none⟩,.int .i64 second),(⟨w.heap.size+2,0,none⟩,.int .i64 mi),(⟨w.heap.size+2,1,none⟩,.slice y.a3 m y.c3)]) (by kernel_rfl) (Keeps.start hCS) (fun Y Q4 F4 hY hF=> ?_);simp only[zrC]
       repeat
        apply zF (by rw[hY];rfl)
        ·intro w2 hS2;(try simp only[Keeps,Cells]at hS2);go_simp;with_reducible rfl
        simp only[zrB]
       apply zF (by rw[hY];rfl)
       ·intro w2 hS2;exact zbZ 83 (.tmp 4) (by rfl) (w.heap.size+1) (by rfl) VZ (k3.step hS2.1).cells _ Tryz.underlying83 rfl (info_P.trans hVZl)
       simp only[zrB];apply zS (by rw[hY];rfl)
       ·go_simp;with_reducible exact⟨rfl,rfl⟩
       refine(HBs.out.out _).mono ?_;rintro e w3 ⟨rfl,hb3⟩;have hk3:=(Keeps.start hCS).step hb3;refine⟨_,rfl,hk3,?_⟩;simp only[zrB]
       repeat
        apply zF (by rw[hY];rfl)
        ·intro w2 hS2;(try simp only[Keeps,Cells]at hS2);go_simp;with_reducible rfl
        simp only[zrB]
       apply zS (by rw[hY];rfl)
       ·go_simp;with_reducible exact⟨rfl,rfl⟩
       refine(HI.out _).mono ?_;rintro e w4 ⟨rfl,hb4⟩;have hk4:=hk3.step hb4;refine⟨_,rfl,hk4,?_⟩;simp only[zrB]
       repeat
        apply zF (by rw[hY];rfl)
        ·intro w2 hS2;(try simp only[Keeps,Cells]at hS2);go_simp;with_reducible rfl
        simp only[zrB]
       apply zS (by rw[hY];rfl)
       ·go_simp;with_reducible exact⟨rfl,rfl⟩
       refine(HS.out _).mono ?_;rintro e w5 ⟨rfl,hb5⟩;have hk5:=hk4.step hb5;refine⟨_,rfl,hk5,?_⟩;simp only[zrB]
       repeat
        apply zF (by rw[hY];rfl)
        ·intro w2 hS2;(try simp only[Keeps,Cells]at hS2);go_simp;with_reducible rfl
        simp only[zrB]
       repeat
        first
         | (apply zR (by rw[hY];rfl);simp only[zrB])
         | (refine yM (by rw[hY];rfl) (hk5) ?_;simp only[zrB])
       repeat
        apply zF (by rw[hY];rfl)
        ·intro w2 hS2;(try simp only[Keeps,Cells]at hS2);go_simp;with_reducible rfl
        simp only[zrB]
       refine zZ (hF.out _ _ (fun K hK=> ?_));clear hF hY;have B9:=zA B4 hk5.1;go_wp2_with fail;refine OnlyK.mk (hK.out _ _ ?_);clear hK;go_wp2;go_returns;exact⟨yZ (by first|(simp;done)|(simp;rfl)|rfl),B9⟩
     | true=>
       go_wp2_with fail;refine zrE 23 1 [(U,[U]),(zrA,[zrA,U]),(U,[zrA,zrA,U,U,U,U]),(zrA,[zrA,zrA,zrA,zrA,zrA,zrA,U]),(U,[zrA,zrA,zrA,zrA,zrA,zrA,zrA,U,U,U,U,U,U,U,U]),(zrA,[zrA,zrA,zrA,zrA,zrA,zrA,zrA,zrA,zrA,zrA,zrA,zrA,zrA,zrA,zrA,U]),(U,[zrA,zrA,zrA,zrA,zrA,zrA,zrA,zrA,zrA,zrA,zrA,zrA,zrA,zrA,zrA,zrA,U,U,U,U]),(zrA,[zrA,zrA,zrA,zrA,zrA,zrA,zrA,zrA,zrA,zrA,zrA,zrA,zrA,zrA,zrA,zrA,zrA,zrA,zrA,zrA,U]),(U,[zrA,zrA,zrA,zrA,zrA,zrA,zrA,zrA,zrA,zrA,zrA,zrA,zrA,zrA,zrA,zrA,zrA,zrA,zrA,zrA,zrA,U,U])] (Keeps W4 [(⟨w.heap.size,0,none⟩,.int .i64 kind),(⟨w.heap.size,1,none⟩,.int .i64 bits),(⟨w.heap.size,2,none⟩,.int .i64 limit),(⟨w.heap.size,3,none⟩,.int .i64 rate),(⟨w.heap.size,4,none⟩,.int .i64 first),(⟨w.heap.size,5,none⟩,.int .i64 second),(⟨w.heap.size+2,0,none⟩,.int .i64 mi),(⟨w.heap.size+2,1,none⟩,.slice y.a3 m y.c3)]) (by kernel_rfl) (Keeps.start hCS) (fun Y Q4 F4 hY hF=> ?_);simp only[zrC]
       repeat
        apply zF (by rw[hY];rfl)
        ·intro w2 hS2;(try simp only[Keeps,Cells]at hS2);go_simp;with_reducible rfl
        simp only[zrB]
       apply zF (by rw[hY];rfl)
       ·intro w2 hS2;exact zbZ 83 (.tmp 4) (by rfl) (w.heap.size+1) (by rfl) VZ (k3.step hS2.1).cells _ Tryz.underlying83 rfl (info_P.trans hVZl)
       simp only[zrB];apply zS (by rw[hY];rfl)
       ·go_simp;with_reducible exact⟨rfl,rfl⟩
       refine(HBs.out.out _).mono ?_;rintro e w3 ⟨rfl,hb3⟩;have hk3:=(Keeps.start hCS).step hb3;refine⟨_,rfl,hk3,?_⟩;simp only[zrB]
       repeat
        apply zF (by rw[hY];rfl)
        ·intro w2 hS2;(try simp only[Keeps,Cells]at hS2);go_simp;with_reducible rfl
        simp only[zrB]
       apply zS (by rw[hY];rfl)
       ·go_simp;with_reducible exact⟨rfl,rfl⟩
       refine(HI.out _).mono ?_;rintro e w4 ⟨rfl,hb4⟩;have hk4:=hk3.step hb4;refine⟨_,rfl,hk4,?_⟩;simp only[zrB]
       repeat
        apply zF (by rw[hY];rfl)
        ·intro w2 hS2;(try simp only[Keeps,Cells]at hS2);go_simp;with_reducible rfl
        simp only[zrB]
       apply zS (by rw[hY];rfl)
       ·go_simp;with_reducible exact⟨rfl,rfl⟩
       refine(HS.out _).mono ?_;rintro e w5 ⟨rfl,hb5⟩;have hk5:=hk4.step hb5;refine⟨_,rfl,hk5,?_⟩;simp only[zrB]
       repeat
        apply zF (by rw[hY];rfl)
        ·intro w2 hS2;(try simp only[Keeps,Cells]at hS2);go_simp;with_reducible rfl
        simp only[zrB]
       apply zS (by rw[hY];rfl)
       ·go_simp;with_reducible exact⟨rfl,rfl⟩
       refine(HC.out _ (zA B4 hk5.1)).mono ?_;rintro e w6 ⟨rfl,hb6⟩;have hk6:=hk5.step hb6;refine⟨_,rfl,hk6,?_⟩;simp only[zrB]
       repeat
        apply zF (by rw[hY];rfl)
        ·intro w2 hS2;(try simp only[Keeps,Cells]at hS2);go_simp;with_reducible rfl
        simp only[zrB]
       refine zZ (hF.out _ _ (fun K hK=> ?_));clear hF hY;have B9:=zA B4 hk6.1;go_wp2_with fail;refine OnlyK.mk (hK.out _ _ ?_);clear hK;go_wp2;go_returns;exact⟨yZ (by first|(simp;done)|(simp;rfl)|rfl),B9⟩
theorem Blk.there14{w:World}{b o n:Nat}{cs:List Value}{t:TypeId}(h:Blk w b cs t)(hn:o+n≤cs.length):w.there b o n:=fun j hj=>
 ⟨by rw[h.cell,zI (by omega)];rfl,h.free _⟩
theorem Blk.mid14{w:World}{b o n:Nat}{cs sub:List Value}{t:TypeId}(h:Blk w b cs t)(hs:(cs.drop o).take n=sub):w.rangeAt b o sub:=fun j v hv=>by
 rw[←hs,List.getElem?_take]at hv;split at hv
 ·rw[List.getElem?_drop]at hv;rw[h.cell];exact hv
 ·cases hv
theorem info_M14:(Tryz.prog.info? 77).map (·.size)=some 9:=by kernel_rfl
theorem znM(c:S14.C)(p:S14.P)(y:Lay)(pt:Int)(w:World)(hP:PIs p y w) :
 Calls Tryz.prog 233 #[CV c,PV p y,.int .i64 pt] w fun e w'=>e = .returned (.bool (S14.bare {p with m:=S14.zM}&&(p.m.bits==c.bits)&&(p.m.least==c.limit)&&(p.m.part==pt)&&decide (S12.check p.m=0)))∧Below w.heap.size w w':=by
 have HB:=zD fun W=>zdH {p with m:=S14.zM} {y with pl:=⟨none,0,none,0,none,0⟩} W (zeG _) (zeG _) (zeG _);have HC:=zD fun(W:World) (hW:Below w.heap.size w W)=>check12_any p.m y.pl W (hP.mch.step hW);obtain⟨W1,hW1,k1,k2,B1⟩:=zbO w c 118 p y;have hra:=k2.mid14 (o:=4) (n:=9) (sub:=zbQ p.m y.pl) rfl;have hz:splice (yG p y) 4 [.int .i64 0,.int .i64 0,.slice none 0 0,.slice none 0 0,.int .i64 0,.int .i64 0,.int .i64 0,.int .i64 0,.slice none 0 0]=yG {p with m:=S14.zM} {y with pl:=⟨none,0,none,0,none,0⟩}:=rfl;have v0:(zbQ p.m y.pl)[0]? = some (.int .i64 p.m.bits):=rfl;have v1:(zbQ p.m y.pl)[1]? = some (.int .i64 p.m.least):=rfl;have v6:(zbQ p.m y.pl)[6]? = some (.int .i64 p.m.part):=rfl;have vl:some 9=some (zbQ p.m y.pl).length:=rfl;have vo:∀v∈zbQ p.m y.pl,v.oneCell'=true:=by
  intro v hv;simp only[zbQ,List.mem_cons,zaL,or_false]at hv;rcases hv with rfl|rfl|rfl|rfl|rfl|rfl|rfl|rfl|rfl<;>rfl
 have v9:∃x2 x3 x4 x5 x7 x8:Value,zbQ p.m y.pl = [.int .i64 p.m.bits,.int .i64 p.m.least,x2,x3,x4,x5,.int .i64 p.m.part,x7,x8]:=⟨_,_,_,_,_,_,rfl⟩;unfold MV at HC;unfold PV at HB⊢;unfold CV;obtain⟨VP,hVP⟩:∃v,yG p y=v:=⟨_,rfl⟩;obtain⟨VM,hVM⟩:∃v,zbQ p.m y.pl=v:=⟨_,rfl⟩;obtain⟨VZ,hVZ⟩:∃v,yG {p with m:=S14.zM} {y with pl:=⟨none,0,none,0,none,0⟩}=v:=⟨_,rfl⟩;have hVZl:some 16=some VZ.length:=by rw[←hVZ];rfl
 have hVPl:VP.length=16:=by rw[←hVP];rfl
 rw[hVP,hVZ]at hz;rw[hVP]at hW1 k2⊢;rw[hVM]at HC hra v0 v1 v6 v9 vl vo;rw[hVZ]at HB;obtain⟨q,hq⟩:∃q,S14.bare {p with m:=S14.zM}=q:=⟨_,rfl⟩;rw[hq]at HB⊢;obtain⟨E,hE⟩:∃q,S12.check p.m=q:=⟨_,rfl⟩;rw[hE]at HC⊢;obtain⟨m1,hm1⟩:∃x,p.m.bits=x:=⟨_,rfl⟩;obtain⟨m2,hm2⟩:∃x,p.m.least=x:=⟨_,rfl⟩;obtain⟨m7,hm7⟩:∃x,p.m.part=x:=⟨_,rfl⟩;rw[hm1]at v0⊢;rw[hm2]at v1⊢;rw[hm7]at v6⊢;rw[hm1,hm2,hm7]at v9;obtain⟨x2,x3,x4,x5,x7,x8,hV9⟩:=v9;have HV9:=zD hV9;clear hV9;obtain⟨kind,bits,limit,rate,first,second⟩:=c;unfold zT at *;simp only at k1 hW1⊢;obtain⟨d1,hd1⟩:∃d,(m1==bits)=d:=⟨_,rfl⟩;obtain⟨d2,hd2⟩:∃d,(m2==limit)=d:=⟨_,rfl⟩;obtain⟨d3,hd3⟩:∃d,(m7==pt)=d:=⟨_,rfl⟩;rw[hd1,hd2,hd3];have Hz:=zD hz;have HVPl:=zD hVPl;have HVZl:=zD hVZl;clear hz hVPl hVZl;have Hvl:=zD vl;have Hvo:=zD vo;clear hq hE hm1 hm2 hm7 hP hVP hVZ hVM vl vo;have hW1s:W1.heap.size=w.heap.size+2:=by rw[←hW1];simp
 obtain⟨W2,hW2⟩:∃W,W1.alloc (.cells #[.int .i64 0,.int .i64 0,.slice none 0 0,.slice none 0 0,.int .i64 0,.int .i64 0,.int .i64 0,.int .i64 0,.slice none 0 0] 77)=W:=⟨_,rfl⟩;have b2:Below W1.heap.size W1 W2:=by rw[←hW2];exact(zG _ _).alloc (zE _) _
 have kM:Blk W2 (w.heap.size+2) [.int .i64 0,.int .i64 0,.slice none 0 0,.slice none 0 0,.int .i64 0,.int .i64 0,.int .i64 0,.int .i64 0,.slice none 0 0] 77:=by rw[←hW2,←hW1s];exact Blk.new W1 _ _
 have k2:=k2.step b2;have k1:=k1.step b2;have B2:=zA B1 b2;clear B1;go_enter Tryz.func233,Tryz.ntmps233;go_wp2_with (first
  | (rw[hW1])
  | (refine wpList_load_mid (by rfl) 77 (.tmp 8) (by rfl) (w.heap.size+1) 4 (by rfl) VM _ hra Tryz.underlying77 rfl (info_M14.trans Hvl.out) ?_)
  | (rw[hW2,hW1s])
  | (rw[hW2])
  | (refine yE 77 (.tmp 7) (.tmp 9) (by rfl) (by rfl) (w.heap.size+2) (by rfl) VM (by rfl) _ 77 kM (info_M14.trans Hvl.out) (zO Hvl.out) Hvo.out ?_;intro s7 E7 g7 z7;clear z7;have k27:=k2.keptRow g7 (by intro e;have:=zO e;omega);have k17:=k1.keptRow g7 (by intro e;have:=zO e;omega);have hth7:s7.there (w.heap.size+1) 4 (List.toArray ([.int .i64 0,.int .i64 0,.slice none 0 0,.slice none 0 0,.int .i64 0,.int .i64 0,.int .i64 0,.int .i64 0,.slice none 0 0]:List Value)).size:=k27.there14 (o:=4) (n:=9) (by rw[HVPl.out];decide))
  | (refine wpList_store_mid (by rfl) 77 (.tmp 11) (.tmp 10) (by rfl) (w.heap.size+1) 4 (List.toArray ([.int .i64 0,.int .i64 0,.slice none 0 0,.slice none 0 0,.int .i64 0,.int .i64 0,.int .i64 0,.int .i64 0,.slice none 0 0]:List Value)) (by rfl) (by rfl) hth7 info_M14 (all_oneCell_toArray (by simp[Value.oneCell'])) ?_;have k3:=k27.setCells [.int .i64 0,.int .i64 0,.slice none 0 0,.slice none 0 0,.int .i64 0,.int .i64 0,.int .i64 0,.int .i64 0,.slice none 0 0] 4 (by rw[HVPl.out];decide);rw[Hz.out]at k3;have k18:=k17.keptRow (zaD (w.heap.size+1) [.int .i64 0,.int .i64 0,.slice none 0 0,.slice none 0 0,.int .i64 0,.int .i64 0,.int .i64 0,.int .i64 0,.slice none 0 0] 4 s7) (by intro e;have:=zO e;omega);have k78:=E7.keptRow (zaD (w.heap.size+1) [.int .i64 0,.int .i64 0,.slice none 0 0,.slice none 0 0,.int .i64 0,.int .i64 0,.int .i64 0,.int .i64 0,.slice none 0 0] 4 s7) (by intro e;have:=zO e;omega);obtain⟨W8,hW8⟩:∃W,s7.setCells (w.heap.size+1) 4 [.int .i64 0,.int .i64 0,.slice none 0 0,.slice none 0 0,.int .i64 0,.int .i64 0,.int .i64 0,.int .i64 0,.slice none 0 0]=W:=⟨_,rfl⟩;have B8:Below w.heap.size w (s7.setCells (w.heap.size+1) 4 [.int .i64 0,.int .i64 0,.slice none 0 0,.slice none 0 0,.int .i64 0,.int .i64 0,.int .i64 0,.int .i64 0,.slice none 0 0]):=(B2.trans (yB g7 (by omega) B2.size)).trans (yB (zaD (w.heap.size+1) [.int .i64 0,.int .i64 0,.slice none 0 0,.slice none 0 0,.int .i64 0,.int .i64 0,.int .i64 0,.int .i64 0,.slice none 0 0] 4 s7) (by omega) (by have:=g7.size;have:=B2.size;omega));rw[hW8]at k3 k18 k78 B8;have hW8':s7.setCells (w.heap.size+1) 4 (List.toArray ([.int .i64 0,.int .i64 0,.slice none 0 0,.slice none 0 0,.int .i64 0,.int .i64 0,.int .i64 0,.int .i64 0,.slice none 0 0]:List Value)).toList=W8:=hW8;rw[hW8'])
  | (refine yC 83 (.tmp 4) (by rfl) (by rfl) (w.heap.size+1) (by rfl) VZ 83 k3 _ Tryz.underlying83 rfl (info_P.trans HVZl.out) ?_))
 refine(HB.out _).mono ?_;rintro e w9 ⟨rfl,hb9⟩;have B9:=zA B8 hb9;have kC:=k18.step hb9;have kM9:=k78.step hb9;have e1:=kC.cell 1;have e2:=kC.cell 2;have f0:=(kM9.cell 0).trans v0;have f1:=(kM9.cell 1).trans v1;have f6:=(kM9.cell 6).trans v6;simp only[zrD]at e1 e2;clear hb9 B8 k18 k78 HB k3 k27 k17 kM k2 k1 kC hra v0 v1 v6 Hz hW1 hW2 hW8 hth7 E7 g7 b2 B2 hW8';cases q with
 | false=>
   go_wp2;go_returns;exact⟨by first|rfl|simp,B9⟩
 | true=>
   cases d1 with
   | false=>
     go_wp2;go_returns;exact⟨by first|rfl|simp,B9⟩
   | true=>
     cases d2 with
     | false=>
       go_wp2;go_returns;exact⟨by first|rfl|simp,B9⟩
     | true=>
       cases d3 with
       | false=>
         go_wp2;go_returns;exact⟨by first|rfl|simp,B9⟩
       | true=>
         have hV9:=HV9.out;rw[hV9]at kM9 HC;have g0:=kM9.cell 0;have g1:=kM9.cell 1;have g2:=kM9.cell 2;have g3:=kM9.cell 3;have g4:=kM9.cell 4;have g5:=kM9.cell 5;have g6:=kM9.cell 6;have g7:=kM9.cell 7;have g8:=kM9.cell 8;simp only[zrD]at g0 g1 g2 g3 g4 g5 g6 g7 g8;clear f0 f1 f6 hV9 HV9 kM9;go_wp2_with fail;refine(HC.out _ B9).mono ?_;rintro e w10 ⟨rfl,hb10⟩;have B10:=zA B9 hb10;go_wp2;go_returns;exact⟨yZ (by first|(simp;done)|(simp;rfl)|rfl),B10⟩
theorem znQ(c:S14.C)(p:S14.P)(y:Lay)(pt:Int)(n P:Nat)(hn:n≤16)(hb:c.bits=n)(hP2:2^n=P)(w:World)(hP:PIs p y w) :
 Calls Tryz.prog 217 #[CV c,PV p y,.int .i64 pt] w fun e w'=>e = .returned (.bool ((decide (p.ctrs.length=215) && !p.ctrs.any (S14.badC c.limit))&&(p.sb==c.bits)&&decide (S10.check p.sb p.sd=0)&&S14.has p.slot 0 ((P:Int)-1)&&S14.bare {p with ctrs:=[],sb:=0,sd:=[],slot:=0}))∧Below w.heap.size w w':=by
 have hp:=zdP hn;rw[hP2]at hp;have HS:=zD fun W=>zdE c n P hn hb hP2 W;have HB:=zD fun W=>zdH {p with ctrs:=[],sb:=0,sd:=[],slot:=0} {y with a1:=none,c1:=0,a2:=none,c2:=0} W hP.mch.lh hP.mch.lb hP.mch.lc;have HCt:=zD fun W=>zhW W;have HT:=zD fun(W:World) (hW:Below w.heap.size w W)=>zfU p.ctrs 215 c.limit y.a1 y.c1 W (by decide) (hP.rc.step hW);have HC:=zD fun(W:World) (hW:Below w.heap.size w W)=>zfN p.sb p.sd hP.tab.ok y.a2 y.c2 hP.tab.cap W (hP.tab.rd.step hW);have HBw:=zD fun W=>zaN p.slot 0 ((P:Int)-1) W;have hwP:IntKind.i64.wrap ((P:Int)-1)=(P:Int)-1:=zdM (by omega) (by omega);obtain⟨W1,hW1,k1,k2,B1⟩:=zbO w c 117 p y;have c0:W1.cell? ⟨w.heap.size+1,0,none⟩=some (.slice y.a1 p.ctrs.length y.c1):=k2.cell 0;have c1:W1.cell? ⟨w.heap.size+1,1,none⟩=some (.int .i64 p.sb):=k2.cell 1;have c2:W1.cell? ⟨w.heap.size+1,2,none⟩=some (.slice y.a2 p.sd.length y.c2):=k2.cell 2;have c3:W1.cell? ⟨w.heap.size+1,3,none⟩=some (.int .i64 p.slot):=k2.cell 3;have hz:((((yG p y).set 0 (.slice none 0 0)).set 1 (.int .i64 0)).set 2 (.slice none 0 0)).set 3 (.int .i64 0)=yG {p with ctrs:=[],sb:=0,sd:=[],slot:=0} {y with a1:=none,c1:=0,a2:=none,c2:=0}:=rfl;unfold PV at HB⊢;unfold CV at HS⊢;obtain⟨VP,hVP⟩:∃v,yG p y=v:=⟨_,rfl⟩;obtain⟨VZ,hVZ⟩:∃v,yG {p with ctrs:=[],sb:=0,sd:=[],slot:=0} {y with a1:=none,c1:=0,a2:=none,c2:=0}=v:=⟨_,rfl⟩;have hVZl:some 16=some VZ.length:=by rw[←hVZ];rfl
 rw[hVP]at hW1 k2 hz⊢;rw[hVZ]at HB hz;obtain⟨q,hq⟩:∃q,S14.bare {p with ctrs:=[],sb:=0,sd:=[],slot:=0}=q:=⟨_,rfl⟩;rw[hq]at HB⊢;obtain⟨r,hr⟩:∃r,(decide (p.ctrs.length=215) && !p.ctrs.any (S14.badC c.limit))=r:=⟨_,rfl⟩;rw[hr]at HT⊢;obtain⟨E,hE⟩:∃q,S10.check p.sb p.sd=q:=⟨_,rfl⟩;rw[hE]at HC⊢;obtain⟨h,hh⟩:∃q,S14.has p.slot 0 ((P:Int)-1)=q:=⟨_,rfl⟩;rw[hh]at HBw⊢;obtain⟨m1,hm1⟩:∃m,p.ctrs.length=m:=⟨_,rfl⟩;obtain⟨m2,hm2⟩:∃m,p.sd.length=m:=⟨_,rfl⟩;obtain⟨sb,hsb⟩:∃m,p.sb=m:=⟨_,rfl⟩;obtain⟨sl,hsl⟩:∃m,p.slot=m:=⟨_,rfl⟩;rw[hm1]at HT c0;rw[hm2,hsb]at HC;rw[hm2]at c2;rw[hsb]at c1⊢;rw[hsl]at c3 HBw;obtain⟨kind,bits,limit,rate,first,second⟩:=c;unfold zT at *;simp only at HS HT k1 hW1⊢;obtain⟨d1,hd1⟩:∃d,(sb==bits)=d:=⟨_,rfl⟩;have hd1':(sb != bits) = !d1:=by rw[←hd1];rfl
 obtain⟨d2,hd2⟩:∃d,decide (E=0)=d:=⟨_,rfl⟩;have hd2':(E != 0) = !d2:=by rw[←hd2];rfl
 rw[hd1,hd2];have Hz:=zD hz;have HZl:=zD hVZl;clear hq hE hr hh hm1 hm2 hsb hsl hb hP hVP hVZ hd2 hz hVZl;have hCS:Cells W1 [(⟨w.heap.size,0,none⟩,.int .i64 kind),(⟨w.heap.size,1,none⟩,.int .i64 bits),(⟨w.heap.size,2,none⟩,.int .i64 limit),(⟨w.heap.size,3,none⟩,.int .i64 rate),(⟨w.heap.size,4,none⟩,.int .i64 first),(⟨w.heap.size,5,none⟩,.int .i64 second),(⟨w.heap.size+1,0,none⟩,.slice y.a1 m1 y.c1),(⟨w.heap.size+1,1,none⟩,.int .i64 sb),(⟨w.heap.size+1,2,none⟩,.slice y.a2 m2 y.c2),(⟨w.heap.size+1,3,none⟩,.int .i64 sl)]:=⟨k1.cell 0,k1.cell 1,k1.cell 2,k1.cell 3,k1.cell 4,k1.cell 5,c0,c1,c2,c3,yJ⟩;go_enter Tryz.func217,Tryz.ntmps217;go_wp2_with (rw[hW1]);cases r with
 | false=>
   go_wp2_with fail;refine zrE 33 0 [(U,[U,U,zrA,U,U,U]),(zrA,[zrA,zrA,U]),(zrA,[zrA,zrA,zrA,zrA,zrA,zrA,U]),(U,[zrA,zrA,zrA,zrA,zrA,zrA,zrA,U,U,U,U,U,U,U,U,U,U,U,U,U]),(zrA,[zrA,zrA,zrA,zrA,zrA,zrA,zrA,zrA,zrA,zrA,zrA,zrA,zrA,zrA,zrA,zrA,zrA,zrA,zrA,zrA,U]),(U,[zrA,zrA,zrA,zrA,zrA,zrA,zrA,zrA,zrA,zrA,zrA,zrA,zrA,zrA,zrA,zrA,zrA,zrA,zrA,zrA,zrA,U,U,U,U,U,U,U]),(zrA,[zrA,zrA,zrA,zrA,zrA,zrA,zrA,zrA,zrA,zrA,zrA,zrA,zrA,zrA,zrA,zrA,zrA,zrA,zrA,zrA,zrA,zrA,zrA,zrA,zrA,zrA,zrA,zrA,U]),(U,[zrA,zrA,zrA,zrA,zrA,zrA,zrA,zrA,zrA,zrA,zrA,zrA,zrA,zrA,zrA,zrA,zrA,zrA,zrA,zrA,zrA,zrA,zrA,zrA,zrA,zrA,zrA,zrA,zrA,U]),(zrA,[zrA,zrA,zrA,zrA,zrA,zrA,zrA,zrA,zrA,zrA,zrA,zrA,zrA,zrA,zrA,zrA,zrA,zrA,zrA,zrA,zrA,zrA,zrA,zrA,zrA,zrA,zrA,zrA,zrA,zrA,U]),(U,[zrA,zrA,zrA,zrA,zrA,zrA,zrA,zrA,zrA,zrA,zrA,zrA,zrA,zrA,zrA,zrA,zrA,zrA,zrA,zrA,zrA,zrA,zrA,zrA,zrA,zrA,zrA,zrA,zrA,zrA,zrA,U,U])] (Keeps W1 [(⟨w.heap.size,0,none⟩,.int .i64 kind),(⟨w.heap.size,1,none⟩,.int .i64 bits),(⟨w.heap.size,2,none⟩,.int .i64 limit),(⟨w.heap.size,3,none⟩,.int .i64 rate),(⟨w.heap.size,4,none⟩,.int .i64 first),(⟨w.heap.size,5,none⟩,.int .i64 second),(⟨w.heap.size+1,0,none⟩,.slice y.a1 m1 y.c1),(⟨w.heap.size+1,1,none⟩,.int .i64 sb),(⟨w.heap.size+1,2,none⟩,.slice y.a2 m2 y.c2),(⟨w.heap.size+1,3,none⟩,.int .i64 sl)]) (by kernel_rfl) (Keeps.start hCS) (fun Y Q4 F4 hY hF=> ?_);simp only[zrC]
   repeat
    apply zF (by rw[hY];rfl)
    ·intro w2 hS2;(try simp only[Keeps,Cells]at hS2);go_simp;with_reducible rfl
    simp only[zrB]
   apply zS (by rw[hY];rfl)
   ·go_simp;with_reducible exact⟨rfl,rfl⟩
   refine(HCt.out _).mono ?_;rintro e w2 ⟨rfl,hb2⟩;have hk2:=(Keeps.start hCS).step hb2;refine⟨_,rfl,hk2,?_⟩;simp only[zrB]
   repeat
    apply zF (by rw[hY];rfl)
    ·intro w2 hS2;(try simp only[Keeps,Cells]at hS2);go_simp;with_reducible rfl
    simp only[zrB]
   apply zS (by rw[hY];rfl)
   ·go_simp;with_reducible exact⟨rfl,rfl⟩
   refine(HT.out _ (zA B1 hk2.1)).mono ?_;rintro e w3 ⟨rfl,hb3⟩;have hk3:=hk2.step hb3;refine⟨_,rfl,hk3,?_⟩;simp only[zrB]
   repeat
    apply zF (by rw[hY];rfl)
    ·intro w2 hS2;(try simp only[Keeps,Cells]at hS2);go_simp;with_reducible rfl
    simp only[zrB]
   repeat
    first
     | (apply zR (by rw[hY];rfl);simp only[zrB])
     | (refine yM (by rw[hY];rfl) (hk3) ?_;simp only[zrB])
   repeat
    apply zF (by rw[hY];rfl)
    ·intro w2 hS2;(try simp only[Keeps,Cells]at hS2);go_simp;with_reducible rfl
    simp only[zrB]
   repeat
    first
     | (apply zR (by rw[hY];rfl);simp only[zrB])
     | (refine yM (by rw[hY];rfl) (hk3) ?_;simp only[zrB])
   repeat
    apply zF (by rw[hY];rfl)
    ·intro w2 hS2;(try simp only[Keeps,Cells]at hS2);go_simp;with_reducible rfl
    simp only[zrB]
   repeat
    first
     | (apply zR (by rw[hY];rfl);simp only[zrB])
     | (refine yM (by rw[hY];rfl) (hk3) ?_;simp only[zrB])
   repeat
    apply zF (by rw[hY];rfl)
    ·intro w2 hS2;(try simp only[Keeps,Cells]at hS2);go_simp;with_reducible rfl
    simp only[zrB]
   repeat
    first
     | (apply zR (by rw[hY];rfl);simp only[zrB])
     | (refine yM (by rw[hY];rfl) (hk3) ?_;simp only[zrB])
   repeat
    apply zF (by rw[hY];rfl)
    ·intro w2 hS2;(try simp only[Keeps,Cells]at hS2);go_simp;with_reducible rfl
    simp only[zrB]
   refine zZ (hF.out _ _ (fun K hK=> ?_));clear hF hY;have B9:=zA B1 hk3.1;refine OnlyK.mk (hK.out _ _ ?_);clear hK;go_wp2;go_returns;exact⟨by first|rfl|simp,B9⟩
 | true=>
   cases d1 with
   | false=>
     go_wp2_with fail;refine zrE 33 0 [(U,[U,U,zrA,U,U,U]),(zrA,[zrA,zrA,U]),(zrA,[zrA,zrA,zrA,zrA,zrA,zrA,U]),(U,[zrA,zrA,zrA,zrA,zrA,zrA,zrA,U,U,U,U,U,U,U,U,U,U,U,U,U]),(zrA,[zrA,zrA,zrA,zrA,zrA,zrA,zrA,zrA,zrA,zrA,zrA,zrA,zrA,zrA,zrA,zrA,zrA,zrA,zrA,zrA,U]),(U,[zrA,zrA,zrA,zrA,zrA,zrA,zrA,zrA,zrA,zrA,zrA,zrA,zrA,zrA,zrA,zrA,zrA,zrA,zrA,zrA,zrA,U,U,U,U,U,U,U]),(zrA,[zrA,zrA,zrA,zrA,zrA,zrA,zrA,zrA,zrA,zrA,zrA,zrA,zrA,zrA,zrA,zrA,zrA,zrA,zrA,zrA,zrA,zrA,zrA,zrA,zrA,zrA,zrA,zrA,U]),(U,[zrA,zrA,zrA,zrA,zrA,zrA,zrA,zrA,zrA,zrA,zrA,zrA,zrA,zrA,zrA,zrA,zrA,zrA,zrA,zrA,zrA,zrA,zrA,zrA,zrA,zrA,zrA,zrA,zrA,U]),(zrA,[zrA,zrA,zrA,zrA,zrA,zrA,zrA,zrA,zrA,zrA,zrA,zrA,zrA,zrA,zrA,zrA,zrA,zrA,zrA,zrA,zrA,zrA,zrA,zrA,zrA,zrA,zrA,zrA,zrA,zrA,U]),(U,[zrA,zrA,zrA,zrA,zrA,zrA,zrA,zrA,zrA,zrA,zrA,zrA,zrA,zrA,zrA,zrA,zrA,zrA,zrA,zrA,zrA,zrA,zrA,zrA,zrA,zrA,zrA,zrA,zrA,zrA,zrA,U,U])] (Keeps W1 [(⟨w.heap.size,0,none⟩,.int .i64 kind),(⟨w.heap.size,1,none⟩,.int .i64 bits),(⟨w.heap.size,2,none⟩,.int .i64 limit),(⟨w.heap.size,3,none⟩,.int .i64 rate),(⟨w.heap.size,4,none⟩,.int .i64 first),(⟨w.heap.size,5,none⟩,.int .i64 second),(⟨w.heap.size+1,0,none⟩,.slice y.a1 m1 y.c1),(⟨w.heap.size+1,1,none⟩,.int .i64 sb),(⟨w.heap.size+1,2,none⟩,.slice y.a2 m2 y.c2),(⟨w.heap.size+1,3,none⟩,.int .i64 sl)]) (by kernel_rfl) (Keeps.start hCS) (fun Y Q4 F4 hY hF=> ?_);simp only[zrC]
     repeat
      apply zF (by rw[hY];rfl)
      ·intro w2 hS2;(try simp only[Keeps,Cells]at hS2);go_simp;with_reducible rfl
      simp only[zrB]
     apply zS (by rw[hY];rfl)
     ·go_simp;with_reducible exact⟨rfl,rfl⟩
     refine(HCt.out _).mono ?_;rintro e w2 ⟨rfl,hb2⟩;have hk2:=(Keeps.start hCS).step hb2;refine⟨_,rfl,hk2,?_⟩;simp only[zrB]
     repeat
      apply zF (by rw[hY];rfl)
      ·intro w2 hS2;(try simp only[Keeps,Cells]at hS2);go_simp;with_reducible rfl
      simp only[zrB]
     apply zS (by rw[hY];rfl)
     ·go_simp;with_reducible exact⟨rfl,rfl⟩
     refine(HT.out _ (zA B1 hk2.1)).mono ?_;rintro e w3 ⟨rfl,hb3⟩;have hk3:=hk2.step hb3;refine⟨_,rfl,hk3,?_⟩;simp only[zrB]
     repeat
      apply zF (by rw[hY];rfl)
      ·intro w2 hS2;(try simp only[Keeps,Cells]at hS2);go_simp;with_reducible rfl
      simp only[zrB]
     repeat
      first
       | (apply zR (by rw[hY];rfl);simp only[zrB])
       | (refine yM (by rw[hY];rfl) (hk3) ?_;simp only[zrB])
     repeat
      apply zF (by rw[hY];rfl)
      ·intro w2 hS2;(try simp only[Keeps,Cells]at hS2);go_simp;with_reducible rfl
      simp only[zrB]
     repeat
      first
       | (apply zR (by rw[hY];rfl);simp only[zrB])
       | (refine yM (by rw[hY];rfl) (hk3) ?_;simp only[zrB])
     repeat
      apply zF (by rw[hY];rfl)
      ·intro w2 hS2;(try simp only[Keeps,Cells]at hS2);go_simp;with_reducible rfl
      simp only[zrB]
     repeat
      first
       | (apply zR (by rw[hY];rfl);simp only[zrB])
       | (refine yM (by rw[hY];rfl) (hk3) ?_;simp only[zrB])
     repeat
      apply zF (by rw[hY];rfl)
      ·intro w2 hS2;(try simp only[Keeps,Cells]at hS2);go_simp;with_reducible rfl
      simp only[zrB]
     refine zZ (hF.out _ _ (fun K hK=> ?_));clear hF hY;have B9:=zA B1 hk3.1;refine OnlyK.mk (hK.out _ _ ?_);clear hK;go_wp2;go_returns;exact⟨by first|rfl|simp,B9⟩
   | true=>
     cases d2 with
     | false=>
       go_wp2_with fail;refine zrE 33 0 [(U,[U,U,zrA,U,U,U]),(zrA,[zrA,zrA,U]),(zrA,[zrA,zrA,zrA,zrA,zrA,zrA,U]),(U,[zrA,zrA,zrA,zrA,zrA,zrA,zrA,U,U,U,U,U,U,U,U,U,U,U,U,U]),(zrA,[zrA,zrA,zrA,zrA,zrA,zrA,zrA,zrA,zrA,zrA,zrA,zrA,zrA,zrA,zrA,zrA,zrA,zrA,zrA,zrA,U]),(U,[zrA,zrA,zrA,zrA,zrA,zrA,zrA,zrA,zrA,zrA,zrA,zrA,zrA,zrA,zrA,zrA,zrA,zrA,zrA,zrA,zrA,U,U,U,U,U,U,U]),(zrA,[zrA,zrA,zrA,zrA,zrA,zrA,zrA,zrA,zrA,zrA,zrA,zrA,zrA,zrA,zrA,zrA,zrA,zrA,zrA,zrA,zrA,zrA,zrA,zrA,zrA,zrA,zrA,zrA,U]),(U,[zrA,zrA,zrA,zrA,zrA,zrA,zrA,zrA,zrA,zrA,zrA,zrA,zrA,zrA,zrA,zrA,zrA,zrA,zrA,zrA,zrA,zrA,zrA,zrA,zrA,zrA,zrA,zrA,zrA,U]),(zrA,[zrA,zrA,zrA,zrA,zrA,zrA,zrA,zrA,zrA,zrA,zrA,zrA,zrA,zrA,zrA,zrA,zrA,zrA,zrA,zrA,zrA,zrA,zrA,zrA,zrA,zrA,zrA,zrA,zrA,zrA,U]),(U,[zrA,zrA,zrA,zrA,zrA,zrA,zrA,zrA,zrA,zrA,zrA,zrA,zrA,zrA,zrA,zrA,zrA,zrA,zrA,zrA,zrA,zrA,zrA,zrA,zrA,zrA,zrA,zrA,zrA,zrA,zrA,U,U])] (Keeps W1 [(⟨w.heap.size,0,none⟩,.int .i64 kind),(⟨w.heap.size,1,none⟩,.int .i64 bits),(⟨w.heap.size,2,none⟩,.int .i64 limit),(⟨w.heap.size,3,none⟩,.int .i64 rate),(⟨w.heap.size,4,none⟩,.int .i64 first),(⟨w.heap.size,5,none⟩,.int .i64 second),(⟨w.heap.size+1,0,none⟩,.slice y.a1 m1 y.c1),(⟨w.heap.size+1,1,none⟩,.int .i64 sb),(⟨w.heap.size+1,2,none⟩,.slice y.a2 m2 y.c2),(⟨w.heap.size+1,3,none⟩,.int .i64 sl)]) (by kernel_rfl) (Keeps.start hCS) (fun Y Q4 F4 hY hF=> ?_);simp only[zrC]
       repeat
        apply zF (by rw[hY];rfl)
        ·intro w2 hS2;(try simp only[Keeps,Cells]at hS2);go_simp;with_reducible rfl
        simp only[zrB]
       apply zS (by rw[hY];rfl)
       ·go_simp;with_reducible exact⟨rfl,rfl⟩
       refine(HCt.out _).mono ?_;rintro e w2 ⟨rfl,hb2⟩;have hk2:=(Keeps.start hCS).step hb2;refine⟨_,rfl,hk2,?_⟩;simp only[zrB]
       repeat
        apply zF (by rw[hY];rfl)
        ·intro w2 hS2;(try simp only[Keeps,Cells]at hS2);go_simp;with_reducible rfl
        simp only[zrB]
       apply zS (by rw[hY];rfl)
       ·go_simp;with_reducible exact⟨rfl,rfl⟩
       refine(HT.out _ (zA B1 hk2.1)).mono ?_;rintro e w3 ⟨rfl,hb3⟩;have hk3:=hk2.step hb3;refine⟨_,rfl,hk3,?_⟩;simp only[zrB]
       repeat
        apply zF (by rw[hY];rfl)
        ·intro w2 hS2;(try simp only[Keeps,Cells]at hS2);go_simp;with_reducible rfl
        simp only[zrB]
       apply zS (by rw[hY];rfl)
       ·go_simp;with_reducible exact⟨rfl,rfl⟩
       refine(HC.out _ (zA B1 hk3.1)).mono ?_;rintro e w4 ⟨rfl,hb4⟩;have hk4:=hk3.step hb4;refine⟨_,rfl,hk4,?_⟩;simp only[zrB]
       repeat
        apply zF (by rw[hY];rfl)
        ·intro w2 hS2;(try simp only[Keeps,Cells]at hS2);go_simp;with_reducible rfl
        simp only[zrB]
       repeat
        first
         | (apply zR (by rw[hY];rfl);simp only[zrB])
         | (refine yM (by rw[hY];rfl) (hk4) ?_;simp only[zrB])
       repeat
        apply zF (by rw[hY];rfl)
        ·intro w2 hS2;(try simp only[Keeps,Cells]at hS2);go_simp;with_reducible rfl
        simp only[zrB]
       repeat
        first
         | (apply zR (by rw[hY];rfl);simp only[zrB])
         | (refine yM (by rw[hY];rfl) (hk4) ?_;simp only[zrB])
       repeat
        apply zF (by rw[hY];rfl)
        ·intro w2 hS2;(try simp only[Keeps,Cells]at hS2);go_simp;with_reducible rfl
        simp only[zrB]
       refine zZ (hF.out _ _ (fun K hK=> ?_));clear hF hY;have B9:=zA B1 hk4.1;refine OnlyK.mk (hK.out _ _ ?_);clear hK;go_wp2;go_returns;exact⟨by first|rfl|simp,B9⟩
     | true=>
       cases h with
       | false=>
         go_wp2_with fail;refine zrE 33 0 [(U,[U,U,zrA,U,U,U]),(zrA,[zrA,zrA,U]),(zrA,[zrA,zrA,zrA,zrA,zrA,zrA,U]),(U,[zrA,zrA,zrA,zrA,zrA,zrA,zrA,U,U,U,U,U,U,U,U,U,U,U,U,U]),(zrA,[zrA,zrA,zrA,zrA,zrA,zrA,zrA,zrA,zrA,zrA,zrA,zrA,zrA,zrA,zrA,zrA,zrA,zrA,zrA,zrA,U]),(U,[zrA,zrA,zrA,zrA,zrA,zrA,zrA,zrA,zrA,zrA,zrA,zrA,zrA,zrA,zrA,zrA,zrA,zrA,zrA,zrA,zrA,U,U,U,U,U,U,U]),(zrA,[zrA,zrA,zrA,zrA,zrA,zrA,zrA,zrA,zrA,zrA,zrA,zrA,zrA,zrA,zrA,zrA,zrA,zrA,zrA,zrA,zrA,zrA,zrA,zrA,zrA,zrA,zrA,zrA,U]),(U,[zrA,zrA,zrA,zrA,zrA,zrA,zrA,zrA,zrA,zrA,zrA,zrA,zrA,zrA,zrA,zrA,zrA,zrA,zrA,zrA,zrA,zrA,zrA,zrA,zrA,zrA,zrA,zrA,zrA,U]),(zrA,[zrA,zrA,zrA,zrA,zrA,zrA,zrA,zrA,zrA,zrA,zrA,zrA,zrA,zrA,zrA,zrA,zrA,zrA,zrA,zrA,zrA,zrA,zrA,zrA,zrA,zrA,zrA,zrA,zrA,zrA,U]),(U,[zrA,zrA,zrA,zrA,zrA,zrA,zrA,zrA,zrA,zrA,zrA,zrA,zrA,zrA,zrA,zrA,zrA,zrA,zrA,zrA,zrA,zrA,zrA,zrA,zrA,zrA,zrA,zrA,zrA,zrA,zrA,U,U])] (Keeps W1 [(⟨w.heap.size,0,none⟩,.int .i64 kind),(⟨w.heap.size,1,none⟩,.int .i64 bits),(⟨w.heap.size,2,none⟩,.int .i64 limit),(⟨w.heap.size,3,none⟩,.int .i64 rate),(⟨w.heap.size,4,none⟩,.int .i64 first),(⟨w.heap.size,5,none⟩,.int .i64 second),(⟨w.heap.size+1,0,none⟩,.slice y.a1 m1 y.c1),(⟨w.heap.size+1,1,none⟩,.int .i64 sb),(⟨w.heap.size+1,2,none⟩,.slice y.a2 m2 y.c2),(⟨w.heap.size+1,3,none⟩,.int .i64 sl)]) (by kernel_rfl) (Keeps.start hCS) (fun Y Q4 F4 hY hF=> ?_);simp only[zrC]
         repeat
          apply zF (by rw[hY];rfl)
          ·intro w2 hS2;(try simp only[Keeps,Cells]at hS2);go_simp;with_reducible rfl
          simp only[zrB]
         apply zS (by rw[hY];rfl)
         ·go_simp;with_reducible exact⟨rfl,rfl⟩
         refine(HCt.out _).mono ?_;rintro e w2 ⟨rfl,hb2⟩;have hk2:=(Keeps.start hCS).step hb2;refine⟨_,rfl,hk2,?_⟩;simp only[zrB]
         repeat
          apply zF (by rw[hY];rfl)
          ·intro w2 hS2;(try simp only[Keeps,Cells]at hS2);go_simp;with_reducible rfl
          simp only[zrB]
         apply zS (by rw[hY];rfl)
         ·go_simp;with_reducible exact⟨rfl,rfl⟩
         refine(HT.out _ (zA B1 hk2.1)).mono ?_;rintro e w3 ⟨rfl,hb3⟩;have hk3:=hk2.step hb3;refine⟨_,rfl,hk3,?_⟩;simp only[zrB]
         repeat
          apply zF (by rw[hY];rfl)
          ·intro w2 hS2;(try simp only[Keeps,Cells]at hS2);go_simp;with_reducible rfl
          simp only[zrB]
         apply zS (by rw[hY];rfl)
         ·go_simp;with_reducible exact⟨rfl,rfl⟩
         refine(HC.out _ (zA B1 hk3.1)).mono ?_;rintro e w4 ⟨rfl,hb4⟩;have hk4:=hk3.step hb4;refine⟨_,rfl,hk4,?_⟩;simp only[zrB]
         repeat
          apply zF (by rw[hY];rfl)
          ·intro w2 hS2;(try simp only[Keeps,Cells]at hS2);go_simp;with_reducible rfl
          simp only[zrB]
         apply zS (by rw[hY];rfl)
         ·go_simp;with_reducible exact⟨rfl,rfl⟩
         refine(HS.out _).mono ?_;rintro e w5 ⟨rfl,hb5⟩;have hk5:=hk4.step hb5;refine⟨_,rfl,hk5,?_⟩;simp only[zrB]
         repeat
          apply zF (by rw[hY];rfl)
          ·intro w2 hS2;(try simp only[Keeps,Cells]at hS2);go_simp;with_reducible rfl
          simp only[zrB]
         apply zS (by rw[hY];rfl)
         ·go_simp;with_reducible exact⟨rfl,rfl⟩
         refine(HBw.out _).mono ?_;rintro e w6 ⟨rfl,hb6⟩;have hk6:=hk5.step hb6;refine⟨_,rfl,hk6,?_⟩;simp only[zrB]
         repeat
          apply zF (by rw[hY];rfl)
          ·intro w2 hS2;(try simp only[Keeps,Cells]at hS2);go_simp;with_reducible rfl
          simp only[zrB]
         refine zZ (hF.out _ _ (fun K hK=> ?_));clear hF hY;have B9:=zA B1 hk6.1;refine OnlyK.mk (hK.out _ _ ?_);clear hK;go_wp2;go_returns;exact⟨by first|rfl|simp,B9⟩
       | true=>
         go_wp2_with fail;refine zrE 33 0 [(U,[U,U,zrA,U,U,U]),(zrA,[zrA,zrA,U]),(zrA,[zrA,zrA,zrA,zrA,zrA,zrA,U]),(U,[zrA,zrA,zrA,zrA,zrA,zrA,zrA,U,U,U,U,U,U,U,U,U,U,U,U,U]),(zrA,[zrA,zrA,zrA,zrA,zrA,zrA,zrA,zrA,zrA,zrA,zrA,zrA,zrA,zrA,zrA,zrA,zrA,zrA,zrA,zrA,U]),(U,[zrA,zrA,zrA,zrA,zrA,zrA,zrA,zrA,zrA,zrA,zrA,zrA,zrA,zrA,zrA,zrA,zrA,zrA,zrA,zrA,zrA,U,U,U,U,U,U,U]),(zrA,[zrA,zrA,zrA,zrA,zrA,zrA,zrA,zrA,zrA,zrA,zrA,zrA,zrA,zrA,zrA,zrA,zrA,zrA,zrA,zrA,zrA,zrA,zrA,zrA,zrA,zrA,zrA,zrA,U]),(U,[zrA,zrA,zrA,zrA,zrA,zrA,zrA,zrA,zrA,zrA,zrA,zrA,zrA,zrA,zrA,zrA,zrA,zrA,zrA,zrA,zrA,zrA,zrA,zrA,zrA,zrA,zrA,zrA,zrA,U]),(zrA,[zrA,zrA,zrA,zrA,zrA,zrA,zrA,zrA,zrA,zrA,zrA,zrA,zrA,zrA,zrA,zrA,zrA,zrA,zrA,zrA,zrA,zrA,zrA,zrA,zrA,zrA,zrA,zrA,zrA,zrA,U]),(U,[zrA,zrA,zrA,zrA,zrA,zrA,zrA,zrA,zrA,zrA,zrA,zrA,zrA,zrA,zrA,zrA,zrA,zrA,zrA,zrA,zrA,zrA,zrA,zrA,zrA,zrA,zrA,zrA,zrA,zrA,zrA,U,U])] (Keeps W1 [(⟨w.heap.size,0,none⟩,.int .i64 kind),(⟨w.heap.size,1,none⟩,.int .i64 bits),(⟨w.heap.size,2,none⟩,.int .i64 limit),(⟨w.heap.size,3,none⟩,.int .i64 rate),(⟨w.heap.size,4,none⟩,.int .i64 first),(⟨w.heap.size,5,none⟩,.int .i64 second),(⟨w.heap.size+1,0,none⟩,.slice y.a1 m1 y.c1),(⟨w.heap.size+1,1,none⟩,.int .i64 sb),(⟨w.heap.size+1,2,none⟩,.slice y.a2 m2 y.c2),(⟨w.heap.size+1,3,none⟩,.int .i64 sl)]) (by kernel_rfl) (Keeps.start hCS) (fun Y Q4 F4 hY hF=> ?_);simp only[zrC]
         repeat
          apply zF (by rw[hY];rfl)
          ·intro w2 hS2;(try simp only[Keeps,Cells]at hS2);go_simp;with_reducible rfl
          simp only[zrB]
         apply zS (by rw[hY];rfl)
         ·go_simp;with_reducible exact⟨rfl,rfl⟩
         refine(HCt.out _).mono ?_;rintro e w2 ⟨rfl,hb2⟩;have hk2:=(Keeps.start hCS).step hb2;refine⟨_,rfl,hk2,?_⟩;simp only[zrB]
         repeat
          apply zF (by rw[hY];rfl)
          ·intro w2 hS2;(try simp only[Keeps,Cells]at hS2);go_simp;with_reducible rfl
          simp only[zrB]
         apply zS (by rw[hY];rfl)
         ·go_simp;with_reducible exact⟨rfl,rfl⟩
         refine(HT.out _ (zA B1 hk2.1)).mono ?_;rintro e w3 ⟨rfl,hb3⟩;have hk3:=hk2.step hb3;refine⟨_,rfl,hk3,?_⟩;simp only[zrB]
         repeat
          apply zF (by rw[hY];rfl)
          ·intro w2 hS2;(try simp only[Keeps,Cells]at hS2);go_simp;with_reducible rfl
          simp only[zrB]
         apply zS (by rw[hY];rfl)
         ·go_simp;with_reducible exact⟨rfl,rfl⟩
         refine(HC.out _ (zA B1 hk3.1)).mono ?_;rintro e w4 ⟨rfl,hb4⟩;have hk4:=hk3.step hb4;refine⟨_,rfl,hk4,?_⟩;simp only[zrB]
         repeat
          apply zF (by rw[hY];rfl)
          ·intro w2 hS2;(try simp only[Keeps,Cells]at hS2);go_simp;with_reducible rfl
          simp only[zrB]
         apply zS (by rw[hY];rfl)
         ·go_simp;with_reducible exact⟨rfl,rfl⟩
         refine(HS.out _).mono ?_;rintro e w5 ⟨rfl,hb5⟩;have hk5:=hk4.step hb5;refine⟨_,rfl,hk5,?_⟩;simp only[zrB]
         repeat
          apply zF (by rw[hY];rfl)
          ·intro w2 hS2;(try simp only[Keeps,Cells]at hS2);go_simp;with_reducible rfl
          simp only[zrB]
         apply zS (by rw[hY];rfl)
         ·go_simp;with_reducible exact⟨rfl,rfl⟩
         refine(HBw.out _).mono ?_;rintro e w6 ⟨rfl,hb6⟩;have hk6:=hk5.step hb6;refine⟨_,rfl,hk6,?_⟩;simp only[zrB]
         repeat
          apply zF (by rw[hY];rfl)
          ·intro w2 hS2;(try simp only[Keeps,Cells]at hS2);go_simp;with_reducible rfl
          simp only[zrB]
         refine zZ (hF.out _ _ (fun K hK=> ?_));clear hF hY;have B9:=zA B1 hk6.1;refine OnlyK.mk (hK.out _ _ ?_);clear hK;have kN:=k2.step hk6.1;have kZ:=(((kN.set 0 (.slice none 0 0)).set 1 (.int .i64 0)).set 2 (.slice none 0 0)).set 3 (.int .i64 0);rw[Hz.out]at kZ;have n0:=(k2.step hk6.1).cell 0;have f0:=kN.free 0;have f1:=kN.free 1;have f2:=kN.free 2;have f3:=kN.free 3;have e0:=(hk6.1.cell (zJ c0)).trans c0;have e1:=(hk6.1.cell (zJ c1)).trans c1;have e2:=(hk6.1.cell (zJ c2)).trans c2;have e3:=(hk6.1.cell (zJ c3)).trans c3;have b0:=B9.trans (yB (zaK w6 (w.heap.size+1) 0 (.slice none 0 0)) (by omega) B9.size);have b1:=b0.trans (yB (zaK _ (w.heap.size+1) 1 (.int .i64 0)) (by omega) b0.size);have b2:=b1.trans (yB (zaK _ (w.heap.size+1) 2 (.slice none 0 0)) (by omega) b1.size);have BZ:=b2.trans (yB (zaK _ (w.heap.size+1) 3 (.int .i64 0)) (by omega) b2.size);obtain⟨WZ,hWZ⟩:∃W,(((w6.setCell ⟨w.heap.size+1,0,none⟩ (.slice none 0 0)).setCell ⟨w.heap.size+1,1,none⟩ (.int .i64 0)).setCell ⟨w.heap.size+1,2,none⟩ (.slice none 0 0)).setCell ⟨w.heap.size+1,3,none⟩ (.int .i64 0)=W:=⟨_,rfl⟩;rw[hWZ]at kZ BZ;clear b0 b1 b2 n0 kN hk2 hk3 hk4 hk5 hk6 c0 c1 c2 c3 k1 k2 hCS;go_wp2_with (first
          | (rw[hWZ])
          | (refine yC 83 (.tmp 4) (by rfl) (by rfl) (w.heap.size+1) (by rfl) VZ 83 kZ _ Tryz.underlying83 rfl (info_P.trans HZl.out) ?_))
         refine(HB.out _).mono ?_;rintro e w8 ⟨rfl,hb8⟩;have B8:=zA BZ hb8;go_wp2;go_returns;exact⟨by first|rfl|simp,B8⟩
theorem zjR(n:Nat):((2^n:Nat):Int)=(2:Int)^n:=by simp
theorem right_all(N:S14.N)(L:NLay)(w:World)(hN:NIs N L w):zdZ N L w:=fun k c p y hc hok hp hy W hW=>by
 have hi:=S14.ok_is hok;have hP:=(hN.ps k p y hp hy).step hW;have hb:=zbX hi.bits.1;have hb16:c.bits.toNat≤16:=by have:=hi.bits;omega
 rcases hi.kind with h|h|h|h|h|h|h
 ·unfold zfY S14.right;rw[zU h,zU h];exact zfW c p y N.part W hP
 ·unfold zfY S14.right;rw[zK (by omega),zU h,zK (by omega),zU h];exact zhL c p y N.part c.bits.toNat _ hb16 hb rfl W hP
 ·unfold zfY S14.right;rw[zK (by omega),zK (by omega),zU h,zK (by omega),zK (by omega),zU h];have H:=znQ c p y N.part c.bits.toNat _ hb16 hb rfl W hP;rw[zjR]at H;exact H
 ·unfold zfY S14.right;rw[zK (by omega),zK (by omega),zK (by omega),zU h,zK (by omega),zK (by omega),zK (by omega),zU h];exact znM c p y N.part W hP
 ·unfold zfY S14.right;rw[zK (by omega),zK (by omega),zK (by omega),zK (by omega),zU h,zK (by omega),zK (by omega),zK (by omega),zK (by omega),zU h];exact zgO c p y N.part W hP
 ·have hm:=hi.mix h;unfold zfY S14.right;rw[zK (by omega),zK (by omega),zK (by omega),zK (by omega),zK (by omega),zU h,zK (by omega),zK (by omega),zK (by omega),zK (by omega),zK (by omega),zU h];have H:=zqL c p y N.part c.bits.toNat _ hb16 hb rfl ⟨hm.1,hm.2.1,by have h1:=(List.getElem?_eq_some_iff.1 hc).1;have h2:=hN.l1;omega⟩ W hP;rw[zjR]at H;exact H
 ·unfold zfY S14.right;rw[zK (by omega),zK (by omega),zK (by omega),zK (by omega),zK (by omega),zK (by omega),zK (by omega),zK (by omega),zK (by omega),zK (by omega),zK (by omega),zK (by omega),zU h];have H:=zmX c p y N.part c.bits.toNat _ hb16 hb rfl W hP;rw[zjR]at H;exact H
theorem refine_ok14{c:S14.C}{k:Int}(h:c.kind=6)(hok:S14.ok c k=true):0≤c.first∧c.first<k:=by
 unfold S14.ok at hok;rw[zK (by omega),zK (by omega),zK (by omega),zK (by omega),zK (by omega),zK (by omega),zU h]at hok;unfold S14.okRefine at hok;simp only[yF,S14.has_iff]at hok;omega
theorem MIs.rowF{m:S12.M}{p:Pl}{w w':World}{B b:Nat}(h:MIs m p w)(hf:Far B p)(hg:w.grownBy w' (some b))(hb:b<B):MIs m p w':=
 ⟨h.rdh.keptRow hg (fun g o e=>by have:=hf.1 g o e;omega),h.rdb.keptRow hg (fun g o e=>by have:=hf.2.1 g o e;omega),h.rdc.keptRow hg (fun g o e=>by have:=hf.2.2 g o e;omega),h.byt,h.cb,h.lh,h.lb,h.lc⟩
theorem MIs.keptF{m:S12.M}{p:Pl}{w w':World}{B:Nat}(h:MIs m p w)(hf:Far B p)(hk:Kept 0 B w w'):MIs m p w':=
 ⟨h.rdh.kept hk (fun g o e=>.inr (hf.1 g o e)),h.rdb.kept hk (fun g o e=>.inr (hf.2.1 g o e)),h.rdc.kept hk (fun g o e=>.inr (hf.2.2 g o e)),h.byt,h.cb,h.lh,h.lb,h.lc⟩
theorem PIs.ofM{m:S12.M}{p:Pl}{w:World}(h:MIs m p w):PIs {S14.P0 with m:=m} {zbC with pl:=p} w:=⟨Rd.nil _ _,(PIs.zero w).tab,h,(PIs.zero w).mix,(PIs.zero w).apm⟩
theorem MVals_one(m:S12.M)(p:Pl):∀v∈zbQ m p,v.oneCell'=true:=by
 intro v hv;simp only[zbQ,List.mem_cons,zaL,or_false]at hv;rcases hv with rfl|rfl|rfl|rfl|rfl|rfl|rfl|rfl|rfl<;>rfl
theorem znN(c:S14.C)(w:World):Calls Tryz.prog 229 #[CV c] w fun e w'=>∃y,e = .returned (PV {S14.P0 with m:=S12.newM c.bits c.limit} y)∧PRob 0 w.heap.size {S14.P0 with m:=S12.newM c.bits c.limit} y w'∧Below w.heap.size w w':=by
 have HN:=zD fun W=>new12_any c.bits c.limit W;obtain⟨W1,hW1⟩:∃W1,(w.alloc (.cells (zT c).toArray 118)).alloc (.cells zP 83)=W1:=⟨_,rfl⟩;have k1:Blk W1 w.heap.size (zT c) 118:=by rw[←hW1];exact(Blk.new w _ _).alloc _
 have k2:Blk W1 (w.heap.size+1) (yG S14.P0 zbC) 83:=by
  rw[←hW1];have h:=zeE (w.alloc (.cells (zT c).toArray 118));rwa[yA]at h
 have B1:Below w.heap.size w W1:=by rw[←hW1];exact((zG _ _).alloc (zE _) _).alloc (by simp) _
 obtain⟨M,hM⟩:∃M,S12.newM c.bits c.limit=M:=⟨_,rfl⟩;rw[hM]at HN⊢;obtain⟨E,hE⟩:∃M,S12.newE c.bits c.limit=M:=⟨_,rfl⟩;rw[hE]at HN;clear hM hE;obtain⟨kind,bits,limit,rate,first,second⟩:=c;unfold CV zT at *;simp only at *;have q1:=k1.cell 1;have q2:=k1.cell 2;simp only[zrD]at q1 q2;go_enter Tryz.func229,Tryz.ntmps229;go_wp2_with (first
  | (refine yU 83 zP zbS (by rfl) (by rfl) ?_;rw[hW1])
  | fail)
 refine(HN.out _).mono ?_;rintro e w2 ⟨p,rfl,hI,hfar,hb2⟩;have k22:=k2.step hb2;have B2:=zA B1 hb2;have hB1:=B1.size;have hfar2:w.heap.size≤W1.heap.size:=hB1;have hl2:=k22.lt;have hone:∀v∈yG {S14.P0 with m:=M} {zbC with pl:=p},v.oneCell'=true:=zaE _ _;obtain⟨x0,x1,x2,x3,x4,x5,x6,x7,x8,hVM,hPM⟩:∃x0 x1 x2 x3 x4 x5 x6 x7 x8:Value,zbQ M p = [x0,x1,x2,x3,x4,x5,x6,x7,x8]∧yG {S14.P0 with m:=M} {zbC with pl:=p} = [.slice none 0 0,.int .i64 0,.slice none 0 0,.int .i64 0,x0,x1,x2,x3,x4,x5,x6,x7,x8,.int .i64 0,.slice none 0 0,.slice none 0 0]:=⟨_,_,_,_,_,_,_,_,_,rfl,rfl⟩;have hmo:=MVals_one M p;rw[hVM]at hmo;rw[hPM]at hone;unfold MV;rw[hVM];obtain⟨W3,hW3⟩:∃W,w2.alloc (.cells #[.int .i64 0,.int .i64 0,.slice none 0 0,.slice none 0 0,.int .i64 0,.int .i64 0,.int .i64 0,.int .i64 0,.slice none 0 0] 77)=W:=⟨_,rfl⟩;obtain⟨b3,hb3⟩:∃b,w2.heap.size=b:=⟨_,rfl⟩;have kM:Blk W3 b3 [.int .i64 0,.int .i64 0,.slice none 0 0,.slice none 0 0,.int .i64 0,.int .i64 0,.int .i64 0,.int .i64 0,.slice none 0 0] 77:=by rw[←hW3,←hb3];exact Blk.new w2 _ _
 have ba3:Below w2.heap.size w2 W3:=by rw[←hW3];exact(zG _ _).alloc (zE _) _
 have k23:=k22.step ba3;have HI:=zD hI;have hW1s:W1.heap.size=w.heap.size+2:=by rw[←hW1];simp
 have Hfar:=zD (hW1s▸hfar:Far (w.heap.size+2) p);have Hba3:=zD ba3;have B3:=zA B2 ba3;have hbw:w.heap.size+1<b3:=by rw[←hb3];exact hl2
 clear hI hfar hfar2 ba3;go_wp2_with (first
  | (rw[hW3,hb3])
  | (rw[hW3])
  | (refine yE 77 (.tmp 3) (.tmp 13) (by rfl) (by rfl) b3 (by rfl) [x0,x1,x2,x3,x4,x5,x6,x7,x8] (by rfl) _ 77 kM info_M14 rfl hmo ?_;intro s4 E4 g4 z4;clear z4;have k24:=k23.keptRow g4 (by intro e;have:=zO e;omega);have B4:=B3.trans (yB g4 (by omega) B3.size))
  | (refine yC 77 (.tmp 3) (by rfl) (by rfl) b3 (by rfl) [x0,x1,x2,x3,x4,x5,x6,x7,x8] 77 E4 _ Tryz.underlying77 rfl info_M14 ?_)
  | (refine yE 83 (.tmp 2) (.tmp 16) (by rfl) (by rfl) (w.heap.size+1) (by rfl) [.slice none 0 0,.int .i64 0,.slice none 0 0,.int .i64 0,x0,x1,x2,x3,x4,x5,x6,x7,x8,.int .i64 0,.slice none 0 0,.slice none 0 0] (by rfl) _ 83 k24 (info_P.trans rfl) rfl hone ?_;intro wL EL gL sL))
 have hL:=run_loadVar_mid wL _ 0 _ _ _ EL.cells Tryz.underlying83 rfl (info_P.trans rfl);have hI4:=HI.out.step (Hba3.out.trans (yB g4 (by omega) Hba3.out.size));have hIL:=hI4.rowF Hfar.out gL (by omega);refine bodyPost_ret (v:=.agg #[.slice none 0 0,.int .i64 0,.slice none 0 0,.int .i64 0,x0,x1,x2,x3,x4,x5,x6,x7,x8,.int .i64 0,.slice none 0 0,.slice none 0 0]) ?_ rfl ?_
 ·exact zaB (show Tryz.f229.results = #[.cell 2 83]from rfl) (p:=⟨w.heap.size+1,0,none⟩) rfl hL
 ·refine⟨{zbC with pl:=p},?_,fun w' hk=>PIs.ofM (hIL.keptF (Hfar.out.mono (by omega)) hk),B4.trans (yB gL (by omega) B4.size)⟩;unfold PV;rw[hPM]
theorem zcK{p:S14.P}(h:S14.bare p=true):p.ctrs = []∧p.sd = []∧p.mw = []∧p.ac = []∧p.m.heads = []∧p.m.bytes = []∧p.m.ctrs = []:=by
 unfold S14.bare S14.noM at h;simp only[yF,yK]at h;obtain⟨⟨⟨⟨⟨⟨⟨h1,_⟩,h3⟩,_⟩,_,h5⟩,_⟩,h7⟩,h8⟩:=h;exact⟨List.length_eq_zero_iff.1 h1,List.length_eq_zero_iff.1 h3,List.length_eq_zero_iff.1 h7,List.length_eq_zero_iff.1 h8,List.length_eq_zero_iff.1 (by omega),List.length_eq_zero_iff.1 (by omega),List.length_eq_zero_iff.1 (by omega)⟩
theorem Tab.nil14{xs:List Int}{a:Option Addr}{cap:Nat}{w w':World}(h:Tab xs a cap w)(hn:xs = []):Tab xs a cap w':=by
 subst hn;exact⟨h.ok,h.cap,Rd.nil _ _⟩
theorem MixIs.nil14{n:Int}{l:List (List Int)}{V:Value}{w w':World}(h:MixIs n l V w)(hn:l = []):MixIs n l V w':=by
 subst hn;obtain⟨R,a,cap,e1,e2,e3,e4,e5,e6⟩:=h;have hR:R = []:=List.map_eq_nil_iff.1 e1.symm;subst hR;exact⟨[],a,cap,rfl,e2,e3,e4,Rd.nil _ _,fun r hr=>by cases hr⟩
theorem MapIs.nil14{l:List Int}{V:Value}{w w':World}(h:MapIs l V w)(hn:l = []):MapIs l V w':=by
 subst hn;obtain⟨a,cap,e1,e2,e3,e4⟩:=h;exact⟨a,cap,e1,e2,e3,Rd.nil _ _⟩
theorem MIs.nil14{m:S12.M}{p:Pl}{w w':World}(h:MIs m p w)(h1:m.heads = [])(h2:m.bytes = [])(h3:m.ctrs = []):MIs m p w':=
 ⟨by rw[h1];exact Rd.nil _ _,by rw[h2];exact Rd.nil _ _,by rw[h3];exact Rd.nil _ _,h.byt,h.cb,h.lh,h.lb,h.lc⟩
theorem PIs.bare14{p:S14.P}{y:Lay}{w w':World}(h:PIs p y w)(hb:S14.bare p=true):PIs p y w':=by
 obtain⟨h1,h2,h3,h4,h5,h6,h7⟩:=zcK hb;exact⟨by rw[h1];exact Rd.nil _ _,h.tab.nil14 h2,h.mch.nil14 h5 h6 h7,h.mix.nil14 h3,h.apm.nil14 h4⟩
theorem PIs.bareC{p:S14.P}{y:Lay}{w w':World}{l:List (Int×Int)}{a:Option Addr}{cap:Nat}(h:PIs p y w)(hb:S14.bare {p with ctrs:=[]}=true)(hr:Rd w' a (Cts l)):PIs {p with ctrs:=l} {y with a1:=a,c1:=cap} w':=by
 obtain⟨_,h2,h3,h4,h5,h6,h7⟩:=zcK hb;exact⟨hr,h.tab.nil14 h2,h.mch.nil14 h5 h6 h7,h.mix.nil14 h3,h.apm.nil14 h4⟩
theorem zqQ{c:S14.C}{p:S14.P}{pt:Int}(h:c.kind=1)(hr:S14.right c p pt=true):S14.bare {p with ctrs:=[]}=true:=by
 unfold S14.right at hr;rw[zK (by omega),zU h]at hr;simp only[yF]at hr;exact hr.1
theorem zlM{c:S14.C}{p:S14.P}{pt:Int}(h:c.kind=0∨c.kind=4)(hr:S14.right c p pt=true):S14.bare p=true:=by
 unfold S14.right at hr;rcases h with h|h
 ·rw[zU h]at hr;exact hr
 ·rw[zK (by omega),zK (by omega),zK (by omega),zK (by omega),zU h]at hr;exact hr
theorem znW(c:S14.C)(N:S14.N)(L:NLay)(k:Nat)(b:Value)(hb:b.oneCell'=true)(p:S14.P)(y:Lay)(n:Nat)(bit:Int)(w:World)(hbare:S14.bare {p with ctrs:=[]}=true)(hN:NIs N L w)(hc:N.comps[k]? = some c)(hp:N.parts[k]? = some p)(hy:L.ys[k]? = some y)(hx:k<N.ctxs.length)(pt:Nat)(hpt:N.part=(pt:Int))(hpt2:pt<4294967296)
 (hn:c.bits=(n:Int)) (hn2:n≤16) (hl:p.ctrs.length=2^n) :
 Calls Tryz.prog 185 #[CV c,VV N L k b,.int .i64 bit] w fun e w'=>∃y',e = .returned (.tuple #[PV {p with ctrs:=S14.upd p.ctrs (S14.index (N.ctxs.getD k 0) pt n) bit c.limit} y',.int .i64 0])∧
  PRob 0 w.heap.size {p with ctrs:=S14.upd p.ctrs (S14.index (N.ctxs.getD k 0) pt n) bit c.limit} y' w'∧Below w.heap.size w w':=by
 have hk:k<N.parts.length:=(List.getElem?_eq_some_iff.1 hp).1;have hP:=hN.ps k p y hp hy;have hil:=S14.index_lt (N.ctxs.getD k 0) pt hn2;rw[←hl]at hil;have h65:p.ctrs.length≤65536:=by rw[hl];exact(zdP hn2).2
 have HPt:=zD fun(W:World) (hW:Below w.heap.size w W)=>zgV N L k b hb W (hN.step hW) hk p y hp hy;have HIx:=zD fun(W:World) (hW:Below w.heap.size w W)=>znP N L k b W (hN.step hW) hx pt hpt hpt2 c hc n hn hn2;obtain⟨i,hi⟩:∃i,S14.index (N.ctxs.getD k 0) pt n=i:=⟨_,rfl⟩;rw[hi]at hil HIx⊢;have HUp:=zD fun(W:World) (hW:Below w.heap.size w W)=>zqA p.ctrs i hil h65 bit c.limit y.a1 y.c1 W (hP.rc.step hW);have HPI:=zD fun(a:Option Addr) (cap:Nat) (l:List (Int×Int)) (w':World) (hr:Rd w' a (Cts l))=>hP.bareC (cap:=cap) hbare hr;unfold PV at HPt;have hhd:∃tl,yG p y = .slice y.a1 p.ctrs.length y.c1::tl∧tl.length=15∧∀(a:Option Addr) (cap:Nat) (l:List (Int×Int)),l.length=p.ctrs.length→yG {p with ctrs:=l} {y with a1:=a,c1:=cap} = .slice a p.ctrs.length cap::tl:=⟨_,rfl,rfl,fun a cap l hl=>by unfold yG;simp only[hl]⟩;obtain⟨tl,htl,htl2,htl3⟩:=hhd;have hone:=zaE p y;rw[htl]at HPt hone;have hlu:(S14.upd p.ctrs i bit c.limit).length=p.ctrs.length:=by unfold S14.upd;rw[zdT]
 have HTL:=zD fun a cap=>htl3 a cap (S14.upd p.ctrs i bit c.limit) hlu;obtain⟨ul,hul⟩:∃ul,S14.upd p.ctrs i bit c.limit=ul:=⟨_,rfl⟩;rw[hul]at HUp HTL⊢;obtain⟨m,hm⟩:∃m,p.ctrs.length=m:=⟨_,rfl⟩;rw[hm]at HPt HUp HTL hone;obtain⟨kind,bits,limit,rate,first,second⟩:=c;unfold CV zT;simp only at HUp⊢;unfold VV at HPt HIx⊢;obtain⟨nc,hnc⟩:∃n,N.comps.length=n:=⟨_,rfl⟩;obtain⟨np,hnp⟩:∃n,N.parts.length=n:=⟨_,rfl⟩;obtain⟨nx,hnx⟩:∃n,N.ctxs.length=n:=⟨_,rfl⟩;rw[hnc,hnp,hnx,hpt]at HPt HIx⊢;clear hnc hnp hnx hm hul hlu hi htl htl3 hP hN hp hy hc hx hk hl hb h65 hil hpt hn;obtain⟨W1,hW1⟩:∃W1,((w.alloc (.cells #[.int .i64 kind,.int .i64 bits,.int .i64 limit,.int .i64 rate,.int .i64 first,.int .i64 second] 116)).alloc (.cells #[.slice L.a1 nc L.c1,.slice L.a2 np L.c2,.slice L.a3 nx L.c3,.int .i64 (pt:Int),.int .i64 (k:Int),b] 104)).alloc (.cells zP 83)=W1:=⟨_,rfl⟩;have k1:Blk W1 w.heap.size [.int .i64 kind,.int .i64 bits,.int .i64 limit,.int .i64 rate,.int .i64 first,.int .i64 second] 116:=by rw[←hW1];exact((Blk.new w _ _).alloc _).alloc _
 have k2:Blk W1 (w.heap.size+1) [.slice L.a1 nc L.c1,.slice L.a2 np L.c2,.slice L.a3 nx L.c3,.int .i64 (pt:Int),.int .i64 (k:Int),b] 104:=by
  rw[←hW1];have h:=(Blk.new (w.alloc (.cells #[.int .i64 kind,.int .i64 bits,.int .i64 limit,.int .i64 rate,.int .i64 first,.int .i64 second] 116)) [.slice L.a1 nc L.c1,.slice L.a2 np L.c2,.slice L.a3 nx L.c3,.int .i64 (pt:Int),.int .i64 (k:Int),b] 104).alloc (.cells zP 83);rwa[yA]at h
 have k3:Blk W1 (w.heap.size+1+1) (yG S14.P0 zbC) 83:=by
  rw[←hW1];have h:=zeE ((w.alloc (.cells #[.int .i64 kind,.int .i64 bits,.int .i64 limit,.int .i64 rate,.int .i64 first,.int .i64 second] 116)).alloc (.cells #[.slice L.a1 nc L.c1,.slice L.a2 np L.c2,.slice L.a3 nx L.c3,.int .i64 (pt:Int),.int .i64 (k:Int),b] 104));rwa[yA,yA]at h
 have B1:Below w.heap.size w W1:=by rw[←hW1];exact(((zG _ _).alloc (zE _) _).alloc (by simp) _).alloc (by simp;omega) _
 have e0:=k2.cell 0;have e1:=k2.cell 1;have e2:=k2.cell 2;have e3:=k2.cell 3;have e4:=k2.cell 4;have e5:=k2.cell 5;simp only[zrD]at e0 e1 e2 e3 e4 e5;go_enter Tryz.func185,Tryz.ntmps185;go_wp2_with (first
  | (refine yU 83 zP zbS (by rfl) (by rfl) ?_;rw[hW1])
  | fail)
 refine(HPt.out _ B1).mono ?_;rintro e w2 ⟨rfl,hb2⟩;have B2:=zA B1 hb2;obtain⟨w3,hw3⟩:∃w3,w2.alloc (.cells zP 83)=w3:=⟨_,rfl⟩;have kP:Blk w3 w2.heap.size (yG S14.P0 zbC) 83:=by rw[←hw3];exact zeE w2
 have hb3:Below w2.heap.size w2 w3:=by rw[←hw3];exact(zG _ _).alloc (zE _) _
 have hl16:(yG S14.P0 zbC).length=(Value.slice y.a1 m y.c1::tl).length:=by rw[zbD,htl2];rfl
 have hi16:some 16=some (Value.slice y.a1 m y.c1::tl).length:=by rw[zbD,htl2]
 have hb13:=zA hb2 hb3;have k13:=k1.step hb13;have k23:=k2.step hb13;have k33:=k3.step hb13;have hz2:w.heap.size+1+1<w2.heap.size:=(k3.step hb2).lt;go_wp2_with (first
  | (refine yU 83 zP zbS (by rfl) (by rfl) ?_;rw[hw3])
  | (refine yE 83 (.tmp 8) (.tmp 10) (by rfl) (by rfl) w2.heap.size (by rfl) (Value.slice y.a1 m y.c1::tl) (by rfl) _ 83 kP (info_P.trans hi16) hl16 hone ?_;intro w4 k4 g4 s4))
 have hb24:Below w2.heap.size w2 w4:=hb3.trans (yB g4 (zE _) hb3.size);have B4:=zA B2 hb24;have k14:=k13.keptRow g4 (fun e=>by have:=zO e;omega);have k24:=k23.keptRow g4 (fun e=>by have:=zO e;omega);have k34:=k33.keptRow g4 (fun e=>by have:=zO e;omega);have hz4:w2.heap.size<w4.heap.size:=k4.lt;obtain⟨B,hB⟩:∃B,w2.heap.size=B:=⟨_,rfl⟩;rw[hB]at k4 hz2 hz4⊢;clear g4 s4 k13 k23 k33 kP hb24 hb3 hb13 hB;have k40:=k4.cell 0;simp only[lgz]at k40;have hCS:Cells w4 [(⟨B,0,none⟩,.slice y.a1 m y.c1),(⟨w.heap.size+1,0,none⟩,.slice L.a1 nc L.c1),(⟨w.heap.size+1,1,none⟩,.slice L.a2 np L.c2),(⟨w.heap.size+1,2,none⟩,.slice L.a3 nx L.c3),(⟨w.heap.size+1,3,none⟩,.int .i64 (pt:Int)),(⟨w.heap.size+1,4,none⟩,.int .i64 (k:Int)),(⟨w.heap.size+1,5,none⟩,b),(⟨w.heap.size,2,none⟩,.int .i64 limit)]:=⟨k40,k24.cell 0,k24.cell 1,k24.cell 2,k24.cell 3,k24.cell 4,k24.cell 5,k14.cell 2,yJ⟩;refine zrE 9 2 [(U,[U,U,U,zrA,U,U,U,U]),(zrA,[zrA,zrA,zrA,U]),(zrA,[zrA,zrA,zrA,zrA,zrA,zrA,zrA,zrA,U])] (Keeps w4 [(⟨B,0,none⟩,.slice y.a1 m y.c1),(⟨w.heap.size+1,0,none⟩,.slice L.a1 nc L.c1),(⟨w.heap.size+1,1,none⟩,.slice L.a2 np L.c2),(⟨w.heap.size+1,2,none⟩,.slice L.a3 nx L.c3),(⟨w.heap.size+1,3,none⟩,.int .i64 (pt:Int)),(⟨w.heap.size+1,4,none⟩,.int .i64 (k:Int)),(⟨w.heap.size+1,5,none⟩,b),(⟨w.heap.size,2,none⟩,.int .i64 limit)]) (by kernel_rfl) (Keeps.start hCS) (fun Y Q4 F4 hY hF=> ?_);simp only[zrC]
 repeat
  apply zF (by rw[hY];rfl)
  ·intro w2 hS2;(try simp only[Keeps,Cells]at hS2);go_simp;with_reducible rfl
  simp only[zrB]
 apply zS (by rw[hY];rfl)
 ·go_simp;with_reducible exact⟨rfl,rfl⟩
 refine(HIx.out _ (zA B4 (Keeps.start hCS).1)).mono ?_;rintro e w5 ⟨rfl,hb5⟩;have hk5:=(Keeps.start hCS).step hb5;refine⟨_,rfl,hk5,?_⟩;simp only[zrB];apply zS (by rw[hY];rfl)
 ·go_simp;with_reducible exact⟨rfl,rfl⟩
 refine(HUp.out _ (zA B4 hk5.1)).mono ?_;rintro e w6 ⟨a6,cap6,rfl,hfar6,hrd6,hb6⟩;have hk6:=hk5.step hb6;refine⟨_,rfl,hk6,?_⟩;simp only[zrB];refine zZ (hF.out _ _ (fun K hK=> ?_));clear hF hY;have k46:=(k4.step hk6.1);have k36:=k34.step hk6.1;have B6:=zA B4 hk6.1;have hsz5:=hk5.1.size;have hsz6:=hk6.1.size;have q0:=k46.cell 0;have q0f:=k46.free 0;simp only[lgz]at q0;have k47:=k46.set 0 (.slice a6 m cap6);have k37:=k36.other B 0 (.slice a6 m cap6) (by omega);rw[List.set_cons_zero]at k47;have hne6:∀g o,a6=some ⟨g,o,none⟩→g≠B:=fun g o e=>by have:=hfar6 g o e;omega
 have hrd7:=hrd6.keptRow (zbK w6 B 0 (.slice a6 m cap6)) hne6;have B7:Below w.heap.size w (w6.setCell ⟨B,0,none⟩ (.slice a6 m cap6)):=B6.setCell (p:=⟨B,0,none⟩) (by simp;omega) _;have HR7:=zD hrd7;have Hf6:=zD (fun g o (e:a6=some ⟨g,o,none⟩)=>(show g<0∨w.heap.size≤g by have:=hfar6 g o e;have:=B4.size;exact .inr (by omega)));have Hne:=zD (fun g o (e:a6=some ⟨g,o,none⟩)=>(show g≠w.heap.size+1+1 by have:=hfar6 g o e;omega));clear hk5 hk6 hrd6 hrd7 hfar6 hne6 k46 k36;go_wp2_with fail;refine OnlyK.mk (hK.out _ _ ?_);clear hK;obtain⟨w7,hw7⟩:∃w7,w6.setCell ⟨B,0,none⟩ (.slice a6 m cap6)=w7:=⟨_,rfl⟩;rw[hw7]at k47 k37 B7 HR7⊢;clear hw7
 have hone7:∀v∈Value.slice a6 m cap6::tl,v.oneCell'=true:=fun v hv=>by
  rcases List.mem_cons.1 hv with rfl|hv
  ·rfl
  ·exact hone v (List.mem_cons_of_mem _ hv)
 have hl7:(yG S14.P0 zbC).length=(Value.slice a6 m cap6::tl).length:=by rw[zbD,htl2];rfl
 have hi7:some 16=some (Value.slice a6 m cap6::tl).length:=by rw[zbD,htl2]
 go_wp2_with (first
  | (refine yC 83 (.tmp 8) (by rfl) (by rfl) B (by rfl) (Value.slice a6 m cap6::tl) 83 k47 _ Tryz.underlying83 rfl (info_P.trans hi7) ?_)
  | (refine yE 83 (.tmp 6) (.tmp 21) (by rfl) (by rfl) (w.heap.size+1+1) (by rfl) (Value.slice a6 m cap6::tl) (by rfl) _ 83 k37 (info_P.trans hi7) hl7 hone7 ?_;intro wL EL gL sL))
 have hL:=run_loadVar_mid wL _ 0 _ _ _ EL.cells Tryz.underlying83 rfl (info_P.trans hi7);have BL:Below w.heap.size w wL:=B7.trans (yB gL (by omega) B7.size);refine bodyPost_ret (v:=.tuple #[.agg (Value.slice a6 m cap6::tl).toArray,.int .i64 0]) ?_ rfl ?_
 ·exact zaX (show Tryz.f185.results = #[.cell 6 83,.tmp 7]from rfl) (p:=⟨w.heap.size+1+1,0,none⟩) rfl rfl hL
 ·refine⟨{y with a1:=a6,c1:=cap6},?_,fun w' hk=>HPI.out _ _ _ w' ((HR7.out.keptRow gL Hne.out).kept hk Hf6.out),BL⟩;unfold PV;rw[HTL.out]
theorem learnF_basic(N:S14.N)(L:NLay)(bit:Int)(w:World)(hN:NIs N L w)(hb:S14.basic N.comps)(h0:S14.checkNet N=0):zkQ N L w (S14.outB N) (S14.learnB N bit) bit:=fun k c hc a W hW hrd=>by
 obtain⟨p,y,hp,hy,hP,hk1,hk2,hok,hr,hp1,hp2⟩:=sees14 hN h0 hc;have hi:=S14.ok_is hok;unfold S14.learnB;rw[zfL hc,zfL hp];rcases hb c (yN hc)with h|h|h
 ·unfold LearnF;rw[zU h,zK (by omega)];exact(zlX N L k c _ rfl bit W (hN.step hW) hk1 p y hp hy).mono fun e w' h2=>⟨y,h2.1,fun w2 _=>hP.bare14 (zlM (.inl h) hr),h2.2⟩
 ·unfold LearnF;rw[zK (by omega),zU h,zU h];exact znW c N L k _ rfl p y c.bits.toNat bit W (zqQ h hr) (hN.step hW) hc hp hy hk2 N.part.toNat (zbX (by omega)) (by omega) (zbX hi.bits.1) (by have:=hi.bits;omega) (zlL h hr)
 ·unfold LearnF;rw[zK (by omega),zK (by omega),zK (by omega),zK (by omega),zU h,zK (by omega)];exact(znZ N L k c _ rfl bit W (hN.step hW) hk1 p y hp hy).mono fun e w' h2=>⟨y,h2.1,fun w2 _=>hP.bare14 (zlM (.inr h) hr),h2.2⟩
theorem new_nK(a:Option Addr)(cap:Nat)(w:World)(hrd:Rd w a (zcS [cK])):Calls Tryz.prog 15 #[.slice a 1 cap] w fun e w'=>∃L,e = .returned (.tuple #[NV nK L,.int .i64 0])∧NIs nK L w'∧Below w.heap.size w w':=
 (zgW [cK] S14.freshB nK a cap w hrd (by decide +kernel) (zhT _ zqK) (zeC w nK (by decide) (by decide +kernel))).mono fun e w' ⟨L,h1,h2,h3⟩=>⟨L,h1,h2 _ (KepX.refl _ _),h3⟩
theorem new_nD(a:Option Addr)(cap:Nat)(w:World)(hrd:Rd w a (zcS [cD])):Calls Tryz.prog 15 #[.slice a 1 cap] w fun e w'=>∃L,e = .returned (.tuple #[NV nD L,.int .i64 0])∧NIs nD L w'∧Below w.heap.size w w':=
 (zgW [cD] S14.freshB nD a cap w hrd (by decide +kernel) (zhT _ zeK) (zeC w nD (by decide) (by decide +kernel))).mono fun e w' ⟨L,h1,h2,h3⟩=>⟨L,h1,h2 _ (KepX.refl _ _),h3⟩
theorem new_nA(a:Option Addr)(cap:Nat)(w:World)(hrd:Rd w a (zcS [cK,cD,cA])):Calls Tryz.prog 15 #[.slice a 3 cap] w fun e w'=>∃L,e = .returned (.tuple #[NV nA L,.int .i64 0])∧NIs nA L w'∧Below w.heap.size w w':=
 (zgW [cK,cD,cA] S14.freshB nA a cap w hrd (by decide +kernel) (zhT _ ziR) (zeC w nA (by decide) (by decide +kernel))).mono fun e w' ⟨L,h1,h2,h3⟩=>⟨L,h1,h2 _ (KepX.refl _ _),h3⟩
theorem pred_nK(L:NLay)(w:World)(hN:NIs nK L w):Calls Tryz.prog 22 #[NV nK L] w fun e w'=>e = .returned (.tuple #[.int .i64 3072,.int .i64 0])∧Below w.heap.size w w':=
 (zdK nK L (S14.outB nK) w hN (zdF nK L w hN zqK) nK_ok (zeZ nK L w hN zqK nK_ok)).mono fun e w' h=>⟨h.1.trans (by
   have e2:=nK_pred;show Ending.returned (.tuple #[.int .i64 _,.int .i64 0])=_;rw[←e2];rfl),h.2⟩
theorem pred_nD(L:NLay)(w:World)(hN:NIs nD L w):Calls Tryz.prog 22 #[NV nD L] w fun e w'=>e = .returned (.tuple #[.int .i64 2048,.int .i64 0])∧Below w.heap.size w w':=
 (zdK nD L (S14.outB nD) w hN (zdF nD L w hN zeK) nD_ok (zeZ nD L w hN zeK nD_ok)).mono fun e w' h=>⟨h.1.trans (by
   have e2:=nD_pred;show Ending.returned (.tuple #[.int .i64 _,.int .i64 0])=_;rw[←e2];rfl),h.2⟩
theorem pred_nD2(L:NLay)(w:World)(hN:NIs nD2 L w):Calls Tryz.prog 22 #[NV nD2 L] w fun e w'=>e = .returned (.tuple #[.int .i64 3414,.int .i64 0])∧Below w.heap.size w w':=
 (zdK nD2 L (S14.outB nD2) w hN (zdF nD2 L w hN zeK) nD2_ok (zeZ nD2 L w hN zeK nD2_ok)).mono fun e w' h=>⟨h.1.trans (by
   have e2:=nD2_pred;show Ending.returned (.tuple #[.int .i64 _,.int .i64 0])=_;rw[←e2];rfl),h.2⟩
theorem pred_nA(L:NLay)(w:World)(hN:NIs nA L w):Calls Tryz.prog 22 #[NV nA L] w fun e w'=>e = .returned (.tuple #[.int .i64 2589,.int .i64 0])∧Below w.heap.size w w':=
 (zdK nA L (S14.outB nA) w hN (zdF nA L w hN ziR) nA_ok (zeZ nA L w hN ziR nA_ok)).mono fun e w' h=>⟨h.1.trans (by
   have e2:=nA_pred;show Ending.returned (.tuple #[.int .i64 _,.int .i64 0])=_;rw[←e2];rfl),h.2⟩
theorem outs_nA(L:NLay)(w:World)(hN:NIs nA L w):Calls Tryz.prog 20 #[NV nA L] w fun e w'=>∃a cap,e = .returned (.tuple #[.slice a 3 cap,.int .i64 0])∧Rd w' a (zaO [427,0,214])∧Below w.heap.size w w':=
 (zeB nA L (S14.outB nA) w hN (zdF nA L w hN ziR) nA_ok (zeZ nA L w hN ziR nA_ok)).mono fun e w' ⟨a,cap,h1,h2,_,_,h3⟩=>⟨a,cap,h1,by
   have e2:=nA_outs;rw[←e2];exact h2,h3⟩
theorem learn_nD(L:NLay)(w:World)(hN:NIs nD L w):Calls Tryz.prog 25 #[NV nD L,.int .i64 1] w fun e w'=>∃L',e = .returned (.tuple #[NV nD2 L',.int .i64 0])∧NIs nD2 L' w'∧Below w.heap.size w w':=
 (zqP nD nD2 L (S14.outB nD) (S14.learnB nD 1) 1 w hN (zdF nD L w hN zeK) nD_ok (zeZ nD L w hN zeK nD_ok) (.inr rfl) (learnF_basic nD L 1 w hN zeK nD_ok)
   (fun h=>by rw[nD_next]at h;unfold S14.opens at h;omega) (fun _=>by rfl)).mono fun e w' ⟨L',h1,h2,h3⟩=>⟨L',h1,h2 w' (KepX.refl _ _),h3⟩
def NetCs(cs:List Value):Prop:=cs.length=4∧∀j,j<3→∀k x,cs[j]? ≠some (.int k x)
theorem Rd.keepNet{w w':World}{a:Option Addr}{vals cs:List Value}{t:TypeId}{NB:Nat}(h:Rd w a vals)(hB:Blk w NB cs t)(hc:NetCs cs)(hg:w.grownBy w' (some NB))(hs:vals = []∨4<vals.length∨∃k x,1<vals.length∧vals[0]? = some (.int k x)):Rd w' a vals:=by
 by_cases hn:vals = []
 ·rw[hn];exact Rd.nil _ _
 ·refine Rd.keptRow h hg (fun g o e=> ?_);rintro rfl;obtain⟨b,o',e',hr⟩:=h hn;rw[e]at e';cases e';rcases hs with h0|h4|⟨k,x,h1,h0⟩
  ·exact hn h0
  ·have h5:=hr 4 _ (zI h4);rw[hB.cell,yY (by rw[hc.1];omega)]at h5;cases h5
  ·have e0:=hr 0 _ h0;have e1:=hr 1 _ (zI h1);rw[hB.cell]at e0 e1;have h3:=(List.getElem?_eq_some_iff.1 e1).1;rw[hc.1]at h3;exact hc.2 (o+0) (by omega) k x e0
theorem Cts_shape(l:List (Int×Int)):Cts l = []∨4<(Cts l).length∨∃k x,1<(Cts l).length∧(Cts l)[0]? = some (.int k x):=by
 cases l with
 | nil=>exact .inl rfl
 | cons c r=>exact .inr (.inr ⟨.i64,c.1,by rw[zcB];simp;omega,rfl⟩)
theorem PIs.ctrs{p:S14.P}{y:Lay}{w w':World}(hp:p = {S14.P0 with ctrs:=p.ctrs})(h:PIs p y w)(hr:Rd w' y.a1 (Cts p.ctrs)):PIs p y w':=by
 obtain⟨cs,hcs⟩:∃cs,p.ctrs=cs:=⟨_,rfl⟩;rw[hcs]at hp hr;subst hp;obtain⟨h1,h2,h3,⟨R,a,cap,e1,e2,e3,e4,e5,e6⟩,⟨a',cap',f1,f2,f3,f4⟩⟩:=h;have hR:R = []:=List.map_eq_nil_iff.1 e1.symm;subst hR;exact⟨hr,⟨h2.ok,h2.cap,Rd.nil _ _⟩,⟨Rd.nil _ _,Rd.nil _ _,Rd.nil _ _,h3.byt,h3.cb,h3.lh,h3.lb,h3.lc⟩,⟨[],a,cap,rfl,e2,e3,e4,Rd.nil _ _,fun r hr=>by cases hr⟩,⟨a',cap',f1,f2,f3,Rd.nil _ _⟩⟩
def S14.slim(N:S14.N):Prop:=1≤N.comps.length∧1≤N.parts.length∧N.ctxs.length=16∧∀p∈N.parts,p = {S14.P0 with ctrs:=p.ctrs}
theorem NIs.keepNet{N:S14.N}{L:NLay}{w w':World}{cs:List Value}{t:TypeId}{NB:Nat}(h:NIs N L w)(hs:S14.slim N)(hB:Blk w NB cs t)(hc:NetCs cs)(hg:w.grownBy w' (some NB)):NIs N L w':=
 ⟨h.rc.keepNet hB hc hg (.inr (.inl (by rw[yT];have:=hs.1;omega))),h.rp.keepNet hB hc hg (.inr (.inl (by rw[zcR _ _ h.ly];have:=hs.2.1;omega))),h.rx.keepNet hB hc hg (.inr (.inl (by rw[zbV,hs.2.2.1];decide))),h.ly,
   fun i p y h1 h2=>(h.ps i p y h1 h2).ctrs (hs.2.2.2 p (yN h1)) ((h.ps i p y h1 h2).rc.keepNet hB hc hg (Cts_shape _)),h.xs,h.l1,h.l2,h.l3⟩
def NetIs(N:S14.N)(VS:List Value)(w:World):Prop:=∃L,VS=zbP N L∧NIs N L w
theorem NetIs.step{N:S14.N}{VS:List Value}{w w':World}(h:NetIs N VS w)(hb:Below w.heap.size w w'):NetIs N VS w':=h.imp fun _ e=>⟨e.1,e.2.step hb⟩
theorem NetIs.keep{N:S14.N}{VS:List Value}{w w':World}{cs:List Value}{t:TypeId}{NB:Nat}(h:NetIs N VS w)(hs:S14.slim N)(hB:Blk w NB cs t)(hc:NetCs cs)(hg:w.grownBy w' (some NB)):NetIs N VS w':=h.imp fun _ e=>⟨e.1,e.2.keepNet hs hB hc hg⟩
theorem NetIs.len{N:S14.N}{VS:List Value}{w:World}(h:NetIs N VS w):VS.length=4:=by obtain⟨L,rfl,_⟩:=h;rfl
theorem NetIs.one{N:S14.N}{VS:List Value}{w:World}(h:NetIs N VS w):∀v∈VS,v.oneCell'=true:=by
 obtain⟨L,rfl,_⟩:=h;intro v hv;simp only[zbP,List.mem_cons,zaL,or_false]at hv;rcases hv with rfl|rfl|rfl|rfl<;>rfl
theorem NetIs.cs{N:S14.N}{VS:List Value}{w:World}(h:NetIs N VS w):NetCs VS:=by
 obtain⟨L,rfl,_⟩:=h;refine⟨rfl,fun j hj k x e=> ?_⟩
 match j,hj with
 | 0,_=>cases e
 | 1,_=>cases e
 | 2,_=>cases e
theorem zbI:NetCs [.slice none 0 0,.slice none 0 0,.slice none 0 0,.int .i64 0]:=by
 refine⟨rfl,fun j hj k x e=> ?_⟩
 match j,hj with
 | 0,_=>cases e
 | 1,_=>cases e
 | 2,_=>cases e
theorem slimP{p q:S14.P}(h:p=q)(hq:q = {S14.P0 with ctrs:=q.ctrs}):p = {S14.P0 with ctrs:=p.ctrs}:=h▸hq
theorem slim_nK:S14.slim nK:=⟨by decide,by decide,rfl,fun p hp=>by
 have hp:p∈([S14.P0]:List S14.P):=hp;simp only[List.mem_cons,zaL,or_false]at hp;exact slimP hp rfl⟩
theorem slim_nD:S14.slim nD:=⟨by decide,by decide,rfl,fun p hp=>by
 have hp:p∈([S14.fresh1 1]:List S14.P):=hp;simp only[List.mem_cons,zaL,or_false]at hp;exact slimP hp rfl⟩
theorem slim_nD2:S14.slim nD2:=⟨by decide,by decide,rfl,fun p hp=>by
 have hp:p∈([pD2]:List S14.P):=hp;simp only[List.mem_cons,zaL,or_false]at hp;exact slimP hp rfl⟩
theorem zeQ:S14.slim nA:=⟨by decide,by decide,rfl,fun p hp=>by
 have hp:p∈([S14.P0,S14.fresh1 1,S14.P0]:List S14.P):=hp;simp only[List.mem_cons,zaL,or_false]at hp;exact hp.elim (slimP · rfl) (fun h=>h.elim (slimP · rfl) (slimP · rfl))⟩
theorem newS_nK(a:Option Addr)(cap:Nat)(w:World)(hrd:Rd w a (zcS [cK])):Calls Tryz.prog 15 #[.slice a 1 cap] w fun e w'=>∃VS,e = .returned (.tuple #[.agg VS.toArray,.int .i64 0])∧NetIs nK VS w'∧Below w.heap.size w w':=
 (new_nK a cap w hrd).mono fun e w' ⟨L,h1,h2,h3⟩=>⟨_,h1,⟨L,rfl,h2⟩,h3⟩
theorem newS_nD(a:Option Addr)(cap:Nat)(w:World)(hrd:Rd w a (zcS [cD])):Calls Tryz.prog 15 #[.slice a 1 cap] w fun e w'=>∃VS,e = .returned (.tuple #[.agg VS.toArray,.int .i64 0])∧NetIs nD VS w'∧Below w.heap.size w w':=
 (new_nD a cap w hrd).mono fun e w' ⟨L,h1,h2,h3⟩=>⟨_,h1,⟨L,rfl,h2⟩,h3⟩
theorem zeS(a:Option Addr)(cap:Nat)(w:World)(hrd:Rd w a (zcS [cK,cD,cA])):Calls Tryz.prog 15 #[.slice a 3 cap] w fun e w'=>∃VS,e = .returned (.tuple #[.agg VS.toArray,.int .i64 0])∧NetIs nA VS w'∧Below w.heap.size w w':=
 (new_nA a cap w hrd).mono fun e w' ⟨L,h1,h2,h3⟩=>⟨_,h1,⟨L,rfl,h2⟩,h3⟩
theorem predS_nK(VS:List Value)(w:World)(h:NetIs nK VS w):Calls Tryz.prog 22 #[.agg VS.toArray] w fun e w'=>e = .returned (.tuple #[.int .i64 3072,.int .i64 0])∧Below w.heap.size w w':=by
 obtain⟨L,rfl,hN⟩:=h;exact pred_nK L w hN
theorem predS_nD(VS:List Value)(w:World)(h:NetIs nD VS w):Calls Tryz.prog 22 #[.agg VS.toArray] w fun e w'=>e = .returned (.tuple #[.int .i64 2048,.int .i64 0])∧Below w.heap.size w w':=by
 obtain⟨L,rfl,hN⟩:=h;exact pred_nD L w hN
theorem predS_nD2(VS:List Value)(w:World)(h:NetIs nD2 VS w):Calls Tryz.prog 22 #[.agg VS.toArray] w fun e w'=>e = .returned (.tuple #[.int .i64 3414,.int .i64 0])∧Below w.heap.size w w':=by
 obtain⟨L,rfl,hN⟩:=h;exact pred_nD2 L w hN
theorem predS_nA(VS:List Value)(w:World)(h:NetIs nA VS w):Calls Tryz.prog 22 #[.agg VS.toArray] w fun e w'=>e = .returned (.tuple #[.int .i64 2589,.int .i64 0])∧Below w.heap.size w w':=by
 obtain⟨L,rfl,hN⟩:=h;exact pred_nA L w hN
theorem outsS_nA(VS:List Value)(w:World)(h:NetIs nA VS w):Calls Tryz.prog 20 #[.agg VS.toArray] w fun e w'=>∃a cap,e = .returned (.tuple #[.slice a 3 cap,.int .i64 0])∧Rd w' a (zaO [427,0,214])∧Below w.heap.size w w':=by
 obtain⟨L,rfl,hN⟩:=h;exact outs_nA L w hN
theorem learnS_nD(VS:List Value)(w:World)(h:NetIs nD VS w):Calls Tryz.prog 25 #[.agg VS.toArray,.int .i64 1] w fun e w'=>∃VS',e = .returned (.tuple #[.agg VS'.toArray,.int .i64 0])∧NetIs nD2 VS' w'∧Below w.heap.size w w':=by
 obtain⟨L,rfl,hN⟩:=h;exact(learn_nD L w hN).mono fun e w' ⟨L',h1,h2,h3⟩=>⟨_,h1,⟨L',rfl,h2⟩,h3⟩
theorem info_C14:(Tryz.prog.info? 54).map (·.size)=some 6:=by kernel_rfl
theorem rd_one14(w:World):Rd (w.alloc (.cells #[.int .i64 1,.int .i64 0,.int .i64 255,.int .i64 0,.int .i64 0,.int .i64 0] 54)) (some ⟨w.heap.size,0,none⟩) (zcS [cD]):=Rd.new w [.int .i64 1,.int .i64 0,.int .i64 255,.int .i64 0,.int .i64 0,.int .i64 0] _
theorem ziM(w:World):Rd (w.alloc (.cells #[.int .i64 1,.int .i64 0,.int .i64 255,.int .i64 0,.int .i64 0,.int .i64 0,.int .i64 4,.int .i64 0,.int .i64 128,.int .i64 0,.int .i64 0,.int .i64 1] 54)) (some ⟨w.heap.size,0,none⟩) (zcS [cD,cA]):=Rd.new w [.int .i64 1,.int .i64 0,.int .i64 255,.int .i64 0,.int .i64 0,.int .i64 0,.int .i64 4,.int .i64 0,.int .i64 128,.int .i64 0,.int .i64 0,.int .i64 1] _
theorem rd_outs14(w:World):Rd (w.alloc (.cells #[.int .i64 427,.int .i64 0,.int .i64 214] 3)) (some ⟨w.heap.size,0,none⟩) (zaO [427,0,214]):=Rd.new w [.int .i64 427,.int .i64 0,.int .i64 214] _
theorem equal3_14(a1 a2:Option Addr)(c1 c2:Nat)(w:World)(hr1:Rd w a1 (zaO [427,0,214]))(hr2:Rd w a2 (zaO [427,0,214])) :
 Calls Tryz.prog 24 #[.slice a1 3 c1,.slice a2 3 c2] w fun e w'=>e = .returned (.bool true)∧Below w.heap.size w w':=equalInts_eq [427,0,214] a1 a2 c1 c2 w (by decide) hr1 hr2
theorem zaZ{Y:Array Value→Nat→Option Bool}{Q:Exit→Act→World→Prop}{S:World→Prop}{G:Act→World→Prop}{w:World}{rest:Plan Oper}{o:Oper}{a:Act}(s x:Operand)(ho:o.op = .call {callee:=.builtin .append,args:=#[s,x],argTypes:=#[22,22]})(hw:Region.wanted o (Y a.tmps)=true)
 (base g gx:Nat) (hs:a.eval s = .slice (some ⟨g,0,none⟩) 1 1) (hown:w.ownsRow base 54 6 (.slice (some ⟨g,0,none⟩) 1 1) 1 (zcS [cK])) (hbase:base≤w.heap.size) (hx:a.eval x = .slice (some ⟨gx,0,none⟩) 2 2) (hnews:Rd w (some ⟨gx,0,none⟩) (zcS [cD,cA]))
 (h:∀a' cap' w',Rd w' a' (zcS [cK,cD,cA])→w.grownBy w' (some g)→base≤g→S w'∧zbA Tryz.prog Y Q S G rest (a.put o.dst (.slice a' 3 cap')) w'):zbA Tryz.prog Y Q S G (.one o rest) a w:=by
 obtain⟨a',cap',w',r1,r2,r3⟩:=zgJ (P:=Tryz.prog) (w:=w) s x _ _ 6 48 _ base zhV ho _ 1 (zcS [cK]) hs hown _ 2 2 (zcS [cD,cA]) hx rfl hnews (zqX _) (by decide) (by decide) hbase;obtain⟨g',e,hbg,_⟩:=zcH hown (zE _);cases e;obtain⟨h1,h2⟩:=h a' cap' w' (Rd.of_owns r2) r3 hbg;exact yI hw r1 h1 h2
theorem awake14_any(w:World):Calls Tryz.prog 14 #[] w fun e w'=>e = .returned (.bool true)∧Below w.heap.size w w':=by
 go_enter Tryz.func14,Tryz.ntmps14;go_wp2_with fail;refine(zcJ _).mono ?_;rintro e w1 ⟨q1,rfl,own1,hb1⟩;have B1:Below w.heap.size w w1:=zA (by go_grown) hb1;have rd1:=Rd.of_owns own1;clear own1 hb1;go_wp2_with fail;refine(newS_nK _ _ _ rd1).mono ?_;rintro e w2 ⟨V1,rfl,N1,hb2⟩;have B2:=zA B1 hb2;clear rd1 B1 hb2;obtain⟨b1,eb1⟩:∃b,w2.heap.size=b:=⟨_,rfl⟩;obtain⟨a1,ea1⟩:∃W,w2.alloc (.cells #[.slice none 0 0,.slice none 0 0,.slice none 0 0,.int .i64 0] 26)=W:=⟨_,rfl⟩;have F1:Blk a1 b1 [.slice none 0 0,.slice none 0 0,.slice none 0 0,.int .i64 0] 26:=by rw[←ea1,←eb1];exact Blk.new w2 _ _
 have ba1:Below w2.heap.size w2 a1:=by rw[←ea1];exact(zG _ _).alloc (zE _) _
 have hb1w:w.heap.size≤b1:=by rw[←eb1];exact B2.size
 have B2a:=zA B2 ba1;have N1:=N1.step ba1;have V1l:=zD N1.len;have V1o:=zD N1.one;go_wp2_with (first
  | (rw[ea1,eb1])
  | (rw[ea1])
  | (refine yE 26 (.tmp 1) (.tmp 22) (by rfl) (by rfl) b1 (by rfl) V1 (by rfl) _ 26 F1 (info_N.trans (yQ some V1l.out.symm)) V1l.out.symm V1o.out ?_;intro s1 E1 g1 z1;clear z1)
  | (refine yC 26 (.tmp 1) (by rfl) (by rfl) b1 (by rfl) V1 26 E1 _ Tryz.underlying26 rfl (info_N.trans (yQ some V1l.out.symm)) ?_))
 have BS1:=B2a.trans (yB g1 hb1w B2a.size);have N1:=N1.keep slim_nK F1 zbI g1;refine(predS_nK V1 _ N1).mono ?_;rintro e w4 ⟨rfl,hb4⟩;have B4:=zA BS1 hb4;clear E1 F1 N1 ea1 eb1 hb1w B2 B2a V1l V1o BS1 g1 ba1 hb4;obtain⟨b5,eb5⟩:∃b,w4.heap.size=b:=⟨_,rfl⟩;obtain⟨a5,ea5⟩:∃W,w4.alloc (.cells #[.int .i64 0,.int .i64 0,.int .i64 0,.int .i64 0,.int .i64 0,.int .i64 0] 54)=W:=⟨_,rfl⟩;have F5:Blk a5 b5 [.int .i64 0,.int .i64 0,.int .i64 0,.int .i64 0,.int .i64 0,.int .i64 0] 54:=by rw[←ea5,←eb5];exact Blk.new w4 _ _
 have ba5:Below w4.heap.size w4 a5:=by rw[←ea5];exact(zG _ _).alloc (zE _) _
 have hb5w:w.heap.size≤b5:=by rw[←eb5];exact B4.size
 have B5:=zA B4 ba5;go_wp2_with (first
  | (rw[ea5,eb5])
  | (rw[ea5])
  | (refine yE 54 (.tmp 5) (.tmp 29) (by rfl) (by rfl) b5 (by rfl) [.int .i64 1,.int .i64 0,.int .i64 255,.int .i64 0,.int .i64 0,.int .i64 0] (by rfl) _ 54 F5 info_C14 rfl (by simp[Value.oneCell']) ?_;intro s5 E5 g5 z5;clear z5;have BS5:=B5.trans (yB g5 hb5w B5.size))
  | (refine yC 54 (.tmp 5) (by rfl) (by rfl) b5 (by rfl) [.int .i64 1,.int .i64 0,.int .i64 255,.int .i64 0,.int .i64 0,.int .i64 0] 54 E5 _ Tryz.underlying54 rfl info_C14 ?_))
 refine(newS_nD _ _ _ (rd_one14 s5)).mono ?_;rintro e w7 ⟨V6,rfl,N6,hb7⟩;have B7:=zA (BS5.alloc BS5.size _) hb7;have F5:=(E5.alloc (.cells #[.int .i64 1,.int .i64 0,.int .i64 255,.int .i64 0,.int .i64 0,.int .i64 0] 54)).step hb7;have hb5s:=F5.lt;clear ea5 eb5 ba5 B5 g5 BS5 hb7 E5 B4;obtain⟨b6,eb6⟩:∃b,w7.heap.size=b:=⟨_,rfl⟩;obtain⟨a6,ea6⟩:∃W,w7.alloc (.cells #[.slice none 0 0,.slice none 0 0,.slice none 0 0,.int .i64 0] 26)=W:=⟨_,rfl⟩;have F6:Blk a6 b6 [.slice none 0 0,.slice none 0 0,.slice none 0 0,.int .i64 0] 26:=by rw[←ea6,←eb6];exact Blk.new w7 _ _
 have ba6:Below w7.heap.size w7 a6:=by rw[←ea6];exact(zG _ _).alloc (zE _) _
 have hb6w:w.heap.size≤b6:=by rw[←eb6];exact B7.size
 have B7a:=zA B7 ba6;have N6:=N6.step ba6;have V6l:=zD N6.len;have V6o:=zD N6.one;have hb56:b5<b6:=by rw[←eb6];exact hb5s
 have F5:=F5.step ba6;go_wp2_with (first
  | (rw[ea6,eb6])
  | (rw[ea6])
  | (refine yE 26 (.tmp 6) (.tmp 34) (by rfl) (by rfl) b6 (by rfl) V6 (by rfl) _ 26 F6 (info_N.trans (yQ some V6l.out.symm)) V6l.out.symm V6o.out ?_;intro s6 E6 g6 z6;clear z6)
  | (refine yC 26 (.tmp 6) (by rfl) (by rfl) b6 (by rfl) V6 26 E6 _ Tryz.underlying26 rfl (info_N.trans (yQ some V6l.out.symm)) ?_))
 have BS6:=B7a.trans (yB g6 hb6w B7a.size);have N6:=N6.keep slim_nD F6 zbI g6;have F5:=F5.keptRow g6 (by intro e;have:=zO e;omega);refine(predS_nD V6 _ N6).mono ?_;rintro e w8 ⟨rfl,hb8⟩;have B8:=zA BS6 hb8;have N6:=N6.step hb8;have G6:=E6.step hb8;have F5:=F5.step hb8;clear E6 F6 ea6 eb6 B7 B7a BS6 g6 ba6 hb8;have N6o:=N6;go_wp2_with (first
  | (refine yC 26 (.tmp 6) (by rfl) (by rfl) b6 (by rfl) V6 26 G6 _ Tryz.underlying26 rfl (info_N.trans (yQ some V6l.out.symm)) ?_))
 refine(learnS_nD V6 _ N6).mono ?_;rintro e w9 ⟨V7,rfl,N7,hb9⟩;have B9:=zA B8 hb9;have G6:=G6.step hb9;have F5:=F5.step hb9;have hcs6:=N6.cs;have V7l:=zD N7.len;have V7o:=zD N7.one;clear N6 N6o hb9 B8 V6o;go_wp2_with (first
  | (refine yE 26 (.tmp 6) (.tmp 44) (by rfl) (by rfl) b6 (by rfl) V7 (by rfl) _ 26 G6 (info_N.trans (yQ some V7l.out.symm)) (V6l.out.trans V7l.out.symm) V7o.out ?_;intro s7 E7 g7 z7;clear z7)
  | (refine yC 26 (.tmp 6) (by rfl) (by rfl) b6 (by rfl) V7 26 E7 _ Tryz.underlying26 rfl (info_N.trans (yQ some V7l.out.symm)) ?_))
 have BS7:=B9.trans (yB g7 hb6w B9.size);have N7:=N7.keep slim_nD2 G6 hcs6 g7;have F5:=F5.keptRow g7 (by intro e;have:=zO e;omega);refine(predS_nD2 V7 _ N7).mono ?_;rintro e W7 ⟨rfl,hb10⟩;have B10:=zA BS7 hb10;have F5:=F5.step hb10;clear E7 G6 N7 hcs6 g7 hb10 BS7 B9 V6l V7l V7o;go_wp2_with fail;have hCS:Cells W7 [(⟨b5,0,none⟩,.int .i64 1),(⟨b5,1,none⟩,.int .i64 0),(⟨b5,2,none⟩,.int .i64 255),(⟨b5,3,none⟩,.int .i64 0),(⟨b5,4,none⟩,.int .i64 0),(⟨b5,5,none⟩,.int .i64 0)]:=⟨F5.cell 0,F5.cell 1,F5.cell 2,F5.cell 3,F5.cell 4,F5.cell 5,yJ⟩;clear F5;refine zbM 11 1 (.read 1 (.read 2 (.two (.one 0 (.two (.one 3 (.two (.one 4 (.two (.one 5 (.read 6 (.read 7 (.read 8 (.one 9 (.one 10 .done)))))) (.one 9 (.one 5 (.read 6 (.read 7 (.read 8 (.one 10 .done)))))))) (.one 9 (.one 4 (.one 5 (.read 6 (.read 7 (.read 8 (.one 10 .done))))))))) (.one 9 (.one 3 (.one 4 (.one 5 (.read 6 (.read 7 (.read 8 (.one 10 .done)))))))))) (.two (.one 3 (.two (.one 0 (.two (.one 4 (.two (.one 5 (.read 6 (.read 7 (.read 8 (.one 9 (.one 10 .done)))))) (.one 9 (.one 5 (.read 6 (.read 7 (.read 8 (.one 10 .done)))))))) (.one 9 (.one 4 (.one 5 (.read 6 (.read 7 (.read 8 (.one 10 .done))))))))) (.one 9 (.one 0 (.one 4 (.one 5 (.read 6 (.read 7 (.read 8 (.one 10 .done)))))))))) (.one 9 (.two (.one 0 (.one 3 (.one 4 (.one 5 (.read 6 (.read 7 (.read 8 (.one 10 .done)))))))) (.one 3 (.one 0 (.one 4 (.one 5 (.read 6 (.read 7 (.read 8 (.one 10 .done)))))))))))))) _ _ o0P (fun K=>Below W7.heap.size W7 K∧Cells K [(⟨b5,0,none⟩,.int .i64 1),(⟨b5,1,none⟩,.int .i64 0),(⟨b5,2,none⟩,.int .i64 255),(⟨b5,3,none⟩,.int .i64 0),(⟨b5,4,none⟩,.int .i64 0),(⟨b5,5,none⟩,.int .i64 0)]) (by kernel_rfl) (zaF 11 _).symm (by kernel_rfl) (by kernel_rfl) (by kernel_rfl) (by kernel_rfl) (⟨(zG _ _).drew,hCS⟩) (fun Y Q4 F4 hY hF=> ?_);simp only[Plan.map,ltc,ltz,ldc,ldz,List.getD_cons_zero,List.getD_cons_succ]
 repeat
  apply zV (by rw[hY];rfl)
  ·intro w2 hS2;(try simp only[Keeps,Cells]at hS2);go_simp;with_reducible rfl
  simp only[zrB]
 have fin:∀(q8 x8:Nat) (a':Option Addr) (cap':Nat) (V13:List Value) (b13:Nat) (wS:World),Below w.heap.size w wS→Blk wS b13 V13 26→NetIs nA V13 wS→F4 {tmps:=#[.bool false,.pointer (some ⟨b1,0,none⟩),.int .i64 0,.int .i64 3072,.int .i64 0,.pointer (some ⟨b5,0,none⟩),.pointer (some ⟨b6,0,none⟩),.int .i64 0,.int .i64 2048,.int .i64 0,.int .i64 0,.int .i64 3414,.int .i64 0,.pointer (some ⟨b13,0,none⟩),undef,undef,undef,undef,undef,.tuple #[.agg V1.toArray,.int .i64 0],.slice (some ⟨q1,0,none⟩) 1 1,.tuple #[.agg V1.toArray,.int .i64 0],.agg V1.toArray,.int .i64 0,.tuple #[.int .i64 3072,.int .i64 0],.agg V1.toArray,.tuple #[.int .i64 3072,.int .i64 0],.int .i64 3072,.int .i64 0,.agg #[.int .i64 1,.int .i64 0,.int .i64 255,.int .i64 0,.int .i64 0,.int .i64 0],.tuple #[.agg V6.toArray,.int .i64 0],.agg #[.int .i64 1,.int .i64 0,.int .i64 255,.int .i64 0,.int .i64 0,.int .i64 0],.slice (some ⟨s5.heap.size,0,none⟩) 1 1,.tuple #[.agg V6.toArray,.int .i64 0],.agg V6.toArray,.int .i64 0,.tuple #[.int .i64 2048,.int .i64 0],.agg V6.toArray,.tuple #[.int .i64 2048,.int .i64 0],.int .i64 2048,.int .i64 0,.tuple #[.agg V7.toArray,.int .i64 0],.agg V6.toArray,.tuple #[.agg V7.toArray,.int .i64 0],.agg V7.toArray,.int .i64 0,.tuple #[.int .i64 3414,.int .i64 0],.agg V7.toArray,.tuple #[.int .i64 3414,.int .i64 0],.int .i64 3414,.int .i64 0,.tuple #[.agg V13.toArray,.int .i64 0],.slice (some ⟨q8,0,none⟩) 1 1,.agg #[.int .i64 1,.int .i64 0,.int .i64 255,.int .i64 0,.int .i64 0,.int .i64 0],.agg #[.int .i64 4,.int .i64 0,.int .i64 128,.int .i64 0,.int .i64 0,.int .i64 1],.slice (some ⟨x8,0,none⟩) 2 2,.slice a' 3 cap',.tuple #[.agg V13.toArray,.int .i64 0],.agg V13.toArray,.int .i64 0,undef,undef,undef,undef,undef,undef,undef,undef,undef,undef,undef,undef,undef,undef,undef,undef,undef,undef,undef,undef,undef,undef,undef,undef,undef,undef,undef,undef,undef,undef,undef,undef,undef,undef,undef,undef,undef,undef,undef,undef,undef,undef,undef,undef,undef,undef,undef,undef,undef],defers:=[]} wS:=by
  intro q8 x8 a' cap' V13 b13 wS BS ES NS;refine hF _ _ (fun K hK=> ?_);clear hF hY hCS;have HK:=zD hK;clear hK;go_wp2_with fail;refine OnlyK.mk (HK.out _ _ ?_);have Vl:=zD NS.len;go_wp2_with (first
   | (refine yC 26 (.tmp 13) (by rfl) (by rfl) b13 (by rfl) V13 26 ES _ Tryz.underlying26 rfl (info_N.trans (yQ some Vl.out.symm)) ?_))
  refine(outsS_nA V13 _ NS).mono ?_;rintro e u1 ⟨aO,cO,rfl,rO,hb1⟩;have BU:=zA BS hb1;have E1:=ES.step hb1;have N1:=NS.step hb1;clear ES NS BS hb1;go_wp2_with (first
   | (refine yC 26 (.tmp 13) (by rfl) (by rfl) b13 (by rfl) V13 26 E1 _ Tryz.underlying26 rfl (info_N.trans (yQ some Vl.out.symm)) ?_))
  refine(predS_nA V13 _ N1).mono ?_;rintro e u2 ⟨rfl,hb2⟩;have BV:=zA BU hb2;have rO:=rO.step hb2;clear E1 N1 BU hb2 Vl;go_wp2_with fail;refine(equal3_14 _ _ _ _ _ (rO.step ((zG _ _).alloc (zE _) _)) (rd_outs14 u2)).mono ?_;rintro e u3 ⟨rfl,hb3⟩;have BW:=zA (BV.alloc BV.size _) hb3;clear rO BV hb3;go_wp2_with fail;go_returns;exact⟨rfl,BW⟩
 have hbv0:Below W7.heap.size W7 W7.drew:=(zG _ _).drew;obtain⟨v0,hv0⟩:∃v,W7.drew=v:=⟨_,rfl⟩;rw[hv0]at hbv0⊢;refine zaG ?_ ?_
 ·skip
  apply yH (by rw[hY];rfl)
  ·go_simp;with_reducible exact⟨rfl,rfl⟩
  refine(zcJ _).mono ?_;rintro e v1 ⟨q8,rfl,own,hbv10⟩;have hbv1:=zA hbv0 hbv10;obtain⟨D,hD⟩:∃D,v0.heap.size=D:=⟨_,rfl⟩;have hD1:=hbv10.size;rw[hD]at own hD1;have hD0:W7.heap.size≤D:=by rw[←hD];exact hbv0.size
  clear hbv10 hD;refine⟨_,rfl,⟨hbv1,Cells.step hbv1 hCS⟩,?_⟩;simp only[zrB]
  repeat
   apply zV (by rw[hY];rfl)
   ·intro w2 hS2;(try simp only[Keeps,Cells]at hS2);go_simp;with_reducible rfl
   simp only[zrB]
  refine zaG ?_ ?_
  ·skip
   have hbv20:Below v1.heap.size v1 (v1.alloc (.cells #[.int .i64 1,.int .i64 0,.int .i64 255,.int .i64 0,.int .i64 0,.int .i64 0,.int .i64 4,.int .i64 0,.int .i64 128,.int .i64 0,.int .i64 0,.int .i64 1] 54)):=(zG _ _).alloc (zE _) _;have hbv2:=zA hbv1 hbv20;refine yI (by rw[hY];rfl) (by go_simp;first|with_reducible exact⟨rfl,rfl⟩|with_reducible rfl) ((show Below W7.heap.size W7 (v1.alloc (.cells #[.int .i64 1,.int .i64 0,.int .i64 255,.int .i64 0,.int .i64 0,.int .i64 0,.int .i64 4,.int .i64 0,.int .i64 128,.int .i64 0,.int .i64 0,.int .i64 1] 54))∧Cells (v1.alloc (.cells #[.int .i64 1,.int .i64 0,.int .i64 255,.int .i64 0,.int .i64 0,.int .i64 0,.int .i64 4,.int .i64 0,.int .i64 128,.int .i64 0,.int .i64 0,.int .i64 1] 54)) [(⟨b5,0,none⟩,.int .i64 1),(⟨b5,1,none⟩,.int .i64 0),(⟨b5,2,none⟩,.int .i64 255),(⟨b5,3,none⟩,.int .i64 0),(⟨b5,4,none⟩,.int .i64 0),(⟨b5,5,none⟩,.int .i64 0)]from⟨hbv2,Cells.step hbv2 hCS⟩)) ?_;simp only[zrB];have own:=yO (B:=0) own hbv20;have hD1:=yD hD1 hbv20.size;have rx:=ziM v1;obtain⟨x8,hx8⟩:∃x,v1.heap.size=x:=⟨_,rfl⟩;clear hbv20;rw[hx8]at rx⊢;obtain⟨v2,hv2⟩:∃v,(v1.alloc (.cells #[.int .i64 1,.int .i64 0,.int .i64 255,.int .i64 0,.int .i64 0,.int .i64 0,.int .i64 4,.int .i64 0,.int .i64 128,.int .i64 0,.int .i64 0,.int .i64 1] 54))=v:=⟨_,rfl⟩;rw[hv2]at hbv2 own hD1 rx⊢
   repeat
    apply zV (by rw[hY];rfl)
    ·intro w2 hS2;(try simp only[Keeps,Cells]at hS2);go_simp;with_reducible rfl
    simp only[zrB]
   refine zaG ?_ ?_
   ·skip
    refine zaZ (.tmp 52) (.tmp 55) (by rfl) (by rw[hY];rfl) D q8 x8 (by rfl) own hD1 (by rfl) rx ?_;intro a' cap' v3 ra gr hg;have hbv3:Below W7.heap.size W7 v3:=hbv2.trans (yB gr (yD hD0 hg) hbv2.size);refine⟨⟨hbv3,Cells.step hbv3 hCS⟩,?_⟩;clear own rx gr hg hD0 hD1;simp only[zrB]
    repeat
     apply zV (by rw[hY];rfl)
     ·intro w2 hS2;(try simp only[Keeps,Cells]at hS2);go_simp;with_reducible rfl
     simp only[zrB]
    refine zaG ?_ ?_
    ·skip
     apply yH (by rw[hY];rfl)
     ·go_simp;with_reducible exact⟨rfl,rfl⟩
     refine(zeS _ _ _ ra).mono ?_;rintro e v4 ⟨V13,rfl,NS,hbv40⟩;have hbv4:=zA hbv3 hbv40;clear ra hbv40;refine⟨_,rfl,⟨hbv4,Cells.step hbv4 hCS⟩,?_⟩;simp only[zrB]
     repeat
      apply zV (by rw[hY];rfl)
      ·intro w2 hS2;(try simp only[Keeps,Cells]at hS2);go_simp;with_reducible rfl
      simp only[zrB]
     have hbv50:Below v4.heap.size v4 (v4.alloc (.cells #[.slice none 0 0,.slice none 0 0,.slice none 0 0,.int .i64 0] 26)):=(zG _ _).alloc (zE _) _;have hbv5:=zA hbv4 hbv50;refine yI (by rw[hY];rfl) (by go_simp;first|with_reducible exact⟨rfl,rfl⟩|with_reducible rfl) ((show Below W7.heap.size W7 (v4.alloc (.cells #[.slice none 0 0,.slice none 0 0,.slice none 0 0,.int .i64 0] 26))∧Cells (v4.alloc (.cells #[.slice none 0 0,.slice none 0 0,.slice none 0 0,.int .i64 0] 26)) [(⟨b5,0,none⟩,.int .i64 1),(⟨b5,1,none⟩,.int .i64 0),(⟨b5,2,none⟩,.int .i64 255),(⟨b5,3,none⟩,.int .i64 0),(⟨b5,4,none⟩,.int .i64 0),(⟨b5,5,none⟩,.int .i64 0)]from⟨hbv5,Cells.step hbv5 hCS⟩)) ?_;simp only[zrB];have NS:=NS.step hbv50;have kN:=Blk.new v4 [.slice none 0 0,.slice none 0 0,.slice none 0 0,.int .i64 0] 26;have zN:W7.heap.size≤v4.heap.size:=hbv4.size;obtain⟨b13,hb13⟩:∃x,v4.heap.size=x:=⟨_,rfl⟩;clear hbv50;rw[hb13]at kN zN⊢;obtain⟨v5,hv5⟩:∃v,(v4.alloc (.cells #[.slice none 0 0,.slice none 0 0,.slice none 0 0,.int .i64 0] 26))=v:=⟨_,rfl⟩;rw[hv5]at hbv5 NS kN⊢
     repeat
      apply zV (by rw[hY];rfl)
      ·intro w2 hS2;(try simp only[Keeps,Cells]at hS2);go_simp;with_reducible rfl
      simp only[zrB]
     refine yX 26 (.tmp 13) (.tmp 58) (by rfl) (by rw[hY];rfl) b13 (by rfl) V13 (by rfl) _ 26 kN (info_N.trans (yQ some NS.len.symm)) NS.len.symm NS.one ?_;intro wS ES gS sS;have hbS:Below W7.heap.size W7 wS:=hbv5.trans (yB gS zN hbv5.size);refine⟨⟨hbS,Cells.step hbS hCS⟩,?_⟩;simp only[zrB];exact yS (fin _ _ _ _ _ _ wS (zA B10 hbS) ES (NS.keep zeQ kN zbI gS))
    ·skip
     have hbv40:Below v3.heap.size v3 (v3.alloc (.cells #[.slice none 0 0,.slice none 0 0,.slice none 0 0,.int .i64 0] 26)):=(zG _ _).alloc (zE _) _;have hbv4:=zA hbv3 hbv40;refine yI (by rw[hY];rfl) (by go_simp;first|with_reducible exact⟨rfl,rfl⟩|with_reducible rfl) ((show Below W7.heap.size W7 (v3.alloc (.cells #[.slice none 0 0,.slice none 0 0,.slice none 0 0,.int .i64 0] 26))∧Cells (v3.alloc (.cells #[.slice none 0 0,.slice none 0 0,.slice none 0 0,.int .i64 0] 26)) [(⟨b5,0,none⟩,.int .i64 1),(⟨b5,1,none⟩,.int .i64 0),(⟨b5,2,none⟩,.int .i64 255),(⟨b5,3,none⟩,.int .i64 0),(⟨b5,4,none⟩,.int .i64 0),(⟨b5,5,none⟩,.int .i64 0)]from⟨hbv4,Cells.step hbv4 hCS⟩)) ?_;simp only[zrB];have ra:=ra.step hbv40;have kN:=Blk.new v3 [.slice none 0 0,.slice none 0 0,.slice none 0 0,.int .i64 0] 26;have zN:W7.heap.size≤v3.heap.size:=hbv3.size;obtain⟨b13,hb13⟩:∃x,v3.heap.size=x:=⟨_,rfl⟩;clear hbv40;rw[hb13]at kN zN⊢;obtain⟨v4,hv4⟩:∃v,(v3.alloc (.cells #[.slice none 0 0,.slice none 0 0,.slice none 0 0,.int .i64 0] 26))=v:=⟨_,rfl⟩;rw[hv4]at hbv4 ra kN⊢
     repeat
      apply zV (by rw[hY];rfl)
      ·intro w2 hS2;(try simp only[Keeps,Cells]at hS2);go_simp;with_reducible rfl
      simp only[zrB]
     apply yH (by rw[hY];rfl)
     ·go_simp;with_reducible exact⟨rfl,rfl⟩
     refine(zeS _ _ _ ra).mono ?_;rintro e v5 ⟨V13,rfl,NS,hbv50⟩;have hbv5:=zA hbv4 hbv50;have kN:=kN.step hbv50;clear ra hbv50;refine⟨_,rfl,⟨hbv5,Cells.step hbv5 hCS⟩,?_⟩;simp only[zrB]
     repeat
      apply zV (by rw[hY];rfl)
      ·intro w2 hS2;(try simp only[Keeps,Cells]at hS2);go_simp;with_reducible rfl
      simp only[zrB]
     refine yX 26 (.tmp 13) (.tmp 58) (by rfl) (by rw[hY];rfl) b13 (by rfl) V13 (by rfl) _ 26 kN (info_N.trans (yQ some NS.len.symm)) NS.len.symm NS.one ?_;intro wS ES gS sS;have hbS:Below W7.heap.size W7 wS:=hbv5.trans (yB gS zN hbv5.size);refine⟨⟨hbS,Cells.step hbS hCS⟩,?_⟩;simp only[zrB];exact yS (fin _ _ _ _ _ _ wS (zA B10 hbS) ES (NS.keep zeQ kN zbI gS))
   ·skip
    have hbv30:Below v2.heap.size v2 (v2.alloc (.cells #[.slice none 0 0,.slice none 0 0,.slice none 0 0,.int .i64 0] 26)):=(zG _ _).alloc (zE _) _;have hbv3:=zA hbv2 hbv30;refine yI (by rw[hY];rfl) (by go_simp;first|with_reducible exact⟨rfl,rfl⟩|with_reducible rfl) ((show Below W7.heap.size W7 (v2.alloc (.cells #[.slice none 0 0,.slice none 0 0,.slice none 0 0,.int .i64 0] 26))∧Cells (v2.alloc (.cells #[.slice none 0 0,.slice none 0 0,.slice none 0 0,.int .i64 0] 26)) [(⟨b5,0,none⟩,.int .i64 1),(⟨b5,1,none⟩,.int .i64 0),(⟨b5,2,none⟩,.int .i64 255),(⟨b5,3,none⟩,.int .i64 0),(⟨b5,4,none⟩,.int .i64 0),(⟨b5,5,none⟩,.int .i64 0)]from⟨hbv3,Cells.step hbv3 hCS⟩)) ?_;simp only[zrB];have own:=yO (B:=0) own hbv30;have hD1:=yD hD1 hbv30.size;have rx:=rx.step hbv30;have kN:=Blk.new v2 [.slice none 0 0,.slice none 0 0,.slice none 0 0,.int .i64 0] 26;have zN:W7.heap.size≤v2.heap.size:=hbv2.size;obtain⟨b13,hb13⟩:∃x,v2.heap.size=x:=⟨_,rfl⟩;clear hbv30;rw[hb13]at kN zN⊢;obtain⟨v3,hv3⟩:∃v,(v2.alloc (.cells #[.slice none 0 0,.slice none 0 0,.slice none 0 0,.int .i64 0] 26))=v:=⟨_,rfl⟩;rw[hv3]at hbv3 own hD1 rx kN⊢
    repeat
     apply zV (by rw[hY];rfl)
     ·intro w2 hS2;(try simp only[Keeps,Cells]at hS2);go_simp;with_reducible rfl
     simp only[zrB]
    refine zaZ (.tmp 52) (.tmp 55) (by rfl) (by rw[hY];rfl) D q8 x8 (by rfl) own hD1 (by rfl) rx ?_;intro a' cap' v4 ra gr hg;have hbv4:Below W7.heap.size W7 v4:=hbv3.trans (yB gr (yD hD0 hg) hbv3.size);have kN:=kN.keptRow gr (fun e=>zbB own kN (by decide) e.symm);refine⟨⟨hbv4,Cells.step hbv4 hCS⟩,?_⟩;clear own rx gr hg hD0 hD1;simp only[zrB]
    repeat
     apply zV (by rw[hY];rfl)
     ·intro w2 hS2;(try simp only[Keeps,Cells]at hS2);go_simp;with_reducible rfl
     simp only[zrB]
    apply yH (by rw[hY];rfl)
    ·go_simp;with_reducible exact⟨rfl,rfl⟩
    refine(zeS _ _ _ ra).mono ?_;rintro e v5 ⟨V13,rfl,NS,hbv50⟩;have hbv5:=zA hbv4 hbv50;have kN:=kN.step hbv50;clear ra hbv50;refine⟨_,rfl,⟨hbv5,Cells.step hbv5 hCS⟩,?_⟩;simp only[zrB]
    repeat
     apply zV (by rw[hY];rfl)
     ·intro w2 hS2;(try simp only[Keeps,Cells]at hS2);go_simp;with_reducible rfl
     simp only[zrB]
    refine yX 26 (.tmp 13) (.tmp 58) (by rfl) (by rw[hY];rfl) b13 (by rfl) V13 (by rfl) _ 26 kN (info_N.trans (yQ some NS.len.symm)) NS.len.symm NS.one ?_;intro wS ES gS sS;have hbS:Below W7.heap.size W7 wS:=hbv5.trans (yB gS zN hbv5.size);refine⟨⟨hbS,Cells.step hbS hCS⟩,?_⟩;simp only[zrB];exact yS (fin _ _ _ _ _ _ wS (zA B10 hbS) ES (NS.keep zeQ kN zbI gS))
  ·skip
   have hbv20:Below v1.heap.size v1 (v1.alloc (.cells #[.slice none 0 0,.slice none 0 0,.slice none 0 0,.int .i64 0] 26)):=(zG _ _).alloc (zE _) _;have hbv2:=zA hbv1 hbv20;refine yI (by rw[hY];rfl) (by go_simp;first|with_reducible exact⟨rfl,rfl⟩|with_reducible rfl) ((show Below W7.heap.size W7 (v1.alloc (.cells #[.slice none 0 0,.slice none 0 0,.slice none 0 0,.int .i64 0] 26))∧Cells (v1.alloc (.cells #[.slice none 0 0,.slice none 0 0,.slice none 0 0,.int .i64 0] 26)) [(⟨b5,0,none⟩,.int .i64 1),(⟨b5,1,none⟩,.int .i64 0),(⟨b5,2,none⟩,.int .i64 255),(⟨b5,3,none⟩,.int .i64 0),(⟨b5,4,none⟩,.int .i64 0),(⟨b5,5,none⟩,.int .i64 0)]from⟨hbv2,Cells.step hbv2 hCS⟩)) ?_;simp only[zrB];have own:=yO (B:=0) own hbv20;have hD1:=yD hD1 hbv20.size;have kN:=Blk.new v1 [.slice none 0 0,.slice none 0 0,.slice none 0 0,.int .i64 0] 26;have zN:W7.heap.size≤v1.heap.size:=hbv1.size;obtain⟨b13,hb13⟩:∃x,v1.heap.size=x:=⟨_,rfl⟩;clear hbv20;rw[hb13]at kN zN⊢;obtain⟨v2,hv2⟩:∃v,(v1.alloc (.cells #[.slice none 0 0,.slice none 0 0,.slice none 0 0,.int .i64 0] 26))=v:=⟨_,rfl⟩;rw[hv2]at hbv2 own hD1 kN⊢
   repeat
    apply zV (by rw[hY];rfl)
    ·intro w2 hS2;(try simp only[Keeps,Cells]at hS2);go_simp;with_reducible rfl
    simp only[zrB]
   have hbv30:Below v2.heap.size v2 (v2.alloc (.cells #[.int .i64 1,.int .i64 0,.int .i64 255,.int .i64 0,.int .i64 0,.int .i64 0,.int .i64 4,.int .i64 0,.int .i64 128,.int .i64 0,.int .i64 0,.int .i64 1] 54)):=(zG _ _).alloc (zE _) _;have hbv3:=zA hbv2 hbv30;refine yI (by rw[hY];rfl) (by go_simp;first|with_reducible exact⟨rfl,rfl⟩|with_reducible rfl) ((show Below W7.heap.size W7 (v2.alloc (.cells #[.int .i64 1,.int .i64 0,.int .i64 255,.int .i64 0,.int .i64 0,.int .i64 0,.int .i64 4,.int .i64 0,.int .i64 128,.int .i64 0,.int .i64 0,.int .i64 1] 54))∧Cells (v2.alloc (.cells #[.int .i64 1,.int .i64 0,.int .i64 255,.int .i64 0,.int .i64 0,.int .i64 0,.int .i64 4,.int .i64 0,.int .i64 128,.int .i64 0,.int .i64 0,.int .i64 1] 54)) [(⟨b5,0,none⟩,.int .i64 1),(⟨b5,1,none⟩,.int .i64 0),(⟨b5,2,none⟩,.int .i64 255),(⟨b5,3,none⟩,.int .i64 0),(⟨b5,4,none⟩,.int .i64 0),(⟨b5,5,none⟩,.int .i64 0)]from⟨hbv3,Cells.step hbv3 hCS⟩)) ?_;simp only[zrB];have own:=yO (B:=0) own hbv30;have hD1:=yD hD1 hbv30.size;have kN:=kN.step hbv30;have rx:=ziM v2;obtain⟨x8,hx8⟩:∃x,v2.heap.size=x:=⟨_,rfl⟩;clear hbv30;rw[hx8]at rx⊢;obtain⟨v3,hv3⟩:∃v,(v2.alloc (.cells #[.int .i64 1,.int .i64 0,.int .i64 255,.int .i64 0,.int .i64 0,.int .i64 0,.int .i64 4,.int .i64 0,.int .i64 128,.int .i64 0,.int .i64 0,.int .i64 1] 54))=v:=⟨_,rfl⟩;rw[hv3]at hbv3 own hD1 kN rx⊢
   repeat
    apply zV (by rw[hY];rfl)
    ·intro w2 hS2;(try simp only[Keeps,Cells]at hS2);go_simp;with_reducible rfl
    simp only[zrB]
   refine zaZ (.tmp 52) (.tmp 55) (by rfl) (by rw[hY];rfl) D q8 x8 (by rfl) own hD1 (by rfl) rx ?_;intro a' cap' v4 ra gr hg;have hbv4:Below W7.heap.size W7 v4:=hbv3.trans (yB gr (yD hD0 hg) hbv3.size);have kN:=kN.keptRow gr (fun e=>zbB own kN (by decide) e.symm);refine⟨⟨hbv4,Cells.step hbv4 hCS⟩,?_⟩;clear own rx gr hg hD0 hD1;simp only[zrB]
   repeat
    apply zV (by rw[hY];rfl)
    ·intro w2 hS2;(try simp only[Keeps,Cells]at hS2);go_simp;with_reducible rfl
    simp only[zrB]
   apply yH (by rw[hY];rfl)
   ·go_simp;with_reducible exact⟨rfl,rfl⟩
   refine(zeS _ _ _ ra).mono ?_;rintro e v5 ⟨V13,rfl,NS,hbv50⟩;have hbv5:=zA hbv4 hbv50;have kN:=kN.step hbv50;clear ra hbv50;refine⟨_,rfl,⟨hbv5,Cells.step hbv5 hCS⟩,?_⟩;simp only[zrB]
   repeat
    apply zV (by rw[hY];rfl)
    ·intro w2 hS2;(try simp only[Keeps,Cells]at hS2);go_simp;with_reducible rfl
    simp only[zrB]
   refine yX 26 (.tmp 13) (.tmp 58) (by rfl) (by rw[hY];rfl) b13 (by rfl) V13 (by rfl) _ 26 kN (info_N.trans (yQ some NS.len.symm)) NS.len.symm NS.one ?_;intro wS ES gS sS;have hbS:Below W7.heap.size W7 wS:=hbv5.trans (yB gS zN hbv5.size);refine⟨⟨hbS,Cells.step hbS hCS⟩,?_⟩;simp only[zrB];exact yS (fin _ _ _ _ _ _ wS (zA B10 hbS) ES (NS.keep zeQ kN zbI gS))
 ·skip
  refine zaG ?_ ?_
  ·skip
   have hbv10:Below v0.heap.size v0 (v0.alloc (.cells #[.int .i64 1,.int .i64 0,.int .i64 255,.int .i64 0,.int .i64 0,.int .i64 0,.int .i64 4,.int .i64 0,.int .i64 128,.int .i64 0,.int .i64 0,.int .i64 1] 54)):=(zG _ _).alloc (zE _) _;have hbv1:=zA hbv0 hbv10;refine yI (by rw[hY];rfl) (by go_simp;first|with_reducible exact⟨rfl,rfl⟩|with_reducible rfl) ((show Below W7.heap.size W7 (v0.alloc (.cells #[.int .i64 1,.int .i64 0,.int .i64 255,.int .i64 0,.int .i64 0,.int .i64 0,.int .i64 4,.int .i64 0,.int .i64 128,.int .i64 0,.int .i64 0,.int .i64 1] 54))∧Cells (v0.alloc (.cells #[.int .i64 1,.int .i64 0,.int .i64 255,.int .i64 0,.int .i64 0,.int .i64 0,.int .i64 4,.int .i64 0,.int .i64 128,.int .i64 0,.int .i64 0,.int .i64 1] 54)) [(⟨b5,0,none⟩,.int .i64 1),(⟨b5,1,none⟩,.int .i64 0),(⟨b5,2,none⟩,.int .i64 255),(⟨b5,3,none⟩,.int .i64 0),(⟨b5,4,none⟩,.int .i64 0),(⟨b5,5,none⟩,.int .i64 0)]from⟨hbv1,Cells.step hbv1 hCS⟩)) ?_;simp only[zrB];have rx:=ziM v0;obtain⟨x8,hx8⟩:∃x,v0.heap.size=x:=⟨_,rfl⟩;clear hbv10;rw[hx8]at rx⊢;obtain⟨v1,hv1⟩:∃v,(v0.alloc (.cells #[.int .i64 1,.int .i64 0,.int .i64 255,.int .i64 0,.int .i64 0,.int .i64 0,.int .i64 4,.int .i64 0,.int .i64 128,.int .i64 0,.int .i64 0,.int .i64 1] 54))=v:=⟨_,rfl⟩;rw[hv1]at hbv1 rx⊢
   repeat
    apply zV (by rw[hY];rfl)
    ·intro w2 hS2;(try simp only[Keeps,Cells]at hS2);go_simp;with_reducible rfl
    simp only[zrB]
   refine zaG ?_ ?_
   ·skip
    apply yH (by rw[hY];rfl)
    ·go_simp;with_reducible exact⟨rfl,rfl⟩
    refine(zcJ _).mono ?_;rintro e v2 ⟨q8,rfl,own,hbv20⟩;have hbv2:=zA hbv1 hbv20;obtain⟨D,hD⟩:∃D,v1.heap.size=D:=⟨_,rfl⟩;have hD1:=hbv20.size;rw[hD]at own hD1;have hD0:W7.heap.size≤D:=by rw[←hD];exact hbv1.size
    have rx:=rx.step hbv20;clear hbv20 hD;refine⟨_,rfl,⟨hbv2,Cells.step hbv2 hCS⟩,?_⟩;simp only[zrB]
    repeat
     apply zV (by rw[hY];rfl)
     ·intro w2 hS2;(try simp only[Keeps,Cells]at hS2);go_simp;with_reducible rfl
     simp only[zrB]
    refine zaG ?_ ?_
    ·skip
     refine zaZ (.tmp 52) (.tmp 55) (by rfl) (by rw[hY];rfl) D q8 x8 (by rfl) own hD1 (by rfl) rx ?_;intro a' cap' v3 ra gr hg;have hbv3:Below W7.heap.size W7 v3:=hbv2.trans (yB gr (yD hD0 hg) hbv2.size);refine⟨⟨hbv3,Cells.step hbv3 hCS⟩,?_⟩;clear own rx gr hg hD0 hD1;simp only[zrB]
     repeat
      apply zV (by rw[hY];rfl)
      ·intro w2 hS2;(try simp only[Keeps,Cells]at hS2);go_simp;with_reducible rfl
      simp only[zrB]
     refine zaG ?_ ?_
     ·skip
      apply yH (by rw[hY];rfl)
      ·go_simp;with_reducible exact⟨rfl,rfl⟩
      refine(zeS _ _ _ ra).mono ?_;rintro e v4 ⟨V13,rfl,NS,hbv40⟩;have hbv4:=zA hbv3 hbv40;clear ra hbv40;refine⟨_,rfl,⟨hbv4,Cells.step hbv4 hCS⟩,?_⟩;simp only[zrB]
      repeat
       apply zV (by rw[hY];rfl)
       ·intro w2 hS2;(try simp only[Keeps,Cells]at hS2);go_simp;with_reducible rfl
       simp only[zrB]
      have hbv50:Below v4.heap.size v4 (v4.alloc (.cells #[.slice none 0 0,.slice none 0 0,.slice none 0 0,.int .i64 0] 26)):=(zG _ _).alloc (zE _) _;have hbv5:=zA hbv4 hbv50;refine yI (by rw[hY];rfl) (by go_simp;first|with_reducible exact⟨rfl,rfl⟩|with_reducible rfl) ((show Below W7.heap.size W7 (v4.alloc (.cells #[.slice none 0 0,.slice none 0 0,.slice none 0 0,.int .i64 0] 26))∧Cells (v4.alloc (.cells #[.slice none 0 0,.slice none 0 0,.slice none 0 0,.int .i64 0] 26)) [(⟨b5,0,none⟩,.int .i64 1),(⟨b5,1,none⟩,.int .i64 0),(⟨b5,2,none⟩,.int .i64 255),(⟨b5,3,none⟩,.int .i64 0),(⟨b5,4,none⟩,.int .i64 0),(⟨b5,5,none⟩,.int .i64 0)]from⟨hbv5,Cells.step hbv5 hCS⟩)) ?_;simp only[zrB];have NS:=NS.step hbv50;have kN:=Blk.new v4 [.slice none 0 0,.slice none 0 0,.slice none 0 0,.int .i64 0] 26;have zN:W7.heap.size≤v4.heap.size:=hbv4.size;obtain⟨b13,hb13⟩:∃x,v4.heap.size=x:=⟨_,rfl⟩;clear hbv50;rw[hb13]at kN zN⊢;obtain⟨v5,hv5⟩:∃v,(v4.alloc (.cells #[.slice none 0 0,.slice none 0 0,.slice none 0 0,.int .i64 0] 26))=v:=⟨_,rfl⟩;rw[hv5]at hbv5 NS kN⊢
      repeat
       apply zV (by rw[hY];rfl)
       ·intro w2 hS2;(try simp only[Keeps,Cells]at hS2);go_simp;with_reducible rfl
       simp only[zrB]
      refine yX 26 (.tmp 13) (.tmp 58) (by rfl) (by rw[hY];rfl) b13 (by rfl) V13 (by rfl) _ 26 kN (info_N.trans (yQ some NS.len.symm)) NS.len.symm NS.one ?_;intro wS ES gS sS;have hbS:Below W7.heap.size W7 wS:=hbv5.trans (yB gS zN hbv5.size);refine⟨⟨hbS,Cells.step hbS hCS⟩,?_⟩;simp only[zrB];exact yS (fin _ _ _ _ _ _ wS (zA B10 hbS) ES (NS.keep zeQ kN zbI gS))
     ·skip
      have hbv40:Below v3.heap.size v3 (v3.alloc (.cells #[.slice none 0 0,.slice none 0 0,.slice none 0 0,.int .i64 0] 26)):=(zG _ _).alloc (zE _) _;have hbv4:=zA hbv3 hbv40;refine yI (by rw[hY];rfl) (by go_simp;first|with_reducible exact⟨rfl,rfl⟩|with_reducible rfl) ((show Below W7.heap.size W7 (v3.alloc (.cells #[.slice none 0 0,.slice none 0 0,.slice none 0 0,.int .i64 0] 26))∧Cells (v3.alloc (.cells #[.slice none 0 0,.slice none 0 0,.slice none 0 0,.int .i64 0] 26)) [(⟨b5,0,none⟩,.int .i64 1),(⟨b5,1,none⟩,.int .i64 0),(⟨b5,2,none⟩,.int .i64 255),(⟨b5,3,none⟩,.int .i64 0),(⟨b5,4,none⟩,.int .i64 0),(⟨b5,5,none⟩,.int .i64 0)]from⟨hbv4,Cells.step hbv4 hCS⟩)) ?_;simp only[zrB];have ra:=ra.step hbv40;have kN:=Blk.new v3 [.slice none 0 0,.slice none 0 0,.slice none 0 0,.int .i64 0] 26;have zN:W7.heap.size≤v3.heap.size:=hbv3.size;obtain⟨b13,hb13⟩:∃x,v3.heap.size=x:=⟨_,rfl⟩;clear hbv40;rw[hb13]at kN zN⊢;obtain⟨v4,hv4⟩:∃v,(v3.alloc (.cells #[.slice none 0 0,.slice none 0 0,.slice none 0 0,.int .i64 0] 26))=v:=⟨_,rfl⟩;rw[hv4]at hbv4 ra kN⊢
      repeat
       apply zV (by rw[hY];rfl)
       ·intro w2 hS2;(try simp only[Keeps,Cells]at hS2);go_simp;with_reducible rfl
       simp only[zrB]
      apply yH (by rw[hY];rfl)
      ·go_simp;with_reducible exact⟨rfl,rfl⟩
      refine(zeS _ _ _ ra).mono ?_;rintro e v5 ⟨V13,rfl,NS,hbv50⟩;have hbv5:=zA hbv4 hbv50;have kN:=kN.step hbv50;clear ra hbv50;refine⟨_,rfl,⟨hbv5,Cells.step hbv5 hCS⟩,?_⟩;simp only[zrB]
      repeat
       apply zV (by rw[hY];rfl)
       ·intro w2 hS2;(try simp only[Keeps,Cells]at hS2);go_simp;with_reducible rfl
       simp only[zrB]
      refine yX 26 (.tmp 13) (.tmp 58) (by rfl) (by rw[hY];rfl) b13 (by rfl) V13 (by rfl) _ 26 kN (info_N.trans (yQ some NS.len.symm)) NS.len.symm NS.one ?_;intro wS ES gS sS;have hbS:Below W7.heap.size W7 wS:=hbv5.trans (yB gS zN hbv5.size);refine⟨⟨hbS,Cells.step hbS hCS⟩,?_⟩;simp only[zrB];exact yS (fin _ _ _ _ _ _ wS (zA B10 hbS) ES (NS.keep zeQ kN zbI gS))
    ·skip
     have hbv30:Below v2.heap.size v2 (v2.alloc (.cells #[.slice none 0 0,.slice none 0 0,.slice none 0 0,.int .i64 0] 26)):=(zG _ _).alloc (zE _) _;have hbv3:=zA hbv2 hbv30;refine yI (by rw[hY];rfl) (by go_simp;first|with_reducible exact⟨rfl,rfl⟩|with_reducible rfl) ((show Below W7.heap.size W7 (v2.alloc (.cells #[.slice none 0 0,.slice none 0 0,.slice none 0 0,.int .i64 0] 26))∧Cells (v2.alloc (.cells #[.slice none 0 0,.slice none 0 0,.slice none 0 0,.int .i64 0] 26)) [(⟨b5,0,none⟩,.int .i64 1),(⟨b5,1,none⟩,.int .i64 0),(⟨b5,2,none⟩,.int .i64 255),(⟨b5,3,none⟩,.int .i64 0),(⟨b5,4,none⟩,.int .i64 0),(⟨b5,5,none⟩,.int .i64 0)]from⟨hbv3,Cells.step hbv3 hCS⟩)) ?_;simp only[zrB];have own:=yO (B:=0) own hbv30;have hD1:=yD hD1 hbv30.size;have rx:=rx.step hbv30;have kN:=Blk.new v2 [.slice none 0 0,.slice none 0 0,.slice none 0 0,.int .i64 0] 26;have zN:W7.heap.size≤v2.heap.size:=hbv2.size;obtain⟨b13,hb13⟩:∃x,v2.heap.size=x:=⟨_,rfl⟩;clear hbv30;rw[hb13]at kN zN⊢;obtain⟨v3,hv3⟩:∃v,(v2.alloc (.cells #[.slice none 0 0,.slice none 0 0,.slice none 0 0,.int .i64 0] 26))=v:=⟨_,rfl⟩;rw[hv3]at hbv3 own hD1 rx kN⊢
     repeat
      apply zV (by rw[hY];rfl)
      ·intro w2 hS2;(try simp only[Keeps,Cells]at hS2);go_simp;with_reducible rfl
      simp only[zrB]
     refine zaZ (.tmp 52) (.tmp 55) (by rfl) (by rw[hY];rfl) D q8 x8 (by rfl) own hD1 (by rfl) rx ?_;intro a' cap' v4 ra gr hg;have hbv4:Below W7.heap.size W7 v4:=hbv3.trans (yB gr (yD hD0 hg) hbv3.size);have kN:=kN.keptRow gr (fun e=>zbB own kN (by decide) e.symm);refine⟨⟨hbv4,Cells.step hbv4 hCS⟩,?_⟩;clear own rx gr hg hD0 hD1;simp only[zrB]
     repeat
      apply zV (by rw[hY];rfl)
      ·intro w2 hS2;(try simp only[Keeps,Cells]at hS2);go_simp;with_reducible rfl
      simp only[zrB]
     apply yH (by rw[hY];rfl)
     ·go_simp;with_reducible exact⟨rfl,rfl⟩
     refine(zeS _ _ _ ra).mono ?_;rintro e v5 ⟨V13,rfl,NS,hbv50⟩;have hbv5:=zA hbv4 hbv50;have kN:=kN.step hbv50;clear ra hbv50;refine⟨_,rfl,⟨hbv5,Cells.step hbv5 hCS⟩,?_⟩;simp only[zrB]
     repeat
      apply zV (by rw[hY];rfl)
      ·intro w2 hS2;(try simp only[Keeps,Cells]at hS2);go_simp;with_reducible rfl
      simp only[zrB]
     refine yX 26 (.tmp 13) (.tmp 58) (by rfl) (by rw[hY];rfl) b13 (by rfl) V13 (by rfl) _ 26 kN (info_N.trans (yQ some NS.len.symm)) NS.len.symm NS.one ?_;intro wS ES gS sS;have hbS:Below W7.heap.size W7 wS:=hbv5.trans (yB gS zN hbv5.size);refine⟨⟨hbS,Cells.step hbS hCS⟩,?_⟩;simp only[zrB];exact yS (fin _ _ _ _ _ _ wS (zA B10 hbS) ES (NS.keep zeQ kN zbI gS))
   ·skip
    have hbv20:Below v1.heap.size v1 (v1.alloc (.cells #[.slice none 0 0,.slice none 0 0,.slice none 0 0,.int .i64 0] 26)):=(zG _ _).alloc (zE _) _;have hbv2:=zA hbv1 hbv20;refine yI (by rw[hY];rfl) (by go_simp;first|with_reducible exact⟨rfl,rfl⟩|with_reducible rfl) ((show Below W7.heap.size W7 (v1.alloc (.cells #[.slice none 0 0,.slice none 0 0,.slice none 0 0,.int .i64 0] 26))∧Cells (v1.alloc (.cells #[.slice none 0 0,.slice none 0 0,.slice none 0 0,.int .i64 0] 26)) [(⟨b5,0,none⟩,.int .i64 1),(⟨b5,1,none⟩,.int .i64 0),(⟨b5,2,none⟩,.int .i64 255),(⟨b5,3,none⟩,.int .i64 0),(⟨b5,4,none⟩,.int .i64 0),(⟨b5,5,none⟩,.int .i64 0)]from⟨hbv2,Cells.step hbv2 hCS⟩)) ?_;simp only[zrB];have rx:=rx.step hbv20;have kN:=Blk.new v1 [.slice none 0 0,.slice none 0 0,.slice none 0 0,.int .i64 0] 26;have zN:W7.heap.size≤v1.heap.size:=hbv1.size;obtain⟨b13,hb13⟩:∃x,v1.heap.size=x:=⟨_,rfl⟩;clear hbv20;rw[hb13]at kN zN⊢;obtain⟨v2,hv2⟩:∃v,(v1.alloc (.cells #[.slice none 0 0,.slice none 0 0,.slice none 0 0,.int .i64 0] 26))=v:=⟨_,rfl⟩;rw[hv2]at hbv2 rx kN⊢
    repeat
     apply zV (by rw[hY];rfl)
     ·intro w2 hS2;(try simp only[Keeps,Cells]at hS2);go_simp;with_reducible rfl
     simp only[zrB]
    apply yH (by rw[hY];rfl)
    ·go_simp;with_reducible exact⟨rfl,rfl⟩
    refine(zcJ _).mono ?_;rintro e v3 ⟨q8,rfl,own,hbv30⟩;have hbv3:=zA hbv2 hbv30;obtain⟨D,hD⟩:∃D,v2.heap.size=D:=⟨_,rfl⟩;have hD1:=hbv30.size;rw[hD]at own hD1;have hD0:W7.heap.size≤D:=by rw[←hD];exact hbv2.size
    have rx:=rx.step hbv30;have kN:=kN.step hbv30;clear hbv30 hD;refine⟨_,rfl,⟨hbv3,Cells.step hbv3 hCS⟩,?_⟩;simp only[zrB]
    repeat
     apply zV (by rw[hY];rfl)
     ·intro w2 hS2;(try simp only[Keeps,Cells]at hS2);go_simp;with_reducible rfl
     simp only[zrB]
    refine zaZ (.tmp 52) (.tmp 55) (by rfl) (by rw[hY];rfl) D q8 x8 (by rfl) own hD1 (by rfl) rx ?_;intro a' cap' v4 ra gr hg;have hbv4:Below W7.heap.size W7 v4:=hbv3.trans (yB gr (yD hD0 hg) hbv3.size);have kN:=kN.keptRow gr (fun e=>zbB own kN (by decide) e.symm);refine⟨⟨hbv4,Cells.step hbv4 hCS⟩,?_⟩;clear own rx gr hg hD0 hD1;simp only[zrB]
    repeat
     apply zV (by rw[hY];rfl)
     ·intro w2 hS2;(try simp only[Keeps,Cells]at hS2);go_simp;with_reducible rfl
     simp only[zrB]
    apply yH (by rw[hY];rfl)
    ·go_simp;with_reducible exact⟨rfl,rfl⟩
    refine(zeS _ _ _ ra).mono ?_;rintro e v5 ⟨V13,rfl,NS,hbv50⟩;have hbv5:=zA hbv4 hbv50;have kN:=kN.step hbv50;clear ra hbv50;refine⟨_,rfl,⟨hbv5,Cells.step hbv5 hCS⟩,?_⟩;simp only[zrB]
    repeat
     apply zV (by rw[hY];rfl)
     ·intro w2 hS2;(try simp only[Keeps,Cells]at hS2);go_simp;with_reducible rfl
     simp only[zrB]
    refine yX 26 (.tmp 13) (.tmp 58) (by rfl) (by rw[hY];rfl) b13 (by rfl) V13 (by rfl) _ 26 kN (info_N.trans (yQ some NS.len.symm)) NS.len.symm NS.one ?_;intro wS ES gS sS;have hbS:Below W7.heap.size W7 wS:=hbv5.trans (yB gS zN hbv5.size);refine⟨⟨hbS,Cells.step hbS hCS⟩,?_⟩;simp only[zrB];exact yS (fin _ _ _ _ _ _ wS (zA B10 hbS) ES (NS.keep zeQ kN zbI gS))
  ·skip
   have hbv10:Below v0.heap.size v0 (v0.alloc (.cells #[.slice none 0 0,.slice none 0 0,.slice none 0 0,.int .i64 0] 26)):=(zG _ _).alloc (zE _) _;have hbv1:=zA hbv0 hbv10;refine yI (by rw[hY];rfl) (by go_simp;first|with_reducible exact⟨rfl,rfl⟩|with_reducible rfl) ((show Below W7.heap.size W7 (v0.alloc (.cells #[.slice none 0 0,.slice none 0 0,.slice none 0 0,.int .i64 0] 26))∧Cells (v0.alloc (.cells #[.slice none 0 0,.slice none 0 0,.slice none 0 0,.int .i64 0] 26)) [(⟨b5,0,none⟩,.int .i64 1),(⟨b5,1,none⟩,.int .i64 0),(⟨b5,2,none⟩,.int .i64 255),(⟨b5,3,none⟩,.int .i64 0),(⟨b5,4,none⟩,.int .i64 0),(⟨b5,5,none⟩,.int .i64 0)]from⟨hbv1,Cells.step hbv1 hCS⟩)) ?_;simp only[zrB];have kN:=Blk.new v0 [.slice none 0 0,.slice none 0 0,.slice none 0 0,.int .i64 0] 26;have zN:W7.heap.size≤v0.heap.size:=hbv0.size;obtain⟨b13,hb13⟩:∃x,v0.heap.size=x:=⟨_,rfl⟩;clear hbv10;rw[hb13]at kN zN⊢;obtain⟨v1,hv1⟩:∃v,(v0.alloc (.cells #[.slice none 0 0,.slice none 0 0,.slice none 0 0,.int .i64 0] 26))=v:=⟨_,rfl⟩;rw[hv1]at hbv1 kN⊢
   repeat
    apply zV (by rw[hY];rfl)
    ·intro w2 hS2;(try simp only[Keeps,Cells]at hS2);go_simp;with_reducible rfl
    simp only[zrB]
   refine zaG ?_ ?_
   ·skip
    apply yH (by rw[hY];rfl)
    ·go_simp;with_reducible exact⟨rfl,rfl⟩
    refine(zcJ _).mono ?_;rintro e v2 ⟨q8,rfl,own,hbv20⟩;have hbv2:=zA hbv1 hbv20;obtain⟨D,hD⟩:∃D,v1.heap.size=D:=⟨_,rfl⟩;have hD1:=hbv20.size;rw[hD]at own hD1;have hD0:W7.heap.size≤D:=by rw[←hD];exact hbv1.size
    have kN:=kN.step hbv20;clear hbv20 hD;refine⟨_,rfl,⟨hbv2,Cells.step hbv2 hCS⟩,?_⟩;simp only[zrB]
    repeat
     apply zV (by rw[hY];rfl)
     ·intro w2 hS2;(try simp only[Keeps,Cells]at hS2);go_simp;with_reducible rfl
     simp only[zrB]
    have hbv30:Below v2.heap.size v2 (v2.alloc (.cells #[.int .i64 1,.int .i64 0,.int .i64 255,.int .i64 0,.int .i64 0,.int .i64 0,.int .i64 4,.int .i64 0,.int .i64 128,.int .i64 0,.int .i64 0,.int .i64 1] 54)):=(zG _ _).alloc (zE _) _;have hbv3:=zA hbv2 hbv30;refine yI (by rw[hY];rfl) (by go_simp;first|with_reducible exact⟨rfl,rfl⟩|with_reducible rfl) ((show Below W7.heap.size W7 (v2.alloc (.cells #[.int .i64 1,.int .i64 0,.int .i64 255,.int .i64 0,.int .i64 0,.int .i64 0,.int .i64 4,.int .i64 0,.int .i64 128,.int .i64 0,.int .i64 0,.int .i64 1] 54))∧Cells (v2.alloc (.cells #[.int .i64 1,.int .i64 0,.int .i64 255,.int .i64 0,.int .i64 0,.int .i64 0,.int .i64 4,.int .i64 0,.int .i64 128,.int .i64 0,.int .i64 0,.int .i64 1] 54)) [(⟨b5,0,none⟩,.int .i64 1),(⟨b5,1,none⟩,.int .i64 0),(⟨b5,2,none⟩,.int .i64 255),(⟨b5,3,none⟩,.int .i64 0),(⟨b5,4,none⟩,.int .i64 0),(⟨b5,5,none⟩,.int .i64 0)]from⟨hbv3,Cells.step hbv3 hCS⟩)) ?_;simp only[zrB];have own:=yO (B:=0) own hbv30;have hD1:=yD hD1 hbv30.size;have kN:=kN.step hbv30;have rx:=ziM v2;obtain⟨x8,hx8⟩:∃x,v2.heap.size=x:=⟨_,rfl⟩;clear hbv30;rw[hx8]at rx⊢;obtain⟨v3,hv3⟩:∃v,(v2.alloc (.cells #[.int .i64 1,.int .i64 0,.int .i64 255,.int .i64 0,.int .i64 0,.int .i64 0,.int .i64 4,.int .i64 0,.int .i64 128,.int .i64 0,.int .i64 0,.int .i64 1] 54))=v:=⟨_,rfl⟩;rw[hv3]at hbv3 own hD1 kN rx⊢
    repeat
     apply zV (by rw[hY];rfl)
     ·intro w2 hS2;(try simp only[Keeps,Cells]at hS2);go_simp;with_reducible rfl
     simp only[zrB]
    refine zaZ (.tmp 52) (.tmp 55) (by rfl) (by rw[hY];rfl) D q8 x8 (by rfl) own hD1 (by rfl) rx ?_;intro a' cap' v4 ra gr hg;have hbv4:Below W7.heap.size W7 v4:=hbv3.trans (yB gr (yD hD0 hg) hbv3.size);have kN:=kN.keptRow gr (fun e=>zbB own kN (by decide) e.symm);refine⟨⟨hbv4,Cells.step hbv4 hCS⟩,?_⟩;clear own rx gr hg hD0 hD1;simp only[zrB]
    repeat
     apply zV (by rw[hY];rfl)
     ·intro w2 hS2;(try simp only[Keeps,Cells]at hS2);go_simp;with_reducible rfl
     simp only[zrB]
    apply yH (by rw[hY];rfl)
    ·go_simp;with_reducible exact⟨rfl,rfl⟩
    refine(zeS _ _ _ ra).mono ?_;rintro e v5 ⟨V13,rfl,NS,hbv50⟩;have hbv5:=zA hbv4 hbv50;have kN:=kN.step hbv50;clear ra hbv50;refine⟨_,rfl,⟨hbv5,Cells.step hbv5 hCS⟩,?_⟩;simp only[zrB]
    repeat
     apply zV (by rw[hY];rfl)
     ·intro w2 hS2;(try simp only[Keeps,Cells]at hS2);go_simp;with_reducible rfl
     simp only[zrB]
    refine yX 26 (.tmp 13) (.tmp 58) (by rfl) (by rw[hY];rfl) b13 (by rfl) V13 (by rfl) _ 26 kN (info_N.trans (yQ some NS.len.symm)) NS.len.symm NS.one ?_;intro wS ES gS sS;have hbS:Below W7.heap.size W7 wS:=hbv5.trans (yB gS zN hbv5.size);refine⟨⟨hbS,Cells.step hbS hCS⟩,?_⟩;simp only[zrB];exact yS (fin _ _ _ _ _ _ wS (zA B10 hbS) ES (NS.keep zeQ kN zbI gS))
   ·skip
    have hbv20:Below v1.heap.size v1 (v1.alloc (.cells #[.int .i64 1,.int .i64 0,.int .i64 255,.int .i64 0,.int .i64 0,.int .i64 0,.int .i64 4,.int .i64 0,.int .i64 128,.int .i64 0,.int .i64 0,.int .i64 1] 54)):=(zG _ _).alloc (zE _) _;have hbv2:=zA hbv1 hbv20;refine yI (by rw[hY];rfl) (by go_simp;first|with_reducible exact⟨rfl,rfl⟩|with_reducible rfl) ((show Below W7.heap.size W7 (v1.alloc (.cells #[.int .i64 1,.int .i64 0,.int .i64 255,.int .i64 0,.int .i64 0,.int .i64 0,.int .i64 4,.int .i64 0,.int .i64 128,.int .i64 0,.int .i64 0,.int .i64 1] 54))∧Cells (v1.alloc (.cells #[.int .i64 1,.int .i64 0,.int .i64 255,.int .i64 0,.int .i64 0,.int .i64 0,.int .i64 4,.int .i64 0,.int .i64 128,.int .i64 0,.int .i64 0,.int .i64 1] 54)) [(⟨b5,0,none⟩,.int .i64 1),(⟨b5,1,none⟩,.int .i64 0),(⟨b5,2,none⟩,.int .i64 255),(⟨b5,3,none⟩,.int .i64 0),(⟨b5,4,none⟩,.int .i64 0),(⟨b5,5,none⟩,.int .i64 0)]from⟨hbv2,Cells.step hbv2 hCS⟩)) ?_;simp only[zrB];have kN:=kN.step hbv20;have rx:=ziM v1;obtain⟨x8,hx8⟩:∃x,v1.heap.size=x:=⟨_,rfl⟩;clear hbv20;rw[hx8]at rx⊢;obtain⟨v2,hv2⟩:∃v,(v1.alloc (.cells #[.int .i64 1,.int .i64 0,.int .i64 255,.int .i64 0,.int .i64 0,.int .i64 0,.int .i64 4,.int .i64 0,.int .i64 128,.int .i64 0,.int .i64 0,.int .i64 1] 54))=v:=⟨_,rfl⟩;rw[hv2]at hbv2 kN rx⊢
    repeat
     apply zV (by rw[hY];rfl)
     ·intro w2 hS2;(try simp only[Keeps,Cells]at hS2);go_simp;with_reducible rfl
     simp only[zrB]
    apply yH (by rw[hY];rfl)
    ·go_simp;with_reducible exact⟨rfl,rfl⟩
    refine(zcJ _).mono ?_;rintro e v3 ⟨q8,rfl,own,hbv30⟩;have hbv3:=zA hbv2 hbv30;obtain⟨D,hD⟩:∃D,v2.heap.size=D:=⟨_,rfl⟩;have hD1:=hbv30.size;rw[hD]at own hD1;have hD0:W7.heap.size≤D:=by rw[←hD];exact hbv2.size
    have rx:=rx.step hbv30;have kN:=kN.step hbv30;clear hbv30 hD;refine⟨_,rfl,⟨hbv3,Cells.step hbv3 hCS⟩,?_⟩;simp only[zrB]
    repeat
     apply zV (by rw[hY];rfl)
     ·intro w2 hS2;(try simp only[Keeps,Cells]at hS2);go_simp;with_reducible rfl
     simp only[zrB]
    refine zaZ (.tmp 52) (.tmp 55) (by rfl) (by rw[hY];rfl) D q8 x8 (by rfl) own hD1 (by rfl) rx ?_;intro a' cap' v4 ra gr hg;have hbv4:Below W7.heap.size W7 v4:=hbv3.trans (yB gr (yD hD0 hg) hbv3.size);have kN:=kN.keptRow gr (fun e=>zbB own kN (by decide) e.symm);refine⟨⟨hbv4,Cells.step hbv4 hCS⟩,?_⟩;clear own rx gr hg hD0 hD1;simp only[zrB]
    repeat
     apply zV (by rw[hY];rfl)
     ·intro w2 hS2;(try simp only[Keeps,Cells]at hS2);go_simp;with_reducible rfl
     simp only[zrB]
    apply yH (by rw[hY];rfl)
    ·go_simp;with_reducible exact⟨rfl,rfl⟩
    refine(zeS _ _ _ ra).mono ?_;rintro e v5 ⟨V13,rfl,NS,hbv50⟩;have hbv5:=zA hbv4 hbv50;have kN:=kN.step hbv50;clear ra hbv50;refine⟨_,rfl,⟨hbv5,Cells.step hbv5 hCS⟩,?_⟩;simp only[zrB]
    repeat
     apply zV (by rw[hY];rfl)
     ·intro w2 hS2;(try simp only[Keeps,Cells]at hS2);go_simp;with_reducible rfl
     simp only[zrB]
    refine yX 26 (.tmp 13) (.tmp 58) (by rfl) (by rw[hY];rfl) b13 (by rfl) V13 (by rfl) _ 26 kN (info_N.trans (yQ some NS.len.symm)) NS.len.symm NS.one ?_;intro wS ES gS sS;have hbS:Below W7.heap.size W7 wS:=hbv5.trans (yB gS zN hbv5.size);refine⟨⟨hbS,Cells.step hbS hCS⟩,?_⟩;simp only[zrB];exact yS (fin _ _ _ _ _ _ wS (zA B10 hbS) ES (NS.keep zeQ kN zbI gS))
