/- A part of the proof of L14n. No condition. -/
import Derived.Test.YtieeogndnhighaaGreatZL14nbd
import Derived.Test.YtieeogndnhighaaGreatZL14nbu
set_option linter.all false
set_option maxRecDepth 100000
set_option maxHeartbeats 1500000
namespace Go.Proofs.YtieeogndnhighaaGreat
open Go.RowKit
theorem Kept.toX14{B:Nat}{w w':World}(h:Kept 0 B w w'):KepX (fun k=>k<B) w w':=⟨h.os,h.tape,h.output,h.size,fun k hk hl=>h.same k (.inr (Nat.le_of_not_lt hk)) hl⟩
theorem MixNew.kepX{B:Nat}{n:Int}{L:List (List Int)}{V:Value}{w w':World}(h:MixNew B n L V w)(hk:KepX (fun k=>k<B) w w'):MixNew B n L V w':=by
 obtain⟨R,a,cap,base,hB,e1,e2,ho,hR,hp⟩:=h;refine⟨R,a,cap,base,hB,e1,e2,zeY ho hk (fun g e=> ?_),fun r hr=> ?_,hp⟩
 ·obtain⟨h1,_⟩:=zaQ ho e;show¬g<B;omega
 ·obtain⟨h1,h2,h3,cs,hb,h4⟩:=hR r hr;exact⟨h1,h2,h3,cs,hb.kepX hk (show¬r.b<B by omega),h4⟩
theorem MixNew.shape{B:Nat}{n:Int}{L:List (List Int)}{V:Value}{w:World}(h:MixNew B n L V w):∃a cap,V = .agg #[.int .i64 n,.slice a L.length cap]:=by
 obtain⟨R,a,cap,base,_,e1,e2,_⟩:=h;exact⟨a,cap,by rw[e2,e1,zaA]⟩
theorem MixNew.low{B B':Nat}{n:Int}{L:List (List Int)}{V:Value}{w:World}(h:MixNew B n L V w)(hb:B'≤B):MixNew B' n L V w:=by
 obtain⟨R,a,cap,base,h1,h2⟩:=h;exact⟨R,a,cap,base,yD hb h1,h2⟩
theorem KepX.mono0{A B:Nat}{w w':World}(h:KepX (fun k=>k<A) w w')(hb:A≤B):KepX (fun k=>k<B) w w':=h.mono (fun k _ hk=>zbH hk hb)
theorem MixNew.apart14{B b:Nat}{n:Int}{L:List (List Int)}{V:Value}{w w':World}{cs:List Value}{t:TypeId}(h:MixNew B n L V w)(hB:Blk w b cs t)(h1:¬39=t)(h2:¬3=t)(hg:w.grownBy w' (some b)):MixNew B n L V w':=by
 obtain⟨R,a,cap,base,hb,e1,e2,ho,hR,hp⟩:=h;refine⟨R,a,cap,base,hb,e1,e2,zeY (X:=fun k=>k=b) ho (KepX.row hg (fun k e=>.inl (zO e).symm)) (fun g e=> ?_),fun r hr=> ?_,hp⟩
 ·rintro rfl;exact zbB ho hB h1 e
 ·obtain⟨q1,q2,q3,cs',hb',q4⟩:=hR r hr;refine⟨q1,q2,q3,cs',hb'.keptRow hg (fun e=> ?_),q4⟩;have e:=zO e;rw[e]at hb';unfold Blk at hb' hB;rw[hb']at hB;cases hB;exact h2 rfl
theorem PIs.ofX{n:Int}{l:List (List Int)}{a:Option Addr}{cap:Nat}{w:World}(h:MixIs n l (.agg #[.int .i64 n,.slice a l.length cap]) w):PIs {S14.P0 with mi:=n,mw:=l} {zbC with a3:=a,c3:=cap} w:=
 ⟨Rd.nil _ _,(PIs.zero w).tab,(PIs.zero w).mch,h,(PIs.zero w).apm⟩
theorem info_X14:(Tryz.prog.info? 79).map (·.size)=some 2:=by kernel_rfl
theorem zqM(c:S14.C)(n P q:Nat)(hn:n≤16)(hb:c.bits=n)(hP:2^n=P)(hfs:0≤c.first∧c.first≤c.second∧c.second≤9223372036854775806)(hq:c.second-c.first+1=(q:Int))(hq16:q≤16)(w:World) :
 Calls Tryz.prog 263 #[CV c] w fun e w'=>∃y,e = .returned (PV {S14.P0 with mi:=(q:Int),mw:=List.replicate P (List.replicate q (65536/(q:Int)))} y)∧PRob 0 w.heap.size {S14.P0 with mi:=(q:Int),mw:=List.replicate P (List.replicate q (65536/(q:Int)))} y w'∧Below w.heap.size w w':=by
 have hp:=zdP hn;rw[hP]at hp;have HS:=zD fun W=>zdE c n P hn hb hP W;have HI:=zD fun W=>zlJ c hfs W;have HN:=zD fun W=>new13_own q P W (by omega) hq16 hp.1 hp.2;obtain⟨ws,hws⟩:∃l,List.replicate P (List.replicate q (65536/(q:Int)))=l:=⟨_,rfl⟩;rw[hws]at HN⊢;obtain⟨W1,hW1⟩:∃W1,(w.alloc (.cells (zT c).toArray 120)).alloc (.cells zP 83)=W1:=⟨_,rfl⟩;have k1:Blk W1 w.heap.size (zT c) 120:=by rw[←hW1];exact(Blk.new w _ _).alloc _
 have k2:Blk W1 (w.heap.size+1) (yG S14.P0 zbC) 83:=by
  rw[←hW1];have h:=zeE (w.alloc (.cells (zT c).toArray 120));rwa[yA]at h
 have B1:Below w.heap.size w W1:=by rw[←hW1];exact((zG _ _).alloc (zE _) _).alloc (by simp) _
 have hW1s:W1.heap.size=w.heap.size+2:=by rw[←hW1];simp
 obtain⟨kind,bits,limit,rate,first,second⟩:=c;unfold CV at HI HS⊢;unfold zT at *;simp only at HI HS hW1 k1 hq⊢;rw[hq]at HI;obtain⟨mi,hT⟩:∃T:Int,(q:Int)=T:=⟨_,rfl⟩;rw[hT]at HI HN⊢;have hCS:Cells W1 [(⟨w.heap.size,0,none⟩,.int .i64 kind),(⟨w.heap.size,1,none⟩,.int .i64 bits),(⟨w.heap.size,2,none⟩,.int .i64 limit),(⟨w.heap.size,3,none⟩,.int .i64 rate),(⟨w.heap.size,4,none⟩,.int .i64 first),(⟨w.heap.size,5,none⟩,.int .i64 second)]:=⟨k1.cell 0,k1.cell 1,k1.cell 2,k1.cell 3,k1.cell 4,k1.cell 5,yJ⟩;clear hb hp hws hq hq16 hfs hn hP hT;go_enter Tryz.func263,Tryz.ntmps263;go_wp2_with (first
  | (refine yU 83 zP zbS (by rfl) (by rfl) ?_;rw[hW1])
  | fail)
 simp only[yA];refine zbM 11 1 (.read 0 (.read 2 (.read 3 (.two (.one 1 (.two (.one 4 (.two (.one 5 (.read 6 (.read 7 (.read 8 (.one 9 (.one 10 .done)))))) (.one 9 (.one 5 (.read 6 (.read 7 (.read 8 (.one 10 .done)))))))) (.one 9 (.one 4 (.one 5 (.read 6 (.read 7 (.read 8 (.one 10 .done))))))))) (.one 9 (.one 1 (.one 4 (.one 5 (.read 6 (.read 7 (.read 8 (.one 10 .done)))))))))))) _ _ o0P (fun K=>Below W1.heap.size W1 K∧Cells K [(⟨w.heap.size,0,none⟩,.int .i64 kind),(⟨w.heap.size,1,none⟩,.int .i64 bits),(⟨w.heap.size,2,none⟩,.int .i64 limit),(⟨w.heap.size,3,none⟩,.int .i64 rate),(⟨w.heap.size,4,none⟩,.int .i64 first),(⟨w.heap.size,5,none⟩,.int .i64 second)]) (by kernel_rfl) (zaF 11 _).symm (by kernel_rfl) (by kernel_rfl) (by kernel_rfl) (by kernel_rfl) (⟨(zG _ _).drew,hCS⟩) (fun Y Q4 F4 hY hF=> ?_);simp only[Plan.map,ltc,ltz,ldc,ldz,List.getD_cons_zero,List.getD_cons_succ]
 repeat
  apply zV (by rw[hY];rfl)
  ·intro w2 hS2;(try simp only[Keeps,Cells]at hS2);go_simp;with_reducible rfl
  simp only[zrB]
 have fin:∀(ma:Option Addr) (ml mc b3:Nat) (w9 wS:World),ml=ws.length→Below W1.heap.size W1 w9→MixNew W1.heap.size mi ws (.agg #[.int .i64 mi,.slice ma ml mc]) w9→W1.heap.size≤b3→Blk wS b3 [.int .i64 mi,.slice ma ml mc] 79→MixNew W1.heap.size mi ws (.agg #[.int .i64 mi,.slice ma ml mc]) wS→Below W1.heap.size W1 wS→F4 {tmps:=#[.agg #[.int .i64 kind,.int .i64 bits,.int .i64 limit,.int .i64 rate,.int .i64 first,.int .i64 second],.pointer (some ⟨w.heap.size,0,none⟩),.pointer (some ⟨(w.heap.size+1),0,none⟩),.pointer (some ⟨b3,0,none⟩),undef,.tuple #[.agg #[.int .i64 mi,.slice ma ml mc],.int .i64 0],.agg #[.int .i64 kind,.int .i64 bits,.int .i64 limit,.int .i64 rate,.int .i64 first,.int .i64 second],.int .i64 mi,.pointer (some ⟨w.heap.size,0,none⟩),.agg #[.int .i64 kind,.int .i64 bits,.int .i64 limit,.int .i64 rate,.int .i64 first,.int .i64 second],.int .i64 (P:Int),.tuple #[.agg #[.int .i64 mi,.slice ma ml mc],.int .i64 0],.agg #[.int .i64 mi,.slice ma ml mc],.int .i64 0,undef,undef],defers:=[]} wS:=by
  intro ma ml mc b3 w9 wS hml hb9 hN9 zb3 ES hNS hbS;refine hF _ _ (fun K hK=> ?_);clear hF hY hCS;have HK:=zD hK;clear hK;go_wp2_with fail;refine OnlyK.mk (HK.out _ _ ?_);subst hml;have k29:=k2.step hbS;have HNS:=zD hNS;have BS:=zA B1 hbS;clear hNS hN9 hb9 hbS;have hone:∀v∈yG {S14.P0 with mi:=mi,mw:=ws} {zbC with a3:=ma,c3:=mc},v.oneCell'=true:=zaE _ _;have hPV:yG {S14.P0 with mi:=mi,mw:=ws} {zbC with a3:=ma,c3:=mc} = [.slice none 0 0,.int .i64 0,.slice none 0 0,.int .i64 0,.int .i64 0,.int .i64 0,.slice none 0 0,.slice none 0 0,.int .i64 0,.int .i64 0,.int .i64 0,.int .i64 0,.slice none 0 0,.int .i64 mi,.slice ma ws.length mc,.slice none 0 0]:=rfl;rw[hPV]at hone;go_wp2_with (first
   | (refine yC 79 (.tmp 3) (by rfl) (by rfl) b3 (by rfl) [.int .i64 mi,.slice ma ws.length mc] 79 ES _ Tryz.underlying79 rfl info_X14 ?_)
   | (refine yE 83 (.tmp 2) (.tmp 15) (by rfl) (by rfl) (w.heap.size+1) (by rfl) [.slice none 0 0,.int .i64 0,.slice none 0 0,.int .i64 0,.int .i64 0,.int .i64 0,.slice none 0 0,.slice none 0 0,.int .i64 0,.int .i64 0,.int .i64 0,.int .i64 0,.slice none 0 0,.int .i64 mi,.slice ma ws.length mc,.slice none 0 0] (by rfl) _ 83 k29 (info_P.trans rfl) rfl hone ?_;intro wL EL gL sL))
  have hL:=run_loadVar_mid wL _ 0 _ _ _ EL.cells Tryz.underlying83 rfl (info_P.trans rfl);have hNL:=HNS.out.kepX (KepX.row gL (fun b e=>.inl (by have:=zO e;omega)));refine bodyPost_ret (v:=.agg #[.slice none 0 0,.int .i64 0,.slice none 0 0,.int .i64 0,.int .i64 0,.int .i64 0,.slice none 0 0,.slice none 0 0,.int .i64 0,.int .i64 0,.int .i64 0,.int .i64 0,.slice none 0 0,.int .i64 mi,.slice ma ws.length mc,.slice none 0 0]) ?_ rfl ?_
  ·exact zaB (show Tryz.f263.results = #[.cell 2 83]from rfl) (p:=⟨w.heap.size+1,0,none⟩) rfl hL
  ·refine⟨{zbC with a3:=ma,c3:=mc},?_,fun w' hk=>PIs.ofX (hNL.kepX (hk.toX14.mono0 (by omega))).own.mix,BS.trans (yB gL (by omega) BS.size)⟩;unfold PV;rw[hPV]
 have hbv0:Below W1.heap.size W1 W1.drew:=(zG _ _).drew;obtain⟨v0,hv0⟩:∃v,W1.drew=v:=⟨_,rfl⟩;rw[hv0]at hbv0⊢;refine zaG ?_ ?_
 ·skip
  apply yH (by rw[hY];rfl)
  ·go_simp;with_reducible exact⟨rfl,rfl⟩
  refine(HI.out _).mono ?_;rintro e v1 ⟨rfl,hbv10⟩;have hbv1:=zA hbv0 hbv10;clear hbv10;refine⟨_,rfl,⟨hbv1,Cells.step hbv1 hCS⟩,?_⟩;simp only[zrB]
  repeat
   apply zV (by rw[hY];rfl)
   ·intro w2 hS2;(try simp only[Keeps,Cells]at hS2);go_simp;with_reducible rfl
   simp only[zrB]
  refine zaG ?_ ?_
  ·skip
   apply yH (by rw[hY];rfl)
   ·go_simp;with_reducible exact⟨rfl,rfl⟩
   refine(HS.out _).mono ?_;rintro e v2 ⟨rfl,hbv20⟩;have hbv2:=zA hbv1 hbv20;clear hbv20;refine⟨_,rfl,⟨hbv2,Cells.step hbv2 hCS⟩,?_⟩;simp only[zrB]
   repeat
    apply zV (by rw[hY];rfl)
    ·intro w2 hS2;(try simp only[Keeps,Cells]at hS2);go_simp;with_reducible rfl
    simp only[zrB]
   refine zaG ?_ ?_
   ·skip
    apply yH (by rw[hY];rfl)
    ·go_simp;with_reducible exact⟨rfl,rfl⟩
    refine(HN.out _).mono ?_;rintro e v3 ⟨VX,rfl,NS,hbv30⟩;have hbv3:=zA hbv2 hbv30;obtain⟨ma,mc,rfl⟩:=NS.shape;have NS:MixNew W1.heap.size mi ws _ v3:=NS.low (hbv2.size);clear hbv30;refine⟨_,rfl,⟨hbv3,Cells.step hbv3 hCS⟩,?_⟩;simp only[zrB]
    repeat
     apply zV (by rw[hY];rfl)
     ·intro w2 hS2;(try simp only[Keeps,Cells]at hS2);go_simp;with_reducible rfl
     simp only[zrB]
    have hbv40:Below v3.heap.size v3 (v3.alloc (.cells #[.int .i64 0,.slice none 0 0] 79)):=(zG _ _).alloc (zE _) _;have hbv4:=zA hbv3 hbv40;refine yI (by rw[hY];rfl) (by go_simp;first|with_reducible exact⟨rfl,rfl⟩|with_reducible rfl) ((show Below W1.heap.size W1 (v3.alloc (.cells #[.int .i64 0,.slice none 0 0] 79))∧Cells (v3.alloc (.cells #[.int .i64 0,.slice none 0 0] 79)) [(⟨w.heap.size,0,none⟩,.int .i64 kind),(⟨w.heap.size,1,none⟩,.int .i64 bits),(⟨w.heap.size,2,none⟩,.int .i64 limit),(⟨w.heap.size,3,none⟩,.int .i64 rate),(⟨w.heap.size,4,none⟩,.int .i64 first),(⟨w.heap.size,5,none⟩,.int .i64 second)]from⟨hbv4,Cells.step hbv4 hCS⟩)) ?_;simp only[zrB];have NS:=NS.kepX (KepX.below hbv40);have kN:=Blk.new v3 [.int .i64 0,.slice none 0 0] 79;have zN:W1.heap.size≤v3.heap.size:=hbv3.size;obtain⟨b3,hb3⟩:∃x,v3.heap.size=x:=⟨_,rfl⟩;clear hbv40;rw[hb3]at kN zN⊢;obtain⟨v4,hv4⟩:∃v,(v3.alloc (.cells #[.int .i64 0,.slice none 0 0] 79))=v:=⟨_,rfl⟩;rw[hv4]at hbv4 NS kN⊢
    repeat
     apply zV (by rw[hY];rfl)
     ·intro w2 hS2;(try simp only[Keeps,Cells]at hS2);go_simp;with_reducible rfl
     simp only[zrB]
    refine yX 79 (.tmp 3) (.tmp 12) (by rfl) (by rw[hY];rfl) b3 (by rfl) [.int .i64 mi,.slice ma ws.length mc] (by rfl) _ 79 kN info_X14 rfl (by simp[Value.oneCell']) ?_;intro wS ES gS sS;have hbS:Below W1.heap.size W1 wS:=hbv4.trans (yB gS zN hbv4.size);refine⟨⟨hbS,Cells.step hbS hCS⟩,?_⟩;simp only[zrB];exact yS (fin _ _ _ _ _ wS rfl hbv4 NS zN ES (NS.apart14 kN (by decide) (by decide) gS) hbS)
   ·skip
    have hbv30:Below v2.heap.size v2 (v2.alloc (.cells #[.int .i64 0,.slice none 0 0] 79)):=(zG _ _).alloc (zE _) _;have hbv3:=zA hbv2 hbv30;refine yI (by rw[hY];rfl) (by go_simp;first|with_reducible exact⟨rfl,rfl⟩|with_reducible rfl) ((show Below W1.heap.size W1 (v2.alloc (.cells #[.int .i64 0,.slice none 0 0] 79))∧Cells (v2.alloc (.cells #[.int .i64 0,.slice none 0 0] 79)) [(⟨w.heap.size,0,none⟩,.int .i64 kind),(⟨w.heap.size,1,none⟩,.int .i64 bits),(⟨w.heap.size,2,none⟩,.int .i64 limit),(⟨w.heap.size,3,none⟩,.int .i64 rate),(⟨w.heap.size,4,none⟩,.int .i64 first),(⟨w.heap.size,5,none⟩,.int .i64 second)]from⟨hbv3,Cells.step hbv3 hCS⟩)) ?_;simp only[zrB];have kN:=Blk.new v2 [.int .i64 0,.slice none 0 0] 79;have zN:W1.heap.size≤v2.heap.size:=hbv2.size;obtain⟨b3,hb3⟩:∃x,v2.heap.size=x:=⟨_,rfl⟩;clear hbv30;rw[hb3]at kN zN⊢;obtain⟨v3,hv3⟩:∃v,(v2.alloc (.cells #[.int .i64 0,.slice none 0 0] 79))=v:=⟨_,rfl⟩;rw[hv3]at hbv3 kN⊢
    repeat
     apply zV (by rw[hY];rfl)
     ·intro w2 hS2;(try simp only[Keeps,Cells]at hS2);go_simp;with_reducible rfl
     simp only[zrB]
    apply yH (by rw[hY];rfl)
    ·go_simp;with_reducible exact⟨rfl,rfl⟩
    refine(HN.out _).mono ?_;rintro e v4 ⟨VX,rfl,NS,hbv40⟩;have hbv4:=zA hbv3 hbv40;have kN:=kN.step hbv40;obtain⟨ma,mc,rfl⟩:=NS.shape;have NS:MixNew W1.heap.size mi ws _ v4:=NS.low (hbv3.size);clear hbv40;refine⟨_,rfl,⟨hbv4,Cells.step hbv4 hCS⟩,?_⟩;simp only[zrB]
    repeat
     apply zV (by rw[hY];rfl)
     ·intro w2 hS2;(try simp only[Keeps,Cells]at hS2);go_simp;with_reducible rfl
     simp only[zrB]
    refine yX 79 (.tmp 3) (.tmp 12) (by rfl) (by rw[hY];rfl) b3 (by rfl) [.int .i64 mi,.slice ma ws.length mc] (by rfl) _ 79 kN info_X14 rfl (by simp[Value.oneCell']) ?_;intro wS ES gS sS;have hbS:Below W1.heap.size W1 wS:=hbv4.trans (yB gS zN hbv4.size);refine⟨⟨hbS,Cells.step hbS hCS⟩,?_⟩;simp only[zrB];exact yS (fin _ _ _ _ _ wS rfl hbv4 NS zN ES (NS.apart14 kN (by decide) (by decide) gS) hbS)
  ·skip
   have hbv20:Below v1.heap.size v1 (v1.alloc (.cells #[.int .i64 0,.slice none 0 0] 79)):=(zG _ _).alloc (zE _) _;have hbv2:=zA hbv1 hbv20;refine yI (by rw[hY];rfl) (by go_simp;first|with_reducible exact⟨rfl,rfl⟩|with_reducible rfl) ((show Below W1.heap.size W1 (v1.alloc (.cells #[.int .i64 0,.slice none 0 0] 79))∧Cells (v1.alloc (.cells #[.int .i64 0,.slice none 0 0] 79)) [(⟨w.heap.size,0,none⟩,.int .i64 kind),(⟨w.heap.size,1,none⟩,.int .i64 bits),(⟨w.heap.size,2,none⟩,.int .i64 limit),(⟨w.heap.size,3,none⟩,.int .i64 rate),(⟨w.heap.size,4,none⟩,.int .i64 first),(⟨w.heap.size,5,none⟩,.int .i64 second)]from⟨hbv2,Cells.step hbv2 hCS⟩)) ?_;simp only[zrB];have kN:=Blk.new v1 [.int .i64 0,.slice none 0 0] 79;have zN:W1.heap.size≤v1.heap.size:=hbv1.size;obtain⟨b3,hb3⟩:∃x,v1.heap.size=x:=⟨_,rfl⟩;clear hbv20;rw[hb3]at kN zN⊢;obtain⟨v2,hv2⟩:∃v,(v1.alloc (.cells #[.int .i64 0,.slice none 0 0] 79))=v:=⟨_,rfl⟩;rw[hv2]at hbv2 kN⊢
   repeat
    apply zV (by rw[hY];rfl)
    ·intro w2 hS2;(try simp only[Keeps,Cells]at hS2);go_simp;with_reducible rfl
    simp only[zrB]
   apply yH (by rw[hY];rfl)
   ·go_simp;with_reducible exact⟨rfl,rfl⟩
   refine(HS.out _).mono ?_;rintro e v3 ⟨rfl,hbv30⟩;have hbv3:=zA hbv2 hbv30;have kN:=kN.step hbv30;clear hbv30;refine⟨_,rfl,⟨hbv3,Cells.step hbv3 hCS⟩,?_⟩;simp only[zrB]
   repeat
    apply zV (by rw[hY];rfl)
    ·intro w2 hS2;(try simp only[Keeps,Cells]at hS2);go_simp;with_reducible rfl
    simp only[zrB]
   apply yH (by rw[hY];rfl)
   ·go_simp;with_reducible exact⟨rfl,rfl⟩
   refine(HN.out _).mono ?_;rintro e v4 ⟨VX,rfl,NS,hbv40⟩;have hbv4:=zA hbv3 hbv40;have kN:=kN.step hbv40;obtain⟨ma,mc,rfl⟩:=NS.shape;have NS:MixNew W1.heap.size mi ws _ v4:=NS.low (hbv3.size);clear hbv40;refine⟨_,rfl,⟨hbv4,Cells.step hbv4 hCS⟩,?_⟩;simp only[zrB]
   repeat
    apply zV (by rw[hY];rfl)
    ·intro w2 hS2;(try simp only[Keeps,Cells]at hS2);go_simp;with_reducible rfl
    simp only[zrB]
   refine yX 79 (.tmp 3) (.tmp 12) (by rfl) (by rw[hY];rfl) b3 (by rfl) [.int .i64 mi,.slice ma ws.length mc] (by rfl) _ 79 kN info_X14 rfl (by simp[Value.oneCell']) ?_;intro wS ES gS sS;have hbS:Below W1.heap.size W1 wS:=hbv4.trans (yB gS zN hbv4.size);refine⟨⟨hbS,Cells.step hbS hCS⟩,?_⟩;simp only[zrB];exact yS (fin _ _ _ _ _ wS rfl hbv4 NS zN ES (NS.apart14 kN (by decide) (by decide) gS) hbS)
 ·skip
  have hbv10:Below v0.heap.size v0 (v0.alloc (.cells #[.int .i64 0,.slice none 0 0] 79)):=(zG _ _).alloc (zE _) _;have hbv1:=zA hbv0 hbv10;refine yI (by rw[hY];rfl) (by go_simp;first|with_reducible exact⟨rfl,rfl⟩|with_reducible rfl) ((show Below W1.heap.size W1 (v0.alloc (.cells #[.int .i64 0,.slice none 0 0] 79))∧Cells (v0.alloc (.cells #[.int .i64 0,.slice none 0 0] 79)) [(⟨w.heap.size,0,none⟩,.int .i64 kind),(⟨w.heap.size,1,none⟩,.int .i64 bits),(⟨w.heap.size,2,none⟩,.int .i64 limit),(⟨w.heap.size,3,none⟩,.int .i64 rate),(⟨w.heap.size,4,none⟩,.int .i64 first),(⟨w.heap.size,5,none⟩,.int .i64 second)]from⟨hbv1,Cells.step hbv1 hCS⟩)) ?_;simp only[zrB];have kN:=Blk.new v0 [.int .i64 0,.slice none 0 0] 79;have zN:W1.heap.size≤v0.heap.size:=hbv0.size;obtain⟨b3,hb3⟩:∃x,v0.heap.size=x:=⟨_,rfl⟩;clear hbv10;rw[hb3]at kN zN⊢;obtain⟨v1,hv1⟩:∃v,(v0.alloc (.cells #[.int .i64 0,.slice none 0 0] 79))=v:=⟨_,rfl⟩;rw[hv1]at hbv1 kN⊢
  repeat
   apply zV (by rw[hY];rfl)
   ·intro w2 hS2;(try simp only[Keeps,Cells]at hS2);go_simp;with_reducible rfl
   simp only[zrB]
  apply yH (by rw[hY];rfl)
  ·go_simp;with_reducible exact⟨rfl,rfl⟩
  refine(HI.out _).mono ?_;rintro e v2 ⟨rfl,hbv20⟩;have hbv2:=zA hbv1 hbv20;have kN:=kN.step hbv20;clear hbv20;refine⟨_,rfl,⟨hbv2,Cells.step hbv2 hCS⟩,?_⟩;simp only[zrB]
  repeat
   apply zV (by rw[hY];rfl)
   ·intro w2 hS2;(try simp only[Keeps,Cells]at hS2);go_simp;with_reducible rfl
   simp only[zrB]
  apply yH (by rw[hY];rfl)
  ·go_simp;with_reducible exact⟨rfl,rfl⟩
  refine(HS.out _).mono ?_;rintro e v3 ⟨rfl,hbv30⟩;have hbv3:=zA hbv2 hbv30;have kN:=kN.step hbv30;clear hbv30;refine⟨_,rfl,⟨hbv3,Cells.step hbv3 hCS⟩,?_⟩;simp only[zrB]
  repeat
   apply zV (by rw[hY];rfl)
   ·intro w2 hS2;(try simp only[Keeps,Cells]at hS2);go_simp;with_reducible rfl
   simp only[zrB]
  apply yH (by rw[hY];rfl)
  ·go_simp;with_reducible exact⟨rfl,rfl⟩
  refine(HN.out _).mono ?_;rintro e v4 ⟨VX,rfl,NS,hbv40⟩;have hbv4:=zA hbv3 hbv40;have kN:=kN.step hbv40;obtain⟨ma,mc,rfl⟩:=NS.shape;have NS:MixNew W1.heap.size mi ws _ v4:=NS.low (hbv3.size);clear hbv40;refine⟨_,rfl,⟨hbv4,Cells.step hbv4 hCS⟩,?_⟩;simp only[zrB]
  repeat
   apply zV (by rw[hY];rfl)
   ·intro w2 hS2;(try simp only[Keeps,Cells]at hS2);go_simp;with_reducible rfl
   simp only[zrB]
  refine yX 79 (.tmp 3) (.tmp 12) (by rfl) (by rw[hY];rfl) b3 (by rfl) [.int .i64 mi,.slice ma ws.length mc] (by rfl) _ 79 kN info_X14 rfl (by simp[Value.oneCell']) ?_;intro wS ES gS sS;have hbS:Below W1.heap.size W1 wS:=hbv4.trans (yB gS zN hbv4.size);refine⟨⟨hbS,Cells.step hbS hCS⟩,?_⟩;simp only[zrB];exact yS (fin _ _ _ _ _ wS rfl hbv4 NS zN ES (NS.apart14 kN (by decide) (by decide) gS) hbS)
theorem info_A14:(Tryz.prog.info? 81).map (·.size)=some 1:=by kernel_rfl
theorem MapNew.kepX{B:Nat}{l:List Int}{V:Value}{w w':World}(h:MapNew B l V w)(hk:KepX (fun k=>k<B) w w'):MapNew B l V w':=by
 obtain⟨b,cap,e,h1,h2,h3,h4⟩:=h;exact⟨b,cap,e,h1,h2,h3,h4.kepX hk (fun g o e=>by cases e;show¬b<B;omega)⟩
theorem MapNew.low{B B':Nat}{l:List Int}{V:Value}{w:World}(h:MapNew B l V w)(hb:B'≤B):MapNew B' l V w:=by
 obtain⟨b,cap,e,h1,h2⟩:=h;exact⟨b,cap,e,yD hb h1,h2⟩
theorem MapNew.shape{B:Nat}{l:List Int}{V:Value}{w:World}(h:MapNew B l V w):∃a cap,V = .agg #[.slice a l.length cap]:=by
 obtain⟨b,cap,e,_⟩:=h;exact⟨_,cap,e⟩
theorem MapNew.lt{B:Nat}{l:List Int}{V:Value}{w:World}(h:MapNew B l V w)(hl:1≤l.length):∃b cap,V = .agg #[.slice (some ⟨b,0,none⟩) l.length cap]∧b<w.heap.size:=by
 obtain⟨b,cap,e,h1,h2,h3,h4⟩:=h;obtain⟨g,o,e2,hc⟩:=h4 (fun e=>by have h:=yQ List.length e;rw[yL,List.length_nil]at h;omega);cases e2;have hn:∃v,(zaO l)[0]? = some v:=⟨_,zI (by simp[zaO];omega)⟩;obtain⟨v,hv⟩:=hn;exact⟨b,cap,e,zJ (hc 0 v hv)⟩
theorem MapNew.row{B b:Nat}{l:List Int}{V:Value}{w w':World}(h:MapNew B l V w)(hg:w.grownBy w' (some b))(hb:∀g o n c,V = .agg #[.slice (some ⟨g,o,none⟩) n c]→g≠b):MapNew B l V w':=by
 obtain⟨g,cap,e,h1,h2,h3,h4⟩:=h;exact⟨g,cap,e,h1,h2,h3,h4.keptRow hg (fun g' o' e'=>by cases e';exact hb _ _ _ _ e)⟩
theorem PIs.ofA{l:List Int}{a:Option Addr}{cap:Nat}{w:World}(h:MapIs l (.agg #[.slice a l.length cap]) w):PIs {S14.P0 with ac:=l} {zbC with a4:=a,c4:=cap} w:=
 ⟨Rd.nil _ _,(PIs.zero w).tab,(PIs.zero w).mch,(PIs.zero w).mix,h⟩
theorem zmY(c:S14.C)(n P:Nat)(hn:n≤16)(hb:c.bits=n)(hP:2^n=P)(w:World) :
 Calls Tryz.prog 284 #[CV c] w fun e w'=>∃y,e = .returned (PV {S14.P0 with ac:=zcT S11.first P} y)∧PRob 0 w.heap.size {S14.P0 with ac:=zcT S11.first P} y w'∧Below w.heap.size w w':=by
 have hp:=zdP hn;rw[hP]at hp;have HS:=zD fun W=>zdE c n P hn hb hP W;have HN:=zD fun W=>new11_ok P W hp.1 hp.2;obtain⟨ws,hws⟩:∃l,zcT S11.first P=l:=⟨_,rfl⟩;have hwl:1≤ws.length:=by rw[←hws,zcO,S11.first_length];omega
 rw[hws]at HN⊢;obtain⟨W1,hW1⟩:∃W1,(w.alloc (.cells (zT c).toArray 121)).alloc (.cells zP 83)=W1:=⟨_,rfl⟩;have k1:Blk W1 w.heap.size (zT c) 121:=by rw[←hW1];exact(Blk.new w _ _).alloc _
 have k2:Blk W1 (w.heap.size+1) (yG S14.P0 zbC) 83:=by
  rw[←hW1];have h:=zeE (w.alloc (.cells (zT c).toArray 121));rwa[yA]at h
 have B1:Below w.heap.size w W1:=by rw[←hW1];exact((zG _ _).alloc (zE _) _).alloc (by simp) _
 have hW1s:W1.heap.size=w.heap.size+2:=by rw[←hW1];simp
 obtain⟨kind,bits,limit,rate,first,second⟩:=c;unfold CV at HS⊢;unfold zT at *;simp only at HS hW1 k1⊢;obtain⟨x0,x1,x2,x3,x4,x5⟩:=k1.six;have Hwl:=zD hwl;have HW1s:=zD hW1s;clear hb hp hws hn hP hwl hW1s k1;go_enter Tryz.func284,Tryz.ntmps284;go_wp2_with (first
  | (refine yU 83 zP zbS (by rfl) (by rfl) ?_;rw[hW1])
  | fail)
 refine(HS.out _).mono ?_;rintro e w2 ⟨rfl,hb2⟩;go_wp2_with fail;refine(HN.out _).mono ?_;rintro e w3 ⟨V,rfl,NS,hb3⟩;have hb23:=zA hb2 hb3;have B3:=zA B1 hb23;have k2:=k2.step hb23;have NS:MapNew W1.heap.size ws V w3:=NS.low hb2.size;obtain⟨G,cap,rfl,hG⟩:=NS.lt Hwl.out;obtain⟨W4,hW4⟩:∃W,w3.alloc (.cells #[.slice none 0 0] 81)=W:=⟨_,rfl⟩;obtain⟨b4,hb4⟩:∃b,w3.heap.size=b:=⟨_,rfl⟩;have kA:Blk W4 b4 [.slice none 0 0] 81:=by rw[←hW4,←hb4];exact Blk.new w3 _ _
 have ba4:Below w3.heap.size w3 W4:=by rw[←hW4];exact(zG _ _).alloc (zE _) _
 have NS:=NS.kepX (KepX.below ba4);have k2:=k2.step ba4;have B4:=zA B3 ba4;have hGb:G≠b4:=by omega
 have zb:w.heap.size+1<b4:=by have:=hb23.size;have:=HW1s.out;omega
 have HNS:=zD NS;have Hlen:=zD (rfl:ws.length=ws.length);clear NS hb2 hb3 hb23 B3 ba4 x0 x1 x2 x3 x4 x5 hG;have hone:∀v∈yG {S14.P0 with ac:=ws} {zbC with a4:=some ⟨G,0,none⟩,c4:=cap},v.oneCell'=true:=zaE _ _;have hPV:yG {S14.P0 with ac:=ws} {zbC with a4:=some ⟨G,0,none⟩,c4:=cap} = [.slice none 0 0,.int .i64 0,.slice none 0 0,.int .i64 0,.int .i64 0,.int .i64 0,.slice none 0 0,.slice none 0 0,.int .i64 0,.int .i64 0,.int .i64 0,.int .i64 0,.slice none 0 0,.int .i64 0,.slice none 0 0,.slice (some ⟨G,0,none⟩) ws.length cap]:=rfl;rw[hPV]at hone;go_wp2_with (first
  | (rw[hW4,hb4])
  | (rw[hW4])
  | (refine yE 81 (.tmp 3) (.tmp 10) (by rfl) (by rfl) b4 (by rfl) [.slice (some ⟨G,0,none⟩) ws.length cap] (by rfl) _ 81 kA info_A14 rfl (by simp[Value.oneCell']) ?_;intro s5 E5 g5 z5;clear z5;have k25:=k2.keptRow g5 (by intro e;have:=zO e;omega);have NS5:=HNS.out.row g5 (by intro g o n c e;cases e;exact hGb);have B5:=B4.trans (yB g5 (by omega) B4.size))
  | (refine yC 81 (.tmp 3) (by rfl) (by rfl) b4 (by rfl) [.slice (some ⟨G,0,none⟩) ws.length cap] 81 E5 _ Tryz.underlying81 rfl info_A14 ?_)
  | (refine yE 83 (.tmp 2) (.tmp 13) (by rfl) (by rfl) (w.heap.size+1) (by rfl) [.slice none 0 0,.int .i64 0,.slice none 0 0,.int .i64 0,.int .i64 0,.int .i64 0,.slice none 0 0,.slice none 0 0,.int .i64 0,.int .i64 0,.int .i64 0,.int .i64 0,.slice none 0 0,.int .i64 0,.slice none 0 0,.slice (some ⟨G,0,none⟩) ws.length cap] (by rfl) _ 83 k25 (info_P.trans rfl) rfl hone ?_;intro wL EL gL sL))
 have hL:=run_loadVar_mid wL _ 0 _ _ _ EL.cells Tryz.underlying83 rfl (info_P.trans rfl);have hNL:=NS5.kepX (KepX.row gL (fun b e=>.inl (by have:=zO e;have:=HW1s.out;omega)));refine bodyPost_ret (v:=.agg #[.slice none 0 0,.int .i64 0,.slice none 0 0,.int .i64 0,.int .i64 0,.int .i64 0,.slice none 0 0,.slice none 0 0,.int .i64 0,.int .i64 0,.int .i64 0,.int .i64 0,.slice none 0 0,.int .i64 0,.slice none 0 0,.slice (some ⟨G,0,none⟩) ws.length cap]) ?_ rfl ?_
 ·exact zaB (show Tryz.f284.results = #[.cell 2 83]from rfl) (p:=⟨w.heap.size+1,0,none⟩) rfl hL
 ·refine⟨{zbC with a4:=some ⟨G,0,none⟩,c4:=cap},?_,fun w' hk=>PIs.ofA (hNL.kepX (hk.toX14.mono0 (by have:=HW1s.out;omega))).is,B5.trans (yB gL (by omega) B5.size)⟩;unfold PV;rw[hPV]
