/- A part of the proof of L15. No condition. -/
import Derived.Test.YtahaacfikalheaaGreatZL15bg
import Derived.Test.YtahaacfikalheaaGreatZL15br
set_option linter.all false
set_option maxRecDepth 100000
set_option maxHeartbeats 2000000
namespace Go.Proofs.YtahaacfikalheaaGreat
open Go.RowKit
theorem Kept.toX14{B:Nat}{w w':World}(h:Kept 0 B w w'):KepX (fun k=>k<B) w w':=⟨h.os,h.tape,h.output,h.size,fun k hk hl=>h.same k (.inr (Nat.le_of_not_lt hk)) hl⟩
theorem MixNew.kepX{B:Nat}{n:Int}{L:List (List Int)}{V:Value}{w w':World}(h:MixNew B n L V w)(hk:KepX (fun k=>k<B) w w'):MixNew B n L V w':=by
 obtain⟨R,a,cap,base,hB,e1,e2,ho,hR,hp⟩:=h;refine⟨R,a,cap,base,hB,e1,e2,zdG ho hk (fun g e=> ?_),fun r hr=> ?_,hp⟩
 ·obtain⟨h1,_⟩:=zbX ho e;show¬g<B;omega
 ·obtain⟨h1,h2,h3,cs,hb,h4⟩:=hR r hr;exact⟨h1,h2,h3,cs,hb.kepX hk (show¬r.b<B by omega),h4⟩
theorem MixNew.shape{B:Nat}{n:Int}{L:List (List Int)}{V:Value}{w:World}(h:MixNew B n L V w):∃a cap,V = .agg #[.int .i64 n,.slice a L.length cap]:=by
 obtain⟨R,a,cap,base,_,e1,e2,_⟩:=h;exact⟨a,cap,by rw[e2,e1,zaH]⟩
theorem MixNew.low{B B':Nat}{n:Int}{L:List (List Int)}{V:Value}{w:World}(h:MixNew B n L V w)(hb:B'≤B):MixNew B' n L V w:=by
 obtain⟨R,a,cap,base,h1,h2⟩:=h;exact⟨R,a,cap,base,yC hb h1,h2⟩
theorem KepX.mono0{A B:Nat}{w w':World}(h:KepX (fun k=>k<A) w w')(hb:A≤B):KepX (fun k=>k<B) w w':=h.mono (fun k _ hk=>zaF hk hb)
theorem MixNew.apart14{B b:Nat}{n:Int}{L:List (List Int)}{V:Value}{w w':World}{cs:List Value}{t:TypeId}(h:MixNew B n L V w)(hB:Blk w b cs t)(h1:¬69=t)(h2:¬3=t)(hg:w.grownBy w' (some b)):MixNew B n L V w':=by
 obtain⟨R,a,cap,base,hb,e1,e2,ho,hR,hp⟩:=h;refine⟨R,a,cap,base,hb,e1,e2,zdG (X:=fun k=>k=b) ho (KepX.row hg (fun k e=>.inl (zK e).symm)) (fun g e=> ?_),fun r hr=> ?_,hp⟩
 ·rintro rfl;exact zeS ho hB h1 e
 ·obtain⟨q1,q2,q3,cs',hb',q4⟩:=hR r hr;refine⟨q1,q2,q3,cs',hb'.keptRow hg (fun e=> ?_),q4⟩;have e:=zK e;rw[e]at hb';unfold Blk at hb' hB;rw[hb']at hB;cases hB;exact h2 rfl
theorem PIs.ofX{n:Int}{l:List (List Int)}{a:Option Addr}{cap:Nat}{w:World}(h:MixIs n l (.agg #[.int .i64 n,.slice a l.length cap]) w):PIs {S14.P0 with mi:=n,mw:=l} {zdO with a3:=a,c3:=cap} w:=
 ⟨Rd.nil _ _,(PIs.zero w).tab,(PIs.zero w).mch,h,(PIs.zero w).apm⟩
theorem zeG:(Tryz.prog.info? 74).map (·.size)=some 2:=by kernel_rfl
theorem ztM(c:S14.C)(n P q:Nat)(hn:n≤16)(hb:c.bits=n)(hP:2^n=P)(hfs:0≤c.first∧c.first≤c.second∧c.second≤9223372036854775806)(hq:c.second-c.first+1=(q:Int))(hq16:q≤16)(w:World) :
 Calls Tryz.prog 195 #[CV c] w fun e w'=>∃y,e = .returned (PV {S14.P0 with mi:=(q:Int),mw:=List.replicate P (List.replicate q (65536/(q:Int)))} y)∧PRob 0 w.heap.size {S14.P0 with mi:=(q:Int),mw:=List.replicate P (List.replicate q (65536/(q:Int)))} y w'∧Below w.heap.size w w':=by
 have hp:=zpC hn;rw[hP]at hp;have HS:=zB fun W=>zeO c n P hn hb hP W;have HI:=zB fun W=>znJ c hfs W;have HN:=zB fun W=>new13_own q P W (by omega) hq16 hp.1 hp.2;obtain⟨ws,hws⟩:∃l,List.replicate P (List.replicate q (65536/(q:Int)))=l:=⟨_,rfl⟩;rw[hws]at HN⊢;obtain⟨W1,hW1⟩:∃W1,(w.alloc (.cells (zZ c).toArray 116)).alloc (.cells zP 78)=W1:=⟨_,rfl⟩;have k1:Blk W1 w.heap.size (zZ c) 116:=by rw[←hW1];exact(Blk.new w _ _).alloc _
 have k2:Blk W1 (w.heap.size+1) (yL S14.P0 zdO) 78:=by
  rw[←hW1];have h:=zeH (w.alloc (.cells (zZ c).toArray 116));rwa[zV]at h
 have B1:Below w.heap.size w W1:=by rw[←hW1];exact((zF _ _).alloc (zD _) _).alloc (by simp) _
 have hW1s:W1.heap.size=w.heap.size+2:=by rw[←hW1];simp
 obtain⟨kind,bits,limit,rate,first,second⟩:=c;unfold CV at HI HS⊢;unfold zZ at *;simp only at HI HS hW1 k1 hq⊢;rw[hq]at HI;obtain⟨mi,hT⟩:∃T:Int,(q:Int)=T:=⟨_,rfl⟩;rw[hT]at HI HN⊢;have hCS:Cells W1 [(⟨w.heap.size,0,none⟩,.int .i64 kind),(⟨w.heap.size,1,none⟩,.int .i64 bits),(⟨w.heap.size,2,none⟩,.int .i64 limit),(⟨w.heap.size,3,none⟩,.int .i64 rate),(⟨w.heap.size,4,none⟩,.int .i64 first),(⟨w.heap.size,5,none⟩,.int .i64 second)]:=⟨k1.cell 0,k1.cell 1,k1.cell 2,k1.cell 3,k1.cell 4,k1.cell 5,yF⟩;clear hb hp hws hq hq16 hfs hn hP hT;go_enter Tryz.func195,Tryz.ntmps195;go_wp2_with (first
  | (refine zaB 78 zP zcS (by rfl) (by rfl) ?_;rw[hW1])
  | fail)
 simp only[zV];refine zbU 11 1 (.read 0 (.read 2 (.read 3 (.two (.one 1 (.two (.one 4 (.two (.one 5 (.read 6 (.read 7 (.read 8 (.one 9 (.one 10 .done)))))) (.one 9 (.one 5 (.read 6 (.read 7 (.read 8 (.one 10 .done)))))))) (.one 9 (.one 4 (.one 5 (.read 6 (.read 7 (.read 8 (.one 10 .done))))))))) (.one 9 (.one 1 (.one 4 (.one 5 (.read 6 (.read 7 (.read 8 (.one 10 .done)))))))))))) _ _ o0P (fun K=>Below W1.heap.size W1 K∧Cells K [(⟨w.heap.size,0,none⟩,.int .i64 kind),(⟨w.heap.size,1,none⟩,.int .i64 bits),(⟨w.heap.size,2,none⟩,.int .i64 limit),(⟨w.heap.size,3,none⟩,.int .i64 rate),(⟨w.heap.size,4,none⟩,.int .i64 first),(⟨w.heap.size,5,none⟩,.int .i64 second)]) (by kernel_rfl) (yB 11 _).symm (by kernel_rfl) (by kernel_rfl) (by kernel_rfl) (by kernel_rfl) (⟨(zF _ _).drew,hCS⟩) (fun Y Q4 F4 hY hF=> ?_);simp only[Plan.map,ltc,ltz,ldc,ldz,List.getD_cons_zero,List.getD_cons_succ]
 repeat
  apply zU (by rw[hY];rfl)
  ·intro w2 hS2;(try simp only[Keeps,Cells]at hS2);go_simp;with_reducible rfl
  simp only[zuI]
 have fin:∀(ma:Option Addr) (ml mc b3:Nat) (w9 wS:World),ml=ws.length→Below W1.heap.size W1 w9→MixNew W1.heap.size mi ws (.agg #[.int .i64 mi,.slice ma ml mc]) w9→W1.heap.size≤b3→Blk wS b3 [.int .i64 mi,.slice ma ml mc] 74→MixNew W1.heap.size mi ws (.agg #[.int .i64 mi,.slice ma ml mc]) wS→Below W1.heap.size W1 wS→F4 {tmps:=#[.agg #[.int .i64 kind,.int .i64 bits,.int .i64 limit,.int .i64 rate,.int .i64 first,.int .i64 second],.pointer (some ⟨w.heap.size,0,none⟩),.pointer (some ⟨(w.heap.size+1),0,none⟩),.pointer (some ⟨b3,0,none⟩),undef,.tuple #[.agg #[.int .i64 mi,.slice ma ml mc],.int .i64 0],.agg #[.int .i64 kind,.int .i64 bits,.int .i64 limit,.int .i64 rate,.int .i64 first,.int .i64 second],.int .i64 mi,.pointer (some ⟨w.heap.size,0,none⟩),.agg #[.int .i64 kind,.int .i64 bits,.int .i64 limit,.int .i64 rate,.int .i64 first,.int .i64 second],.int .i64 (P:Int),.tuple #[.agg #[.int .i64 mi,.slice ma ml mc],.int .i64 0],.agg #[.int .i64 mi,.slice ma ml mc],.int .i64 0,undef,undef],defers:=[]} wS:=by
  intro ma ml mc b3 w9 wS hml hb9 hN9 zb3 ES hNS hbS;refine hF _ _ (fun K hK=> ?_);clear hF hY hCS;have HK:=zB hK;clear hK;go_wp2_with fail;refine OnlyK.mk (HK.out _ _ ?_);subst hml;have k29:=k2.step hbS;have HNS:=zB hNS;have BS:=zA B1 hbS;clear hNS hN9 hb9 hbS;have hone:∀v∈yL {S14.P0 with mi:=mi,mw:=ws} {zdO with a3:=ma,c3:=mc},v.oneCell'=true:=zaM _ _;have hPV:yL {S14.P0 with mi:=mi,mw:=ws} {zdO with a3:=ma,c3:=mc} = [.slice none 0 0,.int .i64 0,.slice none 0 0,.int .i64 0,.int .i64 0,.int .i64 0,.slice none 0 0,.slice none 0 0,.int .i64 0,.int .i64 0,.int .i64 0,.int .i64 0,.slice none 0 0,.int .i64 mi,.slice ma ws.length mc,.slice none 0 0]:=rfl;rw[hPV]at hone;go_wp2_with (first
   | (refine yA 74 (.tmp 3) (by rfl) (by rfl) b3 (by rfl) [.int .i64 mi,.slice ma ws.length mc] 74 ES _ Tryz.underlying74 rfl zeG ?_)
   | (refine zT 78 (.tmp 2) (.tmp 15) (by rfl) (by rfl) (w.heap.size+1) (by rfl) [.slice none 0 0,.int .i64 0,.slice none 0 0,.int .i64 0,.int .i64 0,.int .i64 0,.slice none 0 0,.slice none 0 0,.int .i64 0,.int .i64 0,.int .i64 0,.int .i64 0,.slice none 0 0,.int .i64 mi,.slice ma ws.length mc,.slice none 0 0] (by rfl) _ 78 k29 (info_P.trans rfl) rfl hone ?_;intro wL EL gL sL))
  have hL:=run_loadVar_mid wL _ 0 _ _ _ EL.cells Tryz.underlying78 rfl (info_P.trans rfl);have hNL:=HNS.out.kepX (KepX.row gL (fun b e=>.inl (by have:=zK e;omega)));refine bodyPost_ret (v:=.agg #[.slice none 0 0,.int .i64 0,.slice none 0 0,.int .i64 0,.int .i64 0,.int .i64 0,.slice none 0 0,.slice none 0 0,.int .i64 0,.int .i64 0,.int .i64 0,.int .i64 0,.slice none 0 0,.int .i64 mi,.slice ma ws.length mc,.slice none 0 0]) ?_ rfl ?_
  ·exact zbH (show Tryz.f195.results = #[.cell 2 78]from rfl) (p:=⟨w.heap.size+1,0,none⟩) rfl hL
  ·refine⟨{zdO with a3:=ma,c3:=mc},?_,fun w' hk=>PIs.ofX (hNL.kepX (hk.toX14.mono0 (by omega))).own.mix,BS.trans (yG gL (by omega) BS.size)⟩;unfold PV;rw[hPV]
 have hbv0:Below W1.heap.size W1 W1.drew:=(zF _ _).drew;obtain⟨v0,hv0⟩:∃v,W1.drew=v:=⟨_,rfl⟩;rw[hv0]at hbv0⊢;refine zaT ?_ ?_
 ·skip
  apply yH (by rw[hY];rfl)
  ·go_simp;with_reducible exact⟨rfl,rfl⟩
  refine(HI.out _).mono ?_;rintro e v1 ⟨rfl,hbv10⟩;have hbv1:=zA hbv0 hbv10;clear hbv10;refine⟨_,rfl,⟨hbv1,Cells.step hbv1 hCS⟩,?_⟩;simp only[zuI]
  repeat
   apply zU (by rw[hY];rfl)
   ·intro w2 hS2;(try simp only[Keeps,Cells]at hS2);go_simp;with_reducible rfl
   simp only[zuI]
  refine zaT ?_ ?_
  ·skip
   apply yH (by rw[hY];rfl)
   ·go_simp;with_reducible exact⟨rfl,rfl⟩
   refine(HS.out _).mono ?_;rintro e v2 ⟨rfl,hbv20⟩;have hbv2:=zA hbv1 hbv20;clear hbv20;refine⟨_,rfl,⟨hbv2,Cells.step hbv2 hCS⟩,?_⟩;simp only[zuI]
   repeat
    apply zU (by rw[hY];rfl)
    ·intro w2 hS2;(try simp only[Keeps,Cells]at hS2);go_simp;with_reducible rfl
    simp only[zuI]
   refine zaT ?_ ?_
   ·skip
    apply yH (by rw[hY];rfl)
    ·go_simp;with_reducible exact⟨rfl,rfl⟩
    refine(HN.out _).mono ?_;rintro e v3 ⟨VX,rfl,NS,hbv30⟩;have hbv3:=zA hbv2 hbv30;obtain⟨ma,mc,rfl⟩:=NS.shape;have NS:MixNew W1.heap.size mi ws _ v3:=NS.low (hbv2.size);clear hbv30;refine⟨_,rfl,⟨hbv3,Cells.step hbv3 hCS⟩,?_⟩;simp only[zuI]
    repeat
     apply zU (by rw[hY];rfl)
     ·intro w2 hS2;(try simp only[Keeps,Cells]at hS2);go_simp;with_reducible rfl
     simp only[zuI]
    have hbv40:Below v3.heap.size v3 (v3.alloc (.cells #[.int .i64 0,.slice none 0 0] 74)):=(zF _ _).alloc (zD _) _;have hbv4:=zA hbv3 hbv40;refine yR (by rw[hY];rfl) (by go_simp;first|with_reducible exact⟨rfl,rfl⟩|with_reducible rfl) ((show Below W1.heap.size W1 (v3.alloc (.cells #[.int .i64 0,.slice none 0 0] 74))∧Cells (v3.alloc (.cells #[.int .i64 0,.slice none 0 0] 74)) [(⟨w.heap.size,0,none⟩,.int .i64 kind),(⟨w.heap.size,1,none⟩,.int .i64 bits),(⟨w.heap.size,2,none⟩,.int .i64 limit),(⟨w.heap.size,3,none⟩,.int .i64 rate),(⟨w.heap.size,4,none⟩,.int .i64 first),(⟨w.heap.size,5,none⟩,.int .i64 second)]from⟨hbv4,Cells.step hbv4 hCS⟩)) ?_;simp only[zuI];have NS:=NS.kepX (KepX.below hbv40);have kN:=Blk.new v3 [.int .i64 0,.slice none 0 0] 74;have zN:W1.heap.size≤v3.heap.size:=hbv3.size;obtain⟨b3,hb3⟩:∃x,v3.heap.size=x:=⟨_,rfl⟩;clear hbv40;rw[hb3]at kN zN⊢;obtain⟨v4,hv4⟩:∃v,(v3.alloc (.cells #[.int .i64 0,.slice none 0 0] 74))=v:=⟨_,rfl⟩;rw[hv4]at hbv4 NS kN⊢
    repeat
     apply zU (by rw[hY];rfl)
     ·intro w2 hS2;(try simp only[Keeps,Cells]at hS2);go_simp;with_reducible rfl
     simp only[zuI]
    refine zaA 74 (.tmp 3) (.tmp 12) (by rfl) (by rw[hY];rfl) b3 (by rfl) [.int .i64 mi,.slice ma ws.length mc] (by rfl) _ 74 kN zeG rfl (by simp[Value.oneCell']) ?_;intro wS ES gS sS;have hbS:Below W1.heap.size W1 wS:=hbv4.trans (yG gS zN hbv4.size);refine⟨⟨hbS,Cells.step hbS hCS⟩,?_⟩;simp only[zuI];exact yY (fin _ _ _ _ _ wS rfl hbv4 NS zN ES (NS.apart14 kN (by decide) (by decide) gS) hbS)
   ·skip
    have hbv30:Below v2.heap.size v2 (v2.alloc (.cells #[.int .i64 0,.slice none 0 0] 74)):=(zF _ _).alloc (zD _) _;have hbv3:=zA hbv2 hbv30;refine yR (by rw[hY];rfl) (by go_simp;first|with_reducible exact⟨rfl,rfl⟩|with_reducible rfl) ((show Below W1.heap.size W1 (v2.alloc (.cells #[.int .i64 0,.slice none 0 0] 74))∧Cells (v2.alloc (.cells #[.int .i64 0,.slice none 0 0] 74)) [(⟨w.heap.size,0,none⟩,.int .i64 kind),(⟨w.heap.size,1,none⟩,.int .i64 bits),(⟨w.heap.size,2,none⟩,.int .i64 limit),(⟨w.heap.size,3,none⟩,.int .i64 rate),(⟨w.heap.size,4,none⟩,.int .i64 first),(⟨w.heap.size,5,none⟩,.int .i64 second)]from⟨hbv3,Cells.step hbv3 hCS⟩)) ?_;simp only[zuI];have kN:=Blk.new v2 [.int .i64 0,.slice none 0 0] 74;have zN:W1.heap.size≤v2.heap.size:=hbv2.size;obtain⟨b3,hb3⟩:∃x,v2.heap.size=x:=⟨_,rfl⟩;clear hbv30;rw[hb3]at kN zN⊢;obtain⟨v3,hv3⟩:∃v,(v2.alloc (.cells #[.int .i64 0,.slice none 0 0] 74))=v:=⟨_,rfl⟩;rw[hv3]at hbv3 kN⊢
    repeat
     apply zU (by rw[hY];rfl)
     ·intro w2 hS2;(try simp only[Keeps,Cells]at hS2);go_simp;with_reducible rfl
     simp only[zuI]
    apply yH (by rw[hY];rfl)
    ·go_simp;with_reducible exact⟨rfl,rfl⟩
    refine(HN.out _).mono ?_;rintro e v4 ⟨VX,rfl,NS,hbv40⟩;have hbv4:=zA hbv3 hbv40;have kN:=kN.step hbv40;obtain⟨ma,mc,rfl⟩:=NS.shape;have NS:MixNew W1.heap.size mi ws _ v4:=NS.low (hbv3.size);clear hbv40;refine⟨_,rfl,⟨hbv4,Cells.step hbv4 hCS⟩,?_⟩;simp only[zuI]
    repeat
     apply zU (by rw[hY];rfl)
     ·intro w2 hS2;(try simp only[Keeps,Cells]at hS2);go_simp;with_reducible rfl
     simp only[zuI]
    refine zaA 74 (.tmp 3) (.tmp 12) (by rfl) (by rw[hY];rfl) b3 (by rfl) [.int .i64 mi,.slice ma ws.length mc] (by rfl) _ 74 kN zeG rfl (by simp[Value.oneCell']) ?_;intro wS ES gS sS;have hbS:Below W1.heap.size W1 wS:=hbv4.trans (yG gS zN hbv4.size);refine⟨⟨hbS,Cells.step hbS hCS⟩,?_⟩;simp only[zuI];exact yY (fin _ _ _ _ _ wS rfl hbv4 NS zN ES (NS.apart14 kN (by decide) (by decide) gS) hbS)
  ·skip
   have hbv20:Below v1.heap.size v1 (v1.alloc (.cells #[.int .i64 0,.slice none 0 0] 74)):=(zF _ _).alloc (zD _) _;have hbv2:=zA hbv1 hbv20;refine yR (by rw[hY];rfl) (by go_simp;first|with_reducible exact⟨rfl,rfl⟩|with_reducible rfl) ((show Below W1.heap.size W1 (v1.alloc (.cells #[.int .i64 0,.slice none 0 0] 74))∧Cells (v1.alloc (.cells #[.int .i64 0,.slice none 0 0] 74)) [(⟨w.heap.size,0,none⟩,.int .i64 kind),(⟨w.heap.size,1,none⟩,.int .i64 bits),(⟨w.heap.size,2,none⟩,.int .i64 limit),(⟨w.heap.size,3,none⟩,.int .i64 rate),(⟨w.heap.size,4,none⟩,.int .i64 first),(⟨w.heap.size,5,none⟩,.int .i64 second)]from⟨hbv2,Cells.step hbv2 hCS⟩)) ?_;simp only[zuI];have kN:=Blk.new v1 [.int .i64 0,.slice none 0 0] 74;have zN:W1.heap.size≤v1.heap.size:=hbv1.size;obtain⟨b3,hb3⟩:∃x,v1.heap.size=x:=⟨_,rfl⟩;clear hbv20;rw[hb3]at kN zN⊢;obtain⟨v2,hv2⟩:∃v,(v1.alloc (.cells #[.int .i64 0,.slice none 0 0] 74))=v:=⟨_,rfl⟩;rw[hv2]at hbv2 kN⊢
   repeat
    apply zU (by rw[hY];rfl)
    ·intro w2 hS2;(try simp only[Keeps,Cells]at hS2);go_simp;with_reducible rfl
    simp only[zuI]
   apply yH (by rw[hY];rfl)
   ·go_simp;with_reducible exact⟨rfl,rfl⟩
   refine(HS.out _).mono ?_;rintro e v3 ⟨rfl,hbv30⟩;have hbv3:=zA hbv2 hbv30;have kN:=kN.step hbv30;clear hbv30;refine⟨_,rfl,⟨hbv3,Cells.step hbv3 hCS⟩,?_⟩;simp only[zuI]
   repeat
    apply zU (by rw[hY];rfl)
    ·intro w2 hS2;(try simp only[Keeps,Cells]at hS2);go_simp;with_reducible rfl
    simp only[zuI]
   apply yH (by rw[hY];rfl)
   ·go_simp;with_reducible exact⟨rfl,rfl⟩
   refine(HN.out _).mono ?_;rintro e v4 ⟨VX,rfl,NS,hbv40⟩;have hbv4:=zA hbv3 hbv40;have kN:=kN.step hbv40;obtain⟨ma,mc,rfl⟩:=NS.shape;have NS:MixNew W1.heap.size mi ws _ v4:=NS.low (hbv3.size);clear hbv40;refine⟨_,rfl,⟨hbv4,Cells.step hbv4 hCS⟩,?_⟩;simp only[zuI]
   repeat
    apply zU (by rw[hY];rfl)
    ·intro w2 hS2;(try simp only[Keeps,Cells]at hS2);go_simp;with_reducible rfl
    simp only[zuI]
   refine zaA 74 (.tmp 3) (.tmp 12) (by rfl) (by rw[hY];rfl) b3 (by rfl) [.int .i64 mi,.slice ma ws.length mc] (by rfl) _ 74 kN zeG rfl (by simp[Value.oneCell']) ?_;intro wS ES gS sS;have hbS:Below W1.heap.size W1 wS:=hbv4.trans (yG gS zN hbv4.size);refine⟨⟨hbS,Cells.step hbS hCS⟩,?_⟩;simp only[zuI];exact yY (fin _ _ _ _ _ wS rfl hbv4 NS zN ES (NS.apart14 kN (by decide) (by decide) gS) hbS)
 ·skip
  have hbv10:Below v0.heap.size v0 (v0.alloc (.cells #[.int .i64 0,.slice none 0 0] 74)):=(zF _ _).alloc (zD _) _;have hbv1:=zA hbv0 hbv10;refine yR (by rw[hY];rfl) (by go_simp;first|with_reducible exact⟨rfl,rfl⟩|with_reducible rfl) ((show Below W1.heap.size W1 (v0.alloc (.cells #[.int .i64 0,.slice none 0 0] 74))∧Cells (v0.alloc (.cells #[.int .i64 0,.slice none 0 0] 74)) [(⟨w.heap.size,0,none⟩,.int .i64 kind),(⟨w.heap.size,1,none⟩,.int .i64 bits),(⟨w.heap.size,2,none⟩,.int .i64 limit),(⟨w.heap.size,3,none⟩,.int .i64 rate),(⟨w.heap.size,4,none⟩,.int .i64 first),(⟨w.heap.size,5,none⟩,.int .i64 second)]from⟨hbv1,Cells.step hbv1 hCS⟩)) ?_;simp only[zuI];have kN:=Blk.new v0 [.int .i64 0,.slice none 0 0] 74;have zN:W1.heap.size≤v0.heap.size:=hbv0.size;obtain⟨b3,hb3⟩:∃x,v0.heap.size=x:=⟨_,rfl⟩;clear hbv10;rw[hb3]at kN zN⊢;obtain⟨v1,hv1⟩:∃v,(v0.alloc (.cells #[.int .i64 0,.slice none 0 0] 74))=v:=⟨_,rfl⟩;rw[hv1]at hbv1 kN⊢
  repeat
   apply zU (by rw[hY];rfl)
   ·intro w2 hS2;(try simp only[Keeps,Cells]at hS2);go_simp;with_reducible rfl
   simp only[zuI]
  apply yH (by rw[hY];rfl)
  ·go_simp;with_reducible exact⟨rfl,rfl⟩
  refine(HI.out _).mono ?_;rintro e v2 ⟨rfl,hbv20⟩;have hbv2:=zA hbv1 hbv20;have kN:=kN.step hbv20;clear hbv20;refine⟨_,rfl,⟨hbv2,Cells.step hbv2 hCS⟩,?_⟩;simp only[zuI]
  repeat
   apply zU (by rw[hY];rfl)
   ·intro w2 hS2;(try simp only[Keeps,Cells]at hS2);go_simp;with_reducible rfl
   simp only[zuI]
  apply yH (by rw[hY];rfl)
  ·go_simp;with_reducible exact⟨rfl,rfl⟩
  refine(HS.out _).mono ?_;rintro e v3 ⟨rfl,hbv30⟩;have hbv3:=zA hbv2 hbv30;have kN:=kN.step hbv30;clear hbv30;refine⟨_,rfl,⟨hbv3,Cells.step hbv3 hCS⟩,?_⟩;simp only[zuI]
  repeat
   apply zU (by rw[hY];rfl)
   ·intro w2 hS2;(try simp only[Keeps,Cells]at hS2);go_simp;with_reducible rfl
   simp only[zuI]
  apply yH (by rw[hY];rfl)
  ·go_simp;with_reducible exact⟨rfl,rfl⟩
  refine(HN.out _).mono ?_;rintro e v4 ⟨VX,rfl,NS,hbv40⟩;have hbv4:=zA hbv3 hbv40;have kN:=kN.step hbv40;obtain⟨ma,mc,rfl⟩:=NS.shape;have NS:MixNew W1.heap.size mi ws _ v4:=NS.low (hbv3.size);clear hbv40;refine⟨_,rfl,⟨hbv4,Cells.step hbv4 hCS⟩,?_⟩;simp only[zuI]
  repeat
   apply zU (by rw[hY];rfl)
   ·intro w2 hS2;(try simp only[Keeps,Cells]at hS2);go_simp;with_reducible rfl
   simp only[zuI]
  refine zaA 74 (.tmp 3) (.tmp 12) (by rfl) (by rw[hY];rfl) b3 (by rfl) [.int .i64 mi,.slice ma ws.length mc] (by rfl) _ 74 kN zeG rfl (by simp[Value.oneCell']) ?_;intro wS ES gS sS;have hbS:Below W1.heap.size W1 wS:=hbv4.trans (yG gS zN hbv4.size);refine⟨⟨hbS,Cells.step hbS hCS⟩,?_⟩;simp only[zuI];exact yY (fin _ _ _ _ _ wS rfl hbv4 NS zN ES (NS.apart14 kN (by decide) (by decide) gS) hbS)
theorem zgH:(Tryz.prog.info? 76).map (·.size)=some 1:=by kernel_rfl
theorem MapNew.kepX{B:Nat}{l:List Int}{V:Value}{w w':World}(h:MapNew B l V w)(hk:KepX (fun k=>k<B) w w'):MapNew B l V w':=by
 obtain⟨b,cap,e,h1,h2,h3,h4⟩:=h;exact⟨b,cap,e,h1,h2,h3,h4.kepX hk (fun g o e=>by cases e;show¬b<B;omega)⟩
theorem MapNew.low{B B':Nat}{l:List Int}{V:Value}{w:World}(h:MapNew B l V w)(hb:B'≤B):MapNew B' l V w:=by
 obtain⟨b,cap,e,h1,h2⟩:=h;exact⟨b,cap,e,yC hb h1,h2⟩
theorem MapNew.lt{B:Nat}{l:List Int}{V:Value}{w:World}(h:MapNew B l V w)(hl:1≤l.length):∃b cap,V = .agg #[.slice (some ⟨b,0,none⟩) l.length cap]∧b<w.heap.size:=by
 obtain⟨b,cap,e,h1,h2,h3,h4⟩:=h;obtain⟨g,o,e2,hc⟩:=h4 (fun e=>by have h:=yS List.length e;rw[yM,List.length_nil]at h;omega);cases e2;have hn:∃v,(zaK l)[0]? = some v:=⟨_,zE (by simp[zaK];omega)⟩;obtain⟨v,hv⟩:=hn;exact⟨b,cap,e,zL (hc 0 v hv)⟩
theorem MapNew.at{B:Nat}{l:List Int}{V:Value}{w:World}(h:MapNew B l V w):∃b cap,V = .agg #[.slice (some ⟨b,0,none⟩) l.length cap]∧B≤b∧(1≤l.length→b<w.heap.size):=by
 have h2:=h;obtain⟨b,cap,e,h1,_⟩:=h;refine⟨b,cap,e,h1,fun hl=> ?_⟩;obtain⟨b',cap',e',h3⟩:=h2.lt hl;rw[e]at e';cases e';exact h3
theorem MapNew.row{B b:Nat}{l:List Int}{V:Value}{w w':World}(h:MapNew B l V w)(hg:w.grownBy w' (some b))(hb:∀g o n c,V = .agg #[.slice (some ⟨g,o,none⟩) n c]→g≠b):MapNew B l V w':=by
 obtain⟨g,cap,e,h1,h2,h3,h4⟩:=h;exact⟨g,cap,e,h1,h2,h3,h4.keptRow hg (fun g' o' e'=>by cases e';exact hb _ _ _ _ e)⟩
theorem PIs.ofA{l:List Int}{a:Option Addr}{cap:Nat}{w:World}(h:MapIs l (.agg #[.slice a l.length cap]) w):PIs {S14.P0 with ac:=l} {zdO with a4:=a,c4:=cap} w:=
 ⟨Rd.nil _ _,(PIs.zero w).tab,(PIs.zero w).mch,(PIs.zero w).mix,h⟩
theorem zoZ(c:S14.C)(n P:Nat)(hn:n≤16)(hb:c.bits=n)(hP:2^n=P)(w:World) :
 Calls Tryz.prog 216 #[CV c] w fun e w'=>∃y,e = .returned (PV {S14.P0 with ac:=zfE S11.first P} y)∧PRob 0 w.heap.size {S14.P0 with ac:=zfE S11.first P} y w'∧Below w.heap.size w w':=by
 have hp:=zpC hn;rw[hP]at hp;have HS:=zB fun W=>zeO c n P hn hb hP W;have HN:=zB fun W=>new11_ok P W hp.1 hp.2;obtain⟨ws,hws⟩:∃l,zfE S11.first P=l:=⟨_,rfl⟩;have hwl:1≤ws.length:=by rw[←hws,zeQ,S11.first_length];omega
 rw[hws]at HN⊢;obtain⟨W1,hW1⟩:∃W1,(w.alloc (.cells (zZ c).toArray 117)).alloc (.cells zP 78)=W1:=⟨_,rfl⟩;have k1:Blk W1 w.heap.size (zZ c) 117:=by rw[←hW1];exact(Blk.new w _ _).alloc _
 have k2:Blk W1 (w.heap.size+1) (yL S14.P0 zdO) 78:=by
  rw[←hW1];have h:=zeH (w.alloc (.cells (zZ c).toArray 117));rwa[zV]at h
 have B1:Below w.heap.size w W1:=by rw[←hW1];exact((zF _ _).alloc (zD _) _).alloc (by simp) _
 have hW1s:W1.heap.size=w.heap.size+2:=by rw[←hW1];simp
 obtain⟨kind,bits,limit,rate,first,second⟩:=c;unfold CV at HS⊢;unfold zZ at *;simp only at HS hW1 k1⊢;obtain⟨x0,x1,x2,x3,x4,x5⟩:=k1.six;have Hwl:=zB hwl;have HW1s:=zB hW1s;clear hb hp hws hn hP hwl hW1s k1;go_enter Tryz.func216,Tryz.ntmps216;go_wp2_with (first
  | (refine zaB 78 zP zcS (by rfl) (by rfl) ?_;rw[hW1])
  | fail)
 refine(HS.out _).mono ?_;rintro e w2 ⟨rfl,hb2⟩;go_wp2_with fail;refine(HN.out _).mono ?_;rintro e w3 ⟨V,rfl,NS,hb3⟩;have hb23:=zA hb2 hb3;have B3:=zA B1 hb23;have k2:=k2.step hb23;have NS:MapNew W1.heap.size ws V w3:=NS.low hb2.size;obtain⟨G,cap,rfl,hG⟩:=NS.lt Hwl.out;obtain⟨W4,hW4⟩:∃W,w3.alloc (.cells #[.slice none 0 0] 76)=W:=⟨_,rfl⟩;obtain⟨b4,hb4⟩:∃b,w3.heap.size=b:=⟨_,rfl⟩;have kA:Blk W4 b4 [.slice none 0 0] 76:=by rw[←hW4,←hb4];exact Blk.new w3 _ _
 have ba4:Below w3.heap.size w3 W4:=by rw[←hW4];exact(zF _ _).alloc (zD _) _
 have NS:=NS.kepX (KepX.below ba4);have k2:=k2.step ba4;have B4:=zA B3 ba4;have hGb:G≠b4:=by omega
 have zb:w.heap.size+1<b4:=by have:=hb23.size;have:=HW1s.out;omega
 have HNS:=zB NS;have Hlen:=zB (rfl:ws.length=ws.length);clear NS hb2 hb3 hb23 B3 ba4 x0 x1 x2 x3 x4 x5 hG;have hone:∀v∈yL {S14.P0 with ac:=ws} {zdO with a4:=some ⟨G,0,none⟩,c4:=cap},v.oneCell'=true:=zaM _ _;have hPV:yL {S14.P0 with ac:=ws} {zdO with a4:=some ⟨G,0,none⟩,c4:=cap} = [.slice none 0 0,.int .i64 0,.slice none 0 0,.int .i64 0,.int .i64 0,.int .i64 0,.slice none 0 0,.slice none 0 0,.int .i64 0,.int .i64 0,.int .i64 0,.int .i64 0,.slice none 0 0,.int .i64 0,.slice none 0 0,.slice (some ⟨G,0,none⟩) ws.length cap]:=rfl;rw[hPV]at hone;go_wp2_with (first
  | (rw[hW4,hb4])
  | (rw[hW4])
  | (refine zT 76 (.tmp 3) (.tmp 10) (by rfl) (by rfl) b4 (by rfl) [.slice (some ⟨G,0,none⟩) ws.length cap] (by rfl) _ 76 kA zgH rfl (by simp[Value.oneCell']) ?_;intro s5 E5 g5 z5;clear z5;have k25:=k2.keptRow g5 (by intro e;have:=zK e;omega);have NS5:=HNS.out.row g5 (by intro g o n c e;cases e;exact hGb);have B5:=B4.trans (yG g5 (by omega) B4.size))
  | (refine yA 76 (.tmp 3) (by rfl) (by rfl) b4 (by rfl) [.slice (some ⟨G,0,none⟩) ws.length cap] 76 E5 _ Tryz.underlying76 rfl zgH ?_)
  | (refine zT 78 (.tmp 2) (.tmp 13) (by rfl) (by rfl) (w.heap.size+1) (by rfl) [.slice none 0 0,.int .i64 0,.slice none 0 0,.int .i64 0,.int .i64 0,.int .i64 0,.slice none 0 0,.slice none 0 0,.int .i64 0,.int .i64 0,.int .i64 0,.int .i64 0,.slice none 0 0,.int .i64 0,.slice none 0 0,.slice (some ⟨G,0,none⟩) ws.length cap] (by rfl) _ 78 k25 (info_P.trans rfl) rfl hone ?_;intro wL EL gL sL))
 have hL:=run_loadVar_mid wL _ 0 _ _ _ EL.cells Tryz.underlying78 rfl (info_P.trans rfl);have hNL:=NS5.kepX (KepX.row gL (fun b e=>.inl (by have:=zK e;have:=HW1s.out;omega)));refine bodyPost_ret (v:=.agg #[.slice none 0 0,.int .i64 0,.slice none 0 0,.int .i64 0,.int .i64 0,.int .i64 0,.slice none 0 0,.slice none 0 0,.int .i64 0,.int .i64 0,.int .i64 0,.int .i64 0,.slice none 0 0,.int .i64 0,.slice none 0 0,.slice (some ⟨G,0,none⟩) ws.length cap]) ?_ rfl ?_
 ·exact zbH (show Tryz.f216.results = #[.cell 2 78]from rfl) (p:=⟨w.heap.size+1,0,none⟩) rfl hL
 ·refine⟨{zdO with a4:=some ⟨G,0,none⟩,c4:=cap},?_,fun w' hk=>PIs.ofA (hNL.kepX (hk.toX14.mono0 (by have:=HW1s.out;omega))).is,B5.trans (yG gL (by omega) B5.size)⟩;unfold PV;rw[hPV]
theorem PIs.bareA{p:S14.P}{y:Lay}{w w':World}{l:List Int}{a:Option Addr}{cap:Nat}(h:PIs p y w)(hb:S14.bare {p with ac:=[]}=true)(hm:MapIs l (.agg #[.slice a l.length cap]) w'):PIs {p with ac:=l} {y with a4:=a,c4:=cap} w':=by
 obtain⟨h1,h2,h3,_,h5,h6,h7⟩:=zfO hb;have h1:p.ctrs = []:=h1;exact⟨by show Rd w' y.a1 (Cts p.ctrs);rw[h1];exact Rd.nil _ _,h.tab.nil14 h2,h.mch.nil14 h5 h6 h7,h.mix.nil14 h3,hm⟩
theorem zoY(c:S14.C)(N:S14.N)(L:NLay)(k g o:Nat)(p:S14.P)(y:Lay)(n f:Nat)(bef:List Int)(bit:Int)(w:World)(hN:NIs N L w)(hc:N.comps[k]? = some c)(hp:N.parts[k]? = some p)(hy:L.ys[k]? = some y)(hx:k<N.ctxs.length)(pt:Nat)(hpt:N.part=(pt:Int))(hpt2:pt<4294967296)
 (hn:c.bits=(n:Int)) (hn2:n≤16) (hf:c.first=(f:Int)) (hsk:f<k) (hlen:bef.length=k) (hrd:Rd w (some ⟨g,o,none⟩) (zaK bef))
 (hu:S11.usable p.ac (S14.index (N.ctxs.getD k 0) pt n:Nat) (S06.squash (bef.getD f 0))=0) (hal:1≤p.ac.length) (hbit:bit=0∨bit=1) (hrate:1≤c.rate∧c.rate≤255) (hbare:S14.bare {p with ac:=[]}=true) :
 Calls Tryz.prog 217 #[CV c,VV N L k (.slice (some ⟨g,o,none⟩) k k),.int .i64 bit] w fun e w'=>∃y',e = .returned (.tuple #[PV {p with ac:=S11.update p.ac (S14.index (N.ctxs.getD k 0) pt n) (S06.squash (bef.getD f 0)) bit c.rate} y',.int .i64 0])∧
  PRob 0 w.heap.size {p with ac:=S11.update p.ac (S14.index (N.ctxs.getD k 0) pt n) (S06.squash (bef.getD f 0)) bit c.rate} y' w'∧Below w.heap.size w w':=by
 have hk:k<N.parts.length:=(List.getElem?_eq_some_iff.1 hp).1;have hP:=hN.ps k p y hp hy;have HPt:=zB fun(W:World) (hW:Below w.heap.size w W)=>zbW N L k (.slice (some ⟨g,o,none⟩) k k) rfl W (hN.step hW) hk p y hp hy;have HIx:=zB fun(W:World) (hW:Below w.heap.size w W)=>zeT N L k (.slice (some ⟨g,o,none⟩) k k) W (hN.step hW) hx pt hpt hpt2 c hc n hn hn2;obtain⟨i,hi⟩:∃i,S14.index (N.ctxs.getD k 0) pt n=i:=⟨_,rfl⟩;rw[hi]at HIx hu⊢;obtain⟨x,hxb⟩:∃x,bef.getD f 0=x:=⟨_,rfl⟩;have hcell:w.cell? ⟨g,o+f,none⟩=some (.int .i64 x):=by
  obtain⟨b,o',e,hr⟩:=hrd (fun e=>by have h:=yS List.length e;rw[yM,List.length_nil]at h;omega);cases e;refine hr f _ ?_;unfold zaK;rw[zaG,zE (by omega),←hxb,zI,zE (by omega)];rfl
 rw[hxb]at hu⊢;have HSq:=zB fun W=>zdW x W;obtain⟨q,hq⟩:∃q,S06.squash x=q:=⟨_,rfl⟩;rw[hq]at HSq hu⊢;obtain⟨am,cm,hVe,hm1,hm2,hmr⟩:=hP.apm;obtain⟨gA,oA,rfl,_⟩:=hmr (fun e=>by have h:=yS List.length e;rw[yM,List.length_nil]at h;omega);have HUp:=zB fun(W:World) (hW:Below w.heap.size w W)=>update11_ok p.ac gA oA cm i q bit c.rate W hm1 hm2 (hmr.step hW) hu hbit hrate.1 hrate.2;obtain⟨l,hl⟩:∃l,S11.update p.ac i q bit c.rate=l:=⟨_,rfl⟩;have hll:1≤l.length:=by rw[←hl,S11.update_length];exact hal
 rw[hl]at HUp⊢;have HPI:=zB fun(a:Option Addr) (cap:Nat) (w':World) (hm:MapIs l (.agg #[.slice a l.length cap]) w')=>hP.bareA hbare hm;have HPV:=zB fun(a:Option Addr) (cap:Nat)=>(show yL {p with ac:=l} {y with a4:=a,c4:=cap}=splice (yL p y) 15 [.slice a l.length cap]from rfl);have v15:(yL p y)[15]? = some (.slice (some ⟨gA,oA,none⟩) p.ac.length cm):=by
  have h:(ApmC p y) = [.slice (some ⟨gA,oA,none⟩) p.ac.length cm]:=by
   have h2:=hVe;simp only[Value.agg.injEq]at h2;exact yS Array.toList h2
  have h2:(yL p y)[15]? = (ApmC p y)[0]? :=rfl;rw[h2,h];rfl
 have hVPl:(yL p y).length=16:=rfl;have hVPo:=zaM p y;obtain⟨al,hal2⟩:∃x,p.ac.length=x:=⟨_,rfl⟩;obtain⟨cA,hcA⟩:∃x,cm=x:=⟨_,rfl⟩;rw[hal2,hcA]at HUp v15;unfold PV at HPt;unfold VV at HPt HIx⊢;unfold PV;obtain⟨VP,hVP⟩:∃v,yL p y=v:=⟨_,rfl⟩;rw[hVP]at HPt hVPl hVPo HPV v15;have HVPl:=zB hVPl;have HVPo:=zB hVPo;have Hll:=zB hll;obtain⟨nc,hnc⟩:∃n,N.comps.length=n:=⟨_,rfl⟩;obtain⟨np,hnp⟩:∃n,N.parts.length=n:=⟨_,rfl⟩;obtain⟨nx,hnx⟩:∃n,N.ctxs.length=n:=⟨_,rfl⟩;rw[hnc,hnp,hnx,hpt]at HPt HIx⊢;obtain⟨W0,hW0,k1,k2,B0⟩:=zfL w c 117 [.slice L.a1 nc L.c1,.slice L.a2 np L.c2,.slice L.a3 nx L.c3,.int .i64 (pt:Int),.int .i64 (k:Int),.slice (some ⟨g,o,none⟩) k k];have hW0s:W0.heap.size=w.heap.size+2:=by rw[←hW0];simp
 obtain⟨W1,hW1⟩:∃W,W0.alloc (.cells zP 78)=W:=⟨_,rfl⟩;have b1:Below W0.heap.size W0 W1:=by rw[←hW1];exact(zF _ _).alloc (zD _) _
 have kR:Blk W1 (w.heap.size+2) (yL S14.P0 zdO) 78:=by rw[←hW1,←hW0s];exact zeH W0
 have k2:=k2.step b1;have k1:=k1.step b1;have B1:=zA B0 b1;have hgw:=zL hcell;have hfz:(f:Int)<(k:Int):=by omega
 clear hnc hnp hnx hpt B0 hVP hVPl hVPo hl hi hP hN hc hp hy hk hx hn hsk hlen hrd hu hbare hbit hrate hll hal hal2 hq hxb hVe hm1 hm2 hmr hcA;obtain⟨kind,bits,limit,rate,first,second⟩:=c;simp only at hf;subst hf;unfold CV;unfold zZ at k1 hW0⊢;simp only at HUp k1 hW0⊢;go_enter Tryz.func217,Tryz.ntmps217;go_wp2_with (first
  | (rw[hW0])
  | (refine zaB 78 zP zcS (by rfl) (by rfl) ?_;first|rw[hW1]|skip)
  | (refine yA 102 (.tmp 4) (by rfl) (by rfl) (w.heap.size+1) (by rfl) [.slice L.a1 nc L.c1,.slice L.a2 np L.c2,.slice L.a3 nx L.c3,.int .i64 (pt:Int),.int .i64 (k:Int),.slice (some ⟨g,o,none⟩) k k] 102 k2 _ Tryz.underlying102 rfl zkJ ?_))
 refine(HPt.out _ B1).mono ?_;rintro e w2 ⟨rfl,hb2⟩;have B2:=zA B1 hb2;have kR:=kR.step hb2;have k1:=k1.step hb2;have k2:=k2.step hb2;have hR2:=kR.lt;obtain⟨b8,hb8⟩:∃x,w2.heap.size=x:=⟨_,rfl⟩;obtain⟨W3,hW3⟩:∃W,w2.alloc (.cells zP 78)=W:=⟨_,rfl⟩;have ba3:Below w2.heap.size w2 W3:=by rw[←hW3];exact(zF _ _).alloc (zD _) _
 have K8:Blk W3 b8 (yL S14.P0 zdO) 78:=by rw[←hW3,←hb8];exact zeH w2
 have kR:=kR.step ba3;have k1:=k1.step ba3;have k2:=k2.step ba3;have B3:=zA B2 ba3;have hR8:w.heap.size+2<b8:=by rw[←hb8];exact hR2
 clear hW0 hW1 b1 B1 hb2 B2 ba3 HPt;go_wp2_with (first
  | (refine zaB 78 zP zcS (by rfl) (by rfl) ?_;rw[hW3,hb8])
  | (refine zT 78 (.tmp 8) (.tmp 12) (by rfl) (by rfl) b8 (by rfl) VP (by rfl) _ 78 K8 (info_P.trans (yS some HVPl.out.symm)) HVPl.out.symm HVPo.out ?_;intro s3 E3 g3 z3;clear z3))
 have kR:=kR.keptRow g3 (by intro e;have:=zK e;omega);have k1:=k1.keptRow g3 (by intro e;have:=zK e;omega);have k2:=k2.keptRow g3 (by intro e;have:=zK e;omega);have B4:=B3.trans (yG g3 (by omega) B3.size);have hE3:=E3.lt;have hCS:Cells s3 [(⟨w.heap.size+1,0,none⟩,.slice L.a1 nc L.c1),(⟨w.heap.size+1,1,none⟩,.slice L.a2 np L.c2),(⟨w.heap.size+1,2,none⟩,.slice L.a3 nx L.c3),(⟨w.heap.size+1,3,none⟩,.int .i64 (pt:Int)),(⟨w.heap.size+1,4,none⟩,.int .i64 (k:Int)),(⟨w.heap.size+1,5,none⟩,.slice (some ⟨g,o,none⟩) k k),(⟨w.heap.size,0,none⟩,.int .i64 kind),(⟨w.heap.size,1,none⟩,.int .i64 bits),(⟨w.heap.size,2,none⟩,.int .i64 limit),(⟨w.heap.size,3,none⟩,.int .i64 rate),(⟨w.heap.size,4,none⟩,.int .i64 (f:Int)),(⟨w.heap.size,5,none⟩,.int .i64 second),(⟨b8,15,none⟩,.slice (some ⟨gA,oA,none⟩) al cA),(⟨g,o+f,none⟩,.int .i64 x)]:=⟨k2.cell 0,k2.cell 1,k2.cell 2,k2.cell 3,k2.cell 4,k2.cell 5,k1.cell 0,k1.cell 1,k1.cell 2,k1.cell 3,k1.cell 4,k1.cell 5,(E3.cell 15).trans v15,(B4.cell hgw).trans hcell,yF⟩;clear g3 B3 K8 k1 k2 hW3 v15 hcell hgw;refine zbU 22 1 (.read 0 (.read 1 (.read 2 (.read 4 (.read 5 (.read 6 (.read 7 (.read 8 (.read 9 (.read 10 (.read 12 (.read 13 (.read 14 (.read 15 (.two (.one 3 (.two (.one 11 (.two (.one 16 (.read 17 (.read 18 (.read 19 (.one 20 (.one 21 .done)))))) (.one 20 (.one 16 (.read 17 (.read 18 (.read 19 (.one 21 .done)))))))) (.one 20 (.one 11 (.one 16 (.read 17 (.read 18 (.read 19 (.one 21 .done))))))))) (.one 20 (.one 3 (.one 11 (.one 16 (.read 17 (.read 18 (.read 19 (.one 21 .done))))))))))))))))))))))) _ _ o0P (fun K=>Below s3.heap.size s3 K∧Cells K [(⟨w.heap.size+1,0,none⟩,.slice L.a1 nc L.c1),(⟨w.heap.size+1,1,none⟩,.slice L.a2 np L.c2),(⟨w.heap.size+1,2,none⟩,.slice L.a3 nx L.c3),(⟨w.heap.size+1,3,none⟩,.int .i64 (pt:Int)),(⟨w.heap.size+1,4,none⟩,.int .i64 (k:Int)),(⟨w.heap.size+1,5,none⟩,.slice (some ⟨g,o,none⟩) k k),(⟨w.heap.size,0,none⟩,.int .i64 kind),(⟨w.heap.size,1,none⟩,.int .i64 bits),(⟨w.heap.size,2,none⟩,.int .i64 limit),(⟨w.heap.size,3,none⟩,.int .i64 rate),(⟨w.heap.size,4,none⟩,.int .i64 (f:Int)),(⟨w.heap.size,5,none⟩,.int .i64 second),(⟨b8,15,none⟩,.slice (some ⟨gA,oA,none⟩) al cA),(⟨g,o+f,none⟩,.int .i64 x)]) (by kernel_rfl) (yB 22 _).symm (by kernel_rfl) (by kernel_rfl) (by kernel_rfl) (by kernel_rfl) (⟨(zF _ _).drew,hCS⟩) (fun Y Q4 F4 hY hF=> ?_);simp only[Plan.map,ltc,ltz,ldc,ldz,List.getD_cons_zero,List.getD_cons_succ]
 repeat
  apply zU (by rw[hY];rfl)
  ·intro w2 hS2;(try simp only[Keeps,Cells]at hS2);go_simp;with_reducible rfl
  simp only[zuI]
 have fin:∀(ma:Option Addr) (nl mc b9:Nat) (wS:World),nl=l.length→s3.heap.size≤b9→Blk wS b9 [.slice ma nl mc] 76→MapNew s3.heap.size l (.agg #[.slice ma nl mc]) wS→Below s3.heap.size s3 wS→F4 {tmps:=#[.agg #[.int .i64 kind,.int .i64 bits,.int .i64 limit,.int .i64 rate,.int .i64 (f:Int),.int .i64 second],.agg #[.slice L.a1 nc L.c1,.slice L.a2 np L.c2,.slice L.a3 nx L.c3,.int .i64 (pt:Int),.int .i64 (k:Int),.slice (some ⟨g,o,none⟩) k k],.int .i64 bit,.pointer (some ⟨w.heap.size,0,none⟩),.pointer (some ⟨(w.heap.size+1),0,none⟩),undef,.pointer (some ⟨(w.heap.size+2),0,none⟩),.int .i64 0,.pointer (some ⟨b8,0,none⟩),.pointer (some ⟨b9,0,none⟩),undef,.agg #[.slice L.a1 nc L.c1,.slice L.a2 np L.c2,.slice L.a3 nx L.c3,.int .i64 (pt:Int),.int .i64 (k:Int),.slice (some ⟨g,o,none⟩) k k],.agg VP.toArray,.tuple #[.agg #[.slice ma nl mc],.int .i64 0],.pointer (some ⟨b8,15,none⟩),.agg #[.slice (some ⟨gA,oA,none⟩) al cA],.agg #[.slice L.a1 nc L.c1,.slice L.a2 np L.c2,.slice L.a3 nx L.c3,.int .i64 (pt:Int),.int .i64 (k:Int),.slice (some ⟨g,o,none⟩) k k],.int .i64 (i:Int),.pointer (some ⟨(w.heap.size+1),5,none⟩),.slice (some ⟨g,o,none⟩) k k,.pointer (some ⟨w.heap.size,0,none⟩),.pointer (some ⟨w.heap.size,4,none⟩),.int .i64 (f:Int),.pointer (some ⟨g,o+f,none⟩),.int .i64 x,.int .i64 q,.int .i64 bit,.pointer (some ⟨w.heap.size,0,none⟩),.pointer (some ⟨w.heap.size,3,none⟩),.int .i64 rate,.tuple #[.agg #[.slice ma nl mc],.int .i64 0],.agg #[.slice ma nl mc],.int .i64 0,undef,undef,undef,undef],defers:=[]} wS:=by
  intro ma nl mc b9 wS hnl zb9 ES hNS hbS;refine hF _ _ (fun K hK=> ?_);clear hF hY hCS;have HK:=zB hK;clear hK;go_wp2_with fail;refine OnlyK.mk (HK.out _ _ ?_);subst hnl;have E8:=E3.step hbS;have kRS:=kR.step hbS;have BS:=zA B4 hbS;have hPV:=HPV.out ma mc;have HpV:=zB hPV;have HNS:=zB hNS;have hth:wS.there b8 15 (List.toArray ([.slice ma l.length mc]:List Value)).size:=E8.there14 (o:=15) (n:=1) (by rw[HVPl.out];decide);clear hNS hPV hbS;go_wp2_with (first
   | (refine yA 76 (.tmp 9) (by rfl) (by rfl) b9 (by rfl) [.slice ma l.length mc] 76 ES _ Tryz.underlying76 rfl zgH ?_)
   | (refine wpList_store_mid (by rfl) 76 (.tmp 34) (.tmp 33) (by rfl) b8 15 (List.toArray ([.slice ma l.length mc]:List Value)) (by rfl) (by rfl) hth zgH (all_oneCell_toArray (by simp[Value.oneCell'])) ?_;have E9:=E8.setCells [.slice ma l.length mc] 15 (by rw[HVPl.out];exact(by decide:15+1≤16));rw[←HpV.out]at E9;have kR9:=kRS.keptRow (yZ b8 [.slice ma l.length mc] 15 wS) (by intro e;have:=zK e;omega);obtain⟨W8,hW8⟩:∃W,wS.setCells b8 15 [.slice ma l.length mc]=W:=⟨_,rfl⟩;have G8:wS.grownBy W8 (some b8):=by rw[←hW8];exact yZ b8 _ 15 wS
      rw[hW8]at E9 kR9;have hW8':wS.setCells b8 15 (List.toArray ([.slice ma l.length mc]:List Value)).toList=W8:=hW8;rw[hW8'])
   | (refine yA 78 (.tmp 8) (by rfl) (by rfl) b8 (by rfl) (yL {p with ac:=l} {y with a4:=ma,c4:=mc}) 78 E9 _ Tryz.underlying78 rfl (info_P.trans rfl) ?_)
   | (refine zT 78 (.tmp 6) (.tmp 35) (by rfl) (by rfl) (w.heap.size+2) (by rfl) (yL {p with ac:=l} {y with a4:=ma,c4:=mc}) (by rfl) _ 78 kR9 (info_P.trans rfl) rfl (zaM _ _) ?_;intro wL EL gL sL))
  have hL:=run_loadVar_mid wL _ 0 _ _ _ EL.cells Tryz.underlying78 rfl (info_P.trans rfl);have hN8:=HNS.out.kepX (KepX.row G8 (fun b e=>.inl (by have:=zK e;omega)));have hNL:=hN8.kepX (KepX.row gL (fun b e=>.inl (by have:=zK e;omega)));have B8:=BS.trans (yG G8 (by omega) BS.size);refine bodyPost_ret (v:=.tuple #[.agg (yL {p with ac:=l} {y with a4:=ma,c4:=mc}).toArray,.int .i64 0]) ?_ rfl ?_
  ·exact zaI (show Tryz.f217.results = #[.cell 6 78,.tmp 7]from rfl) (p:=⟨w.heap.size+2,0,none⟩) rfl rfl hL
  ·exact⟨{y with a4:=ma,c4:=mc},rfl,fun w' hk=>HPI.out ma mc w' (hNL.kepX (hk.toX14.mono0 (by omega))).is,B8.trans (yG gL (by omega) B8.size)⟩
 have hbv0:Below s3.heap.size s3 s3.drew:=(zF _ _).drew;obtain⟨v0,hv0⟩:∃v,s3.drew=v:=⟨_,rfl⟩;rw[hv0]at hbv0⊢;refine zaT ?_ ?_
 ·skip
  apply yH (by rw[hY];rfl)
  ·go_simp;with_reducible exact⟨rfl,rfl⟩
  refine(HIx.out _ (zA B4 hbv0)).mono ?_;rintro e v1 ⟨rfl,hbv10⟩;have hbv1:=zA hbv0 hbv10;clear hbv10;refine⟨_,rfl,⟨hbv1,Cells.step hbv1 hCS⟩,?_⟩;simp only[zuI]
  repeat
   apply zU (by rw[hY];rfl)
   ·intro w2 hS2;(try simp only[Keeps,Cells]at hS2);go_simp;with_reducible rfl
   simp only[zuI]
  refine zaT ?_ ?_
  ·skip
   apply yH (by rw[hY];rfl)
   ·go_simp;with_reducible exact⟨rfl,rfl⟩
   refine(HSq.out _).mono ?_;rintro e v2 ⟨rfl,hbv20⟩;have hbv2:=zA hbv1 hbv20;clear hbv20;refine⟨_,rfl,⟨hbv2,Cells.step hbv2 hCS⟩,?_⟩;simp only[zuI]
   repeat
    apply zU (by rw[hY];rfl)
    ·intro w2 hS2;(try simp only[Keeps,Cells]at hS2);go_simp;with_reducible rfl
    simp only[zuI]
   refine zaT ?_ ?_
   ·skip
    apply yH (by rw[hY];rfl)
    ·go_simp;with_reducible exact⟨rfl,rfl⟩
    refine(HUp.out _ (zA B4 hbv2)).mono ?_;rintro e v3 ⟨VX,rfl,NS,hbv30⟩;have hbv3:=zA hbv2 hbv30;obtain⟨G9,c9,rfl,hG9,hG8⟩:=NS.at;have NS:=NS.low (hbv2.size);clear hbv30;refine⟨_,rfl,⟨hbv3,Cells.step hbv3 hCS⟩,?_⟩;simp only[zuI]
    repeat
     apply zU (by rw[hY];rfl)
     ·intro w2 hS2;(try simp only[Keeps,Cells]at hS2);go_simp;with_reducible rfl
     simp only[zuI]
    have hbv40:Below v3.heap.size v3 (v3.alloc (.cells #[.slice none 0 0] 76)):=(zF _ _).alloc (zD _) _;have hbv4:=zA hbv3 hbv40;refine yR (by rw[hY];rfl) (by go_simp;first|with_reducible exact⟨rfl,rfl⟩|with_reducible rfl) ((show Below s3.heap.size s3 (v3.alloc (.cells #[.slice none 0 0] 76))∧Cells (v3.alloc (.cells #[.slice none 0 0] 76)) [(⟨w.heap.size+1,0,none⟩,.slice L.a1 nc L.c1),(⟨w.heap.size+1,1,none⟩,.slice L.a2 np L.c2),(⟨w.heap.size+1,2,none⟩,.slice L.a3 nx L.c3),(⟨w.heap.size+1,3,none⟩,.int .i64 (pt:Int)),(⟨w.heap.size+1,4,none⟩,.int .i64 (k:Int)),(⟨w.heap.size+1,5,none⟩,.slice (some ⟨g,o,none⟩) k k),(⟨w.heap.size,0,none⟩,.int .i64 kind),(⟨w.heap.size,1,none⟩,.int .i64 bits),(⟨w.heap.size,2,none⟩,.int .i64 limit),(⟨w.heap.size,3,none⟩,.int .i64 rate),(⟨w.heap.size,4,none⟩,.int .i64 (f:Int)),(⟨w.heap.size,5,none⟩,.int .i64 second),(⟨b8,15,none⟩,.slice (some ⟨gA,oA,none⟩) al cA),(⟨g,o+f,none⟩,.int .i64 x)]from⟨hbv4,Cells.step hbv4 hCS⟩)) ?_;simp only[zuI];have NS:=NS.kepX (KepX.below hbv40);have kN:=Blk.new v3 [.slice none 0 0] 76;have zN:s3.heap.size≤v3.heap.size:=hbv3.size;have hne:G9≠v3.heap.size:=by have:=hG8 Hll.out;omega
    obtain⟨b9,hb9⟩:∃x,v3.heap.size=x:=⟨_,rfl⟩;clear hbv40;rw[hb9]at kN zN hne⊢;obtain⟨v4,hv4⟩:∃v,(v3.alloc (.cells #[.slice none 0 0] 76))=v:=⟨_,rfl⟩;rw[hv4]at hbv4 NS kN⊢
    repeat
     apply zU (by rw[hY];rfl)
     ·intro w2 hS2;(try simp only[Keeps,Cells]at hS2);go_simp;with_reducible rfl
     simp only[zuI]
    refine zaA 76 (.tmp 9) (.tmp 31) (by rfl) (by rw[hY];rfl) b9 (by rfl) [.slice (some ⟨G9,0,none⟩) l.length c9] (by rfl) _ 76 kN zgH rfl (by simp[Value.oneCell']) ?_;intro wS ES gS sS;have hbS:Below s3.heap.size s3 wS:=hbv4.trans (yG gS zN hbv4.size);refine⟨⟨hbS,Cells.step hbS hCS⟩,?_⟩;simp only[zuI];exact yY (fin _ _ _ _ wS rfl zN ES (NS.row gS (by intro g' o' n' c' e;cases e;exact hne)) hbS)
   ·skip
    have hbv30:Below v2.heap.size v2 (v2.alloc (.cells #[.slice none 0 0] 76)):=(zF _ _).alloc (zD _) _;have hbv3:=zA hbv2 hbv30;refine yR (by rw[hY];rfl) (by go_simp;first|with_reducible exact⟨rfl,rfl⟩|with_reducible rfl) ((show Below s3.heap.size s3 (v2.alloc (.cells #[.slice none 0 0] 76))∧Cells (v2.alloc (.cells #[.slice none 0 0] 76)) [(⟨w.heap.size+1,0,none⟩,.slice L.a1 nc L.c1),(⟨w.heap.size+1,1,none⟩,.slice L.a2 np L.c2),(⟨w.heap.size+1,2,none⟩,.slice L.a3 nx L.c3),(⟨w.heap.size+1,3,none⟩,.int .i64 (pt:Int)),(⟨w.heap.size+1,4,none⟩,.int .i64 (k:Int)),(⟨w.heap.size+1,5,none⟩,.slice (some ⟨g,o,none⟩) k k),(⟨w.heap.size,0,none⟩,.int .i64 kind),(⟨w.heap.size,1,none⟩,.int .i64 bits),(⟨w.heap.size,2,none⟩,.int .i64 limit),(⟨w.heap.size,3,none⟩,.int .i64 rate),(⟨w.heap.size,4,none⟩,.int .i64 (f:Int)),(⟨w.heap.size,5,none⟩,.int .i64 second),(⟨b8,15,none⟩,.slice (some ⟨gA,oA,none⟩) al cA),(⟨g,o+f,none⟩,.int .i64 x)]from⟨hbv3,Cells.step hbv3 hCS⟩)) ?_;simp only[zuI];have kN:=Blk.new v2 [.slice none 0 0] 76;have zN:s3.heap.size≤v2.heap.size:=hbv2.size;obtain⟨b9,hb9⟩:∃x,v2.heap.size=x:=⟨_,rfl⟩;clear hbv30;rw[hb9]at kN zN⊢;obtain⟨v3,hv3⟩:∃v,(v2.alloc (.cells #[.slice none 0 0] 76))=v:=⟨_,rfl⟩;rw[hv3]at hbv3 kN⊢
    repeat
     apply zU (by rw[hY];rfl)
     ·intro w2 hS2;(try simp only[Keeps,Cells]at hS2);go_simp;with_reducible rfl
     simp only[zuI]
    apply yH (by rw[hY];rfl)
    ·go_simp;with_reducible exact⟨rfl,rfl⟩
    refine(HUp.out _ (zA B4 hbv3)).mono ?_;rintro e v4 ⟨VX,rfl,NS,hbv40⟩;have hbv4:=zA hbv3 hbv40;have hkN:=kN.lt;have kN:=kN.step hbv40;obtain⟨G9,c9,rfl,hG9,hG8⟩:=NS.at;have NS:=NS.low (hbv3.size);have hne:G9≠b9:=by omega
    clear hbv40;refine⟨_,rfl,⟨hbv4,Cells.step hbv4 hCS⟩,?_⟩;simp only[zuI]
    repeat
     apply zU (by rw[hY];rfl)
     ·intro w2 hS2;(try simp only[Keeps,Cells]at hS2);go_simp;with_reducible rfl
     simp only[zuI]
    refine zaA 76 (.tmp 9) (.tmp 31) (by rfl) (by rw[hY];rfl) b9 (by rfl) [.slice (some ⟨G9,0,none⟩) l.length c9] (by rfl) _ 76 kN zgH rfl (by simp[Value.oneCell']) ?_;intro wS ES gS sS;have hbS:Below s3.heap.size s3 wS:=hbv4.trans (yG gS zN hbv4.size);refine⟨⟨hbS,Cells.step hbS hCS⟩,?_⟩;simp only[zuI];exact yY (fin _ _ _ _ wS rfl zN ES (NS.row gS (by intro g' o' n' c' e;cases e;exact hne)) hbS)
  ·skip
   have hbv20:Below v1.heap.size v1 (v1.alloc (.cells #[.slice none 0 0] 76)):=(zF _ _).alloc (zD _) _;have hbv2:=zA hbv1 hbv20;refine yR (by rw[hY];rfl) (by go_simp;first|with_reducible exact⟨rfl,rfl⟩|with_reducible rfl) ((show Below s3.heap.size s3 (v1.alloc (.cells #[.slice none 0 0] 76))∧Cells (v1.alloc (.cells #[.slice none 0 0] 76)) [(⟨w.heap.size+1,0,none⟩,.slice L.a1 nc L.c1),(⟨w.heap.size+1,1,none⟩,.slice L.a2 np L.c2),(⟨w.heap.size+1,2,none⟩,.slice L.a3 nx L.c3),(⟨w.heap.size+1,3,none⟩,.int .i64 (pt:Int)),(⟨w.heap.size+1,4,none⟩,.int .i64 (k:Int)),(⟨w.heap.size+1,5,none⟩,.slice (some ⟨g,o,none⟩) k k),(⟨w.heap.size,0,none⟩,.int .i64 kind),(⟨w.heap.size,1,none⟩,.int .i64 bits),(⟨w.heap.size,2,none⟩,.int .i64 limit),(⟨w.heap.size,3,none⟩,.int .i64 rate),(⟨w.heap.size,4,none⟩,.int .i64 (f:Int)),(⟨w.heap.size,5,none⟩,.int .i64 second),(⟨b8,15,none⟩,.slice (some ⟨gA,oA,none⟩) al cA),(⟨g,o+f,none⟩,.int .i64 x)]from⟨hbv2,Cells.step hbv2 hCS⟩)) ?_;simp only[zuI];have kN:=Blk.new v1 [.slice none 0 0] 76;have zN:s3.heap.size≤v1.heap.size:=hbv1.size;obtain⟨b9,hb9⟩:∃x,v1.heap.size=x:=⟨_,rfl⟩;clear hbv20;rw[hb9]at kN zN⊢;obtain⟨v2,hv2⟩:∃v,(v1.alloc (.cells #[.slice none 0 0] 76))=v:=⟨_,rfl⟩;rw[hv2]at hbv2 kN⊢
   repeat
    apply zU (by rw[hY];rfl)
    ·intro w2 hS2;(try simp only[Keeps,Cells]at hS2);go_simp;with_reducible rfl
    simp only[zuI]
   apply yH (by rw[hY];rfl)
   ·go_simp;with_reducible exact⟨rfl,rfl⟩
   refine(HSq.out _).mono ?_;rintro e v3 ⟨rfl,hbv30⟩;have hbv3:=zA hbv2 hbv30;have hkN:=kN.lt;have kN:=kN.step hbv30;clear hbv30;refine⟨_,rfl,⟨hbv3,Cells.step hbv3 hCS⟩,?_⟩;simp only[zuI]
   repeat
    apply zU (by rw[hY];rfl)
    ·intro w2 hS2;(try simp only[Keeps,Cells]at hS2);go_simp;with_reducible rfl
    simp only[zuI]
   apply yH (by rw[hY];rfl)
   ·go_simp;with_reducible exact⟨rfl,rfl⟩
   refine(HUp.out _ (zA B4 hbv3)).mono ?_;rintro e v4 ⟨VX,rfl,NS,hbv40⟩;have hbv4:=zA hbv3 hbv40;have hkN:=kN.lt;have kN:=kN.step hbv40;obtain⟨G9,c9,rfl,hG9,hG8⟩:=NS.at;have NS:=NS.low (hbv3.size);have hne:G9≠b9:=by omega
   clear hbv40;refine⟨_,rfl,⟨hbv4,Cells.step hbv4 hCS⟩,?_⟩;simp only[zuI]
   repeat
    apply zU (by rw[hY];rfl)
    ·intro w2 hS2;(try simp only[Keeps,Cells]at hS2);go_simp;with_reducible rfl
    simp only[zuI]
   refine zaA 76 (.tmp 9) (.tmp 31) (by rfl) (by rw[hY];rfl) b9 (by rfl) [.slice (some ⟨G9,0,none⟩) l.length c9] (by rfl) _ 76 kN zgH rfl (by simp[Value.oneCell']) ?_;intro wS ES gS sS;have hbS:Below s3.heap.size s3 wS:=hbv4.trans (yG gS zN hbv4.size);refine⟨⟨hbS,Cells.step hbS hCS⟩,?_⟩;simp only[zuI];exact yY (fin _ _ _ _ wS rfl zN ES (NS.row gS (by intro g' o' n' c' e;cases e;exact hne)) hbS)
 ·skip
  have hbv10:Below v0.heap.size v0 (v0.alloc (.cells #[.slice none 0 0] 76)):=(zF _ _).alloc (zD _) _;have hbv1:=zA hbv0 hbv10;refine yR (by rw[hY];rfl) (by go_simp;first|with_reducible exact⟨rfl,rfl⟩|with_reducible rfl) ((show Below s3.heap.size s3 (v0.alloc (.cells #[.slice none 0 0] 76))∧Cells (v0.alloc (.cells #[.slice none 0 0] 76)) [(⟨w.heap.size+1,0,none⟩,.slice L.a1 nc L.c1),(⟨w.heap.size+1,1,none⟩,.slice L.a2 np L.c2),(⟨w.heap.size+1,2,none⟩,.slice L.a3 nx L.c3),(⟨w.heap.size+1,3,none⟩,.int .i64 (pt:Int)),(⟨w.heap.size+1,4,none⟩,.int .i64 (k:Int)),(⟨w.heap.size+1,5,none⟩,.slice (some ⟨g,o,none⟩) k k),(⟨w.heap.size,0,none⟩,.int .i64 kind),(⟨w.heap.size,1,none⟩,.int .i64 bits),(⟨w.heap.size,2,none⟩,.int .i64 limit),(⟨w.heap.size,3,none⟩,.int .i64 rate),(⟨w.heap.size,4,none⟩,.int .i64 (f:Int)),(⟨w.heap.size,5,none⟩,.int .i64 second),(⟨b8,15,none⟩,.slice (some ⟨gA,oA,none⟩) al cA),(⟨g,o+f,none⟩,.int .i64 x)]from⟨hbv1,Cells.step hbv1 hCS⟩)) ?_;simp only[zuI];have kN:=Blk.new v0 [.slice none 0 0] 76;have zN:s3.heap.size≤v0.heap.size:=hbv0.size;obtain⟨b9,hb9⟩:∃x,v0.heap.size=x:=⟨_,rfl⟩;clear hbv10;rw[hb9]at kN zN⊢;obtain⟨v1,hv1⟩:∃v,(v0.alloc (.cells #[.slice none 0 0] 76))=v:=⟨_,rfl⟩;rw[hv1]at hbv1 kN⊢
  repeat
   apply zU (by rw[hY];rfl)
   ·intro w2 hS2;(try simp only[Keeps,Cells]at hS2);go_simp;with_reducible rfl
   simp only[zuI]
  apply yH (by rw[hY];rfl)
  ·go_simp;with_reducible exact⟨rfl,rfl⟩
  refine(HIx.out _ (zA B4 hbv1)).mono ?_;rintro e v2 ⟨rfl,hbv20⟩;have hbv2:=zA hbv1 hbv20;have hkN:=kN.lt;have kN:=kN.step hbv20;clear hbv20;refine⟨_,rfl,⟨hbv2,Cells.step hbv2 hCS⟩,?_⟩;simp only[zuI]
  repeat
   apply zU (by rw[hY];rfl)
   ·intro w2 hS2;(try simp only[Keeps,Cells]at hS2);go_simp;with_reducible rfl
   simp only[zuI]
  apply yH (by rw[hY];rfl)
  ·go_simp;with_reducible exact⟨rfl,rfl⟩
  refine(HSq.out _).mono ?_;rintro e v3 ⟨rfl,hbv30⟩;have hbv3:=zA hbv2 hbv30;have hkN:=kN.lt;have kN:=kN.step hbv30;clear hbv30;refine⟨_,rfl,⟨hbv3,Cells.step hbv3 hCS⟩,?_⟩;simp only[zuI]
  repeat
   apply zU (by rw[hY];rfl)
   ·intro w2 hS2;(try simp only[Keeps,Cells]at hS2);go_simp;with_reducible rfl
   simp only[zuI]
  apply yH (by rw[hY];rfl)
  ·go_simp;with_reducible exact⟨rfl,rfl⟩
  refine(HUp.out _ (zA B4 hbv3)).mono ?_;rintro e v4 ⟨VX,rfl,NS,hbv40⟩;have hbv4:=zA hbv3 hbv40;have hkN:=kN.lt;have kN:=kN.step hbv40;obtain⟨G9,c9,rfl,hG9,hG8⟩:=NS.at;have NS:=NS.low (hbv3.size);have hne:G9≠b9:=by omega
  clear hbv40;refine⟨_,rfl,⟨hbv4,Cells.step hbv4 hCS⟩,?_⟩;simp only[zuI]
  repeat
   apply zU (by rw[hY];rfl)
   ·intro w2 hS2;(try simp only[Keeps,Cells]at hS2);go_simp;with_reducible rfl
   simp only[zuI]
  refine zaA 76 (.tmp 9) (.tmp 31) (by rfl) (by rw[hY];rfl) b9 (by rfl) [.slice (some ⟨G9,0,none⟩) l.length c9] (by rfl) _ 76 kN zgH rfl (by simp[Value.oneCell']) ?_;intro wS ES gS sS;have hbS:Below s3.heap.size s3 wS:=hbv4.trans (yG gS zN hbv4.size);refine⟨⟨hbS,Cells.step hbS hCS⟩,?_⟩;simp only[zuI];exact yY (fin _ _ _ _ wS rfl zN ES (NS.row gS (by intro g' o' n' c' e;cases e;exact hne)) hbS)
theorem PIs.bareX{p:S14.P}{y:Lay}{w w':World}{n:Int}{l:List (List Int)}{a:Option Addr}{cap:Nat}(h:PIs p y w)(hb:S14.bare {p with mi:=0,mw:=[]}=true)(hm:MixIs n l (.agg #[.int .i64 n,.slice a l.length cap]) w'):PIs {p with mi:=n,mw:=l} {y with a3:=a,c3:=cap} w':=by
 obtain⟨h1,h2,_,h4,h5,h6,h7⟩:=zfO hb;have h1:p.ctrs = []:=h1;exact⟨by show Rd w' y.a1 (Cts p.ctrs);rw[h1];exact Rd.nil _ _,h.tab.nil14 h2,h.mch.nil14 h5 h6 h7,hm,h.apm.nil14 h4⟩
theorem ztL(c:S14.C)(N:S14.N)(L:NLay)(k g o:Nat)(p:S14.P)(y:Lay)(n f s:Nat)(bef:List Int)(bit:Int)(w:World)(hN:NIs N L w)(hc:N.comps[k]? = some c)(hp:N.parts[k]? = some p)(hy:L.ys[k]? = some y)(hx:k<N.ctxs.length)(pt:Nat)(hpt:N.part=(pt:Int))(hpt2:pt<4294967296)
 (hn:c.bits=(n:Int)) (hn2:n≤16) (hf:c.first=(f:Int)) (hs:c.second=(s:Int)) (hfs:f≤s) (hsk:s<k) (hk16:k≤16) (hlen:bef.length=k) (hrd:Rd w (some ⟨g,o,none⟩) (zaK bef))
 (hu:S13.usable 16 p.mi p.mw (S14.index (N.ctxs.getD k 0) pt n:Nat) ((bef.drop f).take (s+1-f))=0) (hbit:0≤bit∧bit≤1) (hrate:1≤c.rate∧c.rate≤255) (hbare:S14.bare {p with mi:=0,mw:=[]}=true) :
 Calls Tryz.prog 197 #[CV c,VV N L k (.slice (some ⟨g,o,none⟩) k k),.int .i64 bit] w fun e w'=>∃y',e = .returned (.tuple #[PV {p with mi:=p.mi,mw:=S13.learnL p.mw (S14.index (N.ctxs.getD k 0) pt n) ((bef.drop f).take (s+1-f)) bit c.rate} y',.int .i64 0])∧
  PRob 0 w.heap.size {p with mi:=p.mi,mw:=S13.learnL p.mw (S14.index (N.ctxs.getD k 0) pt n) ((bef.drop f).take (s+1-f)) bit c.rate} y' w'∧Below w.heap.size w w':=by
 have hk:k<N.parts.length:=(List.getElem?_eq_some_iff.1 hp).1;have hP:=hN.ps k p y hp hy;have HPt:=zB fun(W:World) (hW:Below w.heap.size w W)=>zbW N L k (.slice (some ⟨g,o,none⟩) k k) rfl W (hN.step hW) hk p y hp hy;have HIx:=zB fun(W:World) (hW:Below w.heap.size w W)=>zeT N L k (.slice (some ⟨g,o,none⟩) k k) W (hN.step hW) hx pt hpt hpt2 c hc n hn hn2;have HSe:=zB fun(W:World)=>zrU c N L k g o f s W hf hs hfs hsk hk16;obtain⟨i,hi⟩:∃i,S14.index (N.ctxs.getD k 0) pt n=i:=⟨_,rfl⟩;rw[hi]at HIx hu⊢;have hsl:((bef.drop f).take (s+1-f)).length=s+1-f:=by rw[yJ,zgS,hlen];omega
 have HLn:=zB fun(W:World) (hW:Below w.heap.size w W)=>learn13_own p.mi p.mw y.a3 y.c3 i ((bef.drop f).take (s+1-f)) (some ⟨g,o+f,none⟩) (s+1-f) bit c.rate W (hP.mix.step hW) ((hrd.step hW).intsWindow f (s+1-f)) hu hbit hrate;rw[hsl]at HLn;obtain⟨l,hl⟩:∃l,S13.learnL p.mw i ((bef.drop f).take (s+1-f)) bit c.rate=l:=⟨_,rfl⟩;rw[hl]at HLn⊢;have HPI:=zB fun(a:Option Addr) (cap:Nat) (w':World) (hm:MixIs p.mi l (.agg #[.int .i64 p.mi,.slice a l.length cap]) w')=>hP.bareX hbare hm;have HPV:=zB fun(a:Option Addr) (cap:Nat)=>(show yL {p with mi:=p.mi,mw:=l} {y with a3:=a,c3:=cap}=splice (yL p y) 13 [.int .i64 p.mi,.slice a l.length cap]from rfl);obtain⟨mi,hmi⟩:∃x,p.mi=x:=⟨_,rfl⟩;obtain⟨ml,hml⟩:∃x,p.mw.length=x:=⟨_,rfl⟩;have v13:(yL p y)[13]? = some (.int .i64 p.mi):=rfl;have v14:(yL p y)[14]? = some (.slice y.a3 p.mw.length y.c3):=rfl;have hVPl:(yL p y).length=16:=rfl;have hVPo:=zaM p y;rw[hmi,hml]at HLn;rw[hmi]at HPI HPV v13⊢;rw[hml]at v14;unfold PV at HPt;unfold VV at HPt HIx HSe⊢;unfold PV;obtain⟨VP,hVP⟩:∃v,yL p y=v:=⟨_,rfl⟩;rw[hVP]at HPt hVPl hVPo HPV v13 v14;obtain⟨m,hm⟩:∃m,s+1-f=m:=⟨_,rfl⟩;rw[hm]at HSe HLn;have HVPl:=zB hVPl;have HVPo:=zB hVPo;obtain⟨nc,hnc⟩:∃n,N.comps.length=n:=⟨_,rfl⟩;obtain⟨np,hnp⟩:∃n,N.parts.length=n:=⟨_,rfl⟩;obtain⟨nx,hnx⟩:∃n,N.ctxs.length=n:=⟨_,rfl⟩;rw[hnc,hnp,hnx,hpt]at HPt HIx HSe⊢;obtain⟨W0,hW0,k1,k2,B0⟩:=zfL w c 116 [.slice L.a1 nc L.c1,.slice L.a2 np L.c2,.slice L.a3 nx L.c3,.int .i64 (pt:Int),.int .i64 (k:Int),.slice (some ⟨g,o,none⟩) k k];have hW0s:W0.heap.size=w.heap.size+2:=by rw[←hW0];simp
 obtain⟨W1,hW1⟩:∃W,W0.alloc (.cells zP 78)=W:=⟨_,rfl⟩;have b1:Below W0.heap.size W0 W1:=by rw[←hW1];exact(zF _ _).alloc (zD _) _
 have kR:Blk W1 (w.heap.size+2) (yL S14.P0 zdO) 78:=by rw[←hW1,←hW0s];exact zeH W0
 have k2:=k2.step b1;have k1:=k1.step b1;have B1:=zA B0 b1;clear hnc hnp hnx hpt B0 hVP hVPl hVPo hm hml hmi hl hsl hi hP hN hc hp hy hk hx hn hf hs hfs hsk hk16 hlen hrd hu hbare hbit hrate;obtain⟨kind,bits,limit,rate,first,second⟩:=c;unfold CV at HSe⊢;unfold zZ at HSe k1 hW0⊢;simp only at HSe HLn k1 hW0⊢;go_enter Tryz.func197,Tryz.ntmps197;go_wp2_with (first
  | (rw[hW0])
  | (refine zaB 78 zP zcS (by rfl) (by rfl) ?_;first|rw[hW1]|skip)
  | (refine yA 102 (.tmp 4) (by rfl) (by rfl) (w.heap.size+1) (by rfl) [.slice L.a1 nc L.c1,.slice L.a2 np L.c2,.slice L.a3 nx L.c3,.int .i64 (pt:Int),.int .i64 (k:Int),.slice (some ⟨g,o,none⟩) k k] 102 k2 _ Tryz.underlying102 rfl zkJ ?_))
 refine(HPt.out _ B1).mono ?_;rintro e w2 ⟨rfl,hb2⟩;have B2:=zA B1 hb2;have kR:=kR.step hb2;have k1:=k1.step hb2;have k2:=k2.step hb2;have hR2:=kR.lt;obtain⟨b8,hb8⟩:∃x,w2.heap.size=x:=⟨_,rfl⟩;obtain⟨W3,hW3⟩:∃W,w2.alloc (.cells zP 78)=W:=⟨_,rfl⟩;have ba3:Below w2.heap.size w2 W3:=by rw[←hW3];exact(zF _ _).alloc (zD _) _
 have K8:Blk W3 b8 (yL S14.P0 zdO) 78:=by rw[←hW3,←hb8];exact zeH w2
 have kR:=kR.step ba3;have k1:=k1.step ba3;have k2:=k2.step ba3;have B3:=zA B2 ba3;have hR8:w.heap.size+2<b8:=by rw[←hb8];exact hR2
 clear hW0 hW1 b1 B1 hb2 B2 ba3 HPt;go_wp2_with (first
  | (refine zaB 78 zP zcS (by rfl) (by rfl) ?_;rw[hW3,hb8])
  | (refine zT 78 (.tmp 8) (.tmp 12) (by rfl) (by rfl) b8 (by rfl) VP (by rfl) _ 78 K8 (info_P.trans (yS some HVPl.out.symm)) HVPl.out.symm HVPo.out ?_;intro s3 E3 g3 z3;clear z3))
 have kR:=kR.keptRow g3 (by intro e;have:=zK e;omega);have k1:=k1.keptRow g3 (by intro e;have:=zK e;omega);have k2:=k2.keptRow g3 (by intro e;have:=zK e;omega);have B4:=B3.trans (yG g3 (by omega) B3.size);have hE3:=E3.lt;have hCS:Cells s3 [(⟨w.heap.size+1,0,none⟩,.slice L.a1 nc L.c1),(⟨w.heap.size+1,1,none⟩,.slice L.a2 np L.c2),(⟨w.heap.size+1,2,none⟩,.slice L.a3 nx L.c3),(⟨w.heap.size+1,3,none⟩,.int .i64 (pt:Int)),(⟨w.heap.size+1,4,none⟩,.int .i64 (k:Int)),(⟨w.heap.size+1,5,none⟩,.slice (some ⟨g,o,none⟩) k k),(⟨w.heap.size,0,none⟩,.int .i64 kind),(⟨w.heap.size,1,none⟩,.int .i64 bits),(⟨w.heap.size,2,none⟩,.int .i64 limit),(⟨w.heap.size,3,none⟩,.int .i64 rate),(⟨w.heap.size,4,none⟩,.int .i64 first),(⟨w.heap.size,5,none⟩,.int .i64 second),(⟨b8,13,none⟩,.int .i64 mi),(⟨b8,14,none⟩,.slice y.a3 ml y.c3)]:=⟨k2.cell 0,k2.cell 1,k2.cell 2,k2.cell 3,k2.cell 4,k2.cell 5,k1.cell 0,k1.cell 1,k1.cell 2,k1.cell 3,k1.cell 4,k1.cell 5,(E3.cell 13).trans v13,(E3.cell 14).trans v14,yF⟩;clear g3 B3 K8 k1 k2 hW3 v13 v14;refine zbU 17 1 (.read 0 (.read 1 (.read 2 (.read 4 (.read 5 (.read 7 (.read 8 (.read 9 (.read 10 (.two (.one 3 (.two (.one 6 (.two (.one 11 (.read 12 (.read 13 (.read 14 (.one 15 (.one 16 .done)))))) (.one 15 (.one 11 (.read 12 (.read 13 (.read 14 (.one 16 .done)))))))) (.one 15 (.one 6 (.one 11 (.read 12 (.read 13 (.read 14 (.one 16 .done))))))))) (.one 15 (.one 3 (.one 6 (.one 11 (.read 12 (.read 13 (.read 14 (.one 16 .done)))))))))))))))))) _ _ o0P (fun K=>Below s3.heap.size s3 K∧Cells K [(⟨w.heap.size+1,0,none⟩,.slice L.a1 nc L.c1),(⟨w.heap.size+1,1,none⟩,.slice L.a2 np L.c2),(⟨w.heap.size+1,2,none⟩,.slice L.a3 nx L.c3),(⟨w.heap.size+1,3,none⟩,.int .i64 (pt:Int)),(⟨w.heap.size+1,4,none⟩,.int .i64 (k:Int)),(⟨w.heap.size+1,5,none⟩,.slice (some ⟨g,o,none⟩) k k),(⟨w.heap.size,0,none⟩,.int .i64 kind),(⟨w.heap.size,1,none⟩,.int .i64 bits),(⟨w.heap.size,2,none⟩,.int .i64 limit),(⟨w.heap.size,3,none⟩,.int .i64 rate),(⟨w.heap.size,4,none⟩,.int .i64 first),(⟨w.heap.size,5,none⟩,.int .i64 second),(⟨b8,13,none⟩,.int .i64 mi),(⟨b8,14,none⟩,.slice y.a3 ml y.c3)]) (by kernel_rfl) (yB 17 _).symm (by kernel_rfl) (by kernel_rfl) (by kernel_rfl) (by kernel_rfl) (⟨(zF _ _).drew,hCS⟩) (fun Y Q4 F4 hY hF=> ?_);simp only[Plan.map,ltc,ltz,ldc,ldz,List.getD_cons_zero,List.getD_cons_succ]
 repeat
  apply zU (by rw[hY];rfl)
  ·intro w2 hS2;(try simp only[Keeps,Cells]at hS2);go_simp;with_reducible rfl
  simp only[zuI]
 have fin:∀(ma:Option Addr) (nl mc b9:Nat) (wS:World),nl=l.length→s3.heap.size≤b9→Blk wS b9 [.int .i64 mi,.slice ma nl mc] 74→MixNew s3.heap.size mi l (.agg #[.int .i64 mi,.slice ma nl mc]) wS→Below s3.heap.size s3 wS→F4 {tmps:=#[.agg #[.int .i64 kind,.int .i64 bits,.int .i64 limit,.int .i64 rate,.int .i64 first,.int .i64 second],.agg #[.slice L.a1 nc L.c1,.slice L.a2 np L.c2,.slice L.a3 nx L.c3,.int .i64 (pt:Int),.int .i64 (k:Int),.slice (some ⟨g,o,none⟩) k k],.int .i64 bit,.pointer (some ⟨w.heap.size,0,none⟩),.pointer (some ⟨(w.heap.size+1),0,none⟩),undef,.pointer (some ⟨(w.heap.size+2),0,none⟩),.int .i64 0,.pointer (some ⟨b8,0,none⟩),.pointer (some ⟨b9,0,none⟩),undef,.agg #[.slice L.a1 nc L.c1,.slice L.a2 np L.c2,.slice L.a3 nx L.c3,.int .i64 (pt:Int),.int .i64 (k:Int),.slice (some ⟨g,o,none⟩) k k],.agg VP.toArray,.tuple #[.agg #[.int .i64 mi,.slice ma nl mc],.int .i64 0],.pointer (some ⟨b8,13,none⟩),.agg #[.int .i64 mi,.slice y.a3 ml y.c3],.agg #[.slice L.a1 nc L.c1,.slice L.a2 np L.c2,.slice L.a3 nx L.c3,.int .i64 (pt:Int),.int .i64 (k:Int),.slice (some ⟨g,o,none⟩) k k],.int .i64 (i:Int),.agg #[.int .i64 kind,.int .i64 bits,.int .i64 limit,.int .i64 rate,.int .i64 first,.int .i64 second],.agg #[.slice L.a1 nc L.c1,.slice L.a2 np L.c2,.slice L.a3 nx L.c3,.int .i64 (pt:Int),.int .i64 (k:Int),.slice (some ⟨g,o,none⟩) k k],.slice (some ⟨g,o+f,none⟩) m m,.int .i64 bit,.pointer (some ⟨w.heap.size,0,none⟩),.pointer (some ⟨w.heap.size,3,none⟩),.int .i64 rate,.tuple #[.agg #[.int .i64 mi,.slice ma nl mc],.int .i64 0],.agg #[.int .i64 mi,.slice ma nl mc],.int .i64 0,undef,undef,undef,undef],defers:=[]} wS:=by
  intro ma nl mc b9 wS hnl zb9 ES hNS hbS;refine hF _ _ (fun K hK=> ?_);clear hF hY hCS;have HK:=zB hK;clear hK;go_wp2_with fail;refine OnlyK.mk (HK.out _ _ ?_);subst hnl;have E8:=E3.step hbS;have kRS:=kR.step hbS;have BS:=zA B4 hbS;have hPV:=HPV.out ma mc;have HpV:=zB hPV;have HNS:=zB hNS;have hth:wS.there b8 13 (List.toArray ([.int .i64 mi,.slice ma l.length mc]:List Value)).size:=E8.there14 (o:=13) (n:=2) (by rw[HVPl.out];decide);clear hNS hPV hbS;go_wp2_with (first
   | (refine yA 74 (.tmp 9) (by rfl) (by rfl) b9 (by rfl) [.int .i64 mi,.slice ma l.length mc] 74 ES _ Tryz.underlying74 rfl zeG ?_)
   | (refine wpList_store_mid (by rfl) 74 (.tmp 29) (.tmp 28) (by rfl) b8 13 (List.toArray ([.int .i64 mi,.slice ma l.length mc]:List Value)) (by rfl) (by rfl) hth zeG (all_oneCell_toArray (by simp[Value.oneCell'])) ?_;have E9:=E8.setCells [.int .i64 mi,.slice ma l.length mc] 13 (by rw[HVPl.out];exact(by decide:13+2≤16));rw[←HpV.out]at E9;have kR9:=kRS.keptRow (yZ b8 [.int .i64 mi,.slice ma l.length mc] 13 wS) (by intro e;have:=zK e;omega);obtain⟨W8,hW8⟩:∃W,wS.setCells b8 13 [.int .i64 mi,.slice ma l.length mc]=W:=⟨_,rfl⟩;have G8:wS.grownBy W8 (some b8):=by rw[←hW8];exact yZ b8 _ 13 wS
      rw[hW8]at E9 kR9;have hW8':wS.setCells b8 13 (List.toArray ([.int .i64 mi,.slice ma l.length mc]:List Value)).toList=W8:=hW8;rw[hW8'])
   | (refine yA 78 (.tmp 8) (by rfl) (by rfl) b8 (by rfl) (yL {p with mi:=mi,mw:=l} {y with a3:=ma,c3:=mc}) 78 E9 _ Tryz.underlying78 rfl (info_P.trans rfl) ?_)
   | (refine zT 78 (.tmp 6) (.tmp 30) (by rfl) (by rfl) (w.heap.size+2) (by rfl) (yL {p with mi:=mi,mw:=l} {y with a3:=ma,c3:=mc}) (by rfl) _ 78 kR9 (info_P.trans rfl) rfl (zaM _ _) ?_;intro wL EL gL sL))
  have hL:=run_loadVar_mid wL _ 0 _ _ _ EL.cells Tryz.underlying78 rfl (info_P.trans rfl);have hN8:=HNS.out.kepX (KepX.row G8 (fun b e=>.inl (by have:=zK e;omega)));have hNL:=hN8.kepX (KepX.row gL (fun b e=>.inl (by have:=zK e;omega)));have B8:=BS.trans (yG G8 (by omega) BS.size);refine bodyPost_ret (v:=.tuple #[.agg (yL {p with mi:=mi,mw:=l} {y with a3:=ma,c3:=mc}).toArray,.int .i64 0]) ?_ rfl ?_
  ·exact zaI (show Tryz.f197.results = #[.cell 6 78,.tmp 7]from rfl) (p:=⟨w.heap.size+2,0,none⟩) rfl rfl hL
  ·exact⟨{y with a3:=ma,c3:=mc},rfl,fun w' hk=>HPI.out ma mc w' (hNL.kepX (hk.toX14.mono0 (by omega))).own.mix,B8.trans (yG gL (by omega) B8.size)⟩
 have hbv0:Below s3.heap.size s3 s3.drew:=(zF _ _).drew;obtain⟨v0,hv0⟩:∃v,s3.drew=v:=⟨_,rfl⟩;rw[hv0]at hbv0⊢;refine zaT ?_ ?_
 ·skip
  apply yH (by rw[hY];rfl)
  ·go_simp;with_reducible exact⟨rfl,rfl⟩
  refine(HIx.out _ (zA B4 hbv0)).mono ?_;rintro e v1 ⟨rfl,hbv10⟩;have hbv1:=zA hbv0 hbv10;clear hbv10;refine⟨_,rfl,⟨hbv1,Cells.step hbv1 hCS⟩,?_⟩;simp only[zuI]
  repeat
   apply zU (by rw[hY];rfl)
   ·intro w2 hS2;(try simp only[Keeps,Cells]at hS2);go_simp;with_reducible rfl
   simp only[zuI]
  refine zaT ?_ ?_
  ·skip
   apply yH (by rw[hY];rfl)
   ·go_simp;with_reducible exact⟨rfl,rfl⟩
   refine(HSe.out _).mono ?_;rintro e v2 ⟨rfl,hbv20⟩;have hbv2:=zA hbv1 hbv20;clear hbv20;refine⟨_,rfl,⟨hbv2,Cells.step hbv2 hCS⟩,?_⟩;simp only[zuI]
   repeat
    apply zU (by rw[hY];rfl)
    ·intro w2 hS2;(try simp only[Keeps,Cells]at hS2);go_simp;with_reducible rfl
    simp only[zuI]
   refine zaT ?_ ?_
   ·skip
    apply yH (by rw[hY];rfl)
    ·go_simp;with_reducible exact⟨rfl,rfl⟩
    refine(HLn.out _ (zA B4 hbv2)).mono ?_;rintro e v3 ⟨VX,rfl,NS,hbv30⟩;have hbv3:=zA hbv2 hbv30;obtain⟨ma,mc,rfl⟩:=NS.shape;have NS:=NS.low (hbv2.size);clear hbv30;refine⟨_,rfl,⟨hbv3,Cells.step hbv3 hCS⟩,?_⟩;simp only[zuI]
    repeat
     apply zU (by rw[hY];rfl)
     ·intro w2 hS2;(try simp only[Keeps,Cells]at hS2);go_simp;with_reducible rfl
     simp only[zuI]
    have hbv40:Below v3.heap.size v3 (v3.alloc (.cells #[.int .i64 0,.slice none 0 0] 74)):=(zF _ _).alloc (zD _) _;have hbv4:=zA hbv3 hbv40;refine yR (by rw[hY];rfl) (by go_simp;first|with_reducible exact⟨rfl,rfl⟩|with_reducible rfl) ((show Below s3.heap.size s3 (v3.alloc (.cells #[.int .i64 0,.slice none 0 0] 74))∧Cells (v3.alloc (.cells #[.int .i64 0,.slice none 0 0] 74)) [(⟨w.heap.size+1,0,none⟩,.slice L.a1 nc L.c1),(⟨w.heap.size+1,1,none⟩,.slice L.a2 np L.c2),(⟨w.heap.size+1,2,none⟩,.slice L.a3 nx L.c3),(⟨w.heap.size+1,3,none⟩,.int .i64 (pt:Int)),(⟨w.heap.size+1,4,none⟩,.int .i64 (k:Int)),(⟨w.heap.size+1,5,none⟩,.slice (some ⟨g,o,none⟩) k k),(⟨w.heap.size,0,none⟩,.int .i64 kind),(⟨w.heap.size,1,none⟩,.int .i64 bits),(⟨w.heap.size,2,none⟩,.int .i64 limit),(⟨w.heap.size,3,none⟩,.int .i64 rate),(⟨w.heap.size,4,none⟩,.int .i64 first),(⟨w.heap.size,5,none⟩,.int .i64 second),(⟨b8,13,none⟩,.int .i64 mi),(⟨b8,14,none⟩,.slice y.a3 ml y.c3)]from⟨hbv4,Cells.step hbv4 hCS⟩)) ?_;simp only[zuI];have NS:=NS.kepX (KepX.below hbv40);have kN:=Blk.new v3 [.int .i64 0,.slice none 0 0] 74;have zN:s3.heap.size≤v3.heap.size:=hbv3.size;obtain⟨b9,hb9⟩:∃x,v3.heap.size=x:=⟨_,rfl⟩;clear hbv40;rw[hb9]at kN zN⊢;obtain⟨v4,hv4⟩:∃v,(v3.alloc (.cells #[.int .i64 0,.slice none 0 0] 74))=v:=⟨_,rfl⟩;rw[hv4]at hbv4 NS kN⊢
    repeat
     apply zU (by rw[hY];rfl)
     ·intro w2 hS2;(try simp only[Keeps,Cells]at hS2);go_simp;with_reducible rfl
     simp only[zuI]
    refine zaA 74 (.tmp 9) (.tmp 26) (by rfl) (by rw[hY];rfl) b9 (by rfl) [.int .i64 mi,.slice ma l.length mc] (by rfl) _ 74 kN zeG rfl (by simp[Value.oneCell']) ?_;intro wS ES gS sS;have hbS:Below s3.heap.size s3 wS:=hbv4.trans (yG gS zN hbv4.size);refine⟨⟨hbS,Cells.step hbS hCS⟩,?_⟩;simp only[zuI];exact yY (fin _ _ _ _ wS rfl zN ES (NS.apart14 kN (by decide) (by decide) gS) hbS)
   ·skip
    have hbv30:Below v2.heap.size v2 (v2.alloc (.cells #[.int .i64 0,.slice none 0 0] 74)):=(zF _ _).alloc (zD _) _;have hbv3:=zA hbv2 hbv30;refine yR (by rw[hY];rfl) (by go_simp;first|with_reducible exact⟨rfl,rfl⟩|with_reducible rfl) ((show Below s3.heap.size s3 (v2.alloc (.cells #[.int .i64 0,.slice none 0 0] 74))∧Cells (v2.alloc (.cells #[.int .i64 0,.slice none 0 0] 74)) [(⟨w.heap.size+1,0,none⟩,.slice L.a1 nc L.c1),(⟨w.heap.size+1,1,none⟩,.slice L.a2 np L.c2),(⟨w.heap.size+1,2,none⟩,.slice L.a3 nx L.c3),(⟨w.heap.size+1,3,none⟩,.int .i64 (pt:Int)),(⟨w.heap.size+1,4,none⟩,.int .i64 (k:Int)),(⟨w.heap.size+1,5,none⟩,.slice (some ⟨g,o,none⟩) k k),(⟨w.heap.size,0,none⟩,.int .i64 kind),(⟨w.heap.size,1,none⟩,.int .i64 bits),(⟨w.heap.size,2,none⟩,.int .i64 limit),(⟨w.heap.size,3,none⟩,.int .i64 rate),(⟨w.heap.size,4,none⟩,.int .i64 first),(⟨w.heap.size,5,none⟩,.int .i64 second),(⟨b8,13,none⟩,.int .i64 mi),(⟨b8,14,none⟩,.slice y.a3 ml y.c3)]from⟨hbv3,Cells.step hbv3 hCS⟩)) ?_;simp only[zuI];have kN:=Blk.new v2 [.int .i64 0,.slice none 0 0] 74;have zN:s3.heap.size≤v2.heap.size:=hbv2.size;obtain⟨b9,hb9⟩:∃x,v2.heap.size=x:=⟨_,rfl⟩;clear hbv30;rw[hb9]at kN zN⊢;obtain⟨v3,hv3⟩:∃v,(v2.alloc (.cells #[.int .i64 0,.slice none 0 0] 74))=v:=⟨_,rfl⟩;rw[hv3]at hbv3 kN⊢
    repeat
     apply zU (by rw[hY];rfl)
     ·intro w2 hS2;(try simp only[Keeps,Cells]at hS2);go_simp;with_reducible rfl
     simp only[zuI]
    apply yH (by rw[hY];rfl)
    ·go_simp;with_reducible exact⟨rfl,rfl⟩
    refine(HLn.out _ (zA B4 hbv3)).mono ?_;rintro e v4 ⟨VX,rfl,NS,hbv40⟩;have hbv4:=zA hbv3 hbv40;have kN:=kN.step hbv40;obtain⟨ma,mc,rfl⟩:=NS.shape;have NS:=NS.low (hbv3.size);clear hbv40;refine⟨_,rfl,⟨hbv4,Cells.step hbv4 hCS⟩,?_⟩;simp only[zuI]
    repeat
     apply zU (by rw[hY];rfl)
     ·intro w2 hS2;(try simp only[Keeps,Cells]at hS2);go_simp;with_reducible rfl
     simp only[zuI]
    refine zaA 74 (.tmp 9) (.tmp 26) (by rfl) (by rw[hY];rfl) b9 (by rfl) [.int .i64 mi,.slice ma l.length mc] (by rfl) _ 74 kN zeG rfl (by simp[Value.oneCell']) ?_;intro wS ES gS sS;have hbS:Below s3.heap.size s3 wS:=hbv4.trans (yG gS zN hbv4.size);refine⟨⟨hbS,Cells.step hbS hCS⟩,?_⟩;simp only[zuI];exact yY (fin _ _ _ _ wS rfl zN ES (NS.apart14 kN (by decide) (by decide) gS) hbS)
  ·skip
   have hbv20:Below v1.heap.size v1 (v1.alloc (.cells #[.int .i64 0,.slice none 0 0] 74)):=(zF _ _).alloc (zD _) _;have hbv2:=zA hbv1 hbv20;refine yR (by rw[hY];rfl) (by go_simp;first|with_reducible exact⟨rfl,rfl⟩|with_reducible rfl) ((show Below s3.heap.size s3 (v1.alloc (.cells #[.int .i64 0,.slice none 0 0] 74))∧Cells (v1.alloc (.cells #[.int .i64 0,.slice none 0 0] 74)) [(⟨w.heap.size+1,0,none⟩,.slice L.a1 nc L.c1),(⟨w.heap.size+1,1,none⟩,.slice L.a2 np L.c2),(⟨w.heap.size+1,2,none⟩,.slice L.a3 nx L.c3),(⟨w.heap.size+1,3,none⟩,.int .i64 (pt:Int)),(⟨w.heap.size+1,4,none⟩,.int .i64 (k:Int)),(⟨w.heap.size+1,5,none⟩,.slice (some ⟨g,o,none⟩) k k),(⟨w.heap.size,0,none⟩,.int .i64 kind),(⟨w.heap.size,1,none⟩,.int .i64 bits),(⟨w.heap.size,2,none⟩,.int .i64 limit),(⟨w.heap.size,3,none⟩,.int .i64 rate),(⟨w.heap.size,4,none⟩,.int .i64 first),(⟨w.heap.size,5,none⟩,.int .i64 second),(⟨b8,13,none⟩,.int .i64 mi),(⟨b8,14,none⟩,.slice y.a3 ml y.c3)]from⟨hbv2,Cells.step hbv2 hCS⟩)) ?_;simp only[zuI];have kN:=Blk.new v1 [.int .i64 0,.slice none 0 0] 74;have zN:s3.heap.size≤v1.heap.size:=hbv1.size;obtain⟨b9,hb9⟩:∃x,v1.heap.size=x:=⟨_,rfl⟩;clear hbv20;rw[hb9]at kN zN⊢;obtain⟨v2,hv2⟩:∃v,(v1.alloc (.cells #[.int .i64 0,.slice none 0 0] 74))=v:=⟨_,rfl⟩;rw[hv2]at hbv2 kN⊢
   repeat
    apply zU (by rw[hY];rfl)
    ·intro w2 hS2;(try simp only[Keeps,Cells]at hS2);go_simp;with_reducible rfl
    simp only[zuI]
   apply yH (by rw[hY];rfl)
   ·go_simp;with_reducible exact⟨rfl,rfl⟩
   refine(HSe.out _).mono ?_;rintro e v3 ⟨rfl,hbv30⟩;have hbv3:=zA hbv2 hbv30;have kN:=kN.step hbv30;clear hbv30;refine⟨_,rfl,⟨hbv3,Cells.step hbv3 hCS⟩,?_⟩;simp only[zuI]
   repeat
    apply zU (by rw[hY];rfl)
    ·intro w2 hS2;(try simp only[Keeps,Cells]at hS2);go_simp;with_reducible rfl
    simp only[zuI]
   apply yH (by rw[hY];rfl)
   ·go_simp;with_reducible exact⟨rfl,rfl⟩
   refine(HLn.out _ (zA B4 hbv3)).mono ?_;rintro e v4 ⟨VX,rfl,NS,hbv40⟩;have hbv4:=zA hbv3 hbv40;have kN:=kN.step hbv40;obtain⟨ma,mc,rfl⟩:=NS.shape;have NS:=NS.low (hbv3.size);clear hbv40;refine⟨_,rfl,⟨hbv4,Cells.step hbv4 hCS⟩,?_⟩;simp only[zuI]
   repeat
    apply zU (by rw[hY];rfl)
    ·intro w2 hS2;(try simp only[Keeps,Cells]at hS2);go_simp;with_reducible rfl
    simp only[zuI]
   refine zaA 74 (.tmp 9) (.tmp 26) (by rfl) (by rw[hY];rfl) b9 (by rfl) [.int .i64 mi,.slice ma l.length mc] (by rfl) _ 74 kN zeG rfl (by simp[Value.oneCell']) ?_;intro wS ES gS sS;have hbS:Below s3.heap.size s3 wS:=hbv4.trans (yG gS zN hbv4.size);refine⟨⟨hbS,Cells.step hbS hCS⟩,?_⟩;simp only[zuI];exact yY (fin _ _ _ _ wS rfl zN ES (NS.apart14 kN (by decide) (by decide) gS) hbS)
 ·skip
  have hbv10:Below v0.heap.size v0 (v0.alloc (.cells #[.int .i64 0,.slice none 0 0] 74)):=(zF _ _).alloc (zD _) _;have hbv1:=zA hbv0 hbv10;refine yR (by rw[hY];rfl) (by go_simp;first|with_reducible exact⟨rfl,rfl⟩|with_reducible rfl) ((show Below s3.heap.size s3 (v0.alloc (.cells #[.int .i64 0,.slice none 0 0] 74))∧Cells (v0.alloc (.cells #[.int .i64 0,.slice none 0 0] 74)) [(⟨w.heap.size+1,0,none⟩,.slice L.a1 nc L.c1),(⟨w.heap.size+1,1,none⟩,.slice L.a2 np L.c2),(⟨w.heap.size+1,2,none⟩,.slice L.a3 nx L.c3),(⟨w.heap.size+1,3,none⟩,.int .i64 (pt:Int)),(⟨w.heap.size+1,4,none⟩,.int .i64 (k:Int)),(⟨w.heap.size+1,5,none⟩,.slice (some ⟨g,o,none⟩) k k),(⟨w.heap.size,0,none⟩,.int .i64 kind),(⟨w.heap.size,1,none⟩,.int .i64 bits),(⟨w.heap.size,2,none⟩,.int .i64 limit),(⟨w.heap.size,3,none⟩,.int .i64 rate),(⟨w.heap.size,4,none⟩,.int .i64 first),(⟨w.heap.size,5,none⟩,.int .i64 second),(⟨b8,13,none⟩,.int .i64 mi),(⟨b8,14,none⟩,.slice y.a3 ml y.c3)]from⟨hbv1,Cells.step hbv1 hCS⟩)) ?_;simp only[zuI];have kN:=Blk.new v0 [.int .i64 0,.slice none 0 0] 74;have zN:s3.heap.size≤v0.heap.size:=hbv0.size;obtain⟨b9,hb9⟩:∃x,v0.heap.size=x:=⟨_,rfl⟩;clear hbv10;rw[hb9]at kN zN⊢;obtain⟨v1,hv1⟩:∃v,(v0.alloc (.cells #[.int .i64 0,.slice none 0 0] 74))=v:=⟨_,rfl⟩;rw[hv1]at hbv1 kN⊢
  repeat
   apply zU (by rw[hY];rfl)
   ·intro w2 hS2;(try simp only[Keeps,Cells]at hS2);go_simp;with_reducible rfl
   simp only[zuI]
  apply yH (by rw[hY];rfl)
  ·go_simp;with_reducible exact⟨rfl,rfl⟩
  refine(HIx.out _ (zA B4 hbv1)).mono ?_;rintro e v2 ⟨rfl,hbv20⟩;have hbv2:=zA hbv1 hbv20;have kN:=kN.step hbv20;clear hbv20;refine⟨_,rfl,⟨hbv2,Cells.step hbv2 hCS⟩,?_⟩;simp only[zuI]
  repeat
   apply zU (by rw[hY];rfl)
   ·intro w2 hS2;(try simp only[Keeps,Cells]at hS2);go_simp;with_reducible rfl
   simp only[zuI]
  apply yH (by rw[hY];rfl)
  ·go_simp;with_reducible exact⟨rfl,rfl⟩
  refine(HSe.out _).mono ?_;rintro e v3 ⟨rfl,hbv30⟩;have hbv3:=zA hbv2 hbv30;have kN:=kN.step hbv30;clear hbv30;refine⟨_,rfl,⟨hbv3,Cells.step hbv3 hCS⟩,?_⟩;simp only[zuI]
  repeat
   apply zU (by rw[hY];rfl)
   ·intro w2 hS2;(try simp only[Keeps,Cells]at hS2);go_simp;with_reducible rfl
   simp only[zuI]
  apply yH (by rw[hY];rfl)
  ·go_simp;with_reducible exact⟨rfl,rfl⟩
  refine(HLn.out _ (zA B4 hbv3)).mono ?_;rintro e v4 ⟨VX,rfl,NS,hbv40⟩;have hbv4:=zA hbv3 hbv40;have kN:=kN.step hbv40;obtain⟨ma,mc,rfl⟩:=NS.shape;have NS:=NS.low (hbv3.size);clear hbv40;refine⟨_,rfl,⟨hbv4,Cells.step hbv4 hCS⟩,?_⟩;simp only[zuI]
  repeat
   apply zU (by rw[hY];rfl)
   ·intro w2 hS2;(try simp only[Keeps,Cells]at hS2);go_simp;with_reducible rfl
   simp only[zuI]
  refine zaA 74 (.tmp 9) (.tmp 26) (by rfl) (by rw[hY];rfl) b9 (by rfl) [.int .i64 mi,.slice ma l.length mc] (by rfl) _ 74 kN zeG rfl (by simp[Value.oneCell']) ?_;intro wS ES gS sS;have hbS:Below s3.heap.size s3 wS:=hbv4.trans (yG gS zN hbv4.size);refine⟨⟨hbS,Cells.step hbS hCS⟩,?_⟩;simp only[zuI];exact yY (fin _ _ _ _ wS rfl zN ES (NS.apart14 kN (by decide) (by decide) gS) hbS)
