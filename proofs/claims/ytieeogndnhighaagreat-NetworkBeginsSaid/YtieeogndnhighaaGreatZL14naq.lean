/- A part of the proof of L14n. No condition. -/
import Derived.Handy
import Derived.Lib.MinMax
import Derived.Test.YtieeogndnhighaaGreatRows
import Derived.Test.YtieeogndnhighaaGreatShelf
import Derived.WalkLawsBesides
import Derived.WalkSpells
import Derived.Test.YtieeogndnhighaaGreatZL14nap
set_option linter.all false
set_option maxRecDepth 100000
set_option maxHeartbeats 2000000
namespace Go.Proofs.YtieeogndnhighaaGreat
open Go.RowKit
def zaO(xs:List Int):List Value:=xs.map (Value.int .i64)
theorem yL(xs:List Int):(zaO xs).length=xs.length:=by simp[zaO]
theorem Ints_one(xs:List Int):∀u∈zaO xs,u.oneCell'=true:=by
 intro u hu;simp only[zaO,List.mem_map]at hu;obtain⟨x,_,rfl⟩:=hu;rfl
theorem elems_ints:Elems Tryz.prog 39 3 1 8 [.int .i64 0]:=⟨Tryz.underlying39,by kernel_rfl,rfl,by decide⟩
def zcT(xs:List Int)(q:Nat):List Int:=(List.replicate q xs).flatten
theorem zcO(xs:List Int)(q:Nat):(zcT xs q).length=q*xs.length:=by simp[zcT]
theorem zqD(xs:List Int)(p q:Nat):zcT xs (p+q)=zcT xs p++zcT xs q:=by
 rw[zcT,←List.replicate_append_replicate,List.flatten_append];rfl
theorem reps_one(xs:List Int):zcT xs 1=xs:=by simp[zcT]
theorem zeF(xs ys:List Int):zaO (xs++ys)=zaO xs++zaO ys:=by simp[zaO]
theorem Rd.setOther{w:World}{b o c i:Nat}{vals:List Value}{v:Value}(h:Rd w (some ⟨b,o,none⟩) vals)(hne:¬b=c):Rd (w.setCell ⟨c,i,none⟩ v) (some ⟨b,o,none⟩) vals:=fun hv=>by
 obtain⟨b',o',e,hr⟩:=h hv;cases e;refine⟨b,o,rfl,fun j u hu=> ?_⟩;rw[World.cell?_setCell_other w ⟨c,i,none⟩ ⟨b,o+j,none⟩ v (fun e=>hne (by cases e;rfl))];exact hr j u hu
theorem zmR{xs:List Int}{cs:List Value}{k m n:Nat}(hl:cs.length=n*xs.length)(ht:cs.take (k*xs.length)=zaO (zcT xs k))(hf:k+m≤n) :
 (splice cs (k*xs.length) (zaO (zcT xs m))).take ((k+m)*xs.length)=zaO (zcT xs (k+m)):=by
 unfold splice;rw[ht,←List.append_assoc,←zeF,←zqD];exact List.take_left' (by rw[yL,zcO])
theorem reps_take{xs:List Int}{cs:List Value}{k m:Nat}(ht:cs.take (k*xs.length)=zaO (zcT xs k))(hm:m≤k):cs.take (m*xs.length)=zaO (zcT xs m):=by
 obtain⟨d,rfl⟩:∃d,k=m+d:=⟨k-m,by omega⟩;have h1:(cs.take ((m+d)*xs.length)).take (m*xs.length)=cs.take (m*xs.length):=by rw[List.take_take,zdS (Nat.mul_le_mul_right _ (by omega))]
 rw[←h1,ht,zqD,zeF];exact List.take_left' (by rw[yL,zcO])
theorem reps_rd{w:World}{b:Nat}{xs:List Int}{cs:List Value}{t:TypeId}{k m:Nat}(hb:Blk w b cs t)(ht:cs.take (k*xs.length)=zaO (zcT xs k))(hm:m≤k):Rd w (some ⟨b,0,none⟩) (zaO (zcT xs m)):=fun _=>by
 refine⟨b,0,rfl,fun j v hv=> ?_⟩;rw[yV,hb.cell];rw[←reps_take ht hm,List.getElem?_take]at hv;split at hv
 ·exact hv
 ·cases hv
theorem zgE(xs:List Int)(n:Nat)(a:Option Addr)(c:Nat)(w:World)(hx:1≤xs.length)(hx':xs.length≤1000)(hn:n≤65536)(hrd:Rd w a (zaO xs)) :
 Calls Tryz.prog 275 #[.slice a xs.length c,.int .i64 n] w fun e w'=>∃b,e = .returned (.slice (some ⟨b,0,none⟩) (n*xs.length) (n*xs.length))∧w.heap.size≤b∧Blk w' b (zaO (zcT xs n)) 3∧Below w.heap.size w w':=by
 obtain⟨L,hL⟩:∃L,L=xs.length:=⟨_,rfl⟩;have hN:n*L≤65536000:=yD (Nat.mul_le_mul_left _ (by omega:L≤1000)) (by omega);have hm1:L*n/18446744073709551616=0:=by rw[Nat.mul_comm];omega
 have hm2:L*n%18446744073709551616=n*L:=by rw[Nat.mul_comm];omega
 have hmul:=fun W=>Tryz.bits_Mul L n (by omega) (by omega) W;simp only[hm1,hm2]at hmul;have Hmul:=zD hmul;clear hmul;rw[←hL]at hx hx'⊢;have hone:∀(m:Nat),∀u∈zaO (zcT xs m),u.oneCell'=true:=fun m=>Ints_one _
 have hrd1:∀W,Below w.heap.size w W→Rd W a (zaO (zcT xs (min 1 n))):=fun W hb=>by
  rcases zbG n with h0|h0
  ·subst h0;exact Rd.nil _ _
  ·rw[zdS h0,reps_one];exact hrd.step hb
 have Hrd1:=zD hrd1;clear hrd1 hrd;have HL:=zD hL;have hlen:∀q,(zaO (zcT xs q)).length=q*L:=fun q=>by rw[yL,zcO,hL]
 have Hlen:=zD hlen;clear hL hlen;have hmin:min 1 n≤n:=by omega
 have hmL:min 1 n*L≤n*L:=Nat.mul_le_mul_right _ hmin;have hmL2:min 1 n*L=min L (n*L):=by
  rcases zbG n with h0|h0
  ·subst h0;simp
  ·rw[zdS h0,Nat.one_mul,zdS];exact Nat.le_mul_of_pos_left _ h0
 have HmL2:=zD hmL2;clear hmL2;obtain⟨NL,hNL⟩:∃NL,NL=n*L:=⟨_,rfl⟩;rw[←hNL]at hN Hmul hmL HmL2⊢;have HNL:=zD hNL;have hw1:IntKind.u64.wrap (L:Int)=L:=by rw[IntKind.wrap_u64];omega
 have hw2:IntKind.u64.wrap (n:Int)=n:=by rw[IntKind.wrap_u64];omega
 have hw3:IntKind.i64.wrap (NL:Int)=NL:=IntWalk.i64_in _ (by omega);clear hNL;go_enter Tryz.func275,Tryz.ntmps275;go_wp2_with fail;refine(Hmul.out _).mono ?_;rintro e w1 ⟨rfl,rfl⟩;go_wp2_with (at_make;refine zgA (.tmp 29) 39 3 1 8 _ elems_ints rfl rfl .i64 NL rfl (by omega) (by unfold maxLen;omega) ?_;intro w2 Z hZ hZl hs2 hb2);have hfit:(zaO (zcT xs (min 1 n))).length≤NL:=by rw[Hlen.out];exact hmL
 rw[zdJ (P:=Tryz.prog) w2 39 39 3 3 1 Tryz.underlying39 (by kernel_rfl) w1.heap.size 0 NL NL a L c (min 1 n*L) HmL2.out (zaO (zcT xs (min 1 n))) (by rw[Hlen.out,Nat.mul_one]) (Hrd1.out _ hb2) (ziH hZ 0 _ (by omega)) (hone _)];have hZ3:=hZ.setCells (zaO (zcT xs (min 1 n))) 0 (by omega);have hB3:Below w1.heap.size w1 (w2.setCells w1.heap.size 0 (zaO (zcT xs (min 1 n)))):=hb2.trans (zcA (zE _) _ _ _);have hl3:(splice Z 0 (zaO (zcT xs (min 1 n)))).length=n*xs.length:=by rw[length_splice _ _ _ (by omega),hZl,Nat.mul_one,HNL.out,HL.out]
 have ht3:(splice Z 0 (zaO (zcT xs (min 1 n)))).take (min 1 n*xs.length)=zaO (zcT xs (min 1 n)):=by
  have:=zmR (xs:=xs) (k:=0) (m:=min 1 n) (cs:=Z) (n:=n) (by rw[hZl,Nat.mul_one,HNL.out,HL.out]) (by simp[zcT,zaO]) (by omega);rw[Nat.zero_mul,yV]at this;exact this
 generalize w2.setCells w1.heap.size 0 (zaO (zcT xs (min 1 n)))=w3 at *;generalize splice Z 0 (zaO (zcT xs (min 1 n)))=cs3 at *;have H3:=zD ht3;have HZ3:=zD hZ3;have Hl3:=zD hl3;clear ht3 hZ3 hZ hZl hb2 hs2 hfit hl3;go_wp2_with fail
 go_loopw [8] (fun v8 wr=>∃(k kL:Nat) (cs:List Value),k≤n∧(n=0∨1≤k)∧kL=k*L∧v8 = .int .i64 kL∧Blk wr w1.heap.size cs 3∧cs.length=n*xs.length∧cs.take (k*xs.length)=zaO (zcT xs k)∧Below w1.heap.size w1 wr)
  (fun v8 _=>NL-(intOf v8).toNat)
 case atStart=>exact⟨min 1 n,min 1 n*L,cs3,hmin,by omega,rfl,rfl,HZ3.out,Hl3.out,H3.out,hB3⟩
 case round=>
  obtain⟨k,kL,cs,hk,hk1,hkL,rfl,hblk,hl,ht,hB⟩:=hrel;have Hblk:=zD hblk;have Ht:=zD ht;have HkL:=zD hkL;have Hl:=zD hl;have hkle:kL≤NL:=by rw[hkL,HNL.out];exact Nat.mul_le_mul_right _ hk
  clear hblk ht hkL hl;have zr:w1.heap.size≤wr.heap.size:=hB.size;by_cases hlt:k<n
  ·obtain⟨m,hmdef⟩:∃m,m=min k (n-k):=⟨_,rfl⟩;have hm1:1≤m:=by omega
   have hmk:m≤k:=by omega
   have hmn:k+m≤n:=by omega
   obtain⟨mL,hmL3⟩:∃mL,mL=m*L:=⟨_,rfl⟩;have hmLpos:1≤mL:=by rw[hmL3];exact yD hm1 (Nat.le_mul_of_pos_right _ hx)
   have hsum:kL+mL≤NL:=by
    rw[HkL.out,hmL3,HNL.out,←Nat.add_mul];exact Nat.mul_le_mul_right _ hmn
   have hdiff:NL-kL=(n-k)*L:=by rw[HNL.out,HkL.out,Nat.sub_mul]
   have hmm:mL=min kL (NL-kL):=by
    rw[hdiff,HkL.out,hmL3,hmdef];rcases Nat.le_total k (n-k)with h|h
    ·rw[zdS h,zdS (Nat.mul_le_mul_right _ h)]
    ·rw[Nat.min_eq_right h,Nat.min_eq_right (Nat.mul_le_mul_right _ h)]
   have hl4:(kL:Int)<(NL:Int):=by omega
   have hk0:¬(kL:Int)<0:=by omega
   have hne:¬NL=kL:=by omega
   have Hmm:=zD hmm;have HmL3:=zD hmL3;clear hmm hmL3 hdiff hmdef;go_wp2_with fail;refine zhB 7 3 _ _ (by kernel_rfl) (zaF 7 _).symm rfl rfl (by kernel_rfl) (fun Y F hY hF=> ?_);simp only[ltc,ltz,ldc,ldz]
   repeat
    apply zkT (by rw[hY];rfl)
    ·intro w2;go_simp;with_reducible rfl
    simp only[zrB]
   refine hF.out _ (fun K hK=> ?_);clear hF hY;simp only[ldc,ldz];go_wp2_with fail;have hfit:(zaO (zcT xs m)).length=mL:=by rw[Hlen.out,HmL3.out]
   have hcl:cs.length=NL:=by rw[Hl.out,HNL.out,HL.out]
   rw[zdJ (P:=Tryz.prog) wr.drew 39 39 3 3 1 Tryz.underlying39 (by kernel_rfl) w1.heap.size kL (NL-kL) (NL-kL) (some ⟨w1.heap.size,0,none⟩) kL NL mL Hmm.out (zaO (zcT xs m)) (by rw[hfit,Nat.mul_one]) (reps_rd Hblk.out.drew Ht.out hmk) (ziH Hblk.out.drew kL _ (by omega)) (hone _)];have hZ4:=Hblk.out.drew.setCells (zaO (zcT xs m)) kL (by omega);have hB4:Below w1.heap.size w1 (wr.drew.setCells w1.heap.size kL (zaO (zcT xs m))):=hB.drew.trans (zcA (zE _) _ _ _);have hl5:(splice cs kL (zaO (zcT xs m))).length=n*xs.length:=by rw[length_splice _ _ _ (by omega)];exact Hl.out
   have ht4:(splice cs kL (zaO (zcT xs m))).take ((k+m)*xs.length)=zaO (zcT xs (k+m)):=by
    have:=zmR Hl.out Ht.out hmn;rw[←HL.out,←HkL.out]at this;rw[←HL.out];exact this
   generalize wr.drew.setCells w1.heap.size kL (zaO (zcT xs m))=w4 at *;generalize splice cs kL (zaO (zcT xs m))=cs4 at *;have H4:=zD ht4;have HZ4:=zD hZ4;have Hl5:=zD hl5;clear ht4 hZ4 Hblk Ht hl5 hfit hcl;have hwr:IntKind.i64.wrap ((kL:Int)+(mL:Int))=((kL+mL:Nat):Int):=by rw[IntWalk.i64_in _ (by omega)];omega
   go_wp2_with fail;refine OnlyK.mk (hK.out _ _ ?_)
   change _∧_
   go_roundw
   case rel=>exact⟨k+m,kL+mL,cs4,hmn,by omega,by rw[HkL.out,HmL3.out,Nat.add_mul],by go_num,HZ4.out,Hl5.out,H4.out,hB4⟩
   case measure=>simp[intOf];omega
  ·obtain rfl:k=n:=by omega
   have he:kL=NL:=by rw[HkL.out,HNL.out]
   subst he;go_wp2;go_returns;have e:cs=zaO (zcT xs k):=by rw[←Ht.out,zdB (by rw[Hl.out];exact zE _)]
   subst e;exact⟨_,rfl,zE _,Hblk.out,hB⟩
theorem zoJ(xs:List Int)(n:Nat)(a:Option Addr)(c:Nat)(w:World)(hx:1≤xs.length)(hx':xs.length≤1000)(hn:n≤65536)(hrd:Rd w a (zaO xs)) :
 Calls Tryz.prog 275 #[.slice a xs.length c,.int .i64 n] w fun e w'=>∃b,e = .returned (.slice (some ⟨b,0,none⟩) (n*xs.length) (n*xs.length))∧w.heap.size≤b∧Rd w' (some ⟨b,0,none⟩) (zaO (zcT xs n))∧Below w.heap.size w w':=
 (zgE xs n a c w hx hx' hn hrd).mono fun e w' ⟨b,h1,h2,h3,h4⟩=>⟨b,h1,h2,fun _=>⟨_,0,rfl,h3.cells⟩,h4⟩
