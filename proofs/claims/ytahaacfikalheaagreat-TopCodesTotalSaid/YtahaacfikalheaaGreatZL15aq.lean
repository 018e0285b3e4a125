/- A part of the proof of L15. No condition. -/
import Derived.Handy
import Derived.Lib.MinMax
import Derived.Test.YtahaacfikalheaaGreatRows
import Derived.Test.YtahaacfikalheaaGreatShelf
import Derived.WalkLawsBesides
import Derived.WalkSpells
import Derived.Test.YtahaacfikalheaaGreatZL15ao
set_option linter.all false
set_option maxRecDepth 100000
set_option maxHeartbeats 2000000
namespace Go.Proofs.YtahaacfikalheaaGreat
open Go.RowKit
def zaK(xs:List Int):List Value:=xs.map (Value.int .i64)
theorem yM(xs:List Int):(zaK xs).length=xs.length:=by simp[zaK]
theorem zlG(xs:List Int):∀u∈zaK xs,u.oneCell'=true:=by
 intro u hu;simp only[zaK,List.mem_map]at hu;obtain⟨x,_,rfl⟩:=hu;rfl
theorem elems_ints:Elems Tryz.prog 69 3 1 8 [.int .i64 0]:=⟨Tryz.underlying69,by kernel_rfl,rfl,by decide⟩
def zfE(xs:List Int)(q:Nat):List Int:=(List.replicate q xs).flatten
theorem zeQ(xs:List Int)(q:Nat):(zfE xs q).length=q*xs.length:=by simp[zfE]
theorem reps_add(xs:List Int)(p q:Nat):zfE xs (p+q)=zfE xs p++zfE xs q:=by
 rw[zfE,←List.replicate_append_replicate,List.flatten_append];rfl
theorem reps_one(xs:List Int):zfE xs 1=xs:=by simp[zfE]
theorem zjQ(xs ys:List Int):zaK (xs++ys)=zaK xs++zaK ys:=by simp[zaK]
theorem Rd.setOther{w:World}{b o c i:Nat}{vals:List Value}{v:Value}(h:Rd w (some ⟨b,o,none⟩) vals)(hne:¬b=c):Rd (w.setCell ⟨c,i,none⟩ v) (some ⟨b,o,none⟩) vals:=fun hv=>by
 obtain⟨b',o',e,hr⟩:=h hv;cases e;refine⟨b,o,rfl,fun j u hu=> ?_⟩;rw[World.cell?_setCell_other w ⟨c,i,none⟩ ⟨b,o+j,none⟩ v (fun e=>hne (by cases e;rfl))];exact hr j u hu
theorem zoS{xs:List Int}{cs:List Value}{k m n:Nat}(hl:cs.length=n*xs.length)(ht:cs.take (k*xs.length)=zaK (zfE xs k))(hf:k+m≤n) :
 (splice cs (k*xs.length) (zaK (zfE xs m))).take ((k+m)*xs.length)=zaK (zfE xs (k+m)):=by
 unfold splice;rw[ht,←zcU,←zjQ,←reps_add];exact List.take_left' (by rw[yM,zeQ])
theorem reps_take{xs:List Int}{cs:List Value}{k m:Nat}(ht:cs.take (k*xs.length)=zaK (zfE xs k))(hm:m≤k):cs.take (m*xs.length)=zaK (zfE xs m):=by
 obtain⟨d,rfl⟩:∃d,k=m+d:=⟨k-m,by omega⟩;have h1:(cs.take ((m+d)*xs.length)).take (m*xs.length)=cs.take (m*xs.length):=by rw[List.take_take,zbF (yW _ (by omega))]
 rw[←h1,ht,reps_add,zjQ];exact List.take_left' (by rw[yM,zeQ])
theorem reps_rd{w:World}{b:Nat}{xs:List Int}{cs:List Value}{t:TypeId}{k m:Nat}(hb:Blk w b cs t)(ht:cs.take (k*xs.length)=zaK (zfE xs k))(hm:m≤k):Rd w (some ⟨b,0,none⟩) (zaK (zfE xs m)):=fun _=>by
 refine⟨b,0,rfl,fun j v hv=> ?_⟩;rw[yK,hb.cell];rw[←reps_take ht hm,zbG]at hv;split at hv
 ·exact hv
 ·cases hv
theorem zhQ(xs:List Int)(n:Nat)(a:Option Addr)(c:Nat)(w:World)(hx:1≤xs.length)(hx':xs.length≤1000)(hn:n≤65536)(hrd:Rd w a (zaK xs)) :
 Calls Tryz.prog 207 #[.slice a xs.length c,.int .i64 n] w fun e w'=>∃b,e = .returned (.slice (some ⟨b,0,none⟩) (n*xs.length) (n*xs.length))∧w.heap.size≤b∧Blk w' b (zaK (zfE xs n)) 3∧Below w.heap.size w w':=by
 obtain⟨L,hL⟩:∃L,L=xs.length:=⟨_,rfl⟩;have hN:n*L≤65536000:=yC (Nat.mul_le_mul_left _ (by omega:L≤1000)) (by omega);have hm1:L*n/18446744073709551616=0:=by rw[zdL];omega
 have hm2:L*n%18446744073709551616=n*L:=by rw[zdL];omega
 have hmul:=fun W=>Tryz.bits_Mul L n (by omega) (by omega) W;simp only[hm1,hm2]at hmul;have Hmul:=zB hmul;clear hmul;rw[←hL]at hx hx'⊢;have hone:∀(m:Nat),∀u∈zaK (zfE xs m),u.oneCell'=true:=fun m=>zlG _
 have hrd1:∀W,Below w.heap.size w W→Rd W a (zaK (zfE xs (min 1 n))):=fun W hb=>by
  rcases zeC n with h0|h0
  ·subst h0;exact Rd.nil _ _
  ·rw[zbF h0,reps_one];exact hrd.step hb
 have Hrd1:=zB hrd1;clear hrd1 hrd;have HL:=zB hL;have hlen:∀q,(zaK (zfE xs q)).length=q*L:=fun q=>by rw[yM,zeQ,hL]
 have Hlen:=zB hlen;clear hL hlen;have hmin:min 1 n≤n:=by omega
 have hmL:min 1 n*L≤n*L:=yW _ hmin;have hmL2:min 1 n*L=min L (n*L):=by
  rcases zeC n with h0|h0
  ·subst h0;simp
  ·rw[zbF h0,Nat.one_mul,zbF];exact Nat.le_mul_of_pos_left _ h0
 have HmL2:=zB hmL2;clear hmL2;obtain⟨NL,hNL⟩:∃NL,NL=n*L:=⟨_,rfl⟩;rw[←hNL]at hN Hmul hmL HmL2⊢;have HNL:=zB hNL;have hw1:IntKind.u64.wrap (L:Int)=L:=by rw[IntKind.wrap_u64];omega
 have hw2:IntKind.u64.wrap (n:Int)=n:=by rw[IntKind.wrap_u64];omega
 have hw3:IntKind.i64.wrap (NL:Int)=NL:=IntWalk.i64_in _ (by omega);clear hNL;go_enter Tryz.func207,Tryz.ntmps207;go_wp2_with fail;refine(Hmul.out _).mono ?_;rintro e w1 ⟨rfl,rfl⟩;go_wp2_with (at_make;refine zhN (.tmp 29) 69 3 1 8 _ elems_ints rfl rfl .i64 NL rfl (by omega) (by unfold maxLen;omega) ?_;intro w2 Z hZ hZl hs2 hb2);have hfit:(zaK (zfE xs (min 1 n))).length≤NL:=by rw[Hlen.out];exact hmL
 rw[zeZ (P:=Tryz.prog) w2 69 69 3 3 1 Tryz.underlying69 (by kernel_rfl) w1.heap.size 0 NL NL a L c (min 1 n*L) HmL2.out (zaK (zfE xs (min 1 n))) (by rw[Hlen.out,zaO]) (Hrd1.out _ hb2) (zjZ hZ 0 _ (by omega)) (hone _)];have hZ3:=hZ.setCells (zaK (zfE xs (min 1 n))) 0 (by omega);have hB3:Below w1.heap.size w1 (w2.setCells w1.heap.size 0 (zaK (zfE xs (min 1 n)))):=hb2.trans (zcW (zD _) _ _ _);have hl3:(splice Z 0 (zaK (zfE xs (min 1 n)))).length=n*xs.length:=by rw[length_splice _ _ _ (by omega),hZl,zaO,HNL.out,HL.out]
 have ht3:(splice Z 0 (zaK (zfE xs (min 1 n)))).take (min 1 n*xs.length)=zaK (zfE xs (min 1 n)):=by
  have:=zoS (xs:=xs) (k:=0) (m:=min 1 n) (cs:=Z) (n:=n) (by rw[hZl,zaO,HNL.out,HL.out]) (by simp[zfE,zaK]) (by omega);rw[Nat.zero_mul,yK]at this;exact this
 generalize w2.setCells w1.heap.size 0 (zaK (zfE xs (min 1 n)))=w3 at *;generalize splice Z 0 (zaK (zfE xs (min 1 n)))=cs3 at *;have H3:=zB ht3;have HZ3:=zB hZ3;have Hl3:=zB hl3;clear ht3 hZ3 hZ hZl hb2 hs2 hfit hl3;go_wp2_with fail
 go_loopw [8] (fun v8 wr=>∃(k kL:Nat) (cs:List Value),k≤n∧(n=0∨1≤k)∧kL=k*L∧v8 = .int .i64 kL∧Blk wr w1.heap.size cs 3∧cs.length=n*xs.length∧cs.take (k*xs.length)=zaK (zfE xs k)∧Below w1.heap.size w1 wr)
  (fun v8 _=>NL-(intOf v8).toNat)
 case atStart=>exact⟨min 1 n,min 1 n*L,cs3,hmin,by omega,rfl,rfl,HZ3.out,Hl3.out,H3.out,hB3⟩
 case round=>
  obtain⟨k,kL,cs,hk,hk1,hkL,rfl,hblk,hl,ht,hB⟩:=hrel;have Hblk:=zB hblk;have Ht:=zB ht;have HkL:=zB hkL;have Hl:=zB hl;have hkle:kL≤NL:=by rw[hkL,HNL.out];exact yW _ hk
  clear hblk ht hkL hl;have zr:w1.heap.size≤wr.heap.size:=hB.size;by_cases hlt:k<n
  ·obtain⟨m,hmdef⟩:∃m,m=min k (n-k):=⟨_,rfl⟩;have hm1:1≤m:=by omega
   have hmk:m≤k:=by omega
   have hmn:k+m≤n:=by omega
   obtain⟨mL,hmL3⟩:∃mL,mL=m*L:=⟨_,rfl⟩;have hmLpos:1≤mL:=by rw[hmL3];exact yC hm1 (Nat.le_mul_of_pos_right _ hx)
   have hsum:kL+mL≤NL:=by
    rw[HkL.out,hmL3,HNL.out,←Nat.add_mul];exact yW _ hmn
   have hdiff:NL-kL=(n-k)*L:=by rw[HNL.out,HkL.out,Nat.sub_mul]
   have hmm:mL=min kL (NL-kL):=by
    rw[hdiff,HkL.out,hmL3,hmdef];rcases Nat.le_total k (n-k)with h|h
    ·rw[zbF h,zbF (yW _ h)]
    ·rw[Nat.min_eq_right h,Nat.min_eq_right (yW _ h)]
   have hl4:(kL:Int)<(NL:Int):=by omega
   have hk0:¬(kL:Int)<0:=by omega
   have hne:¬NL=kL:=by omega
   have Hmm:=zB hmm;have HmL3:=zB hmL3;clear hmm hmL3 hdiff hmdef;go_wp2_with fail;refine ziR 7 3 _ _ (by kernel_rfl) (yB 7 _).symm rfl rfl (by kernel_rfl) (fun Y F hY hF=> ?_);simp only[ltc,ltz,ldc,ldz]
   repeat
    apply zmR (by rw[hY];rfl)
    ·intro w2;go_simp;with_reducible rfl
    simp only[zuI]
   refine hF.out _ (fun K hK=> ?_);clear hF hY;simp only[ldc,ldz];go_wp2_with fail;have hfit:(zaK (zfE xs m)).length=mL:=by rw[Hlen.out,HmL3.out]
   have hcl:cs.length=NL:=by rw[Hl.out,HNL.out,HL.out]
   rw[zeZ (P:=Tryz.prog) wr.drew 69 69 3 3 1 Tryz.underlying69 (by kernel_rfl) w1.heap.size kL (NL-kL) (NL-kL) (some ⟨w1.heap.size,0,none⟩) kL NL mL Hmm.out (zaK (zfE xs m)) (by rw[hfit,zaO]) (reps_rd Hblk.out.drew Ht.out hmk) (zjZ Hblk.out.drew kL _ (by omega)) (hone _)];have hZ4:=Hblk.out.drew.setCells (zaK (zfE xs m)) kL (by omega);have hB4:Below w1.heap.size w1 (wr.drew.setCells w1.heap.size kL (zaK (zfE xs m))):=hB.drew.trans (zcW (zD _) _ _ _);have hl5:(splice cs kL (zaK (zfE xs m))).length=n*xs.length:=by rw[length_splice _ _ _ (by omega)];exact Hl.out
   have ht4:(splice cs kL (zaK (zfE xs m))).take ((k+m)*xs.length)=zaK (zfE xs (k+m)):=by
    have:=zoS Hl.out Ht.out hmn;rw[←HL.out,←HkL.out]at this;rw[←HL.out];exact this
   generalize wr.drew.setCells w1.heap.size kL (zaK (zfE xs m))=w4 at *;generalize splice cs kL (zaK (zfE xs m))=cs4 at *;have H4:=zB ht4;have HZ4:=zB hZ4;have Hl5:=zB hl5;clear ht4 hZ4 Hblk Ht hl5 hfit hcl;have hwr:IntKind.i64.wrap ((kL:Int)+(mL:Int))=((kL+mL:Nat):Int):=by rw[IntWalk.i64_in _ (by omega)];omega
   go_wp2_with fail;refine OnlyK.mk (hK.out _ _ ?_)
   change _∧_
   go_roundw
   case rel=>exact⟨k+m,kL+mL,cs4,hmn,by omega,by rw[HkL.out,HmL3.out,Nat.add_mul],by go_num,HZ4.out,Hl5.out,H4.out,hB4⟩
   case measure=>simp[intOf];omega
  ·obtain rfl:k=n:=by omega
   have he:kL=NL:=by rw[HkL.out,HNL.out]
   subst he;go_wp2;go_returns;have e:cs=zaK (zfE xs k):=by rw[←Ht.out,zeM (by rw[Hl.out];exact zD _)]
   subst e;exact⟨_,rfl,zD _,Hblk.out,hB⟩
theorem zrB(xs:List Int)(n:Nat)(a:Option Addr)(c:Nat)(w:World)(hx:1≤xs.length)(hx':xs.length≤1000)(hn:n≤65536)(hrd:Rd w a (zaK xs)) :
 Calls Tryz.prog 207 #[.slice a xs.length c,.int .i64 n] w fun e w'=>∃b,e = .returned (.slice (some ⟨b,0,none⟩) (n*xs.length) (n*xs.length))∧w.heap.size≤b∧Rd w' (some ⟨b,0,none⟩) (zaK (zfE xs n))∧Below w.heap.size w w':=
 (zhQ xs n a c w hx hx' hn hrd).mono fun e w' ⟨b,h1,h2,h3,h4⟩=>⟨b,h1,h2,fun _=>⟨_,0,rfl,h3.cells⟩,h4⟩
