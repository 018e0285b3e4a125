/- A part of the proof of L15. No condition. -/
import Derived.Lib.SliceRun
import Derived.Test.YtahaacfikalheaaGreatZL15bi
set_option linter.all false
set_option maxRecDepth 100000
set_option maxHeartbeats 2000000
namespace Go.Proofs.YtahaacfikalheaaGreat
open Go.RowKit
def S10.openN(bits:Int)(xs:List Int)(hash:Nat):Nat:=if S10.check bits xs=0 then((S10.find bits.toNat xs hash).getD ((S10.least xs (S10.places bits.toNat hash)).getD 0))else 0
def S10.setMany:List Int→Nat→List Int→List Int
 | xs,_,[]=>xs
 | xs,i,y::ys=>S10.setMany (xs.set i y) (i+1) ys
def S10.fresh(xs:List Int)(n mk:Nat):List Int:=(S10.setMany xs (16*n) (List.replicate 16 0)).set (16*n) (mk:Int)
def S10.openX(bits:Int)(xs:List Int)(hash:Nat):List Int:=if S10.check bits xs=0 then(if(S10.find bits.toNat xs hash).isSome then xs else S10.fresh xs (S10.openN bits xs hash) (S10.mark hash))else []
def S10.openB(bits:Int)(xs:List Int):Int:=if S10.check bits xs=0 then bits else 0
theorem open10_bad(bits:Int)(xs:List Int)(hash:Nat)(a:Option Addr)(cap:Nat)(w:World)(hT:Tab xs a cap w)(hc:¬S10.check bits xs=0) :
 Calls Tryz.prog 45 #[zhO bits xs a cap,.int .u32 (hash:Int)] w fun e w'=>e = .returned (.tuple #[.agg #[.int .i64 0,.slice none 0 0],.int .i64 0,.int .i64 (S10.check bits xs)])∧Below w.heap.size w w':=by
 have HC:=zB fun W (h:Tab xs a cap W)=>zfY bits xs h.ok a cap h.cap W h.rd;unfold zhO;have hc':(S10.check bits xs != 0)=true:=by simpa using hc
 generalize S10.check bits xs=C at *;clear hc;go_enter Tryz.func45,Tryz.ntmps45;go_wp2_with fail;refine(HC.out _ (hT.step (by go_grown))).mono ?_;rintro e w1 ⟨rfl,hb1⟩;have hB1:Below w.heap.size w w1:=zA (by go_grown) hb1;have z1:w.heap.size≤w1.heap.size:=hB1.size;have hc2:Blk w1 (w.heap.size+1) [.int .i64 0,.slice none 0 0] 68:=by
  have h:=(Blk.new (w.alloc (.cells #[.int .i64 bits,.slice a xs.length cap] 68)) [.int .i64 0,.slice none 0 0] 68).step hb1;rwa[zV]at h
 have r0:=hc2.cell 0;have r1:=hc2.cell 1;have f0:=hc2.free 0;have f1:=hc2.free 1;have g:=(hc2.set 0 (.int .i64 0)).set 1 (.slice none 0 0);have g0:=g.cell 0;have g1:=g.cell 1;simp only[sC0,sCs,lgz,lgs]at g0 g1 r0 r1;clear hc2 g;go_wp2;exact bodyPost_ret (v:=.tuple #[.agg #[.int .i64 0,.slice none 0 0],.int .i64 0,.int .i64 C]) (by simp[results,Tryz.results45,go_sem,g0,g1]) rfl ⟨rfl,(hB1.setCell (p:=⟨w.heap.size+1,0,none⟩) (by simp) _).setCell (p:=⟨w.heap.size+1,1,none⟩) (by simp) _⟩
theorem open10_found(n:Nat)(xs:List Int)(hash i:Nat)(hn:n≤16)(hl:xs.length=16*2^n)(hh:hash<4294967296)(hc:S10.check (n:Int) xs=0)(hi:S10.find n xs hash=some i)(b off cap:Nat)(w:World)(hT:Tab xs (some ⟨b,off,none⟩) cap w)(hcs:w.rangeAt b off (Bts xs)) :
 Calls Tryz.prog 45 #[zhO (n:Int) xs (some ⟨b,off,none⟩) cap,.int .u32 (hash:Int)] w fun e w'=>∃b cap',e = .returned (.tuple #[zhO (n:Int) xs (some ⟨b,0,none⟩) cap',.int .i64 (i:Int),.int .i64 0])∧OB w' w.heap.size b cap' xs∧Below w.heap.size w w':=by
 have HC:=zB fun W (h:Tab xs (some ⟨b,off,none⟩) cap W)=>zfY (n:Int) xs h.ok (some ⟨b,off,none⟩) cap h.cap W h.rd;rw[hc]at HC;have hps:=zcJ hn;have hpp:=zcB n;have HCl:=zB fun W (h:Rd W (some ⟨b,off,none⟩) (Bts xs))=>zjL (n:Int) xs (some ⟨b,off,none⟩) cap W (by omega) (by omega) h;have hcap:=hT.cap;have HF:=zB fun W (h:W.rangeAt b off (Bts xs))=>zsJ n hash hn hh xs hl b off cap (by rw[←hl];exact hcap) W h;rw[←hl,hi]at HF;simp only[zeK,Option.isSome_some]at HF;clear hc hl hps hpp;unfold zhO at *;go_enter Tryz.func45,Tryz.ntmps45;go_wp2_with fail;refine(HC.out _ (hT.step (by go_grown))).mono ?_;rintro e w1 ⟨rfl,hb1⟩;have hB1:Below w.heap.size w w1:=zA (by go_grown) hb1;have z1:w.heap.size≤w1.heap.size:=hB1.size;have hc1:Blk w1 w.heap.size [.int .i64 (n:Int),.slice (some ⟨b,off,none⟩) xs.length cap] 68:=((Blk.new w _ _).alloc _).step hb1;have hc2:Blk w1 (w.heap.size+1) [.int .i64 0,.slice none 0 0] 68:=by
  have h:=(Blk.new (w.alloc (.cells #[.int .i64 (n:Int),.slice (some ⟨b,off,none⟩) xs.length cap] 68)) [.int .i64 0,.slice none 0 0] 68).step hb1;rwa[zV]at h
 have k1:=hc1.cell 0;have k2:=hc1.cell 1;simp only[zuK]at k1 k2;go_wp2_with fail;refine(HCl.out _ (hT.rd.step hB1)).mono ?_;rintro e w2 ⟨b2,cap2,rfl,ho2,hb2⟩;have hB2:=zA hB1 hb2;have z2:=hB2.size;have hd1:=hc1.step hb2;have hd2:=hc2.step hb2;have k3:=hd1.cell 0;have k4:=hd1.cell 1;simp only[zuK]at k3 k4;have l1:=hd1.lt;have l2:=hd2.lt;go_wp2_with fail;refine(HF.out _ (zcD (zcD hcs hB2) ((zF _ w2).alloc (zD _) _))).mono ?_;rintro e w3 ⟨rfl,hb3⟩;have hb3':Below w2.heap.size w2 w3:=zA ((zF _ w2).alloc (zD _) _) hb3;have hB3:=zA hB2 hb3';have hv3:Blk w3 w2.heap.size [.int .i64 (n:Int),.slice (some ⟨b2,0,none⟩) xs.length cap2] 68:=(Blk.new w2 _ _).step hb3;have he2:=hd2.step hb3';have ho3:=ho2.step hb3';have q0:=hv3.cell 0;have q1:=hv3.cell 1;have r0:=he2.cell 0;have r1:=he2.cell 1;have f0:=he2.free 0;have f1:=he2.free 1;have g:=(he2.set 0 (.int .i64 (n:Int))).set 1 (.slice (some ⟨b2,0,none⟩) xs.length cap2);have g0:=g.cell 0;have g1:=g.cell 1;simp only[sC0,sCs,lgz,lgs]at q0 q1 g0 g1 r0 r1;have zb:w.heap.size+1<b2:=by have:=hc2.lt;have:=ho2.1;omega
 have ho4:=((ho3.mono (base':=w.heap.size) (by omega)).other (w.heap.size+1) 0 (.int .i64 (n:Int)) (by omega)).other (w.heap.size+1) 1 (.slice (some ⟨b2,0,none⟩) xs.length cap2) (by omega);have Ho4:=zB ho4;clear ho2 ho3 ho4 g he2 hv3 hd1 hd2 hc1 hc2;go_wp2;exact bodyPost_ret (v:=.tuple #[.agg #[.int .i64 (n:Int),.slice (some ⟨b2,0,none⟩) xs.length cap2],.int .i64 (i:Int),.int .i64 0]) (by simp[results,Tryz.results45,go_sem,g0,g1]) rfl ⟨b2,cap2,rfl,Ho4.out,(hB3.setCell (p:=⟨w.heap.size+1,0,none⟩) (by simp) _).setCell (p:=⟨w.heap.size+1,1,none⟩) (by simp) _⟩
end Go.Proofs.YtahaacfikalheaaGreat
namespace Go.Proofs.YtahaacfikalheaaGreat
open Go.RowKit
theorem zfT:∀(ys xs:List Int) (i:Nat),(S10.setMany xs i ys).length=xs.length
 | [],xs,i=>rfl
 | z::ys,xs,i=>by
   show(S10.setMany (xs.set i z) (i+1) ys).length=_;rw[zfT ys,yT]
theorem OB.setCells{base b cap:Nat}:∀(ys:List Int) (i:Nat) (w:World) (xs:List Int),OB w base b cap xs→OB (w.setCells b i (Bts ys)) base b cap (S10.setMany xs i ys)
 | [],i,w,xs,h=>h
 | y::ys,i,w,xs,h=>OB.setCells ys (i+1) _ _ (h.set i y)
theorem Below.setCells{B b:Nat}(hb:B≤b):∀(vs:List Value) (i:Nat) (A w:World),Below B A w→Below B A (w.setCells b i vs)
 | [],i,A,w,h=>h
 | v::vs,i,A,w,h=>Below.setCells hb vs (i+1) A _ (h.setCell (p:=⟨b,i,none⟩) hb v)
theorem Blk.setCellsOut{c:Nat}{cs:List Value}{t:TypeId}(b:Nat)(hne:¬c=b):∀(vs:List Value) (i:Nat) (w:World),Blk w c cs t→Blk (w.setCells b i vs) c cs t
 | [],i,w,h=>h
 | v::vs,i,w,h=>Blk.setCellsOut b hne vs (i+1) _ (h.other b i v hne)
theorem zero10(w:World):(zeroValue 5).run Tryz.prog w = .ok (.int .u8 0) w:=by kernel_rfl
theorem open10_new(n:Nat)(xs:List Int)(hash i:Nat)(hn:n≤16)(hl:xs.length=16*2^n)(hh:hash<4294967296)(hc:S10.check (n:Int) xs=0)(hi:S10.find n xs hash=none)(hle:S10.least xs (S10.places n hash)=some i)(him:i<2^n)(b off cap:Nat)(w:World)(hT:Tab xs (some ⟨b,off,none⟩) cap w)(hcs:w.rangeAt b off (Bts xs)) :
 Calls Tryz.prog 45 #[zhO (n:Int) xs (some ⟨b,off,none⟩) cap,.int .u32 (hash:Int)] w fun e w'=>∃b cap',e = .returned (.tuple #[zhO (n:Int) xs (some ⟨b,0,none⟩) cap',.int .i64 (i:Int),.int .i64 0])∧OB w' w.heap.size b cap' (S10.fresh xs i (S10.mark hash))∧Below w.heap.size w w':=by
 have HC:=zB fun W (h:Tab xs (some ⟨b,off,none⟩) cap W)=>zfY (n:Int) xs h.ok (some ⟨b,off,none⟩) cap h.cap W h.rd;rw[hc]at HC;have hps:=zcJ hn;have hpp:=zcB n;have HCl:=zB fun W (h:Rd W (some ⟨b,off,none⟩) (Bts xs))=>zjL (n:Int) xs (some ⟨b,off,none⟩) cap W (by omega) (by omega) h;have hcap:=hT.cap;have HF:=zB fun W (h:W.rangeAt b off (Bts xs))=>zsJ n hash hn hh xs hl b off cap (by rw[←hl];exact hcap) W h;rw[←hl,hi]at HF;simp only[Option.getD_none,Option.isSome_none]at HF;have HL:=zB fun Bs Bn B W hcs h1 h2 h3 h4=>least10_any n hash hn hh xs hl hT.ok b off cap (by rw[←hl];exact hcap) Bs Bn B W hcs h1 h2 h3 h4;rw[hle]at HL;simp only[zeK]at HL;have HS:=zB fun b2 cap2 (h:xs.length≤cap2) V=>zgO (n:Int) b2 0 i (2^n) cap2 him hps (by omega) V;rw[←hl]at HS;have hin:16*i+15<xs.length:=by omega
 have Hin:=zB hin;have HM:=zB fun V=>zsE hash hh V;clear hc hl hps hpp hle hi hin him;generalize hmk:S10.mark hash=mk at *;clear hmk;unfold zhO at *;go_enter Tryz.func45,Tryz.ntmps45;go_wp2_with fail;refine(HC.out _ (hT.step (by go_grown))).mono ?_;rintro e w1 ⟨rfl,hb1⟩;have hB1:Below w.heap.size w w1:=zA (by go_grown) hb1;have z1:w.heap.size≤w1.heap.size:=hB1.size;have hc1:Blk w1 w.heap.size [.int .i64 (n:Int),.slice (some ⟨b,off,none⟩) xs.length cap] 68:=((Blk.new w _ _).alloc _).step hb1;have hc2:Blk w1 (w.heap.size+1) [.int .i64 0,.slice none 0 0] 68:=by
  have h:=(Blk.new (w.alloc (.cells #[.int .i64 (n:Int),.slice (some ⟨b,off,none⟩) xs.length cap] 68)) [.int .i64 0,.slice none 0 0] 68).step hb1;rwa[zV]at h
 have k1:=hc1.cell 0;have k2:=hc1.cell 1;simp only[zuK]at k1 k2;go_wp2_with fail;refine(HCl.out _ (hT.rd.step hB1)).mono ?_;rintro e w2 ⟨b2,cap2,rfl,ho2,hb2⟩;have hB2:=zA hB1 hb2;have z2:=hB2.size;have hd1:=hc1.step hb2;have hd2:=hc2.step hb2;have k3:=hd1.cell 0;have k4:=hd1.cell 1;simp only[zuK]at k3 k4;have l1:=hd1.lt;have l2:=hd2.lt;go_wp2_with fail;refine(HF.out _ (zcD (zcD hcs hB2) ((zF _ w2).alloc (zD _) _))).mono ?_;rintro e w3 ⟨rfl,hb3⟩;have hb3':Below w2.heap.size w2 w3:=zA ((zF _ w2).alloc (zD _) _) hb3;have hB3:=zA hB2 hb3';have hv3:Blk w3 w2.heap.size [.int .i64 (n:Int),.slice (some ⟨b2,0,none⟩) xs.length cap2] 68:=(Blk.new w2 _ _).step hb3;have he1:=hd1.step hb3';have he2:=hd2.step hb3';have ho3:=ho2.step hb3';have m1:=he1.cell 0;simp only[lgz]at m1;have zb:w.heap.size+1<b2:=by have:=hc2.lt;have:=ho2.1;omega
 have zb2:b2<w2.heap.size:=ho2.lt;go_wp2_with fail;refine(zrY _ _ _).mono ?_;rintro e w4 ⟨rfl,hw4⟩;have hb4:Below w3.heap.size w3 w4:=by rw[hw4];exact((zF _ w3).alloc (zD _) _).alloc (by simp) _
 have hB4:=zA hB3 hb4;have p1:Blk w4 w3.heap.size [.int .i64 (n:Int)] 3:=by rw[hw4];exact(Blk.new w3 _ _).alloc _
 have p2:Blk w4 (w3.heap.size+1) [.int .u32 (hash:Int)] 44:=by rw[hw4];have h:=Blk.new (w3.alloc (Obj.cells #[Value.int IntKind.i64 (n:Int)] 3)) [.int .u32 (hash:Int)] 44;rwa[zV]at h
 clear hw4;have hf1:=he1.step hb4;have hf2:=he2.step hb4;have hv4:=hv3.step hb4;have ho4:=ho3.step hb4;go_wp2_with fail;refine(HL.out w3.heap.size (w3.heap.size+1) w.heap.size w4 (zcD hcs hB4) (hf1.cell 0) (hf1.cell 1) (p1.cell 0) (p2.cell 0)).mono ?_;rintro e w5 ⟨rfl,hb5⟩;have hB5:=zA hB4 hb5;have hv5:=hv4.step hb5;have hg2:=hf2.step hb5;have ho5:=ho4.step hb5;have q0:=hv5.cell 0;have q1:=hv5.cell 1;simp only[zuK]at q0 q1;go_wp2_with fail;refine(HS.out b2 cap2 ho2.2.1 _).mono ?_;rintro e w6 ⟨rfl,hb6⟩;have hB6:=zA hB5 hb6;have hv6:=hv5.step hb6;have hh2:=hg2.step hb6;have ho6:=ho5.step hb6
 have hcl:∀ty,(Builtin.clear_ #[24] ty #[.slice (some ⟨b2,0+16*i,none⟩) 16 16]).run Tryz.prog w6 = .ok (.tuple #[]) (w6.setCells b2 (0+16*i) (List.replicate 16 (.int .u8 0))):=
  fun ty=>Lib.run_clear_slice w6 24 5 ty (.int .u8 0) Tryz.underlying24 zero10 rfl rfl b2 (0+16*i) 16 16 (by omega) (fun j hj=>by rw[yK,ho6.at (by have:=Hin.out;omega)];rfl) (fun j hj=>ho6.free _)
 rw[yK]at *;obtain⟨w7,hw7⟩:∃w7,w6.setCells b2 (16*i) (List.replicate 16 (.int .u8 0))=w7:=⟨_,rfl⟩;rw[hw7]at hcl;have hB7:Below w.heap.size w w7:=by rw[←hw7];exact Below.setCells (by omega) _ _ _ _ hB6
 have hv7:Blk w7 w2.heap.size [.int .i64 (n:Int),.slice (some ⟨b2,0,none⟩) xs.length cap2] 68:=by rw[←hw7];exact Blk.setCellsOut b2 (by omega) _ _ _ hv6
 have hi2:Blk w7 (w.heap.size+1) [.int .i64 0,.slice none 0 0] 68:=by rw[←hw7];exact Blk.setCellsOut b2 (by omega) _ _ _ hh2
 have ho7:OB w7 w1.heap.size b2 cap2 (S10.setMany xs (16*i) (List.replicate 16 0)):=by rw[←hw7];exact OB.setCells (List.replicate 16 0) _ _ _ ho6
 clear hw7;go_wp2_with fail;refine(HM.out _).mono ?_;rintro e w8 ⟨rfl,hb8⟩;have hB8:=zA hB7 hb8;have hv8:=hv7.step hb8;have hj2:=hi2.step hb8;have ho8:=ho7.step hb8;have p0:=ho8.at (i:=16*i) (by rw[zfT];have:=Hin.out;omega);have p1':w8.frozen? ⟨b2,16*i,none⟩=false:=ho8.free _;have q0:=(hv8.other b2 (16*i) (.int .u8 (mk:Int)) (by omega)).cell 0;have q1:=(hv8.other b2 (16*i) (.int .u8 (mk:Int)) (by omega)).cell 1;have hk2:=(hj2.other b2 (16*i) (.int .u8 (mk:Int)) (by omega));have r0:=hj2.cell 0;have r1:=hj2.cell 1;have f0:=hj2.free 0;have f1:=hj2.free 1;have g:=(hk2.set 0 (.int .i64 (n:Int))).set 1 (.slice (some ⟨b2,0,none⟩) xs.length cap2);have g0:=g.cell 0;have g1:=g.cell 1;simp only[sC0,sCs,lgz,lgs]at q0 q1 g0 g1 r0 r1;have ho9:=(((ho8.set (16*i) (mk:Int)).mono (base':=w.heap.size) (by omega)).other (w.heap.size+1) 0 (.int .i64 (n:Int)) (by omega)).other (w.heap.size+1) 1 (.slice (some ⟨b2,0,none⟩) xs.length cap2) (by omega);have Ho9:=zB ho9;clear ho2 ho3 ho4 ho5 ho6 ho7 ho8 ho9 g hk2 hv3 hv4 hv5 hv6 hv7 hv8 hd1 hd2 hc1 hc2 he1 he2 hf1 hf2 hg2 hh2 hi2 hj2 k1 k2 k3 k4 m1 p1 p2;go_wp2;exact bodyPost_ret (v:=.tuple #[.agg #[.int .i64 (n:Int),.slice (some ⟨b2,0,none⟩) xs.length cap2],.int .i64 (i:Int),.int .i64 0]) (by simp[results,Tryz.results45,go_sem,g0,g1]) rfl ⟨b2,cap2,rfl,Ho9.out,((hB8.setCell (p:=⟨b2,16*i,none⟩) (by simp;omega) _).setCell (p:=⟨w.heap.size+1,0,none⟩) (by simp) _).setCell (p:=⟨w.heap.size+1,1,none⟩) (by simp) _⟩
end Go.Proofs.YtahaacfikalheaaGreat
namespace Go.Proofs.YtahaacfikalheaaGreat
open Go.RowKit
theorem S10.places_ne(bits hash:Nat):S10.places bits hash≠ []:=fun h=>by
 have h1:S10.first bits hash ^^^ 0∈S10.places bits hash:=by
  unfold S10.places S10.plc;rw[List.mem_filter];exact⟨List.mem_map.2 ⟨0,by simp,rfl⟩,by simp[S10.first_lt]⟩
 rw[h]at h1;cases h1
theorem S10.least_ok(xs:List Int)(bits hash:Nat):∃i,S10.least xs (S10.places bits hash)=some i∧i<2^bits∧i∈S10.places bits hash:=by
 obtain⟨i,hi⟩:=S10.least_some xs (S10.places bits hash) none (S10.places_ne bits hash);rcases S10.least_mem xs _ _ _ hi with h|h
 ·exact⟨i,hi,S10.plc_lt h,h⟩
 ·cases h
theorem TO.tab{w:World}{base b cap:Nat}{bits:Int}{xs xs':List Int}(ho:OB w base b cap xs)(hl:xs'.length=xs.length):TO w base bits xs (zhO bits xs' (some ⟨b,0,none⟩) cap):=by
 refine .inr ⟨b,cap,?_,ho⟩;unfold zhO;rw[hl]
theorem open10_any(bits:Int)(xs:List Int)(hash:Nat)(hh:hash<4294967296)(a:Option Addr)(cap:Nat)(w:World)(hT:Tab xs a cap w) :
 Calls Tryz.prog 45 #[zhO bits xs a cap,.int .u32 (hash:Int)] w fun e w'=>∃V,e = .returned (.tuple #[V,.int .i64 (S10.openN bits xs hash:Int),.int .i64 (S10.check bits xs)])∧TO w' w.heap.size (S10.openB bits xs) (S10.openX bits xs hash) V∧Below w.heap.size w w':=by
 by_cases hc:S10.check bits xs=0
 ·have e1:S10.openB bits xs=bits:=zO hc;have e2:S10.openN bits xs hash=((S10.find bits.toNat xs hash).getD ((S10.least xs (S10.places bits.toNat hash)).getD 0)):=zO hc;have e3:S10.openX bits xs hash=(if(S10.find bits.toNat xs hash).isSome then xs else S10.fresh xs (S10.openN bits xs hash) (S10.mark hash)):=zO hc;rw[e3,e2,e1,hc];obtain⟨n,rfl,hn,hl,_⟩:=S10.correct hc;obtain⟨b,off,rfl,hcs⟩:=hT.rd (fun e=>by have h1:=yS List.length e;rw[zbK,hl]at h1;have h2:=zcB n;simp only[List.length_nil]at h1;omega);rw[Int.toNat_natCast];cases hi:S10.find n xs hash with
  | some i=>
    refine(open10_found n xs hash i hn hl hh hc hi b off cap w hT hcs).mono ?_;rintro e w' ⟨b',cap',rfl,ho,hb⟩;exact⟨_,rfl,TO.tab ho rfl,hb⟩
  | none=>
    obtain⟨i,hle,him,_⟩:=S10.least_ok xs n hash;refine(open10_new n xs hash i hn hl hh hc hi hle him b off cap w hT hcs).mono ?_;rintro e w' ⟨b',cap',rfl,ho,hb⟩;rw[hle];simp only[Option.getD_none,zeK,Option.isSome_none,Bool.false_eq_true,if_false];exact⟨_,rfl,TO.tab ho (by unfold S10.fresh;rw[yT,zfT]),hb⟩
 ·have e1:S10.openB bits xs=0:=zG hc;have e2:S10.openN bits xs hash=0:=zG hc;have e3:S10.openX bits xs hash = []:=zG hc;rw[e3,e2,e1];refine(open10_bad bits xs hash a cap w hT hc).mono ?_;rintro e w' ⟨rfl,hb⟩;exact⟨_,rfl,TO.nil _ _,hb⟩
def S10.newE(bits:Int):Int:=if 0≤bits∧bits≤16 then 0 else 2
def S10.newB(bits:Int):Int:=if 0≤bits∧bits≤16 then bits else 0
def S10.newX(bits:Int):List Int:=if 0≤bits∧bits≤16 then List.replicate (16*2^bits.toNat) 0 else []
theorem OB.made(w:World)(n:Nat)(hn:n≤9223372036854775807):OB (w.alloc (.cells (List.replicate n (Value.int .u8 0)).toArray 5)) w.heap.size w.heap.size n (List.replicate n 0):=by
 refine⟨zD _,by simp,hn,_,Blk.new w _ _,?_⟩;rw[zaW,zeM (by simp)];unfold Bts;rw[List.map_replicate]
theorem new10_any(bits:Int)(w:World):Calls Tryz.prog 148 #[.int .i64 bits] w fun e w'=>∃V,e = .returned (.tuple #[V,.int .i64 (S10.newE bits)])∧TO w' w.heap.size (S10.newB bits) (S10.newX bits) V∧Below w.heap.size w w':=by
 have W1:=zB fun W=>zcP bits 0 16 W;by_cases h:0≤bits∧bits≤16
 ·have e1:S10.newE bits=0:=zO h;have e2:S10.newB bits=bits:=zO h;have e3:S10.newX bits=List.replicate (16*2^bits.toNat) 0:=zO h;rw[e1,e2,e3];rw[zQ h]at W1;obtain⟨n,rfl⟩:=Int.eq_ofNat_of_zero_le h.1;have hn:n≤16:=by omega
  have hps:=zcJ hn;have ew:=zlJ hn;rw[Int.toNat_natCast];clear h e1 e2 e3;generalize 2^n=m at *;go_enter Tryz.func148,Tryz.ntmps148;go_wp2_with fail;refine(W1.out _).mono ?_;rintro e w1 ⟨rfl,hb1⟩;have hB1:Below w.heap.size w w1:=zA (by go_grown) hb1;have z1:w.heap.size≤w1.heap.size:=hB1.size;have hc2:Blk w1 w.heap.size [.int .i64 0,.slice none 0 0] 68:=(Blk.new w _ _).step hb1;have l1:=hc2.lt;have r0:=hc2.cell 0;have r1:=hc2.cell 1;have f0:=hc2.free 0;have f1:=hc2.free 1;simp only[zuK]at r0 r1;have ho:=OB.made w1 (16*m) (by omega);have hb2:Below w1.heap.size w1 (w1.alloc (.cells (List.replicate (16*m) (Value.int .u8 0)).toArray 5)):=(zF _ w1).alloc (zD _) _;obtain⟨w2,hw2⟩:∃w2,w1.alloc (.cells (List.replicate (16*m) (Value.int .u8 0)).toArray 5)=w2:=⟨_,rfl⟩;rw[hw2]at ho hb2;have hB2:=zA hB1 hb2;have hd2:=hc2.step hb2;have r2:=hd2.cell 0;have r3:=hd2.cell 1;have f2:=hd2.free 0;have f3:=hd2.free 1;have g:=(hd2.set 0 (.int .i64 (n:Int))).set 1 (.slice (some ⟨w1.heap.size,0,none⟩) (16*m) (16*m));have g0:=g.cell 0;have g1:=g.cell 1;simp only[sC0,sCs,lgz,lgs]at r2 r3 g0 g1;have ho2:=((ho.mono (base':=w.heap.size) z1).other w.heap.size 0 (.int .i64 (n:Int)) (by omega)).other w.heap.size 1 (.slice (some ⟨w1.heap.size,0,none⟩) (16*m) (16*m)) (by omega)
  have hV:TO ((w2.setCell ⟨w.heap.size,0,none⟩ (.int .i64 (n:Int))).setCell ⟨w.heap.size,1,none⟩ (.slice (some ⟨w1.heap.size,0,none⟩) (16*m) (16*m))) w.heap.size (n:Int) (List.replicate (16*m) 0) (.agg #[.int .i64 (n:Int),.slice (some ⟨w1.heap.size,0,none⟩) (16*m) (16*m)]):=
   .inr ⟨_,_,by unfold zhO;rw[zaW],ho2⟩
  have HV:=zB hV;clear hV ho ho2 g hd2 hc2;go_wp2_with (at_make;refine zdV rfl (op_make1 (.tmp 10) 24 5 1 (.int .u8 0) zdR rfl .i64 (16*m) (by show Value.int .i64 (wrap64 _)=_;rw[ew];simp) (by omega) (by unfold maxLen;omega)) ?_;rw[hw2];clear hw2);exact bodyPost_ret (v:=.tuple #[.agg #[.int .i64 (n:Int),.slice (some ⟨w1.heap.size,0,none⟩) (16*m) (16*m)],.int .i64 0]) (by simp[results,Tryz.results148,go_sem,g0,g1]) rfl ⟨_,rfl,HV.out,(hB2.setCell (p:=⟨w.heap.size,0,none⟩) (by simp) _).setCell (p:=⟨w.heap.size,1,none⟩) (by simp) _⟩
 ·have e1:S10.newE bits=2:=zG h;have e2:S10.newB bits=0:=zG h;have e3:S10.newX bits = []:=zG h;rw[e1,e2,e3];rw[yD h]at W1;clear h e1 e2 e3;go_enter Tryz.func148,Tryz.ntmps148;go_wp2_with fail;refine(W1.out _).mono ?_;rintro e w1 ⟨rfl,hb1⟩;have hB1:Below w.heap.size w w1:=zA (by go_grown) hb1;have z1:w.heap.size≤w1.heap.size:=hB1.size;have hc2:Blk w1 w.heap.size [.int .i64 0,.slice none 0 0] 68:=(Blk.new w _ _).step hb1;have r0:=hc2.cell 0;have r1:=hc2.cell 1;have f0:=hc2.free 0;have f1:=hc2.free 1;have g:=(hc2.set 0 (.int .i64 0)).set 1 (.slice none 0 0);have g0:=g.cell 0;have g1:=g.cell 1;simp only[sC0,sCs,lgz,lgs]at g0 g1 r0 r1;clear hc2 g;go_wp2;exact bodyPost_ret (v:=.tuple #[.agg #[.int .i64 0,.slice none 0 0],.int .i64 2]) (by simp[results,Tryz.results148,go_sem,g0,g1]) rfl ⟨_,rfl,TO.nil _ _,(hB1.setCell (p:=⟨w.heap.size,0,none⟩) (by simp) _).setCell (p:=⟨w.heap.size,1,none⟩) (by simp) _⟩
end Go.Proofs.YtahaacfikalheaaGreat
namespace Go.Proofs.YtahaacfikalheaaGreat
open Go.RowKit
def OK8(xs:List Int):Prop:=∀x∈xs,0≤x∧x<256
def Fr(a:Option Addr)(n:Nat):Prop:=∀b o,a=some ⟨b,o,none⟩→n≤b
theorem Fr.mono{a:Option Addr}{n m:Nat}(h:Fr a n)(hm:m≤n):Fr a m:=fun b o e=>yC hm (h b o e)
theorem TO.open{w:World}{base:Nat}{bits:Int}{xs:List Int}{V:Value}(h:TO w base bits xs V)(hok:OK8 xs):∃a cap,V=zhO bits xs a cap∧Tab xs a cap w∧Fr a base:=by
 rcases h with⟨rfl,rfl,rfl⟩|⟨b,cap,rfl,ho⟩
 ·exact⟨none,0,rfl,⟨hok,zD _,Rd.nil _ _⟩,fun b o e=>by cases e⟩
 ·exact⟨_,_,rfl,⟨hok,ho.2.1,ho.rd⟩,fun b o e=>by cases e;exact ho.1⟩
theorem OK8.set{xs:List Int}(h:OK8 xs)(i:Nat)(v:Int)(hv:0≤v∧v<256):OK8 (xs.set i v):=fun x hx=>by
 rcases List.mem_or_eq_of_mem_set hx with h1|rfl
 ·exact h x h1
 ·exact hv
theorem OK8.setMany:∀(ys:List Int) (i:Nat) (xs:List Int),OK8 xs→OK8 ys→OK8 (S10.setMany xs i ys)
 | [],i,xs,h,_=>h
 | y::ys,i,xs,h,h2=>OK8.setMany ys (i+1) _ (h.set i y (h2 y List.mem_cons_self)) (fun x hx=>h2 x (List.mem_cons_of_mem _ hx))
theorem OK8.zeros(n:Nat):OK8 (List.replicate n 0):=fun x hx=>by rw[List.eq_of_mem_replicate hx];omega
theorem S10.mark_lt{h:Nat}(hh:h<4294967296):S10.mark h<256:=by unfold S10.mark;omega
theorem OK8.fresh{xs:List Int}(h:OK8 xs)(n mk:Nat)(hm:mk<256):OK8 (S10.fresh xs n mk):=by
 unfold S10.fresh;exact(OK8.setMany _ _ _ h (OK8.zeros _)).set _ _ ⟨by omega,by omega⟩
theorem OK8.openX{xs:List Int}(h:OK8 xs)(bits:Int)(hash:Nat)(hh:hash<4294967296):OK8 (S10.openX bits xs hash):=by
 have hm:=S10.mark_lt hh;have hf:=OK8.fresh h (S10.openN bits xs hash) (S10.mark hash) hm;by_cases hc:S10.check bits xs=0
 ·have e3:S10.openX bits xs hash=(if(S10.find bits.toNat xs hash).isSome then xs else S10.fresh xs (S10.openN bits xs hash) (S10.mark hash)):=zO hc;rw[e3];split
  ·exact h
  ·exact hf
 ·have e3:S10.openX bits xs hash = []:=zG hc;rw[e3];intro x hx;cases hx
theorem OK8.setX{xs:List Int}(h:OK8 xs)(bits n k st:Int):OK8 (S10.setX bits xs n k st):=by
 by_cases hc:S10.setE bits xs n k st=0
 ·have e2:S10.setX bits xs n k st=xs.set (16*n.toNat+k.toNat) st:=zO hc;rw[e2];refine h.set _ _ ?_;unfold S10.setE at hc;split at hc
  ·split at hc
   ·omega
   ·cases hc
  ·rename_i h1;exact absurd hc h1
 ·have e2:S10.setX bits xs n k st = []:=zG hc;rw[e2];intro x hx;cases hx
theorem OK8.newX(bits:Int):OK8 (S10.newX bits):=by
 unfold S10.newX;split
 ·exact OK8.zeros _
 ·intro x hx;cases hx
end Go.Proofs.YtahaacfikalheaaGreat
namespace Go.Proofs.YtahaacfikalheaaGreat
open Go.RowKit
def S10.bad2(xs:List Int)(j:Nat):Bool:=decide (j%16≠0)&&decide (215≤xs.getD j 0)
def S10.badP(xs:List Int)(i:Nat):Bool:=(List.range i).any (S10.bad2 xs)
theorem S10.mem_tail{xs:List Int}{k:Nat}{x:Int}(hl:16*k+16≤xs.length):x∈S10.tail xs k↔∃j,1≤j∧j<16∧xs.getD (16*k+j) 0=x:=by
 unfold S10.tail;constructor
 ·intro h;obtain⟨i,hi,rfl⟩:=List.mem_iff_getElem.1 h;simp only[yJ,zgS]at hi;refine⟨i+1,by omega,by omega,?_⟩;rw[List.getElem_take,List.getElem_drop,zI,zE (by omega)];simp only[zeK]
  congr 1;omega
 ·rintro⟨j,h1,h2,rfl⟩;rw[List.mem_iff_getElem];refine⟨j-1,by simp;omega,?_⟩;rw[List.getElem_take,List.getElem_drop,zI,zE (by omega)];simp only[zeK]
  congr 1;omega
theorem S10.bad_eq{xs:List Int}{m:Nat}(hl:xs.length=16*m):S10.bad xs m=S10.badP xs (16*m):=by
 rw[Bool.eq_iff_iff];unfold S10.bad S10.badP S10.bad2;simp only[List.any_eq_true,zfQ,zS,zY];constructor
 ·rintro⟨k,hk,x,hx,hb⟩;obtain⟨j,h1,h2,rfl⟩:=(S10.mem_tail (by omega)).1 hx;exact⟨16*k+j,by omega,by omega,by unfold S10.bad1 at hb;simpa using hb⟩
 ·rintro⟨j,hj,h1,h2⟩
  exact⟨j/16,by omega,_,(S10.mem_tail (by omega)).2 ⟨j%16,by omega,by omega,rfl⟩,by
   have e:16*(j/16)+j%16=j:=by omega
   rw[e];unfold S10.bad1;simpa using h2⟩
end Go.Proofs.YtahaacfikalheaaGreat
namespace Go.Proofs.YtahaacfikalheaaGreat
open Go.RowKit
end Go.Proofs.YtahaacfikalheaaGreat
namespace Go.Proofs.YtahaacfikalheaaGreat
open Go.RowKit
end Go.Proofs.YtahaacfikalheaaGreat
namespace Go.Proofs.YtahaacfikalheaaGreat
open Go.RowKit
theorem zqC(xs:List Int)(i j:Nat)(v:Int):(xs.set i v).getD j 0=if i=j∧i<xs.length then v else xs.getD j 0:=by
 rw[zI,zI,List.getElem?_set];by_cases h:i=j
 ·subst h;by_cases h2:i<xs.length
  ·simp[h2]
  ·simp[h2]
 ·simp[h]
theorem znK:∀(ys:List Int) (i:Nat) (xs:List Int) (j:Nat),(S10.setMany xs i ys).getD j 0=if i≤j∧j<i+ys.length∧j<xs.length then ys.getD (j-i) 0 else xs.getD j 0
 | [],i,xs,j=>by
   show xs.getD j 0=_;rw[zG (by simp;omega)]
 | y::ys,i,xs,j=>by
   show(S10.setMany (xs.set i y) (i+1) ys).getD j 0=_;rw[znK ys (i+1) (xs.set i y) j,zqC,yT];simp only[yO];by_cases h1:i=j
   ·subst h1;rw[zG (by omega)];by_cases h2:i<xs.length
    ·rw[zO ⟨rfl,h2⟩,zO ⟨zD _,by omega,h2⟩];simp
    ·rw[zG (by omega),zG (by omega)]
   ·by_cases h2:i+1≤j∧j<i+1+ys.length∧j<xs.length
    ·rw[zO h2,zO (by omega)];have e:j-i=(j-(i+1))+1:=by omega
     rw[e];rfl
    ·rw[zG h2,zG (by omega),zG (by omega)]
theorem zsH(n j:Nat):(List.replicate n (0:Int)).getD j 0=0:=by
 rw[zI,List.getElem?_replicate];split<;>rfl
theorem fresh_len(xs:List Int)(n mk:Nat):(S10.fresh xs n mk).length=xs.length:=by unfold S10.fresh;rw[yT,zfT]
theorem fresh_getD{xs:List Int}{i:Nat}(mk:Nat)(hi:16*i+16≤xs.length)(j:Nat):(S10.fresh xs i mk).getD j 0=if j=16*i then(mk:Int)else if 16*i<j∧j<16*i+16 then 0 else xs.getD j 0:=by
 unfold S10.fresh;rw[zqC,zfT,znK,zsH,zaW];by_cases h1:j=16*i
 ·subst h1;rw[zO ⟨rfl,by omega⟩,zO rfl]
 ·rw[zG (fun h=>h1 h.1.symm),zG h1];by_cases h2:16*i<j∧j<16*i+16
  ·rw[zO (by omega),zO h2]
  ·rw[zG (by omega),zG h2]
structure Good(n:Nat)(xs:List Int):Prop where
 le:n≤16
 len:xs.length=16*2^n
 ok:OK8 xs
 st:∀j,j<xs.length→j%16≠0→xs.getD j 0<215
theorem Good.check{n:Nat}{xs:List Int}(h:Good n xs):S10.check (n:Int) xs=0:=by
 have hl:=h.le;rw[S10.check_form (by omega) (by rw[Int.toNat_natCast];exact h.len),Int.toNat_natCast,S10.bad_eq h.len];have hb:S10.badP xs (16*2^n)=false:=by
  unfold S10.badP;rw[List.any_eq_false];intro j hj;rw[zfQ,←h.len]at hj;unfold S10.bad2;by_cases hz:j%16=0
  ·simp[hz]
  ·have:=h.st j hj hz;rw[yD (show¬(215≤xs.getD j 0) by omega)];simp
 rw[hb];rfl
theorem Good.set{n:Nat}{xs:List Int}(h:Good n xs)(i:Nat)(v:Int)(hv:0≤v∧v<256)(hs:i%16≠0→v<215):Good n (xs.set i v):=by
 refine⟨h.le,by rw[yT];exact h.len,h.ok.set i v hv,fun j hj hz=> ?_⟩;rw[yT]at hj;rw[zqC];by_cases e:i=j∧i<xs.length
 ·rw[zO e];exact hs (by rw[e.1];exact hz)
 ·rw[zG e];exact h.st j hj hz
theorem Good.fresh{n:Nat}{xs:List Int}(h:Good n xs){i:Nat}(hi:i<2^n){mk:Nat}(hm:mk<256):Good n (S10.fresh xs i mk):=by
 have hl:=h.len;refine⟨h.le,by rw[fresh_len];exact h.len,OK8.fresh h.ok i mk hm,fun j hj hz=> ?_⟩;rw[fresh_len]at hj;rw[fresh_getD mk (by omega)];rw[zG (by omega)];split
 ·decide
 ·exact h.st j hj hz
theorem Good.new{n:Nat}(hn:n≤16):Good n (List.replicate (16*2^n) 0):=by
 refine⟨hn,by simp,OK8.zeros _,fun j _ _=> ?_⟩;rw[zsH];decide
def S10.has(xs:List Int)(mk:Nat)(i:Nat):Bool:=xs.getD (16*i) 0==(mk:Int)
theorem S10.find_def(n:Nat)(xs:List Int)(h:Nat):S10.find n xs h=(S10.places n h).find? (S10.has xs (S10.mark h)):=rfl
theorem S10.find_some{n:Nat}{xs:List Int}{h i:Nat}(hf:S10.find n xs h=some i):i∈S10.places n h∧xs.getD (16*i) 0=(S10.mark h:Int):=by
 rw[S10.find_def]at hf;refine⟨List.mem_of_find?_eq_some hf,?_⟩;have:=List.find?_some hf;unfold S10.has at this;simpa using this
theorem S10.mem_places{n h i:Nat}(hi:i∈S10.places n h):i<2^n:=S10.plc_lt hi
section
variable {n:Nat} {xs:List Int} (hg:Good n xs) (h:Nat)
include hg
theorem Good.openN_mem:S10.openN (n:Int) xs h∈S10.places n h:=by
 have e2:S10.openN (n:Int) xs h=((S10.find n xs h).getD ((S10.least xs (S10.places n h)).getD 0)):=by
  have:=hg.check;unfold S10.openN;rw[zO this,Int.toNat_natCast]
 rw[e2];obtain⟨i,hle,_,hm⟩:=S10.least_ok xs n h;rw[hle];cases hf:S10.find n xs h with
 | none=>exact hm
 | some j=>exact(S10.find_some hf).1
theorem Good.openN_lt:S10.openN (n:Int) xs h<2^n:=S10.mem_places (hg.openN_mem h)
theorem Good.openB:S10.openB (n:Int) xs=n:=zO hg.check
theorem Good.openX_eq:S10.openX (n:Int) xs h=if(S10.find n xs h).isSome then xs else S10.fresh xs (S10.openN (n:Int) xs h) (S10.mark h):=by
 have:=hg.check;unfold S10.openX;rw[zO this,Int.toNat_natCast]
theorem Good.openX(hh:h<4294967296):Good n (S10.openX (n:Int) xs h):=by
 rw[hg.openX_eq h];split
 ·exact hg
 ·exact hg.fresh (hg.openN_lt h) (S10.mark_lt hh)
end
end Go.Proofs.YtahaacfikalheaaGreat
namespace Go.Proofs.YtahaacfikalheaaGreat
open Go.RowKit
theorem S09.next_found0:S09.allStates (fun s=>S09.found (S09.next s 0))=true:=by decide +kernel
theorem S09.next_found1:S09.allStates (fun s=>S09.found (S09.next s 1))=true:=by decide +kernel
theorem S09.next_range{s:Int}(h:0≤s∧s<215){b:Nat}(hb:b<2):0≤S09.next s b∧S09.next s b<215:=by
 obtain⟨n,rfl⟩:=Int.eq_ofNat_of_zero_le h.1;have h0:=S09.allStates_spec S09.next_found0 (s:=n) (by omega);have h1:=S09.allStates_spec S09.next_found1 (s:=n) (by omega);have e:b=0∨b=1:=by omega
 rcases e with rfl|rfl
 ·exact S09.found_bounds h0
 ·exact S09.found_bounds h1
theorem Good.exists{n:Nat}{xs:List Int}{i k:Nat}(hi:i<2^n)(h1:1≤k)(h2:k≤15):S10.exists (n:Int) (i:Int) (k:Int)=true:=by
 unfold S10.exists;rw[Int.toNat_natCast];have e:(2:Int)^n=((2^n:Nat):Int):=by simp
 rw[e];simp only[zS,zY];omega
theorem Good.node{n:Nat}{xs:List Int}(hg:Good n xs){i k:Nat}(hi:i<2^n)(h1:1≤k)(h2:k≤15):S10.node (n:Int) xs (i:Int) (k:Int)=0:=by
 unfold S10.node;rw[zO hg.check,Good.exists (xs:=xs) hi h1 h2];rfl
theorem Good.setE{n:Nat}{xs:List Int}(hg:Good n xs){i k:Nat}(hi:i<2^n)(h1:1≤k)(h2:k≤15){st:Int}(hs:0≤st∧st<215):S10.setE (n:Int) xs (i:Int) (k:Int) st=0:=by
 unfold S10.setE;rw[zO (hg.node hi h1 h2),zO (by omega)]
theorem Good.setB{n:Nat}{xs:List Int}(hg:Good n xs){i k:Nat}(hi:i<2^n)(h1:1≤k)(h2:k≤15){st:Int}(hs:0≤st∧st<215):S10.setB (n:Int) xs (i:Int) (k:Int) st=n:=by
 unfold S10.setB;rw[zO (hg.setE hi h1 h2 hs)]
theorem Good.setX{n:Nat}{xs:List Int}(hg:Good n xs){i k:Nat}(hi:i<2^n)(h1:1≤k)(h2:k≤15){st:Int}(hs:0≤st∧st<215):S10.setX (n:Int) xs (i:Int) (k:Int) st=xs.set (16*i+k) st:=by
 unfold S10.setX;rw[zO (hg.setE hi h1 h2 hs),Int.toNat_natCast,Int.toNat_natCast]
theorem S09.nextS_ok{s:Int}(h:0≤s∧s<215){b:Nat}(hb:b<2):S09.nextS s b=S09.next s b∧S09.nextE s b=0:=by
 have hf:S09.found s=true:=zQ h;have e:(b:Int)=0∨(b:Int)=1:=by omega
 unfold S09.nextS S09.nextE;rw[hf,zO rfl,zO rfl,zO e,zO e];exact⟨rfl,rfl⟩
