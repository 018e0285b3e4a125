/- A part of the proof of L14n. No condition. -/
import Derived.Lib.SliceRun
import Derived.Test.YtieeogndnhighaaGreatZL14naj
import Derived.Test.YtieeogndnhighaaGreatZL14nbi
set_option linter.all false
set_option maxRecDepth 100000
set_option maxHeartbeats 2000000
namespace Go.Proofs.YtieeogndnhighaaGreat
open Go.RowKit
def S10.openN(bits:Int)(xs:List Int)(hash:Nat):Nat:=if S10.check bits xs=0 then((S10.find bits.toNat xs hash).getD ((S10.least xs (S10.places bits.toNat hash)).getD 0))else 0
def S10.setMany:List Int→Nat→List Int→List Int
 | xs,_,[]=>xs
 | xs,i,y::ys=>S10.setMany (xs.set i y) (i+1) ys
def S10.fresh(xs:List Int)(n mk:Nat):List Int:=(S10.setMany xs (16*n) (List.replicate 16 0)).set (16*n) (mk:Int)
def S10.openX(bits:Int)(xs:List Int)(hash:Nat):List Int:=if S10.check bits xs=0 then(if(S10.find bits.toNat xs hash).isSome then xs else S10.fresh xs (S10.openN bits xs hash) (S10.mark hash))else []
def S10.openB(bits:Int)(xs:List Int):Int:=if S10.check bits xs=0 then bits else 0
theorem open10_bad(bits:Int)(xs:List Int)(hash:Nat)(a:Option Addr)(cap:Nat)(w:World)(hT:Tab xs a cap w)(hc:¬S10.check bits xs=0) :
 Calls Tryz.prog 66 #[zdY bits xs a cap,.int .u32 (hash:Int)] w fun e w'=>e = .returned (.tuple #[.agg #[.int .i64 0,.slice none 0 0],.int .i64 0,.int .i64 (S10.check bits xs)])∧Below w.heap.size w w':=by
 have HC:=zD fun W (h:Tab xs a cap W)=>zfN bits xs h.ok a cap h.cap W h.rd;unfold zdY;have hc':(S10.check bits xs != 0)=true:=by simpa using hc
 generalize S10.check bits xs=C at *;clear hc;go_enter Tryz.func66,Tryz.ntmps66;go_wp2_with fail;refine(HC.out _ (hT.step (by go_grown))).mono ?_;rintro e w1 ⟨rfl,hb1⟩;have hB1:Below w.heap.size w w1:=zA (by go_grown) hb1;have z1:w.heap.size≤w1.heap.size:=hB1.size;have hc2:Blk w1 (w.heap.size+1) [.int .i64 0,.slice none 0 0] 75:=by
  have h:=(Blk.new (w.alloc (.cells #[.int .i64 bits,.slice a xs.length cap] 75)) [.int .i64 0,.slice none 0 0] 75).step hb1;rwa[yA]at h
 have r0:=hc2.cell 0;have r1:=hc2.cell 1;have f0:=hc2.free 0;have f1:=hc2.free 1;have g:=(hc2.set 0 (.int .i64 0)).set 1 (.slice none 0 0);have g0:=g.cell 0;have g1:=g.cell 1;simp only[sC0,sCs,lgz,lgs]at g0 g1 r0 r1;clear hc2 g;go_wp2;exact bodyPost_ret (v:=.tuple #[.agg #[.int .i64 0,.slice none 0 0],.int .i64 0,.int .i64 C]) (by simp[results,Tryz.results66,go_sem,g0,g1]) rfl ⟨rfl,(hB1.setCell (p:=⟨w.heap.size+1,0,none⟩) (by simp) _).setCell (p:=⟨w.heap.size+1,1,none⟩) (by simp) _⟩
theorem open10_found(n:Nat)(xs:List Int)(hash i:Nat)(hn:n≤16)(hl:xs.length=16*2^n)(hh:hash<4294967296)(hc:S10.check (n:Int) xs=0)(hi:S10.find n xs hash=some i)(b off cap:Nat)(w:World)(hT:Tab xs (some ⟨b,off,none⟩) cap w)(hcs:w.rangeAt b off (Bts xs)) :
 Calls Tryz.prog 66 #[zdY (n:Int) xs (some ⟨b,off,none⟩) cap,.int .u32 (hash:Int)] w fun e w'=>∃b cap',e = .returned (.tuple #[zdY (n:Int) xs (some ⟨b,0,none⟩) cap',.int .i64 (i:Int),.int .i64 0])∧OB w' w.heap.size b cap' xs∧Below w.heap.size w w':=by
 have HC:=zD fun W (h:Tab xs (some ⟨b,off,none⟩) cap W)=>zfN (n:Int) xs h.ok (some ⟨b,off,none⟩) cap h.cap W h.rd;rw[hc]at HC;have hps:=zaT hn;have hpp:=zaS n;have HCl:=zD fun W (h:Rd W (some ⟨b,off,none⟩) (Bts xs))=>znX (n:Int) xs (some ⟨b,off,none⟩) cap W (by omega) (by omega) h;have hcap:=hT.cap;have HF:=zD fun W (h:W.rangeAt b off (Bts xs))=>zpK n hash hn hh xs hl b off cap (by rw[←hl];exact hcap) W h;rw[←hl,hi]at HF;simp only[Option.getD_some,Option.isSome_some]at HF;clear hc hl hps hpp;unfold zdY at *;go_enter Tryz.func66,Tryz.ntmps66;go_wp2_with fail;refine(HC.out _ (hT.step (by go_grown))).mono ?_;rintro e w1 ⟨rfl,hb1⟩;have hB1:Below w.heap.size w w1:=zA (by go_grown) hb1;have z1:w.heap.size≤w1.heap.size:=hB1.size;have hc1:Blk w1 w.heap.size [.int .i64 (n:Int),.slice (some ⟨b,off,none⟩) xs.length cap] 75:=((Blk.new w _ _).alloc _).step hb1;have hc2:Blk w1 (w.heap.size+1) [.int .i64 0,.slice none 0 0] 75:=by
  have h:=(Blk.new (w.alloc (.cells #[.int .i64 (n:Int),.slice (some ⟨b,off,none⟩) xs.length cap] 75)) [.int .i64 0,.slice none 0 0] 75).step hb1;rwa[yA]at h
 have k1:=hc1.cell 0;have k2:=hc1.cell 1;simp only[zrD]at k1 k2;go_wp2_with fail;refine(HCl.out _ (hT.rd.step hB1)).mono ?_;rintro e w2 ⟨b2,cap2,rfl,ho2,hb2⟩;have hB2:=zA hB1 hb2;have z2:=hB2.size;have hd1:=hc1.step hb2;have hd2:=hc2.step hb2;have k3:=hd1.cell 0;have k4:=hd1.cell 1;simp only[zrD]at k3 k4;have l1:=hd1.lt;have l2:=hd2.lt;go_wp2_with fail;refine(HF.out _ (zaC (zaC hcs hB2) ((zG _ w2).alloc (zE _) _))).mono ?_;rintro e w3 ⟨rfl,hb3⟩;have hb3':Below w2.heap.size w2 w3:=zA ((zG _ w2).alloc (zE _) _) hb3;have hB3:=zA hB2 hb3';have hv3:Blk w3 w2.heap.size [.int .i64 (n:Int),.slice (some ⟨b2,0,none⟩) xs.length cap2] 75:=(Blk.new w2 _ _).step hb3;have he2:=hd2.step hb3';have ho3:=ho2.step hb3';have q0:=hv3.cell 0;have q1:=hv3.cell 1;have r0:=he2.cell 0;have r1:=he2.cell 1;have f0:=he2.free 0;have f1:=he2.free 1;have g:=(he2.set 0 (.int .i64 (n:Int))).set 1 (.slice (some ⟨b2,0,none⟩) xs.length cap2);have g0:=g.cell 0;have g1:=g.cell 1;simp only[sC0,sCs,lgz,lgs]at q0 q1 g0 g1 r0 r1;have zb:w.heap.size+1<b2:=by have:=hc2.lt;have:=ho2.1;omega
 have ho4:=((ho3.mono (base':=w.heap.size) (by omega)).other (w.heap.size+1) 0 (.int .i64 (n:Int)) (by omega)).other (w.heap.size+1) 1 (.slice (some ⟨b2,0,none⟩) xs.length cap2) (by omega);have Ho4:=zD ho4;clear ho2 ho3 ho4 g he2 hv3 hd1 hd2 hc1 hc2;go_wp2;exact bodyPost_ret (v:=.tuple #[.agg #[.int .i64 (n:Int),.slice (some ⟨b2,0,none⟩) xs.length cap2],.int .i64 (i:Int),.int .i64 0]) (by simp[results,Tryz.results66,go_sem,g0,g1]) rfl ⟨b2,cap2,rfl,Ho4.out,(hB3.setCell (p:=⟨w.heap.size+1,0,none⟩) (by simp) _).setCell (p:=⟨w.heap.size+1,1,none⟩) (by simp) _⟩
end Go.Proofs.YtieeogndnhighaaGreat
namespace Go.Proofs.YtieeogndnhighaaGreat
open Go.RowKit
theorem zlB:∀(ys xs:List Int) (i:Nat) (y:Int),S10.setMany xs i (ys ++ [y])=(S10.setMany xs i ys).set (i+ys.length) y
 | [],xs,i,y=>rfl
 | z::ys,xs,i,y=>by
   show S10.setMany (xs.set i z) (i+1) (ys ++ [y])=(S10.setMany (xs.set i z) (i+1) ys).set (i+(ys.length+1)) y;rw[zlB ys (xs.set i z) (i+1) y]
   congr 1;omega
theorem zcE:∀(ys xs:List Int) (i:Nat),(S10.setMany xs i ys).length=xs.length
 | [],xs,i=>rfl
 | z::ys,xs,i=>by
   show(S10.setMany (xs.set i z) (i+1) ys).length=_;rw[zcE ys,zdT]
theorem OB.setCells{base b cap:Nat}:∀(ys:List Int) (i:Nat) (w:World) (xs:List Int),OB w base b cap xs→OB (w.setCells b i (Bts ys)) base b cap (S10.setMany xs i ys)
 | [],i,w,xs,h=>h
 | y::ys,i,w,xs,h=>OB.setCells ys (i+1) _ _ (h.set i y)
theorem Below.setCells{B b:Nat}(hb:B≤b):∀(vs:List Value) (i:Nat) (A w:World),Below B A w→Below B A (w.setCells b i vs)
 | [],i,A,w,h=>h
 | v::vs,i,A,w,h=>Below.setCells hb vs (i+1) A _ (h.setCell (p:=⟨b,i,none⟩) hb v)
theorem Blk.setCellsOut{c:Nat}{cs:List Value}{t:TypeId}(b:Nat)(hne:¬c=b):∀(vs:List Value) (i:Nat) (w:World),Blk w c cs t→Blk (w.setCells b i vs) c cs t
 | [],i,w,h=>h
 | v::vs,i,w,h=>Blk.setCellsOut b hne vs (i+1) _ (h.other b i v hne)
theorem zero10(w:World):(zeroValue 5).run Tryz.prog w = .ok (.int .u8 0) w:=by kernel_rfl
theorem open10_new(n:Nat)(xs:List Int)(hash i:Nat)(hn:n≤16)(hl:xs.length=16*2^n)(hh:hash<4294967296)(hc:S10.check (n:Int) xs=0)(hi:S10.find n xs hash=none)(hle:S10.least xs (S10.places n hash)=some i)(him:i<2^n)(b off cap:Nat)(w:World)(hT:Tab xs (some ⟨b,off,none⟩) cap w)(hcs:w.rangeAt b off (Bts xs)) :
 Calls Tryz.prog 66 #[zdY (n:Int) xs (some ⟨b,off,none⟩) cap,.int .u32 (hash:Int)] w fun e w'=>∃b cap',e = .returned (.tuple #[zdY (n:Int) xs (some ⟨b,0,none⟩) cap',.int .i64 (i:Int),.int .i64 0])∧OB w' w.heap.size b cap' (S10.fresh xs i (S10.mark hash))∧Below w.heap.size w w':=by
 have HC:=zD fun W (h:Tab xs (some ⟨b,off,none⟩) cap W)=>zfN (n:Int) xs h.ok (some ⟨b,off,none⟩) cap h.cap W h.rd;rw[hc]at HC;have hps:=zaT hn;have hpp:=zaS n;have HCl:=zD fun W (h:Rd W (some ⟨b,off,none⟩) (Bts xs))=>znX (n:Int) xs (some ⟨b,off,none⟩) cap W (by omega) (by omega) h;have hcap:=hT.cap;have HF:=zD fun W (h:W.rangeAt b off (Bts xs))=>zpK n hash hn hh xs hl b off cap (by rw[←hl];exact hcap) W h;rw[←hl,hi]at HF;simp only[Option.getD_none,Option.isSome_none]at HF;have HL:=zD fun Bs Bn B W hcs h1 h2 h3 h4=>least10_any n hash hn hh xs hl hT.ok b off cap (by rw[←hl];exact hcap) Bs Bn B W hcs h1 h2 h3 h4;rw[hle]at HL;simp only[Option.getD_some]at HL;have HS:=zD fun b2 cap2 (h:xs.length≤cap2) V=>zjO (n:Int) b2 0 i (2^n) cap2 him hps (by omega) V;rw[←hl]at HS;have hin:16*i+15<xs.length:=by omega
 have Hin:=zD hin;have HM:=zD fun V=>zpF hash hh V;clear hc hl hps hpp hle hi hin him;generalize hmk:S10.mark hash=mk at *;clear hmk;unfold zdY at *;go_enter Tryz.func66,Tryz.ntmps66;go_wp2_with fail;refine(HC.out _ (hT.step (by go_grown))).mono ?_;rintro e w1 ⟨rfl,hb1⟩;have hB1:Below w.heap.size w w1:=zA (by go_grown) hb1;have z1:w.heap.size≤w1.heap.size:=hB1.size;have hc1:Blk w1 w.heap.size [.int .i64 (n:Int),.slice (some ⟨b,off,none⟩) xs.length cap] 75:=((Blk.new w _ _).alloc _).step hb1;have hc2:Blk w1 (w.heap.size+1) [.int .i64 0,.slice none 0 0] 75:=by
  have h:=(Blk.new (w.alloc (.cells #[.int .i64 (n:Int),.slice (some ⟨b,off,none⟩) xs.length cap] 75)) [.int .i64 0,.slice none 0 0] 75).step hb1;rwa[yA]at h
 have k1:=hc1.cell 0;have k2:=hc1.cell 1;simp only[zrD]at k1 k2;go_wp2_with fail;refine(HCl.out _ (hT.rd.step hB1)).mono ?_;rintro e w2 ⟨b2,cap2,rfl,ho2,hb2⟩;have hB2:=zA hB1 hb2;have z2:=hB2.size;have hd1:=hc1.step hb2;have hd2:=hc2.step hb2;have k3:=hd1.cell 0;have k4:=hd1.cell 1;simp only[zrD]at k3 k4;have l1:=hd1.lt;have l2:=hd2.lt;go_wp2_with fail;refine(HF.out _ (zaC (zaC hcs hB2) ((zG _ w2).alloc (zE _) _))).mono ?_;rintro e w3 ⟨rfl,hb3⟩;have hb3':Below w2.heap.size w2 w3:=zA ((zG _ w2).alloc (zE _) _) hb3;have hB3:=zA hB2 hb3';have hv3:Blk w3 w2.heap.size [.int .i64 (n:Int),.slice (some ⟨b2,0,none⟩) xs.length cap2] 75:=(Blk.new w2 _ _).step hb3;have he1:=hd1.step hb3';have he2:=hd2.step hb3';have ho3:=ho2.step hb3';have m1:=he1.cell 0;simp only[lgz]at m1;have zb:w.heap.size+1<b2:=by have:=hc2.lt;have:=ho2.1;omega
 have zb2:b2<w2.heap.size:=ho2.lt;go_wp2_with fail;refine(zpD _ _ _).mono ?_;rintro e w4 ⟨rfl,hw4⟩;have hb4:Below w3.heap.size w3 w4:=by rw[hw4];exact((zG _ w3).alloc (zE _) _).alloc (by simp) _
 have hB4:=zA hB3 hb4;have p1:Blk w4 w3.heap.size [.int .i64 (n:Int)] 3:=by rw[hw4];exact(Blk.new w3 _ _).alloc _
 have p2:Blk w4 (w3.heap.size+1) [.int .u32 (hash:Int)] 109:=by rw[hw4];have h:=Blk.new (w3.alloc (Obj.cells #[Value.int IntKind.i64 (n:Int)] 3)) [.int .u32 (hash:Int)] 109;rwa[yA]at h
 clear hw4;have hf1:=he1.step hb4;have hf2:=he2.step hb4;have hv4:=hv3.step hb4;have ho4:=ho3.step hb4;go_wp2_with fail;refine(HL.out w3.heap.size (w3.heap.size+1) w.heap.size w4 (zaC hcs hB4) (hf1.cell 0) (hf1.cell 1) (p1.cell 0) (p2.cell 0)).mono ?_;rintro e w5 ⟨rfl,hb5⟩;have hB5:=zA hB4 hb5;have hv5:=hv4.step hb5;have hg2:=hf2.step hb5;have ho5:=ho4.step hb5;have q0:=hv5.cell 0;have q1:=hv5.cell 1;simp only[zrD]at q0 q1;go_wp2_with fail;refine(HS.out b2 cap2 ho2.2.1 _).mono ?_;rintro e w6 ⟨rfl,hb6⟩;have hB6:=zA hB5 hb6;have hv6:=hv5.step hb6;have hh2:=hg2.step hb6;have ho6:=ho5.step hb6
 have hcl:∀ty,(Builtin.clear_ #[59] ty #[.slice (some ⟨b2,0+16*i,none⟩) 16 16]).run Tryz.prog w6 = .ok (.tuple #[]) (w6.setCells b2 (0+16*i) (List.replicate 16 (.int .u8 0))):=
  fun ty=>Lib.run_clear_slice w6 59 5 ty (.int .u8 0) Tryz.underlying59 zero10 rfl rfl b2 (0+16*i) 16 16 (by omega) (fun j hj=>by rw[yV,ho6.at (by have:=Hin.out;omega)];rfl) (fun j hj=>ho6.free _)
 rw[yV]at *;obtain⟨w7,hw7⟩:∃w7,w6.setCells b2 (16*i) (List.replicate 16 (.int .u8 0))=w7:=⟨_,rfl⟩;rw[hw7]at hcl;have hB7:Below w.heap.size w w7:=by rw[←hw7];exact Below.setCells (by omega) _ _ _ _ hB6
 have hv7:Blk w7 w2.heap.size [.int .i64 (n:Int),.slice (some ⟨b2,0,none⟩) xs.length cap2] 75:=by rw[←hw7];exact Blk.setCellsOut b2 (by omega) _ _ _ hv6
 have hi2:Blk w7 (w.heap.size+1) [.int .i64 0,.slice none 0 0] 75:=by rw[←hw7];exact Blk.setCellsOut b2 (by omega) _ _ _ hh2
 have ho7:OB w7 w1.heap.size b2 cap2 (S10.setMany xs (16*i) (List.replicate 16 0)):=by rw[←hw7];exact OB.setCells (List.replicate 16 0) _ _ _ ho6
 clear hw7;go_wp2_with fail;refine(HM.out _).mono ?_;rintro e w8 ⟨rfl,hb8⟩;have hB8:=zA hB7 hb8;have hv8:=hv7.step hb8;have hj2:=hi2.step hb8;have ho8:=ho7.step hb8;have p0:=ho8.at (i:=16*i) (by rw[zcE];have:=Hin.out;omega);have p1':w8.frozen? ⟨b2,16*i,none⟩=false:=ho8.free _;have q0:=(hv8.other b2 (16*i) (.int .u8 (mk:Int)) (by omega)).cell 0;have q1:=(hv8.other b2 (16*i) (.int .u8 (mk:Int)) (by omega)).cell 1;have hk2:=(hj2.other b2 (16*i) (.int .u8 (mk:Int)) (by omega));have r0:=hj2.cell 0;have r1:=hj2.cell 1;have f0:=hj2.free 0;have f1:=hj2.free 1;have g:=(hk2.set 0 (.int .i64 (n:Int))).set 1 (.slice (some ⟨b2,0,none⟩) xs.length cap2);have g0:=g.cell 0;have g1:=g.cell 1;simp only[sC0,sCs,lgz,lgs]at q0 q1 g0 g1 r0 r1;have ho9:=(((ho8.set (16*i) (mk:Int)).mono (base':=w.heap.size) (by omega)).other (w.heap.size+1) 0 (.int .i64 (n:Int)) (by omega)).other (w.heap.size+1) 1 (.slice (some ⟨b2,0,none⟩) xs.length cap2) (by omega);have Ho9:=zD ho9;clear ho2 ho3 ho4 ho5 ho6 ho7 ho8 ho9 g hk2 hv3 hv4 hv5 hv6 hv7 hv8 hd1 hd2 hc1 hc2 he1 he2 hf1 hf2 hg2 hh2 hi2 hj2 k1 k2 k3 k4 m1 p1 p2;go_wp2;exact bodyPost_ret (v:=.tuple #[.agg #[.int .i64 (n:Int),.slice (some ⟨b2,0,none⟩) xs.length cap2],.int .i64 (i:Int),.int .i64 0]) (by simp[results,Tryz.results66,go_sem,g0,g1]) rfl ⟨b2,cap2,rfl,Ho9.out,((hB8.setCell (p:=⟨b2,16*i,none⟩) (by simp;omega) _).setCell (p:=⟨w.heap.size+1,0,none⟩) (by simp) _).setCell (p:=⟨w.heap.size+1,1,none⟩) (by simp) _⟩
end Go.Proofs.YtieeogndnhighaaGreat
namespace Go.Proofs.YtieeogndnhighaaGreat
open Go.RowKit
theorem S10.places_ne(bits hash:Nat):S10.places bits hash≠ []:=fun h=>by
 have h1:S10.first bits hash ^^^ 0∈S10.places bits hash:=by
  unfold S10.places S10.plc;rw[List.mem_filter];exact⟨List.mem_map.2 ⟨0,by simp,rfl⟩,by simp[S10.first_lt]⟩
 rw[h]at h1;cases h1
theorem S10.least_ok(xs:List Int)(bits hash:Nat):∃i,S10.least xs (S10.places bits hash)=some i∧i<2^bits∧i∈S10.places bits hash:=by
 obtain⟨i,hi⟩:=S10.least_some xs (S10.places bits hash) none (S10.places_ne bits hash);rcases S10.least_mem xs _ _ _ hi with h|h
 ·exact⟨i,hi,S10.plc_lt h,h⟩
 ·cases h
theorem TO.tab{w:World}{base b cap:Nat}{bits:Int}{xs xs':List Int}(ho:OB w base b cap xs)(hl:xs'.length=xs.length):TO w base bits xs (zdY bits xs' (some ⟨b,0,none⟩) cap):=by
 refine .inr ⟨b,cap,?_,ho⟩;unfold zdY;rw[hl]
theorem open10_any(bits:Int)(xs:List Int)(hash:Nat)(hh:hash<4294967296)(a:Option Addr)(cap:Nat)(w:World)(hT:Tab xs a cap w) :
 Calls Tryz.prog 66 #[zdY bits xs a cap,.int .u32 (hash:Int)] w fun e w'=>∃V,e = .returned (.tuple #[V,.int .i64 (S10.openN bits xs hash:Int),.int .i64 (S10.check bits xs)])∧TO w' w.heap.size (S10.openB bits xs) (S10.openX bits xs hash) V∧Below w.heap.size w w':=by
 by_cases hc:S10.check bits xs=0
 ·have e1:S10.openB bits xs=bits:=zU hc;have e2:S10.openN bits xs hash=((S10.find bits.toNat xs hash).getD ((S10.least xs (S10.places bits.toNat hash)).getD 0)):=zU hc;have e3:S10.openX bits xs hash=(if(S10.find bits.toNat xs hash).isSome then xs else S10.fresh xs (S10.openN bits xs hash) (S10.mark hash)):=zU hc;rw[e3,e2,e1,hc];obtain⟨n,rfl,hn,hl,_⟩:=S10.correct hc;obtain⟨b,off,rfl,hcs⟩:=hT.rd (fun e=>by have h1:=yQ List.length e;rw[zaI,hl]at h1;have h2:=zaS n;simp only[List.length_nil]at h1;omega);rw[Int.toNat_natCast];cases hi:S10.find n xs hash with
  | some i=>
    refine(open10_found n xs hash i hn hl hh hc hi b off cap w hT hcs).mono ?_;rintro e w' ⟨b',cap',rfl,ho,hb⟩;exact⟨_,rfl,TO.tab ho rfl,hb⟩
  | none=>
    obtain⟨i,hle,him,_⟩:=S10.least_ok xs n hash;refine(open10_new n xs hash i hn hl hh hc hi hle him b off cap w hT hcs).mono ?_;rintro e w' ⟨b',cap',rfl,ho,hb⟩;rw[hle];simp only[Option.getD_none,Option.getD_some,Option.isSome_none,Bool.false_eq_true,if_false];exact⟨_,rfl,TO.tab ho (by unfold S10.fresh;rw[zdT,zcE]),hb⟩
 ·have e1:S10.openB bits xs=0:=zK hc;have e2:S10.openN bits xs hash=0:=zK hc;have e3:S10.openX bits xs hash = []:=zK hc;rw[e3,e2,e1];refine(open10_bad bits xs hash a cap w hT hc).mono ?_;rintro e w' ⟨rfl,hb⟩;exact⟨_,rfl,TO.nil _ _,hb⟩
def S10.newE(bits:Int):Int:=if 0≤bits∧bits≤16 then 0 else 2
def S10.newB(bits:Int):Int:=if 0≤bits∧bits≤16 then bits else 0
def S10.newX(bits:Int):List Int:=if 0≤bits∧bits≤16 then List.replicate (16*2^bits.toNat) 0 else []
theorem OB.made(w:World)(n:Nat)(hn:n≤9223372036854775807):OB (w.alloc (.cells (List.replicate n (Value.int .u8 0)).toArray 5)) w.heap.size w.heap.size n (List.replicate n 0):=by
 refine⟨zE _,by simp,hn,_,Blk.new w _ _,?_⟩;rw[yR,zdB (by simp)];unfold Bts;rw[List.map_replicate]
theorem new10_any(bits:Int)(w:World):Calls Tryz.prog 218 #[.int .i64 bits] w fun e w'=>∃V,e = .returned (.tuple #[V,.int .i64 (S10.newE bits)])∧TO w' w.heap.size (S10.newB bits) (S10.newX bits) V∧Below w.heap.size w w':=by
 have W1:=zD fun W=>zeI bits 0 16 W;by_cases h:0≤bits∧bits≤16
 ·have e1:S10.newE bits=0:=zU h;have e2:S10.newB bits=bits:=zU h;have e3:S10.newX bits=List.replicate (16*2^bits.toNat) 0:=zU h;rw[e1,e2,e3];rw[zQ h]at W1;obtain⟨n,rfl⟩:=Int.eq_ofNat_of_zero_le h.1;have hn:n≤16:=by omega
  have hps:=zaT hn;have ew:=zjN hn;rw[Int.toNat_natCast];clear h e1 e2 e3;generalize 2^n=m at *;go_enter Tryz.func218,Tryz.ntmps218;go_wp2_with fail;refine(W1.out _).mono ?_;rintro e w1 ⟨rfl,hb1⟩;have hB1:Below w.heap.size w w1:=zA (by go_grown) hb1;have z1:w.heap.size≤w1.heap.size:=hB1.size;have hc2:Blk w1 w.heap.size [.int .i64 0,.slice none 0 0] 75:=(Blk.new w _ _).step hb1;have l1:=hc2.lt;have r0:=hc2.cell 0;have r1:=hc2.cell 1;have f0:=hc2.free 0;have f1:=hc2.free 1;simp only[zrD]at r0 r1;have ho:=OB.made w1 (16*m) (by omega);have hb2:Below w1.heap.size w1 (w1.alloc (.cells (List.replicate (16*m) (Value.int .u8 0)).toArray 5)):=(zG _ w1).alloc (zE _) _;obtain⟨w2,hw2⟩:∃w2,w1.alloc (.cells (List.replicate (16*m) (Value.int .u8 0)).toArray 5)=w2:=⟨_,rfl⟩;rw[hw2]at ho hb2;have hB2:=zA hB1 hb2;have hd2:=hc2.step hb2;have r2:=hd2.cell 0;have r3:=hd2.cell 1;have f2:=hd2.free 0;have f3:=hd2.free 1;have g:=(hd2.set 0 (.int .i64 (n:Int))).set 1 (.slice (some ⟨w1.heap.size,0,none⟩) (16*m) (16*m));have g0:=g.cell 0;have g1:=g.cell 1;simp only[sC0,sCs,lgz,lgs]at r2 r3 g0 g1;have ho2:=((ho.mono (base':=w.heap.size) z1).other w.heap.size 0 (.int .i64 (n:Int)) (by omega)).other w.heap.size 1 (.slice (some ⟨w1.heap.size,0,none⟩) (16*m) (16*m)) (by omega)
  have hV:TO ((w2.setCell ⟨w.heap.size,0,none⟩ (.int .i64 (n:Int))).setCell ⟨w.heap.size,1,none⟩ (.slice (some ⟨w1.heap.size,0,none⟩) (16*m) (16*m))) w.heap.size (n:Int) (List.replicate (16*m) 0) (.agg #[.int .i64 (n:Int),.slice (some ⟨w1.heap.size,0,none⟩) (16*m) (16*m)]):=
   .inr ⟨_,_,by unfold zdY;rw[yR],ho2⟩
  have HV:=zD hV;clear hV ho ho2 g hd2 hc2;go_wp2_with (at_make;refine zbU rfl (zmG (.tmp 10) 59 5 1 (.int .u8 0) zfM rfl .i64 (16*m) (by show Value.int .i64 (wrap64 _)=_;rw[ew];simp) (by omega) (by unfold maxLen;omega)) ?_;rw[hw2];clear hw2);exact bodyPost_ret (v:=.tuple #[.agg #[.int .i64 (n:Int),.slice (some ⟨w1.heap.size,0,none⟩) (16*m) (16*m)],.int .i64 0]) (by simp[results,Tryz.results218,go_sem,g0,g1]) rfl ⟨_,rfl,HV.out,(hB2.setCell (p:=⟨w.heap.size,0,none⟩) (by simp) _).setCell (p:=⟨w.heap.size,1,none⟩) (by simp) _⟩
 ·have e1:S10.newE bits=2:=zK h;have e2:S10.newB bits=0:=zK h;have e3:S10.newX bits = []:=zK h;rw[e1,e2,e3];rw[zL h]at W1;clear h e1 e2 e3;go_enter Tryz.func218,Tryz.ntmps218;go_wp2_with fail;refine(W1.out _).mono ?_;rintro e w1 ⟨rfl,hb1⟩;have hB1:Below w.heap.size w w1:=zA (by go_grown) hb1;have z1:w.heap.size≤w1.heap.size:=hB1.size;have hc2:Blk w1 w.heap.size [.int .i64 0,.slice none 0 0] 75:=(Blk.new w _ _).step hb1;have r0:=hc2.cell 0;have r1:=hc2.cell 1;have f0:=hc2.free 0;have f1:=hc2.free 1;have g:=(hc2.set 0 (.int .i64 0)).set 1 (.slice none 0 0);have g0:=g.cell 0;have g1:=g.cell 1;simp only[sC0,sCs,lgz,lgs]at g0 g1 r0 r1;clear hc2 g;go_wp2;exact bodyPost_ret (v:=.tuple #[.agg #[.int .i64 0,.slice none 0 0],.int .i64 2]) (by simp[results,Tryz.results218,go_sem,g0,g1]) rfl ⟨_,rfl,TO.nil _ _,(hB1.setCell (p:=⟨w.heap.size,0,none⟩) (by simp) _).setCell (p:=⟨w.heap.size,1,none⟩) (by simp) _⟩
end Go.Proofs.YtieeogndnhighaaGreat
namespace Go.Proofs.YtieeogndnhighaaGreat
open Go.RowKit
def OK8(xs:List Int):Prop:=∀x∈xs,0≤x∧x<256
def Fr(a:Option Addr)(n:Nat):Prop:=∀b o,a=some ⟨b,o,none⟩→n≤b
theorem Fr.mono{a:Option Addr}{n m:Nat}(h:Fr a n)(hm:m≤n):Fr a m:=fun b o e=>yD hm (h b o e)
theorem TO.open{w:World}{base:Nat}{bits:Int}{xs:List Int}{V:Value}(h:TO w base bits xs V)(hok:OK8 xs):∃a cap,V=zdY bits xs a cap∧Tab xs a cap w∧Fr a base:=by
 rcases h with⟨rfl,rfl,rfl⟩|⟨b,cap,rfl,ho⟩
 ·exact⟨none,0,rfl,⟨hok,zE _,Rd.nil _ _⟩,fun b o e=>by cases e⟩
 ·exact⟨_,_,rfl,⟨hok,ho.2.1,ho.rd⟩,fun b o e=>by cases e;exact ho.1⟩
theorem OK8.set{xs:List Int}(h:OK8 xs)(i:Nat)(v:Int)(hv:0≤v∧v<256):OK8 (xs.set i v):=fun x hx=>by
 rcases List.mem_or_eq_of_mem_set hx with h1|rfl
 ·exact h x h1
 ·exact hv
theorem OK8.setMany:∀(ys:List Int) (i:Nat) (xs:List Int),OK8 xs→OK8 ys→OK8 (S10.setMany xs i ys)
 | [],i,xs,h,_=>h
 | y::ys,i,xs,h,h2=>OK8.setMany ys (i+1) _ (h.set i y (h2 y List.mem_cons_self)) (fun x hx=>h2 x (List.mem_cons_of_mem _ hx))
theorem OK8.zeros(n:Nat):OK8 (List.replicate n 0):=fun x hx=>by rw[List.eq_of_mem_replicate hx];omega
theorem S10.mark_lt{h:Nat}(hh:h<4294967296):S10.mark h<256:=by unfold S10.mark;omega
theorem OK8.fresh{xs:List Int}(h:OK8 xs)(n mk:Nat)(hm:mk<256):OK8 (S10.fresh xs n mk):=by
 unfold S10.fresh;exact(OK8.setMany _ _ _ h (OK8.zeros _)).set _ _ ⟨by omega,by omega⟩
theorem OK8.openX{xs:List Int}(h:OK8 xs)(bits:Int)(hash:Nat)(hh:hash<4294967296):OK8 (S10.openX bits xs hash):=by
 have hm:=S10.mark_lt hh;have hf:=OK8.fresh h (S10.openN bits xs hash) (S10.mark hash) hm;by_cases hc:S10.check bits xs=0
 ·have e3:S10.openX bits xs hash=(if(S10.find bits.toNat xs hash).isSome then xs else S10.fresh xs (S10.openN bits xs hash) (S10.mark hash)):=zU hc;rw[e3];split
  ·exact h
  ·exact hf
 ·have e3:S10.openX bits xs hash = []:=zK hc;rw[e3];intro x hx;cases hx
theorem OK8.newX(bits:Int):OK8 (S10.newX bits):=by
 unfold S10.newX;split
 ·exact OK8.zeros _
 ·intro x hx;cases hx
end Go.Proofs.YtieeogndnhighaaGreat
namespace Go.Proofs.YtieeogndnhighaaGreat
open Go.RowKit
def S10.bad2(xs:List Int)(j:Nat):Bool:=decide (j%16≠0)&&decide (215≤xs.getD j 0)
def S10.badP(xs:List Int)(i:Nat):Bool:=(List.range i).any (S10.bad2 xs)
theorem S10.badP_succ(xs:List Int)(i:Nat):S10.badP xs (i+1)=(S10.badP xs i||S10.bad2 xs i):=by
 unfold S10.badP;rw[List.range_succ,List.any_append,List.any_cons,List.any_nil,Bool.or_false]
theorem S10.badP_mono{xs:List Int}{i k:Nat}(h:S10.bad2 xs i=true)(hi:i<k):S10.badP xs k=true:=by
 unfold S10.badP;rw[List.any_eq_true];exact⟨i,List.mem_range.2 hi,h⟩
theorem S10.mem_tail{xs:List Int}{k:Nat}{x:Int}(hl:16*k+16≤xs.length):x∈S10.tail xs k↔∃j,1≤j∧j<16∧xs.getD (16*k+j) 0=x:=by
 unfold S10.tail;constructor
 ·intro h;obtain⟨i,hi,rfl⟩:=List.mem_iff_getElem.1 h;simp only[zcN,List.length_drop]at hi;refine⟨i+1,by omega,by omega,?_⟩;rw[List.getElem_take,List.getElem_drop,zY,zI (by omega)];simp only[Option.getD_some]
  congr 1;omega
 ·rintro⟨j,h1,h2,rfl⟩;rw[List.mem_iff_getElem];refine⟨j-1,by simp;omega,?_⟩;rw[List.getElem_take,List.getElem_drop,zY,zI (by omega)];simp only[Option.getD_some]
  congr 1;omega
theorem S10.bad_eq{xs:List Int}{m:Nat}(hl:xs.length=16*m):S10.bad xs m=S10.badP xs (16*m):=by
 rw[Bool.eq_iff_iff];unfold S10.bad S10.badP S10.bad2;simp only[List.any_eq_true,List.mem_range,yF,yK];constructor
 ·rintro⟨k,hk,x,hx,hb⟩;obtain⟨j,h1,h2,rfl⟩:=(S10.mem_tail (by omega)).1 hx;exact⟨16*k+j,by omega,by omega,by unfold S10.bad1 at hb;simpa using hb⟩
 ·rintro⟨j,hj,h1,h2⟩
  exact⟨j/16,by omega,_,(S10.mem_tail (by omega)).2 ⟨j%16,by omega,by omega,rfl⟩,by
   have e:16*(j/16)+j%16=j:=by omega
   rw[e];unfold S10.bad1;simpa using h2⟩
theorem zpH(x:Int):IntKind.i64.wrap x=wrap64 x:=by rw[IntKind.wrap_i64];unfold wrap64;omega
theorem ziW{x:Int}(h : -9223372036854775808≤x)(h':x<9223372036854775808):IntKind.i64.wrap x=x:=(zpH x).trans (IntWalk.wrap64_in _ ⟨by omega,by omega⟩)
theorem Bts_ix{xs:List Int}{k:Nat}(h:k<xs.length):(Bts xs)[k]? = some (.int .u8 (xs.getD k 0)):=by
 unfold Bts;rw[zaH,zI h,zY,zI h];rfl
theorem zqF(n:Nat)(hn:n≤16)(xs:List Int)(hl:xs.length=16*2^n)(a:Option Addr)(cap:Nat)(w:World)(hT:Tab xs a cap w) :
 Calls Tryz.prog 81 #[zdY (n:Int) xs a cap] w fun e w'=>e = .returned (.int .i64 (if S10.badP xs xs.length then 3 else 0))∧Below w.heap.size w w':=by
 have hps:=zaT hn;have hpp:=zaS n;have HZ:=zD fun W=>zaM n (by omega) W;obtain⟨b,off,rfl,hcs⟩:=hT.rd (fun e=>by have h1:=yQ List.length e;rw[zaI,hl]at h1;simp only[List.length_nil]at h1;omega);have hok:=zD hT.ok;have eLn:(xs.length:Int)=16*((2^n:Nat):Int):=by rw[hl];simp
 have eW:wrap64 (16*((2^n:Nat):Int))=xs.length:=by rw[eLn];generalize 2^n=m at hps⊢;exact IntWalk.wrap64_in _ ⟨by omega,by omega⟩
 have hLs:xs.length≤2097152:=by omega
 have b1:¬((n:Int)<0):=by omega
 have b2:¬(16<(n:Int)):=by omega
 obtain⟨res,hres⟩:∃res:Int,(if S10.badP xs xs.length then 3 else 0)=res:=⟨_,rfl⟩;rw[hres];have Hres:=zD hres;have Hs:=zD (S10.badP_succ xs);have Hm:=zD (fun i hi h=>S10.badP_mono (xs:=xs) (i:=i) (k:=xs.length) h hi);unfold zdY;have hcap:=hT.cap;clear hT hres hl eLn hpp hps;generalize 2^n=m at *;go_enter Tryz.func81,Tryz.ntmps81;go_wp2;have hB0:Below w.heap.size w (w.alloc (Obj.cells #[.int .i64 (n:Int),.slice (some ⟨b,off,none⟩) xs.length cap] 75)):=(zG _ _).alloc (zE _) _;have a0:Blk (w.alloc (Obj.cells #[.int .i64 (n:Int),.slice (some ⟨b,off,none⟩) xs.length cap] 75)) w.heap.size [.int .i64 (n:Int),.slice (some ⟨b,off,none⟩) xs.length cap] 75:=Blk.new w _ _;generalize w.alloc (Obj.cells #[.int .i64 (n:Int),.slice (some ⟨b,off,none⟩) xs.length cap] 75)=w0 at *;have hCS:Cells w0 [(⟨w.heap.size,0,none⟩,.int .i64 (n:Int)),(⟨w.heap.size,1,none⟩,.slice (some ⟨b,off,none⟩) xs.length cap)]:=⟨a0.cell 0,a0.cell 1,yJ⟩;refine zrE 8 0 [(U,[U,U,U,U,U]),(zrA,[zrA,zrA,zrA,zrA,zrA,U]),(U,[zrA,zrA,zrA,zrA,zrA,zrA,U,U])] (Keeps w0 [(⟨w.heap.size,0,none⟩,.int .i64 (n:Int)),(⟨w.heap.size,1,none⟩,.slice (some ⟨b,off,none⟩) xs.length cap)]) (by kernel_rfl) (Keeps.start hCS) (fun Y Q4 F4 hY hF=> ?_);simp only[zrC]
 repeat
  apply zF (by rw[hY];rfl)
  ·intro w2 hS2;(try simp only[Keeps,Cells]at hS2);go_simp;with_reducible rfl
  simp only[zrB]
 apply zS (by rw[hY];rfl)
 ·go_simp;with_reducible exact⟨rfl,rfl⟩
 refine(HZ.out _).mono ?_;rintro e w1 ⟨rfl,hb1⟩;have hk1:=(Keeps.start hCS).step hb1;refine⟨_,rfl,hk1,?_⟩;simp only[zrB]
 repeat
  apply zF (by rw[hY];rfl)
  ·intro w2 hS2;(try simp only[Keeps,Cells]at hS2);go_simp;with_reducible rfl
  simp only[zrB]
 refine zZ (hF.out _ _ (fun K hK=> ?_));clear hF hY;refine OnlyK.mk (hK.out _ _ ?_);clear hK;have hB1:=zA hB0 hk1.1;have a1:=a0.step hk1.1;have eW2:IntKind.i64.wrap (16*(m:Int))=xs.length:=(zpH _).trans eW;rw[eW2,bne_self_eq_false];clear hb1 hk1 hCS a0 hB0;go_wp2
 go_loopw [3] (fun i wr=>∃k:Nat,k≤xs.length∧i = .int .i64 (k:Int)∧S10.badP xs k=false∧Below w1.heap.size w1 wr)
  (fun i _=>xs.length-(intOf i).toNat)
 case atStart=>exact⟨0,by omega,rfl,rfl,zG _ _⟩
 case round=>
  obtain⟨k,hk,rfl,hno,hB⟩:=hrel;have hno':=zD hno;have hBr:=zA hB1 hB;have a2:=a1.step hB;have c0:=a2.cell 0;have c1:=a2.cell 1;simp only[zrD]at c0 c1;clear hno;by_cases hlt:k<xs.length
  ·have hcx:wr.cell? ⟨b,off+k,none⟩=some (.int .u8 (xs.getD k 0)):=zaC hcs hBr k _ (Bts_ix hlt);have hr:0≤xs.getD k 0∧xs.getD k 0<256:=by
    rw[zY,zI hlt];exact hok.out _ (List.getElem_mem hlt)
   have hs:=Hs.out k;have hm:=Hm.out k hlt;have hb2:S10.bad2 xs k=(decide (k%16≠0)&&decide (215≤xs.getD k 0)):=rfl;generalize S10.bad2 xs k=bd at *;generalize xs.getD k 0=v at *;rw[hno'.out,Bool.false_or]at hs;have ev:IntKind.i64.wrap v=v:=ziW (by omega) (by omega);have ek:((k:Int)%16=((k%16:Nat):Int)):=by omega
   have hC2:Cells wr [(⟨w.heap.size,1,none⟩,.slice (some ⟨b,off,none⟩) xs.length cap),(⟨b,off+k,none⟩,.int .u8 v)]:=⟨c1,hcx,yJ⟩;by_cases hg:k%16=0
   ·have hbf:bd=false:=by rw[hb2];simp[hg]
    rw[hbf]at hs;have Hs1:=zD hs;have eg:(k:Int).tmod 16=0:=by rw[Int.tmod_eq_emod_of_nonneg (by omega)];omega
    clear hs hm hb2 hbf;go_wp2;refine zrE 13 0 [(U,[U,U,U,U,U,U,U,U,U,U]),(zrA,[zrA,zrA,zrA,zrA,zrA,zrA,zrA,zrA,zrA,zrA,U]),(U,[zrA,zrA,zrA,zrA,zrA,zrA,zrA,zrA,zrA,zrA,zrA,U,U])] (Keeps wr [(⟨w.heap.size,1,none⟩,.slice (some ⟨b,off,none⟩) xs.length cap),(⟨b,off+k,none⟩,.int .u8 v)]) (by kernel_rfl) (Keeps.start hC2) (fun Y Q4 F4 hY hF=> ?_);simp only[zrC]
    repeat
     apply zF (by rw[hY];rfl)
     ·intro w2 hS2;(try simp only[Keeps,Cells]at hS2);go_simp;with_reducible rfl
     simp only[zrB]
    repeat
     first
      | (apply zR (by rw[hY];rfl);simp only[zrB])
      | (refine yM (by rw[hY];rfl) (Keeps.start hC2) ?_;simp only[zrB])
    repeat
     apply zF (by rw[hY];rfl)
     ·intro w2 hS2;(try simp only[Keeps,Cells]at hS2);go_simp;with_reducible rfl
     simp only[zrB]
    refine zZ (hF.out _ _ (fun K hK=> ?_));clear hF hY;refine OnlyK.mk (hK.out _ _ ?_);clear hK;have hbd:Below wr.heap.size wr wr.drew:=(Keeps.start hC2).1;generalize wr.drew=w5 at *;have hB5:=zA hB hbd;go_wp2;go_roundw
    case rel=>exact⟨k+1,by omega,by simp,Hs1.out,hB5⟩
    case measure=>simp[intOf];omega
   ·have hb3:bd=decide (215≤v):=by rw[hb2];simp[hg]
    have Hm1:=zD hm;have Hs1:=zD hs;have eg:((k:Int).tmod 16 != 0)=true:=by rw[Int.tmod_eq_emod_of_nonneg (by omega)];simp;omega
    clear hs hm hb2;go_wp2;refine zrE 13 0 [(U,[U,U,U,U,U,U,U,U,U,U]),(zrA,[zrA,zrA,zrA,zrA,zrA,zrA,zrA,zrA,zrA,zrA,U]),(U,[zrA,zrA,zrA,zrA,zrA,zrA,zrA,zrA,zrA,zrA,zrA,U,U])] (Keeps wr [(⟨w.heap.size,1,none⟩,.slice (some ⟨b,off,none⟩) xs.length cap),(⟨b,off+k,none⟩,.int .u8 v)]) (by kernel_rfl) (Keeps.start hC2) (fun Y Q4 F4 hY hF=> ?_);simp only[zrC]
    repeat
     apply zF (by rw[hY];rfl)
     ·intro w2 hS2;(try simp only[Keeps,Cells]at hS2);go_simp;with_reducible rfl
     simp only[zrB]
    apply zS (by rw[hY];rfl)
    ·go_simp;with_reducible exact⟨rfl,rfl⟩
    refine(zoK _).mono ?_;rintro e w5 ⟨rfl,hb5⟩;have hk5:=(Keeps.start hC2).step hb5;refine⟨_,rfl,hk5,?_⟩;simp only[zrB]
    repeat
     apply zF (by rw[hY];rfl)
     ·intro w2 hS2;(try simp only[Keeps,Cells]at hS2);go_simp;with_reducible rfl
     simp only[zrB]
    refine zZ (hF.out _ _ (fun K hK=> ?_));clear hF hY;refine OnlyK.mk (hK.out _ _ ?_);clear hK;have hB5:=zA hB hk5.1;have hB6:=zA hB1 hB5;by_cases hv:215≤v
    ·have hr3:res=3:=by rw[←Hres.out,Hm1.out (by rw[hb3];simpa using hv)];rfl
     go_wp2;go_returns;exact⟨by rw[hr3];rfl,hB6⟩
    ·have Hs2:=zD (show S10.badP xs (k+1)=false by rw[Hs1.out,hb3];simpa using hv);go_wp2;go_roundw
     case rel=>exact⟨k+1,by omega,by simp,Hs2.out,hB5⟩
     case measure=>simp[intOf];omega
  ·obtain rfl:k=xs.length:=by omega
   have hr0:res=0:=by rw[←Hres.out,hno'.out];rfl
   go_wp2;go_returns;exact⟨by rw[hr0];rfl,hBr⟩
theorem zeJ(bits:Int)(xs:List Int)(a:Option Addr)(cap:Nat)(w:World)(hT:Tab xs a cap w) :
 Calls Tryz.prog 81 #[zdY bits xs a cap] w fun e w'=>e = .returned (.int .i64 (S10.check bits xs))∧Below w.heap.size w w':=by
 by_cases h1:bits<0∨16<bits
 ·rw[S10.check_range h1];unfold zdY;rcases h1 with h1|h1
  ·go_enter Tryz.func81,Tryz.ntmps81;go_wp2;go_returns;exact⟨rfl,by go_grown⟩
  ·have h2:¬bits<0:=by omega
   go_enter Tryz.func81,Tryz.ntmps81;go_wp2;go_returns;exact⟨rfl,by go_grown⟩
 ·by_cases h2:xs.length=16*2^bits.toNat
  ·rw[S10.check_form h1 h2];obtain⟨n,rfl⟩:=Int.eq_ofNat_of_zero_le (show 0≤bits by omega);rw[Int.toNat_natCast]at *;rw[S10.bad_eq h2,←h2];exact zqF n (by omega) xs h2 a cap w hT
  ·rw[S10.check_many h1 h2];obtain⟨n,rfl⟩:=Int.eq_ofNat_of_zero_le (show 0≤bits by omega);rw[Int.toNat_natCast]at *;have hn:n≤16:=by omega
   have hps:=zaT hn;have HZ:=zD fun W=>zaM n (by omega) W;have b1:¬((n:Int)<0):=by omega
   have b2:¬(16<(n:Int)):=by omega
   generalize 2^n=m at *;have eW:IntKind.i64.wrap (16*(m:Int))=16*(m:Int):=ziW (by omega) (by omega);have ne:((xs.length:Int) != 16*(m:Int))=true:=by simp only[bne_iff_ne,ne_eq];omega
   unfold zdY;clear h1 h2 hps;go_enter Tryz.func81,Tryz.ntmps81;go_wp2;have hB0:Below w.heap.size w (w.alloc (Obj.cells #[.int .i64 (n:Int),.slice a xs.length cap] 75)):=(zG _ _).alloc (zE _) _;have a0:Blk (w.alloc (Obj.cells #[.int .i64 (n:Int),.slice a xs.length cap] 75)) w.heap.size [.int .i64 (n:Int),.slice a xs.length cap] 75:=Blk.new w _ _;generalize w.alloc (Obj.cells #[.int .i64 (n:Int),.slice a xs.length cap] 75)=w0 at *;have hCS:Cells w0 [(⟨w.heap.size,0,none⟩,.int .i64 (n:Int)),(⟨w.heap.size,1,none⟩,.slice a xs.length cap)]:=⟨a0.cell 0,a0.cell 1,yJ⟩;refine zrE 8 0 [(U,[U,U,U,U,U]),(zrA,[zrA,zrA,zrA,zrA,zrA,U]),(U,[zrA,zrA,zrA,zrA,zrA,zrA,U,U])] (Keeps w0 [(⟨w.heap.size,0,none⟩,.int .i64 (n:Int)),(⟨w.heap.size,1,none⟩,.slice a xs.length cap)]) (by kernel_rfl) (Keeps.start hCS) (fun Y Q4 F4 hY hF=> ?_);simp only[zrC]
   repeat
    apply zF (by rw[hY];rfl)
    ·intro w2 hS2;(try simp only[Keeps,Cells]at hS2);go_simp;with_reducible rfl
    simp only[zrB]
   apply zS (by rw[hY];rfl)
   ·go_simp;with_reducible exact⟨rfl,rfl⟩
   refine(HZ.out _).mono ?_;rintro e w1 ⟨rfl,hb1⟩;have hk1:=(Keeps.start hCS).step hb1;refine⟨_,rfl,hk1,?_⟩;simp only[zrB]
   repeat
    apply zF (by rw[hY];rfl)
    ·intro w2 hS2;(try simp only[Keeps,Cells]at hS2);go_simp;with_reducible rfl
    simp only[zrB]
   refine zZ (hF.out _ _ (fun K hK=> ?_));clear hF hY;refine OnlyK.mk (hK.out _ _ ?_);clear hK;have hB1:=zA hB0 hk1.1;skip
   go_wp2;go_returns;exact⟨rfl,hB1⟩
end Go.Proofs.YtieeogndnhighaaGreat
namespace Go.Proofs.YtieeogndnhighaaGreat
open Go.RowKit
theorem elems_int1:Elems Tryz.prog 39 3 1 8 [.int .i64 0]:=⟨Tryz.underlying39,by kernel_rfl,rfl,by decide⟩
def Nts(l:List Nat):List Value:=l.map fun i:Nat=>Value.int .i64 (i:Int)
theorem Nts_one(l:List Nat):∀u∈Nts l,u.oneCell'=true:=by
 intro u hu;obtain⟨x,_,rfl⟩:=List.mem_map.1 hu;rfl
theorem zpW(l:List Nat):(Nts l).length=l.length:=zaA _
theorem Nts_at{l:List Nat}{k:Nat}(h:k<l.length):(Nts l)[k]? = some (.int .i64 ((l.getD k 0:Nat):Int)):=by
 unfold Nts;rw[zaH,zI h,zY,zI h];rfl
theorem owns_mono{w:World}{base base':Nat}{e:TypeId}{size n:Nat}{v:Value}{xs:List Value}(h:w.ownsRow base e size v n xs)(hb:base'≤base):w.ownsRow base' e size v n xs:=by
 refine⟨h.1,?_⟩;rcases h.2 with h'|⟨g,cap',cur,h',hb',r⟩
 ·exact .inl h'
 ·exact .inr ⟨g,cap',cur,h',yD hb hb',r⟩
theorem zmT(h:Nat)(hh:h<4294967296)(w:World):Calls Tryz.prog 112 #[.int .u32 (h:Int)] w fun e w'=>e = .returned (.int .u8 (S10.mark h:Int))∧Below w.heap.size w w':=by
 have e:(h:Int)/16777216%256=(S10.mark h:Int):=by unfold S10.mark;omega
 have e2:(h:Int)/16777216=(S10.mark h:Int):=by unfold S10.mark;omega
 have e3:(h:Int).tdiv 16777216=(S10.mark h:Int):=by rw[Int.tdiv_eq_ediv_of_nonneg (by omega)];exact e2
 have e4:(S10.mark h:Int)%256=(S10.mark h:Int):=by unfold S10.mark;omega
 go_enter Tryz.func112,Tryz.ntmps112;go_wp2;go_returns;refine⟨?_,by go_grown⟩;first|rfl|simp[e,e2,e3,e4]
theorem ziK(bits hash:Nat)(hb:bits≤16)(hh:hash<4294967296)(w:World) :
 Calls Tryz.prog 110 #[.int .i64 (bits:Int),.int .u32 (hash:Int)] w fun e w'=>∃a cap,e = .returned (.slice a (S10.places bits hash).length cap)∧w'.ownsRow w.heap.size 3 1 (.slice a (S10.places bits hash).length cap) (S10.places bits hash).length (Nts (S10.places bits hash))∧Below w.heap.size w w':=by
 have HZ:=zD fun W=>zaM bits (by omega) W;have hn:=zaT hb;have hn1:=zaS bits;have hi:S10.first bits hash<65536:=zbH (S10.first_lt bits hash) hn;have hp:=S10.plc_succ bits hash;have hpl:=S10.plc_len bits hash;have h3:S10.plc bits hash 3=S10.places bits hash:=rfl;have hdef:S10.first bits hash=(hash*2654435761%4294967296)%2^bits:=rfl;generalize S10.first bits hash=i at *;generalize 2^bits=N at *;have ef:((2654435761*(hash:Int))%4294967296).tmod (N:Int)=(i:Int):=by
  rw[Int.tmod_eq_emod_of_nonneg (by omega),hdef];have e2:(2654435761*(hash:Int))%4294967296=((hash*2654435761%4294967296:Nat):Int):=by omega
  rw[e2];simp
 have H3:=zD h3;have Hp:=zD hp;have Hl:=zD hpl;have hN0:((N:Int)==0)=false:=by simp;omega
 clear h3 hp hpl hdef;go_enter Tryz.func110,Tryz.ntmps110;go_wp2_with fail;refine(HZ.out _).mono ?_;rintro e w1 ⟨rfl,hb1⟩;have hB1:Below w.heap.size w w1:=zA (by go_grown) hb1;have z1:w.heap.size≤w1.heap.size:=hB1.size;go_wp2
 go_loopw [7,8] (fun v t wr=>∃k:Nat,k≤3∧t = .int .i64 (k:Int)∧wr.ownsRow w1.heap.size 3 1 v (S10.plc bits hash k).length (Nts (S10.plc bits hash k))∧Below w1.heap.size w1 wr)
  (fun _ t _=>3-(intOf t).toNat)
 case atStart=>exact⟨0,by omega,rfl,⟨rfl,.inl ⟨rfl,rfl⟩⟩,zG _ _⟩
 case round=>
  obtain⟨k,hk,rfl,hown,hB⟩:=hrel;have zr:=hB.size;by_cases hlt:k<3
  ·have ex:Go.bits .xor .i64 (i:Int) (k:Int)=((i ^^^ k:Nat):Int):=zlO i k (by omega) (by omega);have Hq:=zD (Hp.out k);have hle:=Hl.out k;generalize S10.plc bits hash k=l at *;generalize i ^^^ k=x at *;by_cases hx:x<N
   ·have Hq2:=zD (Hq.out.trans (zU hx));have Hx:=zD hx;obtain⟨w2,hw2⟩:∃w2,wr.alloc (.cells #[.int .i64 (x:Int)] 3)=w2:=⟨_,rfl⟩;have hb2:Below wr.heap.size wr w2:=by rw[←hw2];exact(zG _ wr).alloc (zE _) _
    have hd2:Blk w2 wr.heap.size [.int .i64 (x:Int)] 3:=by rw[←hw2];exact Blk.new wr _ _
    obtain⟨a1,cap1,rfl,_,_⟩:=zaU hown;have Hown2:=zD (yO (B:=0) hown hb2);have Hd2:=zD (show Rd w2 (some ⟨wr.heap.size,0,none⟩) (Nts [x])from fun _=>⟨_,0,rfl,hd2.cells⟩);have z2:w1.heap.size≤w2.heap.size:=by have:=hb2.size;omega
    clear hown hd2;go_wp2_with (at_builtin;(try rw[hw2]);refine zaJ _ _ 39 3 1 8 _ w1.heap.size elems_int1 rfl rfl _ l.length (Nts l) rfl Hown2.out (some ⟨wr.heap.size,0,none⟩) 1 1 (Nts [x]) rfl (by simp[Nts]) Hd2.out (Nts_one _) (by unfold maxLen;omega) (by omega) z2 ?_;intro a2 cap2 w3 hown3 hgrow3);have hB3:Below w1.heap.size w1 w3:=Below.grown (zA hB hb2) hgrow3 z2 (fun j e=>(zaQ Hown2.out e).1);refine⟨⟨k+1,by omega,by simp,?_,hB3⟩,by simp[intOf];omega⟩;rw[Hq2.out];have e3:Nts l++Nts [x]=Nts (l ++ [x]):=by unfold Nts;rw[List.map_append]
    rw[e3]at hown3;simpa using hown3
   ·have Hq2:=zD (Hq.out.trans (zK hx));go_wp2;go_roundw
    case rel=>exact⟨k+1,by omega,by simp,by rw[Hq2.out];exact hown,hB⟩
    case measure=>simp[intOf];omega
  ·obtain rfl:k=3:=by omega
   have zB:=zA hB1 hB;rw[H3.out]at hown;obtain⟨a,cap,rfl,_,_⟩:=zaU hown;have Hown:=zD hown;clear hown;go_wp2;go_returns;exact⟨a,cap,rfl,owns_mono Hown.out z1,zB⟩
end Go.Proofs.YtieeogndnhighaaGreat
namespace Go.Proofs.YtieeogndnhighaaGreat
open Go.RowKit
theorem znS{l:List Nat}{k:Nat}(hlt:k<l.length):l.getD k 0=l[k]'hlt:=by
 rw[zY,zI hlt];rfl
theorem zlW{α:Type}{p:α→Bool}{l:List α}{k:Nat}(hk:k<l.length)(h:(l.take k).find? p=none)(hp:p l[k]=true):l.find? p=some l[k]:=by
 have e:l=l.take k++(l[k]::l.drop (k+1)):=by rw[←List.drop_eq_getElem_cons hk,zaF]
 conv=>lhs;rw[e]
 rw[List.find?_append,h,List.find?_cons];simp only[hp,Option.none_or]
theorem zoV{α:Type}{p:α→Bool}{l:List α}{k:Nat}(hk:k<l.length)(h:(l.take k).find? p=none):(l.take (k+1)).find? p=if p l[k]=true then some l[k]else none:=by
 rw[List.take_succ_eq_append_getElem hk,List.find?_append,h,List.find?_cons,List.find?_nil,Option.none_or];cases p l[k]<;>rfl
def optI:Option Nat→Int
 | some i=>(i:Int)
 | none=> -1
def S10.findI(bits:Nat)(xs:List Int)(hash:Nat):Int:=optI (S10.find bits xs hash)
theorem zmV(n hash:Nat)(hn:n≤16)(hh:hash<4294967296)(xs:List Int)(hl:xs.length=16*2^n)(a:Option Addr)(cap:Nat)(w:World)(hT:Tab xs a cap w) :
 Calls Tryz.prog 109 #[zdY (n:Int) xs a cap,.int .u32 (hash:Int)] w fun e w'=>e = .returned (.int .i64 (S10.findI n xs hash))∧Below w.heap.size w w':=by
 have HP:=zD fun W=>ziK n hash hn hh W;have HM:=zD fun W=>zmT hash hh W;have hps:=zaT hn;have hpp:=zaS n;obtain⟨b,off,rfl,hcs⟩:=hT.rd (fun e=>by have h1:=yQ List.length e;rw[zaI,hl]at h1;simp only[List.length_nil]at h1;omega);have hfd:S10.find n xs hash=(S10.places n hash).find? fun i=>xs.getD (16*i) 0==(S10.mark hash:Int):=rfl;unfold S10.findI;rw[hfd];obtain⟨res,hres⟩:∃res,optI ((S10.places n hash).find? fun i=>xs.getD (16*i) 0==(S10.mark hash:Int))=res:=⟨_,rfl⟩;rw[hres];have hpl:∀i∈S10.places n hash,i<2^n:=fun i h=>S10.plc_lt h;have hlen:=S10.plc_len n hash 3;have hlen2:(S10.places n hash).length≤3:=hlen;obtain⟨l,hll⟩:∃l,S10.places n hash=l:=⟨_,rfl⟩;rw[hll]at HP hres hpl hlen2;clear hll;generalize S10.mark hash=mk at *;have hin:∀i∈l,16*i<xs.length∧i<65536:=fun i h=>by have:=hpl i h;omega
 have Hin:=zD hin;have hcap:=hT.cap;have Hcap:=zD hcap;have HLs:=zD (show xs.length≤2097152 by omega);unfold zdY;have Hres:=zD hres;clear hT hl hps hpp hpl hlen hres hfd hin hcap;go_enter Tryz.func109,Tryz.ntmps109;go_wp2_with fail;refine(HP.out _).mono ?_;rintro e w1 ⟨la,lc,rfl,hown,hb1⟩;have hB1:Below w.heap.size w w1:=zA ((zG _ w).alloc (zE _) _) hb1;have a1:Blk w1 w.heap.size [.int .i64 (n:Int),.slice (some ⟨b,off,none⟩) xs.length cap] 75:=(Blk.new w _ _).step hb1;have hrd:=Rd.of_owns hown;have Hrd:=zD hrd;clear hown hrd;go_wp2
 go_loopw [6] (fun t wr=>∃k:Nat,k≤l.length∧t = .int .i64 (k:Int)∧(l.take k).find? (fun i=>xs.getD (16*i) 0==(mk:Int))=none∧Below w1.heap.size w1 wr)
  (fun t _=>l.length-(intOf t).toNat)
 case atStart=>exact⟨0,by omega,rfl,rfl,zG _ _⟩
 case round=>
  obtain⟨k,hk,rfl,hno,hB⟩:=hrel;have Hno:=zD hno;have hBr:=zA hB1 hB;have a2:=a1.step hB;have c1:=a2.cell 1;simp only[lgs,lgz]at c1;clear hno;by_cases hlt:k<l.length
  ·obtain⟨lb,lo,rfl,hlc⟩:=Hrd.out.step hB (fun e=>by rw[←List.length_eq_zero_iff,zpW]at e;omega);have hx2:=hlc k _ (Nts_at hlt);have hg:l.getD k 0=l[k]'hlt:=znS hlt;rw[hg]at hx2;clear hg;have hmem:=Hin.out (l[k]'hlt) (List.getElem_mem hlt);have hsn:(l.take (k+1)).find? (fun i=>xs.getD (16*i) 0==(mk:Int))=if(xs.getD (16*(l[k]'hlt)) 0==(mk:Int))=true then some (l[k]'hlt)else none:=by
    exact zoV hlt Hno.out
   have hfin:=zlW (p:=fun i=>xs.getD (16*i) 0==(mk:Int)) hlt Hno.out;have hcx:wr.cell? ⟨b,off+16*(l[k]'hlt),none⟩=some (.int .u8 (xs.getD (16*(l[k]'hlt)) 0)):=by
    exact zaC hcs hBr _ _ (Bts_ix hmem.1)
   generalize l[k]'hlt=i at *;generalize xs.getD (16*i) 0=v at *;obtain⟨hm1,hm2⟩:=hmem;obtain⟨j,hj⟩:∃j,16*i=j:=⟨_,rfl⟩;have eW:IntKind.i64.wrap (16*(i:Int))=(j:Int):=(ziW (by omega) (by omega)).trans (by omega);rw[hj]at hcx hm1;clear hj;have hC2:Cells wr [(⟨w.heap.size,1,none⟩,.slice (some ⟨b,off,none⟩) xs.length cap),(⟨lb,lo+k,none⟩,.int .i64 (i:Int)),(⟨b,off+j,none⟩,.int .u8 v)]:=⟨c1,hx2,hcx,yJ⟩;have Hsn:=zD hsn;have Hfin:=zD hfin;clear hsn hfin hlc;go_wp2;refine zrE 12 0 [(U,[U,U,U,U,U,U,U,U,U,U]),(zrA,[zrA,zrA,zrA,zrA,zrA,zrA,zrA,zrA,zrA,zrA,U]),(U,[zrA,zrA,zrA,zrA,zrA,zrA,zrA,zrA,zrA,zrA,zrA,U])] (Keeps wr [(⟨w.heap.size,1,none⟩,.slice (some ⟨b,off,none⟩) xs.length cap),(⟨lb,lo+k,none⟩,.int .i64 (i:Int)),(⟨b,off+j,none⟩,.int .u8 v)]) (by kernel_rfl) (Keeps.start hC2) (fun Y Q4 F4 hY hF=> ?_);simp only[zrC]
   repeat
    apply zF (by rw[hY];rfl)
    ·intro w2 hS2;(try simp only[Keeps,Cells]at hS2);go_simp;with_reducible rfl
    simp only[zrB]
   apply zS (by rw[hY];rfl)
   ·go_simp;with_reducible exact⟨rfl,rfl⟩
   refine(HM.out _).mono ?_;rintro e w5 ⟨rfl,hb5⟩;have hk5:=(Keeps.start hC2).step hb5;refine⟨_,rfl,hk5,?_⟩;simp only[zrB]
   repeat
    apply zF (by rw[hY];rfl)
    ·intro w2 hS2;(try simp only[Keeps,Cells]at hS2);go_simp;with_reducible rfl
    simp only[zrB]
   refine zZ (hF.out _ _ (fun K hK=> ?_));clear hF hY;refine OnlyK.mk (hK.out _ _ ?_);clear hK;have hB5:=zA hB hk5.1;have hB6:=zA hB1 hB5;have hx5:w5.cell? ⟨lb,lo+k,none⟩=some (.int .i64 (i:Int)):=hk5.2.2.1;by_cases hv:(v==(mk:Int))=true
   ·have hr3:res=(i:Int):=by rw[←Hres.out,Hfin.out hv];rfl
    go_wp2;go_returns;exact⟨by rw[hr3];rfl,hB6⟩
   ·have Hs2:=zD (Hsn.out.trans (zK hv));rw[Bool.not_eq_true]at hv;go_wp2;go_roundw
    case rel=>exact⟨k+1,by omega,by simp,Hs2.out,hB5⟩
    case measure=>simp[intOf];omega
  ·obtain rfl:k=l.length:=by omega
   have hn:=Hno.out;rw[zcP]at hn;have hr0:res = -1:=by rw[←Hres.out,hn];rfl
   go_wp2;go_returns;exact⟨by rw[hr0];rfl,hBr⟩
end Go.Proofs.YtieeogndnhighaaGreat
namespace Go.Proofs.YtieeogndnhighaaGreat
open Go.RowKit
theorem znB(bits:Int)(xs:List Int)(a:Option Addr)(cap:Nat)(w:World)(h1:1≤xs.length)(h2:xs.length≤2162688)(hrd:Rd w a (Bts xs)) :
 Calls Tryz.prog 108 #[zdY bits xs a cap] w fun e w'=>∃b cap',e = .returned (zdY bits xs (some ⟨b,0,none⟩) cap')∧OB w' w.heap.size b cap' xs∧Below w.heap.size w w':=by
 unfold zdY;go_enter Tryz.func108,Tryz.ntmps108;go_wp2;obtain⟨w0,hw0⟩:∃w0,(w.alloc (Obj.cells #[.int .i64 bits,.slice a xs.length cap] 75)).alloc (Obj.cells #[.int .i64 0,.slice none 0 0] 75)=w0:=⟨_,rfl⟩;have hB0:Below w.heap.size w w0:=by rw[←hw0];go_grown
 have a1:Blk w0 w.heap.size [.int .i64 bits,.slice a xs.length cap] 75:=by rw[←hw0];exact(Blk.new w _ _).alloc _
 have a2:Blk w0 (w.heap.size+1) [.int .i64 0,.slice none 0 0] 75:=by
  have h:=Blk.new (w.alloc (Obj.cells #[.int .i64 bits,.slice a xs.length cap] 75)) [.int .i64 0,.slice none 0 0] 75;rw[←hw0];simpa using h
 rw[hw0];have z0:w.heap.size+1<w0.heap.size:=a2.lt;clear hw0;have hCS:Cells w0 [(⟨w.heap.size,0,none⟩,.int .i64 bits),(⟨w.heap.size,1,none⟩,.slice a xs.length cap)]:=⟨a1.cell 0,a1.cell 1,yJ⟩;refine zrE 7 1 [(U,[U,U,U,U,U]),(zrA,[zrA,zrA,zrA,zrA,zrA,U]),(U,[zrA,zrA,zrA,zrA,zrA,zrA,U])] (Keeps w0 [(⟨w.heap.size,0,none⟩,.int .i64 bits),(⟨w.heap.size,1,none⟩,.slice a xs.length cap)]) (by kernel_rfl) (Keeps.start hCS) (fun Y Q4 F4 hY hF=> ?_);simp only[zrC]
 repeat
  apply zF (by rw[hY];rfl)
  ·intro w2 hS2;(try simp only[Keeps,Cells]at hS2);go_simp;with_reducible rfl
  simp only[zrB]
 refine zkS (.tmp 6) (.tmp 8) 59 5 1 1 _ w0.heap.size zfM (.slice none 0 0) 0 [] a xs.length cap (Bts xs) (by rw[hY];rfl) rfl rfl rfl (by rw[zaI];omega)
  (Bts_one _) (by unfold maxLen;omega) (by omega) (World.ownsRow_nil _ _ _ _) ((hrd.step hB0).step (Keeps.start hCS).1) (zE _) ?_
 intro a3 cap3 w3 hown3 hgrow3;simp only[yV,lna]at hown3⊢;have hB3:Below w0.heap.size w0 w3:=Below.grown (B:=w0.heap.size) (Keeps.start hCS).1 hgrow3 (zE _) (fun j e=>by cases e);obtain⟨b3,rfl,hb3,hok3⟩:=OB.of_owns (base':=w.heap.size) hown3 h1 (by omega)
 have hk3:Keeps w0 [(⟨w.heap.size,0,none⟩,.int .i64 bits),(⟨w.heap.size,1,none⟩,.slice a xs.length cap)] w3:=⟨hB3,by
  have e1:=a1.step hB3;exact⟨e1.cell 0,e1.cell 1,yJ⟩⟩
 refine⟨hk3,?_⟩;simp only[zrB]
 repeat
  apply zF (by rw[hY];rfl)
  ·intro w2 hS2;(try simp only[Keeps,Cells]at hS2);go_simp;with_reducible rfl
  simp only[zrB]
 refine zZ (hF.out _ _ (fun K hK=> ?_));clear hF hY;have e2:=a2.step hB3;have r0:=e2.cell 0;have r1:=e2.cell 1;have f0:=e2.free 0;have f1:=e2.free 1;have g:=(e2.set 0 (.int .i64 bits)).set 1 (.slice (some ⟨b3,0,none⟩) xs.length cap3);have g0:=g.cell 0;have g1:=g.cell 1;simp only[sC0,sCs,lgz,lgs]at g0 g1 r0 r1;have ho2:=(hok3.other (w.heap.size+1) 0 (.int .i64 bits) (by omega)).other (w.heap.size+1) 1 (.slice (some ⟨b3,0,none⟩) xs.length cap3) (by omega);have hBB:Below w.heap.size w ((w3.setCell ⟨w.heap.size+1,0,none⟩ (.int .i64 bits)).setCell ⟨w.heap.size+1,1,none⟩ (.slice (some ⟨b3,0,none⟩) xs.length cap3)):=((zA hB0 hB3).setCell (p:=⟨w.heap.size+1,0,none⟩) (by simp) _).setCell (p:=⟨w.heap.size+1,1,none⟩) (by simp) _;have Ho2:=zD ho2;clear hok3 ho2 e2 g hown3;go_wp2_with fail;refine OnlyK.mk (hK.out _ _ ?_);clear hK;go_wp2;exact bodyPost_ret (v:=.agg #[.int .i64 bits,.slice (some ⟨b3,0,none⟩) xs.length cap3]) (by simp[results,Tryz.results108,go_sem,g0,g1]) rfl ⟨b3,cap3,rfl,Ho2.out,hBB⟩
theorem rprio10_any(n:Nat)(xs:List Int)(k:Nat)(hn:n≤16)(hl:xs.length=16*2^n)(hk:k<2^n)(a:Option Addr)(cap:Nat)(w:World)(hT:Tab xs a cap w) :
 Calls Tryz.prog 111 #[zdY (n:Int) xs a cap,.int .i64 (k:Int)] w fun e w'=>e = .returned (.int .i64 (S10.prio xs k))∧Below w.heap.size w w':=by
 have hps:=zaT hn;obtain⟨b,off,rfl,hcs⟩:=hT.rd (fun e=>by have h1:=yQ List.length e;rw[zaI,hl]at h1;simp only[List.length_nil]at h1;omega);have hin:16*k+1<xs.length:=by omega
 have hv:=hcs (16*k+1) _ (Bts_ix hin);have hr:0≤xs.getD (16*k+1) 0∧xs.getD (16*k+1) 0<256:=by
  rw[zY,zI hin];exact hT.ok _ (List.getElem_mem hin)
 unfold S10.prio;obtain⟨v,hvv⟩:∃v,xs.getD (16*k+1) 0=v:=⟨_,rfl⟩;rw[hvv]at hv hr⊢;have HP:=zD fun V=>zjQ v V;obtain⟨r,hrr⟩:∃r,(if S09.found v then S09.hz v+S09.ho v else -1)=r:=⟨_,rfl⟩;rw[hrr]at HP⊢;have hbl:=zJ hv;simp only at hbl;have ev:wrap64 v=v:=IntWalk.wrap64_in _ ⟨by omega,by omega⟩;have hcap:=hT.cap;have hLs:xs.length≤1048576:=by omega
 unfold zdY;clear hl hps hk hrr hvv hT;have hv0:(w.alloc (Obj.cells #[.int .i64 (n:Int),.slice (some ⟨b,off,none⟩) xs.length cap] 75)).cell? ⟨b,off+(16*k+1),none⟩=some (.int .u8 v):=(((zG w.heap.size w).alloc (zE _) _).cell (zJ hv)).trans hv;go_enter Tryz.func111,Tryz.ntmps111;go_wp2_with fail;(try rw[ev]);refine(HP.out _).mono ?_;rintro e w2 ⟨rfl,hb2⟩;have hB2:Below w.heap.size w w2:=zA ((zG _ w).alloc (zE _) _) hb2;go_wp2;go_returns;exact⟨rfl,hB2⟩
end Go.Proofs.YtieeogndnhighaaGreat
namespace Go.Proofs.YtieeogndnhighaaGreat
open Go.RowKit
theorem rnew10_any(bits:Int)(w:World):Calls Tryz.prog 69 #[.int .i64 bits] w fun e w'=>∃V,e = .returned (.tuple #[V,.int .i64 (S10.newE bits)])∧TO w' w.heap.size (S10.newB bits) (S10.newX bits) V∧Below w.heap.size w w':=by
 by_cases h:0≤bits∧bits≤16
 ·have e1:S10.newE bits=0:=zU h;have e2:S10.newB bits=bits:=zU h;have e3:S10.newX bits=List.replicate (16*2^bits.toNat) 0:=zU h;rw[e1,e2,e3];obtain⟨n,rfl⟩:=Int.eq_ofNat_of_zero_le h.1;have hn:n≤16:=by omega
  have HZ:=zD fun W=>zaM n (by omega) W;have hps:=zaT hn;have b1:¬((n:Int)<0):=by omega
  have b2:¬(16<(n:Int)):=by omega
  rw[Int.toNat_natCast];clear h e1 e2 e3;obtain⟨m,hmm⟩:∃m,2^n=m:=⟨_,rfl⟩;rw[hmm]at HZ hps⊢;clear hmm;have ew:wrap64 (16*(m:Int))=16*(m:Int):=IntWalk.wrap64_in _ ⟨by omega,by omega⟩;go_enter Tryz.func69,Tryz.ntmps69;go_wp2_with fail;refine(HZ.out _).mono ?_;rintro e w1 ⟨rfl,hb1⟩;have hB1:Below w.heap.size w w1:=zA (by go_grown) hb1;have z1:w.heap.size≤w1.heap.size:=hB1.size;have hc2:Blk w1 w.heap.size [.int .i64 0,.slice none 0 0] 75:=(Blk.new w _ _).step hb1;have l1:=hc2.lt;have ho:=OB.made w1 (16*m) (by omega);have hb2:Below w1.heap.size w1 (w1.alloc (.cells (List.replicate (16*m) (Value.int .u8 0)).toArray 5)):=(zG _ w1).alloc (zE _) _;obtain⟨w2,hw2⟩:∃w2,w1.alloc (.cells (List.replicate (16*m) (Value.int .u8 0)).toArray 5)=w2:=⟨_,rfl⟩;rw[hw2]at ho hb2;have hB2:=zA hB1 hb2;have hd2:=hc2.step hb2;have r2:=hd2.cell 0;have r3:=hd2.cell 1;have f2:=hd2.free 0;have f3:=hd2.free 1;have g:=(hd2.set 0 (.int .i64 (n:Int))).set 1 (.slice (some ⟨w1.heap.size,0,none⟩) (16*m) (16*m));have g0:=g.cell 0;have g1:=g.cell 1;simp only[sC0,sCs,lgz,lgs]at r2 r3 g0 g1;have ho2:=((ho.mono (base':=w.heap.size) z1).other w.heap.size 0 (.int .i64 (n:Int)) (by omega)).other w.heap.size 1 (.slice (some ⟨w1.heap.size,0,none⟩) (16*m) (16*m)) (by omega)
  have hV:TO ((w2.setCell ⟨w.heap.size,0,none⟩ (.int .i64 (n:Int))).setCell ⟨w.heap.size,1,none⟩ (.slice (some ⟨w1.heap.size,0,none⟩) (16*m) (16*m))) w.heap.size (n:Int) (List.replicate (16*m) 0) (.agg #[.int .i64 (n:Int),.slice (some ⟨w1.heap.size,0,none⟩) (16*m) (16*m)]):=
   .inr ⟨_,_,by unfold zdY;rw[yR],ho2⟩
  have HV:=zD hV;clear hV ho ho2 g hd2 hc2;go_wp2_with (at_make;refine zbU rfl (zmG (.tmp 14) 59 5 1 (.int .u8 0) zfM rfl .i64 (16*m) (by first|(show Value.int .i64 (16*(m:Int))=_;simp;done)|(show Value.int .i64 (wrap64 _)=_;rw[ew];simp)) (by omega) (by unfold maxLen;omega)) ?_;rw[hw2];clear hw2);exact bodyPost_ret (v:=.tuple #[.agg #[.int .i64 (n:Int),.slice (some ⟨w1.heap.size,0,none⟩) (16*m) (16*m)],.int .i64 0]) (by simp[results,Tryz.results69,go_sem,g0,g1]) rfl ⟨_,rfl,HV.out,(hB2.setCell (p:=⟨w.heap.size,0,none⟩) (by simp) _).setCell (p:=⟨w.heap.size,1,none⟩) (by simp) _⟩
 ·have e1:S10.newE bits=2:=zK h;have e2:S10.newB bits=0:=zK h;have e3:S10.newX bits = []:=zK h;rw[e1,e2,e3];clear e1 e2 e3;have hc2:Blk (w.alloc (.cells #[.int .i64 0,.slice none 0 0] 75)) w.heap.size [.int .i64 0,.slice none 0 0] 75:=Blk.new w _ _;have hB1:Below w.heap.size w (w.alloc (.cells #[.int .i64 0,.slice none 0 0] 75)):=(zG _ w).alloc (zE _) _;have g:=(hc2.set 0 (.int .i64 0)).set 1 (.slice none 0 0);have g0:=g.cell 0;have g1:=g.cell 1;simp only[sC0,sCs,lgz,lgs]at g0 g1;by_cases h1:bits<0
  ·go_enter Tryz.func69,Tryz.ntmps69;go_wp2;refine bodyPost_ret (v:=.tuple #[.agg #[.int .i64 0,.slice none 0 0],.int .i64 2]) ?_ rfl ⟨_,rfl,TO.nil _ _,?_⟩
   ·simp[results,Tryz.results69,go_sem]
   ·go_grown
  ·have h2:16<bits:=by omega
   go_enter Tryz.func69,Tryz.ntmps69;go_wp2;refine bodyPost_ret (v:=.tuple #[.agg #[.int .i64 0,.slice none 0 0],.int .i64 2]) ?_ rfl ⟨_,rfl,TO.nil _ _,?_⟩
   ·simp[results,Tryz.results69,go_sem]
   ·go_grown
end Go.Proofs.YtieeogndnhighaaGreat
namespace Go.Proofs.YtieeogndnhighaaGreat
open Go.RowKit
end Go.Proofs.YtieeogndnhighaaGreat
namespace Go.Proofs.YtieeogndnhighaaGreat
open Go.RowKit
theorem getD_set0(xs:List Int)(i j:Nat)(v:Int):(xs.set i v).getD j 0=if i=j∧i<xs.length then v else xs.getD j 0:=by
 rw[zY,zY,List.getElem?_set];by_cases h:i=j
 ·subst h;by_cases h2:i<xs.length
  ·simp[h2]
  ·simp[h2]
 ·simp[h]
theorem zlK:∀(ys:List Int) (i:Nat) (xs:List Int) (j:Nat),(S10.setMany xs i ys).getD j 0=if i≤j∧j<i+ys.length∧j<xs.length then ys.getD (j-i) 0 else xs.getD j 0
 | [],i,xs,j=>by
   show xs.getD j 0=_;rw[zK (by simp;omega)]
 | y::ys,i,xs,j=>by
   show(S10.setMany (xs.set i y) (i+1) ys).getD j 0=_;rw[zlK ys (i+1) (xs.set i y) j,getD_set0,zdT];simp only[zbD];by_cases h1:i=j
   ·subst h1;rw[zK (by omega)];by_cases h2:i<xs.length
    ·rw[zU ⟨rfl,h2⟩,zU ⟨zE _,by omega,h2⟩];simp
    ·rw[zK (by omega),zK (by omega)]
   ·by_cases h2:i+1≤j∧j<i+1+ys.length∧j<xs.length
    ·rw[zU h2,zU (by omega)];have e:j-i=(j-(i+1))+1:=by omega
     rw[e];rfl
    ·rw[zK h2,zK (by omega),zK (by omega)]
theorem zpI(n j:Nat):(List.replicate n (0:Int)).getD j 0=0:=by
 rw[zY,List.getElem?_replicate];split<;>rfl
theorem fresh_len(xs:List Int)(n mk:Nat):(S10.fresh xs n mk).length=xs.length:=by unfold S10.fresh;rw[zdT,zcE]
theorem fresh_getD{xs:List Int}{i:Nat}(mk:Nat)(hi:16*i+16≤xs.length)(j:Nat):(S10.fresh xs i mk).getD j 0=if j=16*i then(mk:Int)else if 16*i<j∧j<16*i+16 then 0 else xs.getD j 0:=by
 unfold S10.fresh;rw[getD_set0,zcE,zlK,zpI,yR];by_cases h1:j=16*i
 ·subst h1;rw[zU ⟨rfl,by omega⟩,zU rfl]
 ·rw[zK (fun h=>h1 h.1.symm),zK h1];by_cases h2:16*i<j∧j<16*i+16
  ·rw[zU (by omega),zU h2]
  ·rw[zK (by omega),zK h2]
structure Good(n:Nat)(xs:List Int):Prop where
 le:n≤16
 len:xs.length=16*2^n
 ok:OK8 xs
 st:∀j,j<xs.length→j%16≠0→xs.getD j 0<215
theorem Good.check{n:Nat}{xs:List Int}(h:Good n xs):S10.check (n:Int) xs=0:=by
 have hl:=h.le;rw[S10.check_form (by omega) (by rw[Int.toNat_natCast];exact h.len),Int.toNat_natCast,S10.bad_eq h.len];have hb:S10.badP xs (16*2^n)=false:=by
  unfold S10.badP;rw[List.any_eq_false];intro j hj;rw[List.mem_range,←h.len]at hj;unfold S10.bad2;by_cases hz:j%16=0
  ·simp[hz]
  ·have:=h.st j hj hz;rw[zL (show¬(215≤xs.getD j 0) by omega)];simp
 rw[hb];rfl
theorem Good.getD{n:Nat}{xs:List Int}(h:Good n xs)(j:Nat):0≤xs.getD j 0∧xs.getD j 0<256:=by
 by_cases hj:j<xs.length
 ·rw[zY,zI hj];exact h.ok _ (List.getElem_mem hj)
 ·rw[zY,yY (by omega)];exact⟨Int.le_refl 0,by decide⟩
theorem Good.fresh{n:Nat}{xs:List Int}(h:Good n xs){i:Nat}(hi:i<2^n){mk:Nat}(hm:mk<256):Good n (S10.fresh xs i mk):=by
 have hl:=h.len;refine⟨h.le,by rw[fresh_len];exact h.len,OK8.fresh h.ok i mk hm,fun j hj hz=> ?_⟩;rw[fresh_len]at hj;rw[fresh_getD mk (by omega)];rw[zK (by omega)];split
 ·decide
 ·exact h.st j hj hz
theorem Good.new{n:Nat}(hn:n≤16):Good n (List.replicate (16*2^n) 0):=by
 refine⟨hn,by simp,OK8.zeros _,fun j _ _=> ?_⟩;rw[zpI];decide
def S10.has(xs:List Int)(mk:Nat)(i:Nat):Bool:=xs.getD (16*i) 0==(mk:Int)
theorem S10.find_def(n:Nat)(xs:List Int)(h:Nat):S10.find n xs h=(S10.places n h).find? (S10.has xs (S10.mark h)):=rfl
theorem S10.find_some{n:Nat}{xs:List Int}{h i:Nat}(hf:S10.find n xs h=some i):i∈S10.places n h∧xs.getD (16*i) 0=(S10.mark h:Int):=by
 rw[S10.find_def]at hf;refine⟨List.mem_of_find?_eq_some hf,?_⟩;have:=List.find?_some hf;unfold S10.has at this;simpa using this
theorem S10.mem_places{n h i:Nat}(hi:i∈S10.places n h):i<2^n:=S10.plc_lt hi
section
variable {n:Nat} {xs:List Int} (hg:Good n xs) (h:Nat)
include hg
theorem Good.openN_mem:S10.openN (n:Int) xs h∈S10.places n h:=by
 have e2:S10.openN (n:Int) xs h=((S10.find n xs h).getD ((S10.least xs (S10.places n h)).getD 0)):=by
  have:=hg.check;unfold S10.openN;rw[zU this,Int.toNat_natCast]
 rw[e2];obtain⟨i,hle,_,hm⟩:=S10.least_ok xs n h;rw[hle];cases hf:S10.find n xs h with
 | none=>exact hm
 | some j=>exact(S10.find_some hf).1
theorem Good.openN_lt:S10.openN (n:Int) xs h<2^n:=S10.mem_places (hg.openN_mem h)
theorem Good.openB:S10.openB (n:Int) xs=n:=zU hg.check
theorem Good.openX_eq:S10.openX (n:Int) xs h=if(S10.find n xs h).isSome then xs else S10.fresh xs (S10.openN (n:Int) xs h) (S10.mark h):=by
 have:=hg.check;unfold S10.openX;rw[zU this,Int.toNat_natCast]
theorem Good.openX(hh:h<4294967296):Good n (S10.openX (n:Int) xs h):=by
 rw[hg.openX_eq h];split
 ·exact hg
 ·exact hg.fresh (hg.openN_lt h) (S10.mark_lt hh)
end
