/- A part of the proof of L14n. No condition. -/
import Derived.Laws.BytesArg
import Derived.Test.YtieeogndnhighaaGreatZL14nbl
set_option linter.all false
set_option maxRecDepth 100000
set_option maxHeartbeats 4000000
namespace Go.Proofs.YtieeogndnhighaaGreat
open Go.RowKit
theorem ropen10_bad(bits:Int)(xs:List Int)(hash:Nat)(a:Option Addr)(cap:Nat)(w:World)(hT:Tab xs a cap w)(hc:¬S10.check bits xs=0) :
 Calls Tryz.prog 73 #[zdY bits xs a cap,.int .u32 (hash:Int)] w fun e w'=>e = .returned (.tuple #[.agg #[.int .i64 0,.slice none 0 0],.int .i64 0,.int .i64 (S10.check bits xs)])∧Below w.heap.size w w':=by
 have HC:=zD fun W (h:Tab xs a cap W)=>zeJ bits xs a cap W h;unfold zdY at *;have hc':(S10.check bits xs != 0)=true:=by simpa using hc
 obtain⟨C,hC⟩:∃C,S10.check bits xs=C:=⟨_,rfl⟩;rw[hC]at hc' HC⊢;clear hc hC;go_enter Tryz.func73,Tryz.ntmps73;go_wp2_with fail;refine(HC.out _ (hT.step (by go_grown))).mono ?_;rintro e w1 ⟨rfl,hb1⟩;have hB1:Below w.heap.size w w1:=zA (by go_grown) hb1;have z1:w.heap.size≤w1.heap.size:=hB1.size;have hc2:Blk w1 (w.heap.size+1) [.int .i64 0,.slice none 0 0] 75:=by
  have h:=(Blk.new (w.alloc (.cells #[.int .i64 bits,.slice a xs.length cap] 75)) [.int .i64 0,.slice none 0 0] 75).step hb1;rwa[yA]at h
 have r0:=hc2.cell 0;have r1:=hc2.cell 1;have f0:=hc2.free 0;have f1:=hc2.free 1;have g:=(hc2.set 0 (.int .i64 0)).set 1 (.slice none 0 0);have g0:=g.cell 0;have g1:=g.cell 1;simp only[sC0,sCs,lgz,lgs]at g0 g1 r0 r1;clear hc2 g;go_wp2;exact bodyPost_ret (v:=.tuple #[.agg #[.int .i64 0,.slice none 0 0],.int .i64 0,.int .i64 C]) (by simp[results,Tryz.results73,go_sem,g0,g1]) rfl ⟨rfl,(hB1.setCell (p:=⟨w.heap.size+1,0,none⟩) (by simp) _).setCell (p:=⟨w.heap.size+1,1,none⟩) (by simp) _⟩
theorem zqC(n:Nat)(xs:List Int)(hash i:Nat)(hn:n≤16)(hl:xs.length=16*2^n)(hh:hash<4294967296)(hc:S10.check (n:Int) xs=0)(hi:S10.find n xs hash=some i)(a:Option Addr)(cap:Nat)(w:World)(hT:Tab xs a cap w) :
 Calls Tryz.prog 73 #[zdY (n:Int) xs a cap,.int .u32 (hash:Int)] w fun e w'=>∃b cap',e = .returned (.tuple #[zdY (n:Int) xs (some ⟨b,0,none⟩) cap',.int .i64 (i:Int),.int .i64 0])∧OB w' w.heap.size b cap' xs∧Below w.heap.size w w':=by
 have HC:=zD fun W (h:Tab xs a cap W)=>zeJ (n:Int) xs a cap W h;rw[hc]at HC;have hps:=zaT hn;have hpp:=zaS n;have HCl:=zD fun W (h:Rd W a (Bts xs))=>znB (n:Int) xs a cap W (by omega) (by omega) h;have HF:=zD fun W (h:Tab xs a cap W)=>zmV n hash hn hh xs hl a cap W h;unfold S10.findI at HF;rw[hi]at HF;have eo:optI (some i)=(i:Int):=rfl;rw[eo]at HF;have hi0:(0:Int)≤(i:Int):=by omega
 clear hc hl hps hpp eo;unfold zdY at *;go_enter Tryz.func73,Tryz.ntmps73;go_wp2_with fail;refine(HC.out _ (hT.step (by go_grown))).mono ?_;rintro e w1 ⟨rfl,hb1⟩;have hB1:Below w.heap.size w w1:=zA (by go_grown) hb1;have z1:w.heap.size≤w1.heap.size:=hB1.size;have hc1:Blk w1 w.heap.size [.int .i64 (n:Int),.slice a xs.length cap] 75:=((Blk.new w _ _).alloc _).step hb1;have hc2:Blk w1 (w.heap.size+1) [.int .i64 0,.slice none 0 0] 75:=by
  have h:=(Blk.new (w.alloc (.cells #[.int .i64 (n:Int),.slice a xs.length cap] 75)) [.int .i64 0,.slice none 0 0] 75).step hb1;rwa[yA]at h
 have k1:=hc1.cell 0;have k2:=hc1.cell 1;simp only[zrD]at k1 k2;go_wp2_with fail;refine(HCl.out _ (hT.rd.step hB1)).mono ?_;rintro e w2 ⟨b2,cap2,rfl,ho2,hb2⟩;have hB2:=zA hB1 hb2;have z2:=hB2.size;have hd1:=hc1.step hb2;have hd2:=hc2.step hb2;have k3:=hd1.cell 0;have k4:=hd1.cell 1;simp only[zrD]at k3 k4;have l1:=hd1.lt;have l2:=hd2.lt;go_wp2_with fail;refine(HF.out _ ((hT.step hB2).step ((zG _ w2).alloc (zE _) _))).mono ?_;rintro e w3 ⟨rfl,hb3⟩;have hb3':Below w2.heap.size w2 w3:=zA ((zG _ w2).alloc (zE _) _) hb3;have hB3:=zA hB2 hb3';have hv3:Blk w3 w2.heap.size [.int .i64 (n:Int),.slice (some ⟨b2,0,none⟩) xs.length cap2] 75:=(Blk.new w2 _ _).step hb3;have he2:=hd2.step hb3';have ho3:=ho2.step hb3';have q0:=hv3.cell 0;have q1:=hv3.cell 1;have r0:=he2.cell 0;have r1:=he2.cell 1;have f0:=he2.free 0;have f1:=he2.free 1;have g:=(he2.set 0 (.int .i64 (n:Int))).set 1 (.slice (some ⟨b2,0,none⟩) xs.length cap2);have g0:=g.cell 0;have g1:=g.cell 1;simp only[sC0,sCs,lgz,lgs]at q0 q1 g0 g1 r0 r1;have zb:w.heap.size+1<b2:=by have:=hc2.lt;have:=ho2.1;omega
 have ho4:=((ho3.mono (base':=w.heap.size) (by omega)).other (w.heap.size+1) 0 (.int .i64 (n:Int)) (by omega)).other (w.heap.size+1) 1 (.slice (some ⟨b2,0,none⟩) xs.length cap2) (by omega);have Ho4:=zD ho4;clear ho2 ho3 ho4 g he2 hv3 hd1 hd2 hc1 hc2;go_wp2;exact bodyPost_ret (v:=.tuple #[.agg #[.int .i64 (n:Int),.slice (some ⟨b2,0,none⟩) xs.length cap2],.int .i64 (i:Int),.int .i64 0]) (by simp[results,Tryz.results73,go_sem,g0,g1]) rfl ⟨b2,cap2,rfl,Ho4.out,(hB3.setCell (p:=⟨w.heap.size+1,0,none⟩) (by simp) _).setCell (p:=⟨w.heap.size+1,1,none⟩) (by simp) _⟩
end Go.Proofs.YtieeogndnhighaaGreat
namespace Go.Proofs.YtieeogndnhighaaGreat
open Go.RowKit
theorem zhE{l:List Nat}{k:Nat}(hk:k<l.length):l.take (k+1)=l.take k ++ [l.getD k 0]:=by
 rw[List.take_succ_eq_append_getElem hk,znS hk]
theorem lstep_some(xs:List Int)(b x:Nat):S10.lstep xs (some b) x=if S10.prio xs x<S10.prio xs b then some x else some b:=rfl
theorem ropen10_new(n:Nat)(xs:List Int)(hash i:Nat)(hn:n≤16)(hl:xs.length=16*2^n)(hh:hash<4294967296)(hc:S10.check (n:Int) xs=0)(hi:S10.find n xs hash=none)(hle:S10.least xs (S10.places n hash)=some i)(him:i<2^n)(a:Option Addr)(cap:Nat)(w:World)(hT:Tab xs a cap w) :
 Calls Tryz.prog 73 #[zdY (n:Int) xs a cap,.int .u32 (hash:Int)] w fun e w'=>∃b cap',e = .returned (.tuple #[zdY (n:Int) xs (some ⟨b,0,none⟩) cap',.int .i64 (i:Int),.int .i64 0])∧OB w' w.heap.size b cap' (S10.fresh xs i (S10.mark hash))∧Below w.heap.size w w':=by
 have HC:=zD fun W (h:Tab xs a cap W)=>zeJ (n:Int) xs a cap W h;rw[hc]at HC;have hps:=zaT hn;have hpp:=zaS n;have HCl:=zD fun W (h:Rd W a (Bts xs))=>znB (n:Int) xs a cap W (by omega) (by omega) h;have HF:=zD fun W (h:Tab xs a cap W)=>zmV n hash hn hh xs hl a cap W h;unfold S10.findI at HF;rw[hi]at HF;have eo:optI none = -1:=rfl;rw[eo]at HF;have HPl:=zD fun W=>ziK n hash hn hh W;have HPr:=zD fun(k:Nat) (hk:k<2^n) W (h:Tab xs a cap W)=>rprio10_any n xs k hn hl hk a cap W h;have HM:=zD fun V=>zmT hash hh V;have hne:=S10.places_ne n hash;have hlt:∀j∈S10.places n hash,j<2^n:=fun j h=>S10.plc_lt h;have hl3:(S10.places n hash).length≤3:=S10.plc_len n hash 3;obtain⟨l,hll⟩:∃l,S10.places n hash=l:=⟨_,rfl⟩;rw[hll]at HPl hne hlt hl3 hle;obtain⟨mk,hmk⟩:∃mk,S10.mark hash=mk:=⟨_,rfl⟩;rw[hmk]at HM⊢;have h1l:1≤l.length:=List.length_pos_iff.2 hne;have Hlt:=zD fun k (hk:k<l.length)=>hlt (l.getD k 0) (by rw[znS hk];exact List.getElem_mem hk);have Hin:=zD (show 16*i+15<xs.length by omega);have HLs:=zD (show xs.length≤1048576 by omega);have Hle:=zD hle;clear hc hl eo hi hll hmk hne hlt hle hpp;unfold zdY at *;go_enter Tryz.func73,Tryz.ntmps73;go_wp2_with fail;refine(HC.out _ (hT.step (by go_grown))).mono ?_;rintro e w1 ⟨rfl,hb1⟩;have hB1:Below w.heap.size w w1:=zA (by go_grown) hb1;have z1:w.heap.size≤w1.heap.size:=hB1.size;have hc1:Blk w1 w.heap.size [.int .i64 (n:Int),.slice a xs.length cap] 75:=((Blk.new w _ _).alloc _).step hb1;have hc2:Blk w1 (w.heap.size+1) [.int .i64 0,.slice none 0 0] 75:=by
  have h:=(Blk.new (w.alloc (.cells #[.int .i64 (n:Int),.slice a xs.length cap] 75)) [.int .i64 0,.slice none 0 0] 75).step hb1;rwa[yA]at h
 have k1:=hc1.cell 0;have k2:=hc1.cell 1;simp only[zrD]at k1 k2;go_wp2_with fail;refine(HCl.out _ (hT.rd.step hB1)).mono ?_;rintro e w2 ⟨b2,cap2,rfl,ho2,hb2⟩;have hB2:=zA hB1 hb2;have z2:=hB2.size;have hd1:=hc1.step hb2;have hd2:=hc2.step hb2;have k3:=hd1.cell 0;have k4:=hd1.cell 1;simp only[zrD]at k3 k4;have l1:=hd1.lt;have l2:=hd2.lt;go_wp2_with fail;refine(HF.out _ ((hT.step hB2).step ((zG _ w2).alloc (zE _) _))).mono ?_;rintro e w3 ⟨rfl,hb3⟩;have hb3':Below w2.heap.size w2 w3:=zA ((zG _ w2).alloc (zE _) _) hb3;have hB3:=zA hB2 hb3';have hv3:Blk w3 w2.heap.size [.int .i64 (n:Int),.slice (some ⟨b2,0,none⟩) xs.length cap2] 75:=(Blk.new w2 _ _).step hb3;have he1:=hd1.step hb3';have he2:=hd2.step hb3';have ho3:=ho2.step hb3';have m1:=he1.cell 0;simp only[lgz]at m1;have zb:w.heap.size+1<b2:=by have:=hc2.lt;have:=ho2.1;omega
 have zb2:b2<w2.heap.size:=ho2.lt;go_wp2_with fail;refine(HPl.out _).mono ?_;rintro e w4 ⟨la,lc,rfl,hown,hb4⟩;have hB4:=zA hB3 hb4;have hv4:=hv3.step hb4;have hf1:=he1.step hb4;have hf2:=he2.step hb4;have ho4:=ho3.step hb4;have zb3:w2.heap.size<w3.heap.size:=hv3.lt;have hrd:=Rd.of_owns hown;obtain⟨lb,lo,rfl,hlc⟩:=hrd (fun e=>by rw[←List.length_eq_zero_iff,zpW]at e;omega);have hx0:=hlc 0 _ (Nts_at (show 0<l.length by omega));rw[Nat.add_zero]at hx0;have Hlc:=zD hlc;have hk1:S10.least xs (l.take 1)=some (l.getD 0 0):=by
  rw[zhE (show 0<l.length by omega)];rfl
 have Hk1:=zD hk1;have hx0l:=(Hlt.out 0 (by omega));obtain⟨x0,hx0e⟩:∃x0,l.getD 0 0=x0:=⟨_,rfl⟩;rw[hx0e]at hx0 Hk1 hx0l;clear hown hrd hlc hc1 hc2 hd1 hd2 k1 k2 k3 k4 m1 he1 he2 hk1 hx0e;go_wp2
 go_loopw [11,12] (fun bv t wr=>∃k bst:Nat,1≤k∧k≤l.length∧t = .int .i64 (k:Int)∧bv = .int .i64 (bst:Int)∧bst<2^n∧S10.least xs (l.take k)=some bst∧Below w4.heap.size w4 wr)
  (fun _ t _=>l.length-(intOf t).toNat)
 case atStart=>exact⟨1,x0,by omega,by omega,rfl,rfl,hx0l,Hk1.out,zG _ _⟩
 case round=>
  obtain⟨k,bst,hk0,hk,rfl,rfl,hbst,hls,hB⟩:=hrel;have Hls:=zD hls;have hBr:=zA hB4 hB;clear hls;by_cases hlt:k<l.length
  ·have hx:=(hB.cell (zJ (Hlc.out k _ (Nts_at hlt)))).trans (Hlc.out k _ (Nts_at hlt));have hxl:=Hlt.out k hlt;have hsn:S10.least xs (l.take (k+1))=if S10.prio xs (l.getD k 0)<S10.prio xs bst then some (l.getD k 0)else some bst:=by
    rw[zhE hlt,S10.least_snoc,Hls.out,lstep_some]
   obtain⟨x,hxe⟩:∃x,l.getD k 0=x:=⟨_,rfl⟩;rw[hxe]at hx hxl hsn;have P1:=zD fun V hV=>HPr.out x hxl V hV;have P2:=zD fun V hV=>HPr.out bst hbst V hV;obtain⟨px,hpx⟩:∃px,S10.prio xs x=px:=⟨_,rfl⟩;obtain⟨pb,hpb⟩:∃pb,S10.prio xs bst=pb:=⟨_,rfl⟩;rw[hpx]at P1 hsn;rw[hpb]at P2 hsn;have Hsn:=zD hsn;have Hxl:=zD hxl;have Hbst:=zD hbst;have hg1:=hf1.step hB;have q0:=hg1.cell 0;have q1:=hg1.cell 1;simp only[zrD]at q0 q1;have hC2:Cells wr [(⟨w.heap.size,0,none⟩,.int .i64 (n:Int)),(⟨w.heap.size,1,none⟩,.slice a xs.length cap),(⟨lb,lo+k,none⟩,.int .i64 (x:Int))]:=⟨q0,q1,hx,yJ⟩;clear hsn hxl hbst hpx hpb hxe;go_wp2;refine zrE 10 0 [(U,[U,U,U,U,U,zrA,U,U]),(zrA,[zrA,zrA,zrA,zrA,zrA,U]),(zrA,[zrA,zrA,zrA,zrA,zrA,zrA,zrA,zrA,U]),(U,[zrA,zrA,zrA,zrA,zrA,zrA,zrA,zrA,zrA,U])] (Keeps wr [(⟨w.heap.size,0,none⟩,.int .i64 (n:Int)),(⟨w.heap.size,1,none⟩,.slice a xs.length cap),(⟨lb,lo+k,none⟩,.int .i64 (x:Int))]) (by kernel_rfl) (Keeps.start hC2) (fun Y Q4 F4 hY hF=> ?_);simp only[zrC]
   repeat
    apply zF (by rw[hY];rfl)
    ·intro w2 hS2;(try simp only[Keeps,Cells]at hS2);go_simp;with_reducible rfl
    simp only[zrB]
   apply zS (by rw[hY];rfl)
   ·go_simp;with_reducible exact⟨rfl,rfl⟩
   refine(P1.out _ (hT.step (zA hBr (Keeps.start hC2).1))).mono ?_;rintro e w5 ⟨rfl,hb5⟩;have hk5:=(Keeps.start hC2).step hb5;refine⟨_,rfl,hk5,?_⟩;simp only[zrB];apply zS (by rw[hY];rfl)
   ·go_simp;with_reducible exact⟨rfl,rfl⟩
   refine(P2.out _ (hT.step (zA hBr hk5.1))).mono ?_;rintro e w6 ⟨rfl,hb6⟩;have hk6:=hk5.step hb6;refine⟨_,rfl,hk6,?_⟩;simp only[zrB]
   repeat
    apply zF (by rw[hY];rfl)
    ·intro w2 hS2;(try simp only[Keeps,Cells]at hS2);go_simp;with_reducible rfl
    simp only[zrB]
   refine zZ (hF.out _ _ (fun K hK=> ?_));clear hF hY;refine OnlyK.mk (hK.out _ _ ?_);clear hK;have hB6:=zA hB hk6.1;have hx6:w6.cell? ⟨lb,lo+k,none⟩=some (.int .i64 (x:Int)):=hk6.2.2.2.1;clear hk5 hk6 hC2 hb5 hb6;by_cases hv:px<pb
   ·have Hs2:=zD (Hsn.out.trans (zU hv));go_wp2;go_roundw
    case rel=>exact⟨k+1,x,by omega,by omega,by simp,rfl,Hxl.out,Hs2.out,hB6⟩
    case measure=>simp[intOf];omega
   ·have Hs2:=zD (Hsn.out.trans (zK hv));go_wp2;go_roundw
    case rel=>exact⟨k+1,bst,by omega,by omega,by simp,rfl,Hbst.out,Hs2.out,hB6⟩
    case measure=>simp[intOf];omega
  ·obtain rfl:k=l.length:=by omega
   have hls:=Hls.out;rw[zcP,Hle.out]at hls;obtain rfl:i=bst:=zO hls;clear hls;have hv5:=hv4.step hB;have hg2:=hf2.step hB;have ho5:=ho4.step hB;have hin:=Hin.out;have hLs:=HLs.out;have hcap2:=ho2.2.1;have Him:=zD him;have Hho2:=zD ho2;clear hbst hlt him hf1 hf2 hv4 ho4 ho3 ho2 hv3;go_wp2
   go_loopw [13] (fun t wz=>∃k:Nat,k≤16∧t = .int .i64 (k:Int)∧Blk wz w2.heap.size [.int .i64 (n:Int),.slice (some ⟨b2,0,none⟩) xs.length cap2] 75∧Blk wz (w.heap.size+1) [.int .i64 0,.slice none 0 0] 75∧
    OB wz w1.heap.size b2 cap2 (S10.setMany xs (16*i) (List.replicate k 0))∧Below w.heap.size w wz)
    (fun t _=>16-(intOf t).toNat)
   case atStart=>exact⟨0,by omega,rfl,hv5,hg2,ho5,hBr⟩
   case round=>
    obtain⟨k,hk,rfl,d1,d2,do3,hBz⟩:=hrel;by_cases hlt:k<16
    ·have c1:=d1.cell 1;simp only[zrD]at c1;have p0:wr.cell? ⟨b2,16*i+k,none⟩=some (.int .u8 ((S10.setMany xs (16*i) (List.replicate k 0)).getD (16*i+k) 0)):=do3.at (by rw[zcE];omega);have p1:wr.frozen? ⟨b2,16*i+k,none⟩=false:=do3.free _;have D1:=zD (d1.other b2 (16*i+k) (.int .u8 0) (by omega));have D2:=zD (d2.other b2 (16*i+k) (.int .u8 0) (by omega))
     have D3:=zD (show OB (wr.setCell ⟨b2,16*i+k,none⟩ (.int .u8 0)) w1.heap.size b2 cap2 (S10.setMany xs (16*i) (List.replicate (k+1) 0)) by
      rw[List.replicate_succ',zlB,yR];exact do3.set (16*i+k) 0)
     have HB1:=zD (hBz.setCell (p:=⟨b2,16*i+k,none⟩) (show w.heap.size≤b2 by omega) (.int .u8 0));clear d1 d2 do3;go_wp2;go_roundw
     case rel=>exact⟨k+1,by omega,by simp,D1.out,D2.out,D3.out,HB1.out⟩
     case measure=>simp[intOf];omega
    ·obtain rfl:k=16:=by omega
     have c1:=d1.cell 1;simp only[zrD]at c1;have hC2:Cells wr [(⟨w2.heap.size,1,none⟩,.slice (some ⟨b2,0,none⟩) xs.length cap2)]:=⟨c1,yJ⟩;have p0:wr.cell? ⟨b2,16*i,none⟩=some (.int .u8 ((S10.setMany xs (16*i) (List.replicate 16 0)).getD (16*i) 0)):=do3.at (by rw[zcE];omega);have p1:wr.frozen? ⟨b2,16*i,none⟩=false:=do3.free _;obtain⟨v0,hv0⟩:∃v0,(S10.setMany xs (16*i) (List.replicate 16 0)).getD (16*i) 0=v0:=⟨_,rfl⟩;rw[hv0]at p0;clear hv0;have ef:(S10.setMany xs (16*i) (List.replicate 16 0)).set (16*i) (mk:Int)=S10.fresh xs i mk:=rfl;have eW:IntKind.i64.wrap (16*(i:Int))=((16*i:Nat):Int):=(ziW (by omega) (by omega)).trans (by omega);obtain⟨j,hj⟩:∃j,16*i=j:=⟨_,rfl⟩;rw[hj]at eW p0 p1 ef do3;have Hjf:=zD ef;have hjl:j<xs.length:=by omega
     have Hdo:=zD do3;clear hj do3 ef;go_wp2;refine zrE 6 2 [(U,[U,U,U,U,U]),(zrA,[zrA,zrA,zrA,zrA,zrA,U])] (Keeps wr [(⟨w2.heap.size,1,none⟩,.slice (some ⟨b2,0,none⟩) xs.length cap2)]) (by kernel_rfl) (Keeps.start hC2) (fun Y Q4 F4 hY hF=> ?_);simp only[zrC]
     repeat
      apply zF (by rw[hY];rfl)
      ·intro w2 hS2;(try simp only[Keeps,Cells]at hS2);go_simp;with_reducible rfl
      simp only[zrB]
     apply zS (by rw[hY];rfl)
     ·go_simp;with_reducible exact⟨rfl,rfl⟩
     refine(HM.out _).mono ?_;rintro e w6 ⟨rfl,hb6⟩;have hk6:=(Keeps.start hC2).step hb6;refine⟨_,rfl,hk6,?_⟩;simp only[zrB];refine zZ (hF.out _ _ (fun K hK=> ?_));clear hF hY;have e1:=d1.step hk6.1;have e2:=d2.step hk6.1;have e3:=Hdo.out.step hk6.1;have q0:=(e1.other b2 j (.int .u8 (mk:Int)) (by omega)).cell 0;have q1:=(e1.other b2 j (.int .u8 (mk:Int)) (by omega)).cell 1;have p2:=(hk6.1.cell (zJ p0)).trans p0;have p3:w6.frozen? ⟨b2,j,none⟩=false:=e3.free _;have e4:=e2.other b2 j (.int .u8 (mk:Int)) (by omega);have r0:=e2.cell 0;have r1:=e2.cell 1;have f0:=e2.free 0;have f1:=e2.free 1;have g:=(e4.set 0 (.int .i64 (n:Int))).set 1 (.slice (some ⟨b2,0,none⟩) xs.length cap2);have g0:=g.cell 0;have g1:=g.cell 1;simp only[sC0,sCs,lgz,lgs]at q0 q1 g0 g1 r0 r1;have ho9:=(((e3.set j (mk:Int)).mono (base':=w.heap.size) (by omega)).other (w.heap.size+1) 0 (.int .i64 (n:Int)) (by omega)).other (w.heap.size+1) 1 (.slice (some ⟨b2,0,none⟩) xs.length cap2) (by omega);rw[Hjf.out]at ho9;have Ho9:=zD ho9;have HB6:=zD ((((zA hBz hk6.1).setCell (p:=⟨b2,j,none⟩) (by simp;omega) (.int .u8 (mk:Int))).setCell (p:=⟨w.heap.size+1,0,none⟩) (by simp) (.int .i64 (n:Int))).setCell (p:=⟨w.heap.size+1,1,none⟩) (by simp) (.slice (some ⟨b2,0,none⟩) xs.length cap2));clear ho9 g e1 e2 e3 e4 d1 d2 hk6 hb6 hC2 p0 p1 c1 ho5 hv5 hg2;go_wp2_with fail;refine OnlyK.mk (hK.out _ _ ?_);clear hK;go_wp2;exact bodyPost_ret (v:=.tuple #[.agg #[.int .i64 (n:Int),.slice (some ⟨b2,0,none⟩) xs.length cap2],.int .i64 (i:Int),.int .i64 0]) (by simp[results,Tryz.results73,go_sem,g0,g1]) rfl ⟨b2,cap2,rfl,Ho9.out,HB6.out⟩
end Go.Proofs.YtieeogndnhighaaGreat
namespace Go.Proofs.YtieeogndnhighaaGreat
open Go.RowKit
theorem ropen10_any(bits:Int)(xs:List Int)(hash:Nat)(hh:hash<4294967296)(a:Option Addr)(cap:Nat)(w:World)(hT:Tab xs a cap w) :
 Calls Tryz.prog 73 #[zdY bits xs a cap,.int .u32 (hash:Int)] w fun e w'=>∃V,e = .returned (.tuple #[V,.int .i64 (S10.openN bits xs hash:Int),.int .i64 (S10.check bits xs)])∧TO w' w.heap.size (S10.openB bits xs) (S10.openX bits xs hash) V∧Below w.heap.size w w':=by
 by_cases hc:S10.check bits xs=0
 ·have e1:S10.openB bits xs=bits:=zU hc;have e2:S10.openN bits xs hash=((S10.find bits.toNat xs hash).getD ((S10.least xs (S10.places bits.toNat hash)).getD 0)):=zU hc;have e3:S10.openX bits xs hash=(if(S10.find bits.toNat xs hash).isSome then xs else S10.fresh xs (S10.openN bits xs hash) (S10.mark hash)):=zU hc;rw[e3,e2,e1,hc];obtain⟨n,rfl,hn,hl,_⟩:=S10.correct hc;rw[Int.toNat_natCast];cases hi:S10.find n xs hash with
  | some i=>
    refine(zqC n xs hash i hn hl hh hc hi a cap w hT).mono ?_;rintro e w' ⟨b',cap',rfl,ho,hb⟩;exact⟨_,rfl,TO.tab ho rfl,hb⟩
  | none=>
    obtain⟨i,hle,him,_⟩:=S10.least_ok xs n hash;refine(ropen10_new n xs hash i hn hl hh hc hi hle him a cap w hT).mono ?_;rintro e w' ⟨b',cap',rfl,ho,hb⟩;rw[hle];simp only[Option.getD_none,Option.getD_some,Option.isSome_none,Bool.false_eq_true,if_false];exact⟨_,rfl,TO.tab ho (by unfold S10.fresh;rw[zdT,zcE]),hb⟩
 ·have e1:S10.openB bits xs=0:=zK hc;have e2:S10.openN bits xs hash=0:=zK hc;have e3:S10.openX bits xs hash = []:=zK hc;rw[e3,e2,e1];refine(ropen10_bad bits xs hash a cap w hT hc).mono ?_;rintro e w' ⟨rfl,hb⟩;exact⟨_,rfl,TO.nil _ _,hb⟩
theorem conv10(xs:List Int)(a:Option Addr)(cap:Nat)(w:World)(hrd:Rd w a (Bts xs)):(convert 59 9 (.slice a xs.length cap)).run Tryz.prog w = .ok (.string (strOfNums xs)) w:=by
 by_cases hne:xs = []
 ·subst hne;have he:strOfNums []=ByteArray.empty:=rfl;cases a with
  | none=>rw[he];exact run_convert_bytes_nil w 59 5 Tryz.underlying59 Tryz.underlying5 _ _ 9 Tryz.underlying9
  | some ad=>
    obtain⟨b,o,sp⟩:=ad;have h:=run_convert_bytes_string (P:=Tryz.prog) w 59 9 5 (some ⟨b,o,sp⟩) 0 cap Tryz.underlying59 Tryz.underlying5 Tryz.underlying9;rw[he];have hl:=run_loadCells_list (P:=Tryz.prog) w ⟨b,o,sp⟩ [] (fun j v hj=>by simp at hj);simp only[List.length_nil]at hl;refine h.trans ?_;simp[Conv.bytesToString,hl]
 ·obtain⟨b,o,rfl,hr⟩:=hrd (fun e=>hne (by have:=yQ List.length e;rw[zaI]at this;exact List.length_eq_zero_iff.1 (by simpa using this)));exact run_convert_bytes_arg w 59 5 Tryz.underlying59 Tryz.underlying5 b o xs.length cap xs rfl (fun i hi=>hr i _ (Bts_ix hi)) 9 Tryz.underlying9
theorem same10_any(bx cy:Int)(xs ys:List Int)(a b:Option Addr)(c d:Nat)(w:World)(hx:Rd w a (Bts xs))(hy:Rd w b (Bts ys)) :
 Calls Tryz.prog 76 #[zdY bx xs a c,zdY cy ys b d] w fun e w'=>e = .returned (.bool (decide (bx=cy)&&((strOfNums xs).toList==(strOfNums ys).toList)))∧Below w.heap.size w w':=by
 obtain⟨w0,hw0⟩:∃w0,(w.alloc (Obj.cells #[.int .i64 bx,.slice a xs.length c] 75)).alloc (Obj.cells #[.int .i64 cy,.slice b ys.length d] 75)=w0:=⟨_,rfl⟩;have hb0:Below w.heap.size w w0:=by rw[←hw0];go_grown
 have a1:Blk w0 w.heap.size [.int .i64 bx,.slice a xs.length c] 75:=by rw[←hw0];exact(Blk.new w _ _).alloc _
 have a2:Blk w0 (w.heap.size+1) [.int .i64 cy,.slice b ys.length d] 75:=by
  have h:=Blk.new (w.alloc (Obj.cells #[.int .i64 bx,.slice a xs.length c] 75)) [.int .i64 cy,.slice b ys.length d] 75;rw[←hw0];simpa using h
 have h1:=conv10 xs a c _ (hx.step hb0);have h2:=conv10 ys b d _ (hy.step hb0);have k0:=a1.cell 0;have k1:=a1.cell 1;have k2:=a2.cell 0;have k3:=a2.cell 1;simp only[zrD]at k0 k1 k2 k3;obtain⟨s1,hs1⟩:∃s1,strOfNums xs=s1:=⟨_,rfl⟩;obtain⟨s2,hs2⟩:∃s2,strOfNums ys=s2:=⟨_,rfl⟩;rw[hs1]at h1⊢;rw[hs2]at h2⊢;clear hx hy a1 a2 hs1 hs2;unfold zdY;by_cases h:bx=cy
 ·subst h;go_enter Tryz.func76,Tryz.ntmps76;go_wp2;go_returns;exact⟨by simp,hb0⟩
 ·have h':(bx==cy)=false:=by simpa using h
  go_enter Tryz.func76,Tryz.ntmps76;go_wp2;go_returns;exact⟨by simp[h],hb0⟩
