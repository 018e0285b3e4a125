/- A part of the proof of L14g. No condition. -/
import Derived.Test.YtieeogndnhighaaGreatZL14gbi
import Derived.Test.YtieeogndnhighaaGreatZL14gbt
set_option linter.all false
set_option maxRecDepth 100000
set_option maxHeartbeats 8000000
namespace Go.Proofs.YtieeogndnhighaaGreat
open Go.RowKit
theorem check_take14{l:List S14.C}(h:S14.check l=0){k:Nat}(h1:1≤k):S14.check (l.take k)=0:=by
 obtain⟨z1,z2,z3⟩:=S14.check_zero h;refine S14.check_ok (zT (by rw[yR];omega)) (fun j x hx=> ?_);rw[yY]at hx;split at hx
 ·exact z3 j x hx
 ·cases hx
theorem Rd.takeC14{w:World}{a:Option Addr}{l:List S14.C}(h:Rd w a (zeN l)){k:Nat}(hk:k≤l.length):Rd w a (zeN (l.take k)):=fun hn=>by
 obtain⟨g,o,e,hcs⟩:=h (fun e=>hn (by
  have h0:l = []:=by
   cases l with
   | nil=>rfl
   | cons x r=>simp[zeN,yA]at e
  subst h0;simp[zeN]))
 refine⟨g,o,e,fun j v hv=>hcs j v ?_⟩;have e2:zeN l=zeN (l.take k)++zeN (l.drop k):=by
  have h:=yI zeN (yH k l).symm;rw[h];unfold zeN;rw[List.map_append,List.flatten_append]
 rw[e2];exact zaL (List.getElem?_eq_some_iff.1 hv).1 |>.trans hv
theorem begun_same{l:List S14.C}{k:Nat}(hk:k≤l.length)(data:List Int) :
 (S14.runH (evs 0 data) (S14.opened (S14.newN l))).map (fun N=>S14.outs (S14.outA N) k)=(S14.runH (evs 0 data) (S14.opened (S14.newN (l.take k)))).map (fun N=>S14.outs (S14.outA N) (l.take k).length):=by
 have e:(l.take k).length=k:=by rw[yR];omega
 rw[e];exact Pre.run _ ((Pre.new (l:=l) (k:=k)).opened hk) hk ((S14.openK_length _ _).trans (yJ _))
theorem zsM{b1 b2 base1 base2:Nat}{ls:List (List Int)}{F1 F2:Nat→Prop}{w:World}(h1:RelB b1 base1 ls F1 w)(h2:RelB b2 base2 ls F2 w)(hl:ls.length≤4000)(hs:∀x∈ls,x.length≤4000) :
 ∃m a1 c1 a2 c2,Blk w b1 [.slice a1 m c1] 70∧Blk w b2 [.slice a2 m c2] 70∧
  Calls Tryz.prog 40 #[.slice a1 m c1,.slice a2 m c2,.func (.func 24) #[] #[]] w fun e w'=>e = .returned (.bool true)∧Below w.heap.size w w':=by
 obtain⟨R1,a1,c1,e1,k1,o1,q1,_⟩:=h1;obtain⟨R2,a2,c2,e2,k2,o2,q2,_⟩:=h2;have hl1:R1.length=ls.length:=by rw[←e1,yJ]
 have hl2:R2.length=R1.length:=by rw[hl1,←e2,yJ]
 refine⟨R1.length,a1,c1,a2,c2,k1,hl2▸k2,?_⟩;exact equalRows_eq R1 R2 (e1.trans e2.symm) a1 a2 c1 c2 w (by omega) (fun r hr=>hs _ (e1▸List.mem_map_of_mem hr)) (Rd.of_owns o1) (Rd.of_owns o2) (fun r hr=>(q1 r hr).1) (fun r hr=>(q2 r hr).1)
theorem Bts_ne{xs:List Int}(h:xs≠ []):Bts xs≠ []:=fun e=>h (by cases xs with
 | nil=>rfl
 | cons x r=>cases e)
theorem begun_good(l:List S14.C)(s:Nat)(hs:s<256)(data:List Int)(a ad:Option Addr)(cap cd:Nat)(w:World)(hlc:l.length≤cap)(hck:S14.check l=0)(hfw:S14.fewC l=true)(h16:data.length≤16)(hrd:Rd w a (zeN l))(hd:∀x∈data,0≤x∧x<256)(hrdd:Rd w ad (Bts data)) :
 Calls Tryz.prog 11 #[.slice a l.length cap,.int .u8 (s:Int),.slice ad data.length cd] w fun e w'=>e = .returned (.bool true)∧Below w.heap.size w w':=by
 have HA:=zD fun W=>zpZ W;have HFw:=zD fun(W:World) (hW:Below w.heap.size w W)=>zrI l a cap W (hrd.step hW);rw[hfw]at HFw;have z1:=(S14.check_zero hck).1;have z2:=(S14.check_zero hck).2.1;have HCk:=zD fun(W:World) (hW:Below w.heap.size w W)=>zmR l a cap W (by omega) (hrd.step hW);rw[hck]at HCk;obtain⟨b1,eb1⟩:∃b,w.heap.size=b:=⟨_,rfl⟩;obtain⟨a1,ea1⟩:∃W,w.alloc (.cells #[.slice a l.length cap] 22)=W:=⟨_,rfl⟩;have F1:Blk a1 b1 [.slice a l.length cap] 22:=by rw[←ea1,←eb1];exact Blk.new w _ _
 have ba1:Below w.heap.size w a1:=by rw[←ea1];exact(zF _ _).alloc (zE _) _
 have c1:=F1.cell 0;simp only[lgz]at c1;obtain⟨k,hk⟩:∃k:Nat,1+s%l.length=k:=⟨_,rfl⟩;have hk1:1≤k:=by omega
 have hkl:k≤l.length:=by have:=Nat.mod_lt s (show 0<l.length by omega);omega
 have hkt:(l.take k).length=k:=by rw[yR];omega
 have hadb:data≠ []→∀g o,ad=some ⟨g,o,none⟩→g<w.heap.size:=fun hne g o e=>by
  obtain⟨g',o',e',hcs⟩:=hrdd (Bts_ne hne);rw[e]at e';cases e';have hv:∃v,(Bts data)[0]? = some v:=by cases data with
   | nil=>exact absurd rfl hne
   | cons x r=>exact⟨_,rfl⟩
  obtain⟨v,hv⟩:=hv;exact zL (hcs 0 v hv)
 have HN1:=zD fun(W:World) (hW:Below w.heap.size w W)=>new_all hck a cap W (hrd.step hW);have hck2:=check_take14 hck hk1;have HN2:=zD fun(W:World) (hW:Below w.heap.size w W)=>new_all hck2 a cap W ((hrd.takeC14 hkl).step hW);have hg1:GoodN (S14.opened (S14.newN l)) 0:=(GoodN.new hck).open_;have hg2:GoodN (S14.opened (S14.newN (l.take k))) 0:=(GoodN.new hck2).open_
 have HF1:=zD fun(bx bk base:Nat) (VS:List Value) (W:World) (hW:Below w.heap.size w W) (hV:NetE (fun j=>j=bx) (S14.opened (S14.newN l)) VS W) (hbx:Blk W bx [.slice none 0 0] 70) (hbk:Blk W bk [.int .i64 (k:Int)] 3) (hbl:Blk W b1 [.slice a l.length cap] 22)
  (hbase:base≤W.heap.size) (q1:bk<base) (q2:b1<base) (q3:¬bk=bx) (q4:¬b1=bx) (q5:w.heap.size≤bx)=>
  zrJ (C:=l) (shownB1 l k hk1 hkl bx bk b1 base W.heap.size a cap hbase q1 q2 q3 q4) [] (fun j=>j=bx) (S14.opened (S14.newN l)) 0 (by decide) data ⟨hg1,rfl⟩ rfl VS ad cd W hV ⟨zE _,hbk,hbl,RelB.nil W bx base hbx⟩ (zE _)
   (enters_of Tryz.func38 (by kernel_rfl) rfl) hd (by omega) (hrdd.step hW) (fun hne g o e h=>by have:=hadb hne g o e;have h:g=bx:=h;omega) (zrX data _ (by omega))
 have HF2:=zD fun(bx base:Nat) (VS:List Value) (W:World) (hW:Below w.heap.size w W) (hV:NetE (fun j=>j=bx) (S14.opened (S14.newN (l.take k))) VS W) (hbx:Blk W bx [.slice none 0 0] 70)
  (hbase:base≤W.heap.size) (q5:w.heap.size≤bx)=>
  zrJ (C:=l.take k) (shownB2 (l.take k) bx base W.heap.size hbase) [] (fun j=>j=bx) (S14.opened (S14.newN (l.take k))) 0 (by decide) data ⟨hg2,rfl⟩ rfl VS ad cd W hV ⟨zE _,RelB.nil W bx base hbx⟩ (zE _)
   (enters_of Tryz.func39 (by kernel_rfl) rfl) hd (by omega) (hrdd.step hW) (fun hne g o e h=>by have:=hadb hne g o e;have h:g=bx:=h;omega) (zrX data _ (by omega))
 have HS:=zD (begun_same hkl data);have HL1:=zD (zrX data (S14.opened (S14.newN l)) (by omega));have hkc:k≤cap:=by omega
 rw[hkt]at HN2;have hrm:((s:Int)).tmod (l.length:Int)=((s%l.length:Nat):Int):=(Int.tmod_eq_emod_of_nonneg (Int.natCast_nonneg s)).trans (Int.natCast_emod s l.length).symm;obtain⟨n,hn⟩:∃n,l.length=n:=⟨_,rfl⟩;obtain⟨m,hm⟩:∃n,data.length=n:=⟨_,rfl⟩;rw[hn]at HFw HCk HN1 ea1 F1 c1 z1 z2 hlc hkl hk hrm⊢;simp only[hn,hm]at HF1 HF2;rw[hm]at h16⊢;have hmz:¬(16:Int)<m:=by omega
 have hk2:s%n<n:=Nat.mod_lt s (by omega);clear hrd hrdd hd hfw hck hck2 hn hm h16 hg1 hg2 hadb hkt;obtain⟨r,hr⟩:∃r,s%n=r:=⟨_,rfl⟩;rw[hr]at hk hrm hk2;clear hr;have hn0:¬(n:Int)=0:=by omega
 go_enter Tryz.func11,Tryz.ntmps11;go_wp2_with (first|(rw[ea1,eb1])|(rw[ea1])|fail);refine(HFw.out _ ba1).mono ?_;rintro e w2 ⟨rfl,hb2⟩;have B2:=zA ba1 hb2;have F2:=F1.step hb2;have c2:=F2.cell 0;simp only[lgz]at c2;go_wp2_with fail;refine(HCk.out _ B2).mono ?_;rintro e w3 ⟨rfl,hb3⟩;have B3:=zA B2 hb3;have F3:=F2.step hb3;have c3:=F3.cell 0;simp only[lgz]at c3;clear c1 c2 F1 F2 hb2 B2 ba1;obtain⟨b4,eb4⟩:∃b,w3.heap.size=b:=⟨_,rfl⟩;obtain⟨a4,ea4⟩:∃W,w3.alloc (.cells #[.int .i64 0] 3)=W:=⟨_,rfl⟩;have F4:Blk a4 b4 [.int .i64 0] 3:=by rw[←ea4,←eb4];exact Blk.new w3 _ _
 have f4:=F4.free 0;have c4:=F4.cell 0;simp only[lgz]at c4;have hb14:b1<b4:=by rw[←eb4];exact F3.lt
 have hb4w:w.heap.size≤b4:=by rw[←eb4];exact B3.size
 have ba4:Below w3.heap.size w3 a4:=by rw[←ea4];exact(zF _ _).alloc (zE _) _
 have K4:=F4.set 0 (.int .i64 (k:Int));have L4:=(F3.step ba4).other b4 0 (.int .i64 (k:Int)) (by omega);have B4:Below w.heap.size w (a4.setCell ⟨b4,0,none⟩ (.int .i64 (k:Int))):=(zA B3 ba4).setCell hb4w _;obtain⟨s4,es4⟩:∃W,a4.setCell ⟨b4,0,none⟩ (.int .i64 (k:Int))=W:=⟨_,rfl⟩;rw[es4]at K4 L4 B4;simp only[sC0]at K4;have cl4:=L4.cell 0;simp only[lgz]at cl4;have hkr:(1:Int)+(r:Int)=(k:Int):=by omega
 go_wp2_with (first|(rw[ea4,eb4])|(rw[ea4])|(rw[hkr])|(rw[es4])|fail);refine(HN1.out _ B4).mono ?_;rintro e w5 ⟨V5,rfl,N5,hb5⟩;have B5:=zA B4 hb5;have hV5l:=zD N5.len;have hV5o:=zD N5.one;have K5:=K4.step hb5;have L5:=L4.step hb5;clear c3 F3 B3 hb3 c4 f4 F4 es4 ea4 eb4 ba4 cl4 hkr hrm hk hk2 hn0;obtain⟨b6,eb6⟩:∃b,w5.heap.size=b:=⟨_,rfl⟩;obtain⟨a6,ea6⟩:∃W,w5.alloc (.cells #[.slice none 0 0,.slice none 0 0,.slice none 0 0,.int .i64 0] 26)=W:=⟨_,rfl⟩;have F6:Blk a6 b6 [.slice none 0 0,.slice none 0 0,.slice none 0 0,.int .i64 0] 26:=by rw[←ea6,←eb6];exact Blk.new w5 _ _
 have ba6:Below w5.heap.size w5 a6:=by rw[←ea6];exact(zF _ _).alloc (zE _) _
 have hb46:b4<b6:=by rw[←eb6];exact K5.lt
 have hs46:s4.heap.size≤b6:=by rw[←eb6];exact hb5.size
 have B6:=zA B5 ba6;have K6:=K5.step ba6;have L6:=L5.step ba6;have N6:=N5.step ba6;go_wp2_with (first
  | (rw[ea6,eb6])
  | (rw[ea6])
  | (refine yC 26 (.tmp 8) (.tmp 41) (by rfl) (by rfl) b6 (by rfl) V5 (by rfl) _ 26 F6 (info_N.trans (yI some hV5l.out.symm)) hV5l.out.symm hV5o.out ?_;intro s6 E6 g6 z6;have K7:=K6.keptRow g6 (by intro e;have:=zJ e;omega);have L7:=L6.keptRow g6 (by intro e;have:=zJ e;omega);have ck7:=K7.cell 0;have cl7:=L7.cell 0;simp only[lgz]at ck7 cl7))
 have B7:=B6.trans (yD g6 (by omega) B6.size);have X67:KepX (fun j=>j=b6) w5 s6:=(KepX.below ba6).trans (KepX.row g6 (fun b e=>.inl (zJ e).symm));have N7:=N5.grow (E':=fun j=>b6≤j) (X67.mono (fun j hj h=>by omega)) (fun k hk h=>by omega);refine(HN2.out _ B7).mono ?_;rintro e w8 ⟨V8,rfl,N8,hb8⟩;have B8:=zA B7 hb8;have hV8l:=zD N8.len;have hV8o:=zD N8.one;have K8:=K7.step hb8;have L8:=L7.step hb8;have E8:=E6.step hb8;have N58:=N7.step hb8;have z68:=hb8.size;have zE6:=E6.lt;clear K5 L5 F6 K6 L6 N6 K7 L7 ck7 cl7 N7 X67 g6 z6 N5 hb5 ea6 eb6 ba6 E6 K4 L4;obtain⟨b9,eb9⟩:∃b,w8.heap.size=b:=⟨_,rfl⟩;obtain⟨a9,ea9⟩:∃W,w8.alloc (.cells #[.slice none 0 0,.slice none 0 0,.slice none 0 0,.int .i64 0] 26)=W:=⟨_,rfl⟩;have F9:Blk a9 b9 [.slice none 0 0,.slice none 0 0,.slice none 0 0,.int .i64 0] 26:=by rw[←ea9,←eb9];exact Blk.new w8 _ _
 have ba9:Below w8.heap.size w8 a9:=by rw[←ea9];exact(zF _ _).alloc (zE _) _
 have hb69:b6<b9:=by rw[←eb9];exact E8.lt
 have hz9:a9.heap.size=b9+1:=by rw[←ea9,zV,eb9]
 have B9:=zA B8 ba9;go_wp2_with (first
  | (rw[ea9,eb9])
  | (rw[ea9])
  | (refine yC 26 (.tmp 10) (.tmp 48) (by rfl) (by rfl) b9 (by rfl) V8 (by rfl) _ 26 F9 (info_N.trans (yI some hV8l.out.symm)) hV8l.out.symm hV8o.out ?_;intro s9 E9 g9 z9;have X9:KepX (fun j=>j=b9) w8 s9:=(KepX.below ba9).trans (KepX.row g9 (fun b e=>.inl (zJ e).symm));have HB9:=zD (B9.trans (yD g9 (by omega) B9.size));have zz9:s9.heap.size=b9+1:=z9.trans hz9;have HK9:=zD (K8.kepX X9 (fun(h:b4=b9)=>by omega));have HL9:=zD (L8.kepX X9 (fun(h:b1=b9)=>by omega));have HE69:=zD (E8.kepX X9 (fun(h:b6=b9)=>by omega));have HN59:=zD (N58.kep (X9.mono (fun j _ (h:j=b9)=>by omega)));have HN89:=zD (N8.grow (E':=fun j=>b9≤j) (X9.mono (fun j _ (h:j=b9)=>by omega)) (fun k hk h=>by omega));obtain⟨a11,ea11⟩:∃W,(s9.alloc (.cells #[.slice none 0 0] 70)).alloc (.cells #[.slice none 0 0] 70)=W:=⟨_,rfl⟩;have ba11:Below s9.heap.size s9 a11:=by rw[←ea11];exact((zF _ _).alloc (zE _) _).alloc (by simp) _
     have FX:Blk a11 (b9+1) [.slice none 0 0] 70:=by rw[←ea11,←zz9];exact(Blk.new s9 _ _).alloc _
     have FY:Blk a11 (b9+2) [.slice none 0 0] 70:=by
      rw[←ea11];have h:=Blk.new (s9.alloc (.cells #[.slice none 0 0] 70)) [.slice none 0 0] 70;rw[zV,zz9]at h;exact h
     have hz11:a11.heap.size=b9+3:=by rw[←ea11,zV,zV,zz9]
     have E611:=HE69.out.step ba11;clear X9 g9 z9 K8 L8 E8 N58 F9)
  | (rw[ea11,zz9])
  | (rw[ea11])
  | (refine yE 26 (.tmp 8) (by rfl) (by rfl) b6 (by rfl) V5 26 E611 _ Tryz.underlying26 rfl (info_N.trans (yI some hV5l.out.symm)) ?_))
 have B11:=zA HB9.out ba11;have E911:=E9.step ba11;have N811:=HN89.out.step ba11;refine(HF1.out (b9+1) b4 (b9+3) V5 a11 B11 ((HN59.out.step ba11).mono (fun k _ (h:k=b9+1)=>by omega)) FX (HK9.out.step ba11) (HL9.out.step ba11) (by omega) (by omega) (by omega) (by omega) (by omega) (by omega)).mono ?_;rintro e w12 ⟨V12,M1,FP1,rfl,_,_,hN12,⟨_,_,_,R12⟩,X12,_⟩;have hV12l:=zD hN12.len;have hV12o:=zD hN12.one;have zX12:=X12.size;have B12:=X12.toBelow B11 (fun j (h:j=b9+1)=>by omega);have FY12:=FY.kepX X12 (fun(h:b9+2=b9+1)=>by omega);have E912:=E911.kepX X12 (fun(h:b9=b9+1)=>by omega);have N812:=N811.kep (X12.mono (fun j _ (h:j=b9+1)=>by omega));obtain⟨b13,eb13⟩:∃b,w12.heap.size=b:=⟨_,rfl⟩;obtain⟨a13,ea13⟩:∃W,w12.alloc (.cells #[.slice none 0 0,.slice none 0 0,.slice none 0 0,.int .i64 0] 26)=W:=⟨_,rfl⟩;have F13:Blk a13 b13 [.slice none 0 0,.slice none 0 0,.slice none 0 0,.int .i64 0] 26:=by rw[←ea13,←eb13];exact Blk.new w12 _ _
 have ba13:Below w12.heap.size w12 a13:=by rw[←ea13];exact(zF _ _).alloc (zE _) _
 have hz13:a13.heap.size=b13+1:=by rw[←ea13,zV,eb13]
 have B13:=zA B12 ba13;have HR12:=zD R12;clear R12 E911 N811 FY FX E611 ba11 ea11 B11 hN12 X12 E9 HK9 HL9 HE69 HN59 HN89 HB9 ea9 eb9;go_wp2_with (first
  | (rw[ea13,eb13])
  | (rw[ea13])
  | (refine yC 26 (.tmp 14) (.tmp 61) (by rfl) (by rfl) b13 (by rfl) V12 (by rfl) _ 26 F13 (info_N.trans (yI some hV12l.out.symm)) hV12l.out.symm hV12o.out ?_;intro s13 E13 g13 z13;have X13:KepX (fun j=>j=b13) w12 s13:=(KepX.below ba13).trans (KepX.row g13 (fun b e=>.inl (zJ e).symm));have zz13:s13.heap.size=b13+1:=z13.trans hz13;have HB13:=zD (B13.trans (yD g13 (by omega) B13.size));have HR13:=zD (HR12.out.keep X13 (fun j (h:j=b13) hF=>by have:=HR12.out.lt j hF;omega));have HFY13:=zD (FY12.kepX X13 (fun(h:b9+2=b13)=>by omega));have E913:=E912.kepX X13 (fun(h:b9=b13)=>by omega);have HN813:=zD (N812.kep (X13.mono (fun j _ (h:j=b13)=>by omega)));clear X13 g13 z13 E912 N812 FY12 F13 E13)
  | (refine yE 26 (.tmp 10) (by rfl) (by rfl) b9 (by rfl) V8 26 E913 _ Tryz.underlying26 rfl (info_N.trans (yI some hV8l.out.symm)) ?_))
 refine(HF2.out (b9+2) (b13+1) V8 s13 HB13.out (HN813.out.mono (fun j _ (h:j=b9+2)=>by omega)) HFY13.out (by omega) (by omega)).mono ?_;rintro e w14 ⟨V14,M2,FP2,rfl,_,_,hN14,⟨_,R14⟩,X14,_⟩;have hV14l:=zD hN14.len;have hV14o:=zD hN14.one;have zX14:=X14.size;have B14:=X14.toBelow HB13.out (fun j (h:j=b9+2)=>by omega);have R13:=HR13.out.keep X14 (fun j (h:j=b9+2) hF=>by have:=HR13.out.ge j hF;omega);have hlt1:=R13.lt;have hlt2:=R14.lt;obtain⟨b15,eb15⟩:∃b,w14.heap.size=b:=⟨_,rfl⟩;obtain⟨a15,ea15⟩:∃W,w14.alloc (.cells #[.slice none 0 0,.slice none 0 0,.slice none 0 0,.int .i64 0] 26)=W:=⟨_,rfl⟩;have F15:Blk a15 b15 [.slice none 0 0,.slice none 0 0,.slice none 0 0,.int .i64 0] 26:=by rw[←ea15,←eb15];exact Blk.new w14 _ _
 have ba15:Below w14.heap.size w14 a15:=by rw[←ea15];exact(zF _ _).alloc (zE _) _
 have B15:=zA B14 ba15;rw[List.nil_append]at R13 R14;rw[←HS.out]at R14;have HR13':=zD R13;have HR14:=zD R14;clear R13 R14 HR13 HR12 HFY13 HN813 E913 hN14 X14 HF1 HF2 HB13;have hsz:∀x∈(S14.runH (evs 0 data) (S14.opened (S14.newN l))).map (fun N=>S14.outs (S14.outA N) k),x.length≤4000:=by
  intro x hx;obtain⟨N,_,rfl⟩:=List.mem_map.1 hx;rw[S14.outs_length];omega
 have hln:((S14.runH (evs 0 data) (S14.opened (S14.newN l))).map (fun N=>S14.outs (S14.outA N) k)).length≤4000:=by
  rw[yJ];have:=HL1.out;rwa[List.nil_append]at this
 have Hsz:=zD hsz;have Hln:=zD hln;clear hsz hln HS HL1;go_wp2_with (first
  | (rw[ea15,eb15])
  | (rw[ea15])
  | (refine yC 26 (.tmp 16) (.tmp 68) (by rfl) (by rfl) b15 (by rfl) V14 (by rfl) _ 26 F15 (info_N.trans (yI some hV14l.out.symm)) hV14l.out.symm hV14o.out ?_;intro s15 E15 g15 z15;have X15:KepX (fun j=>j=b15) w14 s15:=(KepX.below ba15).trans (KepX.row g15 (fun b e=>.inl (zJ e).symm));have HB15:=zD (B15.trans (yD g15 (by have:=B14.size;omega) B15.size));obtain⟨q,x1,y1,x2,y2,kx,ky,HEq⟩:=zsM (HR13'.out.keep X15 (fun j (h:j=b15) hF=>by have:=hlt1 j hF;omega)) (HR14.out.keep X15 (fun j (h:j=b15) hF=>by have:=hlt2 j hF;omega)) Hln.out Hsz.out;have cx:=kx.cell 0;have cy:=ky.cell 0;simp only[lgz]at cx cy;have HEq:=zD HEq;clear X15 g15 z15 E15 kx ky F15))
 refine HEq.out.mono ?_;rintro e w16 ⟨rfl,hb16⟩;have B16:=zA HB15.out hb16;go_wp2_with fail;refine(HA.out _).mono ?_;rintro e w17 ⟨rfl,hb17⟩;have B17:=zA B16 hb17;go_wp2;go_returns;exact⟨rfl,B17⟩
theorem znG(l:List S14.C)(s:Nat)(hs:s<256)(data:List Int)(a ad:Option Addr)(cap cd:Nat)(w:World)(hlc:l.length≤cap)(hrd:Rd w a (zeN l))(hd:∀x∈data,0≤x∧x<256)(hrdd:Rd w ad (Bts data)) :
 Calls Tryz.prog 11 #[.slice a l.length cap,.int .u8 (s:Int),.slice ad data.length cd] w fun e w'=>e = .returned (.bool true)∧Below w.heap.size w w':=by
 have HA:=zD fun W=>zpZ W;have HFw:=zD fun(W:World) (hW:Below w.heap.size w W)=>zrI l a cap W (hrd.step hW);obtain⟨b1,eb1⟩:∃b,w.heap.size=b:=⟨_,rfl⟩;obtain⟨a1,ea1⟩:∃W,w.alloc (.cells #[.slice a l.length cap] 22)=W:=⟨_,rfl⟩;have F1:Blk a1 b1 [.slice a l.length cap] 22:=by rw[←ea1,←eb1];exact Blk.new w _ _
 have ba1:Below w.heap.size w a1:=by rw[←ea1];exact(zF _ _).alloc (zE _) _
 have c1:=F1.cell 0;simp only[lgz]at c1;by_cases hfw:S14.fewC l=true
 ·have hl40:=(S14.fewC_iff.1 hfw).1;have HCk:=zD fun(W:World) (hW:Below w.heap.size w W)=>zmR l a cap W (by omega) (hrd.step hW);rw[hfw]at HFw;by_cases h0:S14.check l=0
  ·by_cases h16:data.length≤16
   ·exact begun_good l s hs data a ad cap cd w hlc h0 hfw h16 hrd hd hrdd
   ·rw[h0]at HCk;obtain⟨n,hn⟩:∃n,l.length=n:=⟨_,rfl⟩;obtain⟨m,hm⟩:∃n,data.length=n:=⟨_,rfl⟩;rw[hn]at HFw HCk ea1 F1 c1⊢;rw[hm]at h16⊢;have hmz:(16:Int)<m:=by omega
    clear hrd hrdd hd hfw h0 hlc hl40 hn hm h16;go_enter Tryz.func11,Tryz.ntmps11;go_wp2_with (first|(rw[ea1,eb1])|(rw[ea1])|fail);refine(HFw.out _ ba1).mono ?_;rintro e w2 ⟨rfl,hb2⟩;have B2:=zA ba1 hb2;have c2:=(F1.step hb2).cell 0;simp only[lgz]at c2;go_wp2_with fail;refine(HCk.out _ B2).mono ?_;rintro e w3 ⟨rfl,hb3⟩;have B3:=zA B2 hb3;go_wp2_with fail;refine(HA.out _).mono ?_;rintro e w4 ⟨rfl,hb4⟩;have B4:=zA B3 hb4;go_wp2;go_returns;exact⟨rfl,B4⟩
  ·obtain⟨ck,hck⟩:∃x,S14.check l=x:=⟨_,rfl⟩;rw[hck]at HCk h0;have hck0:((ck:Int) != 0)=true:=by simpa using h0
   obtain⟨n,hn⟩:∃n,l.length=n:=⟨_,rfl⟩;obtain⟨m,hm⟩:∃n,data.length=n:=⟨_,rfl⟩;rw[hn]at HFw HCk ea1 F1 c1⊢;rw[hm];clear hrd hrdd hd hfw hck hlc hl40 hn hm h0;go_enter Tryz.func11,Tryz.ntmps11;go_wp2_with (first|(rw[ea1,eb1])|(rw[ea1])|fail);refine(HFw.out _ ba1).mono ?_;rintro e w2 ⟨rfl,hb2⟩;have B2:=zA ba1 hb2;have c2:=(F1.step hb2).cell 0;simp only[lgz]at c2;go_wp2_with fail;refine(HCk.out _ B2).mono ?_;rintro e w3 ⟨rfl,hb3⟩;have B3:=zA B2 hb3;go_wp2_with fail;refine(HA.out _).mono ?_;rintro e w4 ⟨rfl,hb4⟩;have B4:=zA B3 hb4;go_wp2;go_returns;exact⟨rfl,B4⟩
 ·rw[Bool.not_eq_true]at hfw;rw[hfw]at HFw;clear hfw hrd hrdd hlc hd;obtain⟨n,hn⟩:∃n,l.length=n:=⟨_,rfl⟩;obtain⟨m,hm⟩:∃n,data.length=n:=⟨_,rfl⟩;rw[hn]at HFw ea1 F1 c1⊢;rw[hm];clear hn hm;go_enter Tryz.func11,Tryz.ntmps11;go_wp2_with (first|(rw[ea1,eb1])|(rw[ea1])|fail);refine(HFw.out _ ba1).mono ?_;rintro e w2 ⟨rfl,hb2⟩;have B2:=zA ba1 hb2;go_wp2_with fail;refine(HA.out _).mono ?_;rintro e w3 ⟨rfl,hb3⟩;have B3:=zA B2 hb3;go_wp2;go_returns;exact⟨rfl,B3⟩
