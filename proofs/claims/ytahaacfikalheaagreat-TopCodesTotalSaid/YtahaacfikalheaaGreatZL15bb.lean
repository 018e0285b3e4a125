/- A part of the proof of L15. No condition. -/
import Derived.Test.YtahaacfikalheaaGreatZL15ap
import Derived.Test.YtahaacfikalheaaGreatZL15av
import Derived.Test.YtahaacfikalheaaGreatZL15ay
set_option linter.all false
set_option maxRecDepth 100000
set_option maxHeartbeats 2000000
namespace Go.Proofs.YtahaacfikalheaaGreat
open Go.RowKit
theorem znG(p:Int)(w:World):Calls Tryz.prog 228 #[.int .i64 p] w fun e w'=>e = .returned (.agg #[.int .i64 (S11.at p),.int .i64 (S11.from p)])∧Below w.heap.size w w':=by
 have HS:=zB fun W=>zdI p W;have hx:=S11.x_bounds p;have ha:=zB (S11.at_int p);have hf:S11.from p=(S06.stretch p+3072)%192:=rfl
 rw[hf,←ha.out];clear hf ha;generalize S06.stretch p=s at *;go_enter Tryz.func228,Tryz.ntmps228;go_wp2_with fail;refine(HS.out _).mono ?_;rintro e w1 ⟨rfl,hb1⟩;have hB1:Below w.heap.size w w1:=zA (by go_grown) hb1;have z1:w.heap.size≤w1.heap.size:=hB1.size;have hs1:w.heap.size<w1.heap.size:=by have:=hb1.size;simp at this;omega
 have hb:=(Blk.new w [.int .i64 0,.int .i64 0] 267).step hb1;have f0:=hb.free 0;have f1:=hb.free 1;have c0:=hb.cell 0;have c1:=hb.cell 1;have g0:=(hb.set 0 (.int .i64 ((s+3072)/192))).cell 0;have g1:=((hb.set 0 (.int .i64 ((s+3072)/192))).set 1 (.int .i64 ((s+3072)%192))).cell 1;simp only[sC0,sCs,lgz,lgs]at c0 c1 g0 g1;clear hb;go_wp2;refine bodyPost_ret (v:=.agg #[.int .i64 ((s+3072)/192),.int .i64 ((s+3072)%192)]) (by simp[results,Tryz.results228,go_sem,g0,g1]) rfl ⟨rfl,?_⟩
 go_grown
theorem zrV(n cap c b o:Nat)(w:World)(h1:33*(c+1)≤n)(h2:n≤cap)(h3:cap≤9223372036854775807) :
 Calls Tryz.prog 226 #[.agg #[.slice (some ⟨b,o,none⟩) n cap],.int .i64 c] w fun e w'=>e = .returned (.slice (some ⟨b,o+33*c,none⟩) 33 33)∧Below w.heap.size w w':=by
 go_enter Tryz.func226,Tryz.ntmps226;go_wp2;go_returns;exact⟨by rw[show 33*(c+1)-33*c=33 by omega];rfl,by go_grown⟩
theorem S11.mul_bounds{u f:Int}(h1:0≤u)(h2:u≤65535)(h3:0≤f)(h4:f≤192):0≤u*f∧u*f≤12582720:=by
 refine⟨Int.mul_nonneg h1 h3,?_⟩;have:=Int.mul_le_mul h2 h4 h3 (by omega);omega
theorem ztD(at':Nat)(f u v:Int)(b o:Nat)(w:World)(ha:at'≤31)(hf:0≤f)(hf':f≤191)(hu:0≤u)(hu':u≤65535)(hv:0≤v)(hv':v≤65535)
 (hc1:w.cell? ⟨b,o+at',none⟩=some (.int .i64 u)) (hc2:w.cell? ⟨b,o+(at'+1),none⟩=some (.int .i64 v)) :
 Calls Tryz.prog 229 #[.slice (some ⟨b,o,none⟩) 33 33,.agg #[.int .i64 at',.int .i64 f]] w fun e w'=>e = .returned (.int .i64 (S11.clamp (S11.mix u v f)))∧Below w.heap.size w w':=by
 obtain⟨m1,m2⟩:=S11.mul_bounds hu hu' (show 0≤192-f by omega) (by omega);obtain⟨m3,m4⟩:=S11.mul_bounds hv hv' hf (by omega);have w1:IntKind.i64.wrap (192-f)=192-f:=IntWalk.i64_in _ (by omega);have w2:IntKind.i64.wrap (u*(192-f))=u*(192-f):=IntWalk.i64_in _ (by omega);have w3:IntKind.i64.wrap (v*f)=v*f:=IntWalk.i64_in _ (by omega);have w4:IntKind.i64.wrap (u*(192-f)+v*f)=u*(192-f)+v*f:=IntWalk.i64_in _ (by omega);have w5:(u*(192-f)+v*f).tdiv 192=(u*(192-f)+v*f)/192:=zgM (by omega);have w6:IntKind.i64.wrap ((u*(192-f)+v*f)/192)=(u*(192-f)+v*f)/192:=IntWalk.i64_in _ (by omega);have w7:IntKind.i64.wrap ((at':Int)+1)=(at':Int)+1:=IntWalk.i64_in _ (by omega);have w8:((at':Int)+1).toNat=at'+1:=by omega
 have i1:(at':Int)<33:=by omega
 have i2:(0:Int)≤(at':Int)+1:=by omega
 have i3:(at':Int)+1<33:=by omega
 have i4:at'<33:=by omega
 have i5:at'+1<33:=by omega
 have i6:(0:Int)≤(at':Int):=by omega
 have hl1:=zL hc1;go_enter Tryz.func229,Tryz.ntmps229;go_wp2;refine zjU 21 (Keeps (w.alloc (Obj.cells #[.int .i64 at',.int .i64 f] 267)) [(⟨w.heap.size,0,none⟩,.int .i64 at'),(⟨w.heap.size,1,none⟩,.int .i64 f),(⟨b,o+at',none⟩,.int .i64 u),(⟨b,o+(at'+1),none⟩,.int .i64 v)]) (by kernel_rfl) rfl (by kernel_rfl) (Keeps.start (by simp only[Cells];refine⟨?_,?_,?_,?_,yF⟩<;>go_simp)) (fun Y F hY hF=> ?_)
 repeat
  apply zbV (by rw[hY];rfl)
  ·intro w2 ⟨hB2,hk2⟩;simp only[Cells]at hk2;go_simp;with_reducible rfl
  simp only[zuI]
 refine hF.out _ (fun w4 hS4=> ?_);clear hF hY;have hB4:Below w.heap.size w w4:=zA (by go_grown) hS4.1;clear hS4;have hm:S11.mix u v f=(u*(192-f)+v*f)/192:=rfl;have hcl:∀n:Int,S11.clamp n=min (max (n/16) 1) 4095:=fun n=>by unfold S11.clamp;omega
 have Hm:=zB hm;have Hcl:=zB hcl;clear hm hcl;go_wp2;go_returns;exact⟨zeF (by rw[Hcl.out,Hm.out]),hB4⟩
theorem S11.getD_bounds{xs:List Int}(h:xs.any S11.bad=false){i:Nat}(hi:i<xs.length):0≤xs.getD i 0∧xs.getD i 0≤65535:=by
 rw[List.any_eq_false]at h;have:=h xs[i] (zbC hi);simp[S11.bad]at this;rw[zI,zE hi];simp;omega
theorem S11.check_zero{xs:List Int}(h:S11.check xs=0):xs.length%33=0∧33≤xs.length∧xs.length≤2162688∧xs.any S11.bad=false:=by
 by_cases hl:xs.length%33≠0∨xs.length<33∨2162688<xs.length
 ·rw[S11.check_long hl]at h;omega
 ·rw[S11.check_fit hl]at h;refine⟨by omega,by omega,by omega,?_⟩;cases hb:xs.any S11.bad with
  | false=>rfl
  | true=>rw[hb]at h;simp at h
theorem S11.usable_zero{xs:List Int}{c p:Int}(h:S11.usable xs c p=0):S11.check xs=0∧0≤c∧c<(xs.length/33:Nat)∧1≤p∧p≤4095:=by
 unfold S11.usable at h;split at h
 ·omega
 ·split at h
  ·omega
  ·split at h
   ·omega
   ·omega
def S11.refineR(xs:List Int)(c p:Int):Int:=if S11.usable xs c p=0 then S11.refine xs c.toNat p else 0
theorem refine11_any(xs:List Int)(a:Option Addr)(cap:Nat)(c p:Int)(w:World)(hlen:xs.length≤cap)(hcap:cap≤9223372036854775807)(hrd:Rd w a (zaK xs)) :
 Calls Tryz.prog 223 #[.agg #[.slice a xs.length cap],.int .i64 c,.int .i64 p] w fun e w'=>e = .returned (.tuple #[.int .i64 (S11.refineR xs c p),.int .i64 (S11.usable xs c p)])∧Below w.heap.size w w':=by
 have HU:=zB fun W (hb:Below w.heap.size w W)=>znB xs a cap c p W (by omega) (hrd.step hb);by_cases hu:S11.usable xs c p=0
 ·obtain⟨k1,k2,k3,k4,k5⟩:=S11.usable_zero hu;obtain⟨q1,q2,q3,q4⟩:=S11.check_zero k1;obtain⟨c,rfl⟩:=Int.eq_ofNat_of_zero_le k2;have e1:S11.refineR xs c p=S11.refine xs c p:=by unfold S11.refineR;rw[zO hu];rfl
  rw[e1];rw[hu]at HU⊢;have hc33:33*(c+1)≤xs.length:=by omega
  have hat:=S11.at_le p;have hfr:=S11.from_bounds p;have b1:=S11.getD_bounds q4 (i:=33*c+S11.at p) (by omega);have b2:=S11.getD_bounds q4 (i:=33*c+S11.at p+1) (by omega);obtain⟨g,o,rfl,hcs⟩:=hrd.at (i:=0) (by rw[yM];omega);have hx1:w.cell? ⟨g,o+33*c+S11.at p,none⟩=some (.int .i64 (xs.getD (33*c+S11.at p) 0)):=by
   have:=hcs (33*c+S11.at p) (by rw[yM];omega);rw[zbR,this];simp[zaK,zI,zE (show 33*c+S11.at p<xs.length by omega)]
  have hx2:w.cell? ⟨g,o+33*c+(S11.at p+1),none⟩=some (.int .i64 (xs.getD (33*c+S11.at p+1) 0)):=by
   have:=hcs (33*c+(S11.at p+1)) (by rw[yM];omega);rw[zbR,this];simp[zaK,zI,←zbR,zE (show 33*c+S11.at p+1<xs.length by omega)]
  have HRf:=zB fun W (hb:Below w.heap.size w W)=>ztD (S11.at p) (S11.from p) _ _ g (o+33*c) W hat hfr.1 hfr.2 b1.1 b1.2 b2.1 b2.2 ((hb.cell (zL hx1)).trans hx1) ((hb.cell (zL hx2)).trans hx2);have HPl:=zB fun W=>znG p W;have hrf:S11.refine xs c p=S11.clamp (S11.mix (xs.getD (33*c+S11.at p) 0) (xs.getD (33*c+S11.at p+1) 0) (S11.from p)):=rfl;rw[hrf];have HRw:=zB fun W=>zrV xs.length cap c g o W hc33 hlen hcap;clear hx1 hx2 hcs b1 b2 hrf hrd k1 q1 q4 hu e1;generalize S11.clamp (S11.mix (xs.getD (33*c+S11.at p) 0) (xs.getD (33*c+S11.at p+1) 0) (S11.from p))=r at *;generalize S11.at p=at' at *;generalize S11.from p=f at *
  generalize xs.length=n at *;go_enter Tryz.func223,Tryz.ntmps223;go_wp2_with fail;refine(HU.out _ (by go_grown)).mono ?_;rintro e w1 ⟨rfl,hb1⟩;have hB1:Below w.heap.size w w1:=zA (by go_grown) hb1;have z1:w.heap.size≤w1.heap.size:=hB1.size;have k1:w1.cell? ⟨w.heap.size,0,none⟩=some (.slice (some ⟨g,o,none⟩) n cap):=(hb1.cell (by simp<;>omega)).trans (by go_simp);have hs1:w.heap.size<w1.heap.size:=by have:=hb1.size;simp at this;omega
  go_wp2_with fail;refine(HRw.out _).mono ?_;rintro e w2 ⟨rfl,hb2⟩;have hB2:Below w.heap.size w w2:=zA (by go_grown) hb2;have z2:w.heap.size≤w2.heap.size:=hB2.size;go_wp2_with fail;refine(HPl.out _).mono ?_;rintro e w3 ⟨rfl,hb3⟩;have hB3:Below w.heap.size w w3:=zA (by go_grown) hb3;have z3:w.heap.size≤w3.heap.size:=hB3.size;go_wp2_with fail;refine(HRf.out _ hB3).mono ?_;rintro e w4 ⟨rfl,hb4⟩;have hB4:Below w.heap.size w w4:=zA (by go_grown) hb4;have z4:w.heap.size≤w4.heap.size:=hB4.size;go_wp2;go_returns;exact⟨rfl,hB4⟩
 ·have e1:S11.refineR xs c p=0:=by unfold S11.refineR;rw[zG hu]
  have hu2:((S11.usable xs c p:Int) != 0)=true:=by simpa using hu
  rw[e1];clear hu e1 hrd;generalize S11.usable xs c p=y at *;generalize xs.length=n at *;go_enter Tryz.func223,Tryz.ntmps223;go_wp2_with fail;refine(HU.out _ (by go_grown)).mono ?_;rintro e w1 ⟨rfl,hb1⟩;have hB1:Below w.heap.size w w1:=zA (by go_grown) hb1;have z1:w.heap.size≤w1.heap.size:=hB1.size;go_wp2;go_returns;exact⟨rfl,hB1⟩
def Copied(w0:World)(xs:List Int)(V:Value)(w':World):Prop:=
 ∃g cap,V = .slice (some ⟨g,0,none⟩) xs.length cap∧xs.length≤cap∧cap≤9223372036854775807∧w'.ownsRow w0.heap.size 3 1 (.slice (some ⟨g,0,none⟩) xs.length cap) xs.length (zaK xs)∧Below w0.heap.size w0 w'
theorem copied_of{w0 w':World}{xs:List Int}{a:Option Addr}{cap:Nat}(h:w'.ownsRow w0.heap.size 3 1 (.slice a xs.length cap) xs.length (zaK xs))(hb:Below w0.heap.size w0 w')(hne:1≤xs.length):Copied w0 xs (.slice a xs.length cap) w':=by
 obtain⟨g,o,rfl,_⟩:=(Rd.of_owns h).at (i:=0) (by rw[yM];omega);obtain rfl:o=0:=by
  rcases h.2 with⟨h',_⟩|⟨g',cap',cur,h',_⟩
  ·simp at h'
  ·simp at h';exact h'.1.2
 obtain⟨_,_,h1,h2,h3⟩:=zaX h;simp at h1;obtain⟨rfl,rfl⟩:=h1;unfold maxLen at h3;exact⟨g,_,rfl,h2,h3,h,hb⟩
theorem clone11_any(xs:List Int)(g o cap:Nat)(w:World)(h1:1≤xs.length)(h2:xs.length≤2162688)(hrd:Rd w (some ⟨g,o,none⟩) (zaK xs)) :
 Calls Tryz.prog 169 #[.slice (some ⟨g,o,none⟩) xs.length cap] w fun e w'=>∃V,e = .returned V∧Copied w xs V w':=by
 have qT:∀(w:World) (a:Option Addr) (n c n' c':Nat),(binOp .eql 69 (.slice a n c) (.slice none n' c')).run Tryz.prog w = .ok (.bool a.isNone) w:=fun w a n c n' c'=>Lib.run_eql_slice_nil w _ _ a n c n' c' Tryz.underlying69;have hrd':=zB (hrd.step ((zF w.heap.size w).alloc (zD _) (Obj.cells #[] 3)));go_enter Tryz.func169,Tryz.ntmps169;go_wp2_with (at_builtin;refine zaL _ _ 69 3 1 8 _ w.heap.size elems_ints rfl rfl _ 0 [] rfl (World.ownsRow_made w #[] 0 (zD _) (by decide) rfl) (some ⟨g,o,none⟩) xs.length cap (zaK xs) rfl (by simp[zaK]) hrd'.out (zlG xs) (by unfold maxLen;omega) (by omega) (by simp) ?_;intro a2 cap2 w2 hown2 hgrow2);have hB2:Below w.heap.size w w2:=Below.grown (by go_grown) hgrow2 (by simp) (fun k e=>by cases e;exact zD _);simp only[yK,lna]at hown2;have hc:=zB (copied_of hown2 hB2 h1);clear hgrow2 hown2;go_wp2;go_returns;first|exact⟨_,rfl,hc.out⟩|(refine⟨_,rfl,?_⟩;simpa using hc.out)
theorem S11.learn_facts{u bit rate share:Int}(hu:0≤u)(hu':u≤65535)(hb:bit=0∨bit=1)(hr:0≤rate)(hr':rate≤255)(hs:0≤share)(hs':share≤192) :
 -16711425≤(65535*bit-u)*rate∧(65535*bit-u)*rate≤16711425∧ -3208593600≤(65535*bit-u)*rate*share∧(65535*bit-u)*rate*share≤3208593600∧
 0≤S11.learn u bit rate share∧S11.learn u bit rate share≤65535:=by
 obtain⟨d,hd⟩:∃d,d=65535*bit-u:=⟨_,rfl⟩;obtain⟨k,hk⟩:∃k,k=rate*share:=⟨_,rfl⟩;have hk0:0≤k:=by rw[hk];exact Int.mul_nonneg hr hs
 have hk1:k≤48960:=by
  rw[hk];have:=Int.mul_le_mul hr' hs' hs (by omega);omega
 have e:(65535*bit-u)*rate*share=d*k:=by rw[←hd,hk,Int.mul_assoc]
 unfold S11.learn;rw[e,←hd];have hb2:(bit=0∧d = -u)∨(bit=1∧d=65535-u):=by
  rcases hb with rfl|rfl
  ·left;exact⟨rfl,by omega⟩
  ·right;exact⟨rfl,by omega⟩
 have key:∀(x y Y:Int),0≤x→x≤65535→0≤y→y≤Y→0≤x*y∧x*y≤65535*Y:=fun x y Y h1 h2 h3 h4=>
  ⟨Int.mul_nonneg h1 h3,Int.mul_le_mul h2 h4 h3 (by omega)⟩
 rcases hb2 with⟨_,h⟩|⟨_,h⟩
 ·have k1:=key u rate 255 hu hu' hr hr';have k2:=key u k 48960 hu hu' hk0 hk1;have k3:u*k≤u*48960:=Int.mul_le_mul_of_nonneg_left hk1 hu;have e1:d*rate = -(u*rate):=by rw[h,Int.neg_mul]
  have e2:d*k = -(u*k):=by rw[h,Int.neg_mul]
  rw[e1,e2,Int.neg_tdiv,zgM k2.1];omega
 ·have k1:=key d rate 255 (by omega) (by omega) hr hr';have k2:=key d k 48960 (by omega) (by omega) hk0 hk1;have k3:d*k≤d*48960:=Int.mul_le_mul_of_nonneg_left hk1 (by omega);rw[zgM k2.1];omega
theorem learn11_any(k:Nat)(u bit rate share:Int)(b o:Nat)(w:World)(hk:k≤32)(hu:0≤u)(hu':u≤65535)(hb:bit=0∨bit=1)(hr:0≤rate)(hr':rate≤255)(hs:0≤share)(hs':share≤192)
 (hc:w.cell? ⟨b,o+k,none⟩=some (.int .i64 u)) (hf:w.frozen? ⟨b,o+k,none⟩=false) :
 Calls Tryz.prog 227 #[.slice (some ⟨b,o,none⟩) 33 33,.int .i64 k,.int .i64 bit,.int .i64 rate,.int .i64 share] w fun e w'=>
  e = .returned (.tuple #[])∧∃w1,Below w.heap.size w w1∧w'=w1.setCell ⟨b,o+k,none⟩ (.int .i64 (S11.learn u bit rate share)):=by
 obtain⟨f1,f2,f3,f4,f5,f6⟩:=S11.learn_facts hu hu' hb hr hr' hs hs';have hb0:0≤bit∧bit≤1:=by omega
 have w1':IntKind.i64.wrap (65535*bit)=65535*bit:=IntWalk.i64_in _ (by omega);have w2':IntKind.i64.wrap (65535*bit-u)=65535*bit-u:=IntWalk.i64_in _ (by omega);have w3':IntKind.i64.wrap ((65535*bit-u)*rate)=(65535*bit-u)*rate:=IntWalk.i64_in _ (by omega);have w4':IntKind.i64.wrap ((65535*bit-u)*rate*share)=(65535*bit-u)*rate*share:=IntWalk.i64_in _ (by omega);have hlr:u+((65535*bit-u)*rate*share).tdiv 49152=S11.learn u bit rate share:=rfl;obtain⟨q,hq⟩:∃q,q=((65535*bit-u)*rate*share).tdiv 49152:=⟨_,rfl⟩;have hqs:u+q=S11.learn u bit rate share:=by rw[hq];exact hlr
 have w5':IntKind.i64.wrap (((65535*bit-u)*rate*share).tdiv 49152)=q:=by rw[←hq];exact IntWalk.i64_in _ (by omega)
 have w6':IntKind.i64.wrap (u+q)=S11.learn u bit rate share:=by rw[hqs];exact IntWalk.i64_in _ (by omega)
 have i1:(k:Int)<33:=by omega
 have i2:(0:Int)≤(k:Int):=by omega
 have i3:k<33:=by omega
 have hl1:=zL hc;clear hlr hq hqs f1 f2 f3 f4;generalize S11.learn u bit rate share=L at *;go_enter Tryz.func227,Tryz.ntmps227;refine zfG 17 2 _ _ (Keeps w [(⟨b,o+k,none⟩,.int .i64 u)]) (by kernel_rfl) (yB 17 _).symm rfl rfl (by kernel_rfl) (Keeps.start (by simp only[Cells];exact⟨hc,yF⟩)) (fun Y F hY hF=> ?_);simp only[ltc,ltz,ldc,ldz]
 repeat
  apply zbV (by rw[hY];rfl)
  ·intro w2 ⟨hB2,hk2⟩;simp only[Cells]at hk2;go_simp;with_reducible rfl
  simp only[zuI]
 refine hF.out _ (fun K w' hK hS'=> ?_);have hB':=hS'.1;have hk2:=hS'.2;simp only[Cells]at hk2;have hf':w'.frozen? ⟨b,o+k,none⟩=false:=by rw[hB'.frozen (p:=⟨b,o+k,none⟩) hl1];exact hf
 clear hF hY hS' w1' w2' w3' w4' w5' w6';go_wp2_with fail;refine OnlyK.mk (hK.out _ _ ?_);go_wp2;go_returns;exact⟨rfl,w',hB',rfl⟩
def MapIs(L:List Int)(V:Value)(w':World):Prop:=∃a cap,V = .agg #[.slice a L.length cap]∧L.length≤cap∧cap≤9223372036854775807∧Rd w' a (zaK L)
def MapNew(B:Nat)(L:List Int)(V:Value)(w':World):Prop:=∃b cap,V = .agg #[.slice (some ⟨b,0,none⟩) L.length cap]∧B≤b∧L.length≤cap∧cap≤9223372036854775807∧Rd w' (some ⟨b,0,none⟩) (zaK L)
theorem MapNew.is{B:Nat}{L:List Int}{V:Value}{w:World}(h:MapNew B L V w):MapIs L V w:=by
 obtain⟨b,cap,e,_,h1,h2,h3⟩:=h;exact⟨_,cap,e,h1,h2,h3⟩
theorem MapIs.step{L:List Int}{V:Value}{w w':World}(h:MapIs L V w)(hb:Below w.heap.size w w'):MapIs L V w':=by
 obtain⟨a,cap,e,h1,h2,h3⟩:=h;exact⟨a,cap,e,h1,h2,h3.step hb⟩
theorem S11.update_length(xs:List Int)(c:Nat)(p bit rate:Int):(S11.update xs c p bit rate).length=xs.length:=by simp[S11.update]
theorem Ints_set(xs:List Int)(i:Nat)(v:Int):zaK (xs.set i v)=(zaK xs).set i (.int .i64 v):=by simp[zaK,List.map_set]
theorem Ints_get{xs:List Int}{i:Nat}(h:i<xs.length):(zaK xs)[i]? = some (.int .i64 (xs.getD i 0)):=by
 simp[zaK,zI,zE h]
theorem update11_ok(xs:List Int)(g o cap c:Nat)(p bit rate:Int)(w:World)(hlen:xs.length≤cap)(hcap:cap≤9223372036854775807)(hrd:Rd w (some ⟨g,o,none⟩) (zaK xs))
 (hu:S11.usable xs c p=0) (hbit:bit=0∨bit=1) (hr:1≤rate) (hr':rate≤255) :
 Calls Tryz.prog 222 #[.agg #[.slice (some ⟨g,o,none⟩) xs.length cap],.int .i64 c,.int .i64 p,.int .i64 bit,.int .i64 rate] w fun e w'=>
  ∃V,e = .returned (.tuple #[V,.int .i64 0])∧MapNew w.heap.size (S11.update xs c p bit rate) V w'∧Below w.heap.size w w':=by
 have HU:=zB fun W (hb:Below w.heap.size w W)=>znB xs (some ⟨g,o,none⟩) cap c p W (by omega) (hrd.step hb);obtain⟨k1,k2,k3,k4,k5⟩:=S11.usable_zero hu;obtain⟨q1,q2,q3,q4⟩:=S11.check_zero k1;rw[hu]at HU;have hc33:33*(c+1)≤xs.length:=by omega
 have hat:=S11.at_le p;have hfr:=S11.from_bounds p;have b1:=S11.getD_bounds q4 (i:=33*c+S11.at p) (by omega);have b2:=S11.getD_bounds q4 (i:=33*c+S11.at p+1) (by omega);have HCl:=zB fun W (hb:Below w.heap.size w W)=>clone11_any xs g o cap W (by omega) q3 (hrd.step hb);have HPl:=zB fun W=>znG p W;have hx1:=Ints_get (xs:=xs) (i:=33*c+S11.at p) (by omega);have hx2:=Ints_get (xs:=xs) (i:=33*c+S11.at p+1) (by omega);have Hupd:=zB (show S11.update xs c p bit rate=(xs.set (33*c+S11.at p) (S11.learn (xs.getD (33*c+S11.at p) 0) bit rate (192-S11.from p))).set (33*c+S11.at p+1) (S11.learn (xs.getD (33*c+S11.at p+1) 0) bit rate (S11.from p))from rfl);have Hx1:=zB hx1;have Hx2:=zB hx2;have hbn:0≤bit∧bit≤1:=by omega
 have hb0:bit=0∧((bit:Int) != 0)=false∨bit=1∧((bit:Int) != 0)=true∧((bit:Int) != 1)=false:=by
  rcases hbit with rfl|rfl
  ·left;exact⟨rfl,rfl⟩
  ·right;exact⟨rfl,rfl,rfl⟩
 have Hbit:=zB hbit;have hrn1:¬rate<1:=by omega
 have hrn2:¬255<rate:=by omega
 have HLn:=zB fun(k:Nat) (u share:Int) (G O:Nat) (W:World) (g1:k≤32) (g2:0≤u) (g3:u≤65535) (g4:0≤share) (g5:share≤192)=>learn11_any k u bit rate share G O W g1 g2 g3 Hbit.out (by omega) hr' g4 g5;clear hrd hu k1 q1 q4 hx1 hx2 hbit;have Hlen:=zB (yM xs);generalize xs.getD (33*c+S11.at p) 0=u at *;generalize xs.getD (33*c+S11.at p+1) 0=v at *;generalize S11.at p=at' at *;generalize S11.from p=f at *
 obtain⟨Lu,hLu⟩:∃L,S11.learn u bit rate (192-f)=L:=⟨_,rfl⟩;obtain⟨Lv,hLv⟩:∃L,S11.learn v bit rate f=L:=⟨_,rfl⟩;rw[hLu,hLv]at Hupd;have HLu:=zB hLu;have HLv:=zB hLv;clear hLu hLv;obtain⟨n,hn⟩:∃n,n=xs.length:=⟨_,rfl⟩;rw[←hn]at hlen HU hc33 q2 q3 HCl k3⊢;have Hn:=zB hn;clear hn;clear hbn;rcases hb0 with⟨rfl,hbt⟩|⟨rfl,hbt,hbt'⟩
 all_goals
  go_enter Tryz.func222,Tryz.ntmps222;go_wp2_with fail;refine(HU.out _ (by go_grown)).mono ?_;rintro e w1 ⟨rfl,hb1⟩;have hB1:Below w.heap.size w w1:=zA (by go_grown) hb1;have z1:w.heap.size≤w1.heap.size:=hB1.size;have hs1:w.heap.size+1<w1.heap.size:=by have:=hb1.size;simp at this;omega
  have k1:w1.cell? ⟨w.heap.size,0,none⟩=some (.slice (some ⟨g,o,none⟩) n cap):=(hb1.cell (by simp<;>omega)).trans (by go_simp)
  have hres1:=zB (show Blk w1 (w.heap.size+1) [.slice none 0 0] 76 from by
   have h0:=(Blk.new (w.alloc (Obj.cells #[.slice (some ⟨g,o,none⟩) n cap] 76)) [.slice none 0 0] 76).step hb1;simpa using h0)
  go_wp2_with fail;refine(HCl.out _ hB1).mono ?_;rintro e w2 ⟨V,rfl,G,cap2,rfl,hc1,hc2,hown2,hb2⟩;rw[←Hn.out]at hc1 hown2⊢;have hB2:Below w.heap.size w w2:=zA hB1 hb2;have z2:w1.heap.size≤w2.heap.size:=hb2.size;have hGlt:=hown2.lt G rfl;have hres2:=zB (hres1.out.step hb2);have Hown2:=zB hown2;clear hown2 hb2 k1;have HRw:=zB fun W=>zrV n cap2 c G 0 W hc33 hc1 hc2;simp only[yK]at HRw;go_wp2_with fail;refine(HRw.out _).mono ?_;rintro e w3 ⟨rfl,hb3⟩;have hB3:Below w.heap.size w w3:=zA (by go_grown) hb3;have z3:w2.heap.size<w3.heap.size:=by have:=hb3.size;simp at this;omega
  have hout3:=zB ((Blk.new w2 [.slice (some ⟨G,0,none⟩) n cap2] 76).step hb3);have hres3:=zB ((hres2.out.alloc (Obj.cells #[.slice (some ⟨G,0,none⟩) n cap2] 76)).step hb3);have Hown3:=zB (ownS (Hown2.out.alloc (Obj.cells #[.slice (some ⟨G,0,none⟩) n cap2] 76)) hb3);go_wp2_with fail;refine(HPl.out _).mono ?_;rintro e w4 ⟨rfl,hb4⟩;have hB4:Below w.heap.size w w4:=zA hB3 hb4;have z4:w3.heap.size≤w4.heap.size:=hb4.size;have hout4:=zB (hout3.out.step hb4);have hres4:=zB (hres3.out.step hb4);have Hown4:=zB (ownS Hown3.out hb4);have c4:=zB (Hown4.out.cellAt (33*c+at') (by omega));have c5:=zB (Hown4.out.cellAt (33*c+at'+1) (by omega));have hst1:=zB fun(W:World) (hb:Below w4.heap.size w4 W)=>(show W.cell? ⟨G,33*c+at',none⟩=some (.int .i64 u)from(hb.cell (p:=⟨G,33*c+at',none⟩) (Hown4.out.lt G rfl).2).trans (c4.out.trans Hx1.out));have hst2:=zB fun(W:World) (hb:Below w4.heap.size w4 W)=>(show W.frozen? ⟨G,33*c+at',none⟩=false from(hb.frozen (p:=⟨G,33*c+at',none⟩) (Hown4.out.lt G rfl).2).trans (Hown4.out.frozenAt _));go_wp2_with fail;refine(HLn.out at' u (192-f) G (33*c) _ (by omega) b1.1 b1.2 (by omega) (by omega) (hst1.out _ (by go_grown)) (hst2.out _ (by go_grown))).mono ?_;rintro e wx ⟨rfl,w5,hb5,hwx⟩;rw[HLu.out]at hwx;have z5:w4.heap.size<w5.heap.size:=by have:=hb5.size;simp at this;omega
  have hne1:¬w4.heap.size=G:=by omega
  have hne2:¬w2.heap.size=G:=by omega
  have hne3:¬w.heap.size+1=G:=by omega
  have hpl5:=((Blk.new w4 [.int .i64 at',.int .i64 f] 267).step hb5).other G (33*c+at') (.int .i64 Lu) hne1;have hout5:=((hout4.out.alloc (Obj.cells #[.int .i64 at',.int .i64 f] 267)).step hb5).other G (33*c+at') (.int .i64 Lu) hne2;have hres5:=((hres4.out.alloc (Obj.cells #[.int .i64 at',.int .i64 f] 267)).step hb5).other G (33*c+at') (.int .i64 Lu) hne3;have hown5:=((ownS (Hown4.out.alloc (Obj.cells #[.int .i64 at',.int .i64 f] 267)) hb5).stored (33*c+at') (.int .i64 Lu)).1;have hB5:Below w.heap.size w wx:=by rw[hwx];exact(zA (by go_grown) hb5).setCell (show w.heap.size≤G by omega) _
  rw[←hwx]at hpl5 hout5 hres5 hown5;have z6:w5.heap.size=wx.heap.size:=by rw[hwx];simp
  clear hwx hb5;have p0:=hpl5.cell 0;have p1:=hpl5.cell 1;simp only[zuK]at p0 p1;have Hout5:=zB hout5;have Hres5:=zB hres5;have Hown5:=zB hown5;have c6:wx.cell? ⟨G,33*c+(at'+1),none⟩=some (.int .i64 v):=by
   have h1:=Hown5.out.cellAt (33*c+(at'+1)) (by omega);rw[h1,List.getElem?_set_ne (by omega)];exact Hx2.out
  have f6:wx.frozen? ⟨G,33*c+(at'+1),none⟩=false:=Hown5.out.frozenAt _;clear hpl5 hout5 hres5 hown5 hst1 hst2;have HL2:=zB (HLn.out (at'+1) v f G (33*c) wx (by omega) b2.1 b2.2 hfr.1 (by omega) c6 f6);clear c6 f6;go_wp2_with fail;refine HL2.out.mono ?_;rintro e wy ⟨rfl,w7,hb7,hwy⟩;rw[HLv.out]at hwy;have z7:wx.heap.size≤w7.heap.size:=hb7.size;have hout7:=(Hout5.out.step hb7).other G (33*c+(at'+1)) (.int .i64 Lv) hne2;have hres7:=(Hres5.out.step hb7).other G (33*c+(at'+1)) (.int .i64 Lv) hne3;have hown7:=((ownS Hown5.out hb7).stored (33*c+(at'+1)) (.int .i64 Lv)).1;have hB7:Below w.heap.size w wy:=by rw[hwy];exact(zA hB5 hb7).setCell (show w.heap.size≤G by omega) _
  rw[←hwy]at hout7 hres7 hown7;clear hwy hb7 Hout5 Hres5 Hown5;have q0:=hout7.cell 0;have r0:=hres7.cell 0;have r1:=hres7.free 0;have r2:=(hres7.set 0 (.slice (some ⟨G,0,none⟩) n cap2)).cell 0;have l7:=hres7.lt;simp only[sC0,lgz]at q0 r0 r2;rw[←Ints_set,←Ints_set]at hown7;have hne4:¬G=w.heap.size+1:=by omega
  have hfin:=hown7.kept (zaJ wy (w.heap.size+1) 0 (.slice (some ⟨G,0,none⟩) n cap2)) (.inr (by simp[Value.ownBlock];exact hne4));have Hfin:=zB hfin;clear hfin hown7 hout7 hres7;go_wp2;refine bodyPost_ret (v:=.tuple #[.agg #[.slice (some ⟨G,0,none⟩) n cap2],.int .i64 0]) (by simp[results,Tryz.results222,go_sem,r2]) rfl ⟨_,rfl,?_,?_⟩
  ·rw[Hupd.out];have hl:((xs.set (33*c+at') Lu).set (33*c+at'+1) Lv).length=n:=by rw[yT,yT,Hn.out]
   refine⟨G,cap2,by rw[hl],by omega,by rw[hl];exact hc1,hc2,?_⟩;exact Rd.of_owns Hfin.out
  ·exact hB7.setCell (by simp) _
theorem S11.first_length:S11.first.length=33:=by simp[S11.first]
theorem S11.first_at{k:Nat}(h:k<33):S11.first[k]'(by rw[S11.first_length];exact h)=16*S06.squash (192*(k:Int)-3072):=by simp[S11.first]
theorem take_snoc{α:Type}(xs:List α)(k:Nat)(h:k<xs.length):xs.take (k+1)=xs.take k ++ [xs[k]]:=List.take_succ_eq_append_getElem h
theorem rd_of_list{w:World}{base:Nat}{n cap:Nat}{a:Option Addr}{xs:List Int}(h:w.ownsRow base 3 1 (.slice a n cap) n (zaK xs)):Rd w a (zaK xs):=Rd.of_owns h
theorem new11_ok(n:Nat)(w:World)(h1:1≤n)(h2:n≤65536) :
 Calls Tryz.prog 221 #[.int .i64 n] w fun e w'=>∃V,e = .returned (.tuple #[V,.int .i64 0])∧MapNew w.heap.size (zfE S11.first n) V w'∧Below w.heap.size w w':=by
 have e1:¬(n:Int)<1:=by omega
 have e2:¬(65536:Int)<n:=by omega
 go_enter Tryz.func221,Tryz.ntmps221;go_wp2;go_loopw [4,13] (fun v i wr=>∃(k:Nat) (a:Option Addr) (cap:Nat),k≤33∧i = .int .i64 k∧v = .slice a k cap∧wr.ownsRow (w.heap.size+1) 3 1 (.slice a k cap) k (zaK (S11.first.take k))∧Blk wr w.heap.size [.slice none 0 0] 76∧Below w.heap.size w wr) (fun _ i _=>33-(intOf i).toNat)
 case atStart=>exact⟨0,none,0,by omega,rfl,rfl,World.ownsRow_nil _ _ _ _,Blk.new w _ _,by go_grown⟩
 case round=>
  obtain⟨k,a,cap,hk,rfl,rfl,hown,hblk,hB⟩:=hrel;have zr:w.heap.size<wr.heap.size:=hblk.lt;have Hown:=zB hown;have Hblk:=zB hblk;clear hown hblk;by_cases hlt:k<33
  ·have HS:=zB fun W=>zdW (192*(k:Int)-3072) W;have hq:=S06.squash_bounds (192*(k:Int)-3072);have Hf:=zB (S11.first_at hlt);have Hsn:=zB (take_snoc S11.first k (by rw[S11.first_length];exact hlt));generalize S06.squash (192*(k:Int)-3072)=q at *;go_wp2_with fail;refine(HS.out _).mono ?_;rintro e w1 ⟨rfl,hb1⟩;have hB1:Below w.heap.size w w1:=zA hB hb1;have z1:wr.heap.size≤w1.heap.size:=hb1.size;have Hown1:=zB (ownS Hown.out hb1);have Hblk1:=zB (Hblk.out.step hb1);go_wp2_with (at_builtin;refine zaL _ _ 69 3 1 8 _ (w.heap.size+1) elems_ints rfl rfl _ k (zaK (S11.first.take k)) rfl (Hown1.out.alloc _) (some ⟨w1.heap.size,0,none⟩) 1 1 [.int .i64 (16*q)] rfl rfl (Rd.new w1 [.int .i64 (16*q)] 3) (by simp[Value.oneCell']) (by unfold maxLen;omega) (by omega) (by simp;omega) ?_;intro a2 cap2 w2 hown2 hgrow2;have hB2:Below w.heap.size w w2:=Below.grown (by go_grown) hgrow2 (by simp;omega) (fun j e=>yC (Nat.le_succ _) (Hown1.out.lt j e).1);have hblk2:Blk w2 w.heap.size [.slice none 0 0] 76:=(Hblk1.out.alloc _).below (Below.grown (B:=w.heap.size+1) (zF _ _) hgrow2 (by simp;omega) (fun j e=>(Hown1.out.lt j e).1)) (by omega);have Hown2:=zB hown2;have Hblk2:=zB hblk2;clear hown2 hgrow2 hblk2);go_roundw
   case rel=>
    refine⟨k+1,a2,cap2,by omega,by go_num,rfl,?_,Hblk2.out,hB2⟩;rw[Hsn.out,Hf.out,zjQ];exact Hown2.out
   case measure=>simp[intOf];omega
  ·obtain rfl:k=33:=by omega
   have hall:S11.first.take 33=S11.first:=zeM (by rw[S11.first_length];omega);have hown:=Hown.out;rw[hall]at hown;have HR:=zB (zrB S11.first n a cap wr (by rw[S11.first_length];omega) (by rw[S11.first_length];omega) h2 (rd_of_list hown));rw[S11.first_length]at HR;clear hown hall;go_wp2_with fail;refine HR.out.mono ?_;rintro e w1 ⟨b,rfl,hbge,hrd1,hb1⟩;have hB1:Below w.heap.size w w1:=zA hB hb1;have hblk1:=Hblk.out.step hb1;have r0:=hblk1.cell 0;have r1:=hblk1.free 0;have r2:=(hblk1.set 0 (.slice (some ⟨b,0,none⟩) (n*33) (n*33))).cell 0;simp only[sC0,lgz]at r0 r2;have Hrd1:=zB hrd1;clear hrd1 hblk1;go_wp2;refine bodyPost_ret (v:=.tuple #[.agg #[.slice (some ⟨b,0,none⟩) (n*33) (n*33)],.int .i64 0]) (by simp[results,Tryz.results221,go_sem,r2]) rfl ⟨_,rfl,?_,hB1.setCell (zD _) _⟩;have hl:(zfE S11.first n).length=n*33:=by rw[zeQ,S11.first_length]
   exact⟨b,_,by rw[hl],by omega,by rw[hl];exact zD _,by omega,Hrd1.out.setOther (by omega)⟩
