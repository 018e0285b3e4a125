/- A part of the proof of L15. No condition. -/
import Derived.WalkMore
import Derived.Test.YtahaacfikalheaaGreatZL15aw
import Derived.Test.YtahaacfikalheaaGreatZL15bk
import Derived.Test.YtahaacfikalheaaGreatZL15bl
set_option linter.all false
set_option maxRecDepth 100000
set_option maxHeartbeats 4000000
namespace Go.Proofs.YtahaacfikalheaaGreat
open Go.RowKit
def Nbs(l:List Nat):List Value:=l.map fun(x:Nat)=>.int .u8 (x:Int)
theorem zgR(l:List Nat):(Nbs l).length=l.length:=by simp[Nbs]
theorem Nbs_at{l:List Nat}{k:Nat}(h:k<l.length):(Nbs l)[k]? = some (.int .u8 (l.getD k 0:Nat)):=by
 unfold Nbs;rw[zaG,zI,zE h];rfl
theorem putAt_set15{α:Type}(xs:List α)(o:Nat)(v:α)(h:o<xs.length):ziP xs o [v]=xs.set o v:=by
 unfold ziP;rw[List.set_eq_take_append_cons_drop,zO h];rfl
theorem Nbs_set(l:List Nat)(k y:Nat):(Nbs l).set k (.int .u8 (y:Int))=Nbs (l.set k y):=by
 unfold Nbs;rw[List.map_set]
theorem zpG{w:World}{base:Nat}{e:TypeId}{size n cap:Nat}{a:Option Addr}{xs:List Value}(h:w.ownsRow base e size (.slice a n cap) n xs)(hn:1≤n):∃g,a=some ⟨g,0,none⟩∧base≤g∧g<w.heap.size∧n≤cap∧cap≤maxLen:=by
 rcases h.2 with⟨e1,_⟩|⟨g,cap',cur,e1,hb,hg,hn',hc,_⟩
 ·simp only[Value.slice.injEq]at e1;omega
 ·simp only[Value.slice.injEq]at e1;obtain⟨rfl,_,rfl⟩:=e1;exact⟨g,rfl,hb,(Array.getElem?_eq_some_iff.1 hg).1,hn',hc⟩
theorem World.cell?_setCell_self15{w:World}{g k:Nat}{u v:Value}(h:w.cell? ⟨g,k,none⟩=some u):(w.setCell ⟨g,k,none⟩ v).cell? ⟨g,k,none⟩=some v:=by
 exact World.cell?_setCell_same _ _ _ h
structure EB(w:World)(B0 b wd low:Nat)(out:List Nat)(a:Option Addr)(c:Nat):Prop where
 lo:B0≤b
 blk:Blk w b [.int .u32 (wd:Int),.int .u64 (low:Int),.slice a out.length c] 97
 own:w.ownsRow B0 5 1 (.slice a out.length c) out.length (Nbs out)
theorem ziK{w:World}{B0 b n c:Nat}{a:Option Addr}{xs cs:List Value}(h:w.ownsRow B0 5 1 (.slice a n c) n xs)(hb:Blk w b cs 97):(Value.slice a n c).ownBlock≠some b:=by
 intro hg;obtain⟨_,cur,hc⟩:=zbX h hg;unfold Blk at hb;rw[hb]at hc;simp only[Option.some.injEq]at hc;cases hc
theorem zcQ{w w':World}{base:Nat}{e:TypeId}{size n:Nat}{v:Value}{xs:List Value}{b:Nat}(h:w.ownsRow base e size v n xs)(hg:w.grownBy w' (some b))(hb:v.ownBlock≠some b):w'.ownsRow base e size v n xs:=by
 refine⟨h.1,?_⟩;rcases h.2 with h'|⟨g,cap',cur,h',hb',hg',r⟩
 ·exact .inl h'
 ·exact .inr ⟨g,cap',cur,h',hb',(hg.block g (Array.getElem?_eq_some_iff.1 hg').1 (fun e=>hb (by rw[h'];exact e))).trans hg',r⟩
theorem EB.step{w w':World}{B0 b wd low:Nat}{out:List Nat}{a:Option Addr}{c:Nat}(h:EB w B0 b wd low out a c)(hb:Below w.heap.size w w'):EB w' B0 b wd low out a c:=⟨h.lo,h.blk.step hb,yX (B:=0) h.own hb⟩
theorem EB.ne{w:World}{B0 b wd low g:Nat}{out:List Nat}{c:Nat}(h:EB w B0 b wd low out (some ⟨g,0,none⟩) c):¬b=g:=fun e=>ziK h.own h.blk (by rw[e];rfl)
theorem EB.byte{w:World}{B0 b wd low g:Nat}{out:List Nat}{c:Nat}(h:EB w B0 b wd low out (some ⟨g,0,none⟩) c){k:Nat}(hk:k<out.length)(y:Nat):EB (w.setCell ⟨g,k,none⟩ (.int .u8 (y:Int))) B0 b wd low (out.set k y) (some ⟨g,0,none⟩) c:=by
 have h1:=zkC h.own (o:=k) (vs:=[.int .u8 (y:Int)]) (by show k+1≤out.length*1;omega);rw[putAt_set15 _ _ _ (by rw[zgR];exact hk),Nbs_set]at h1;refine⟨h.lo,?_,?_⟩
 ·rw[yT];exact h.blk.other g k _ h.ne
 ·rw[yT];exact h1
theorem carry15(B0 b wd low:Nat)(out:List Nat)(a:Option Addr)(c:Nat)(w:World)(h:EB w B0 b wd low out a c)(hB:S15.By out)(hl:out.length≤100000) :
 Calls Tryz.prog 55 #[.pointer (some ⟨b,0,none⟩)] w fun e w'=>e = .returned (.tuple #[])∧EB w' B0 b wd low (S15.bump out out.length) a c∧Below B0 w w':=by
 have HE:=zB h;have HBy:=zB hB;obtain⟨n,hn⟩:∃n,out.length=n:=⟨_,rfl⟩;have Hn:=zB hn;have c2:w.cell? ⟨b,2,none⟩=some (.slice a n c):=by rw[←hn];exact h.blk.cell 2
 obtain⟨tgt,ht⟩:∃t,S15.bump out out.length=t:=⟨_,rfl⟩;rw[ht];have Ht:=zB ht;rw[hn]at hl;have hw:IntKind.i64.wrap ((n:Int)-1)=(n:Int)-1:=IntWalk.i64_in _ (by omega);clear h hB hn ht;go_enter Tryz.func55,Tryz.ntmps55;go_wp2_with fail
 go_step3
 go_wp2_with fail
 go_step3
 go_wp2_with fail;clear c2 hw;go_loopw [2] (fun i wr=>∃(m:Nat) (cur:List Nat),m≤n∧i = .int .i64 ((m:Int)-1)∧Hid (cur.length=n)∧Hid (S15.By cur)∧Hid (S15.bump cur m=tgt)∧Hid (EB wr B0 b wd low cur a c)∧Below B0 w wr) (fun i _=>(intOf i+1).toNat)
 case atStart=>exact⟨n,out,zD _,rfl,Hn,HBy,zB (by rw[←Hn.out];exact Ht.out),HE,zF _ _⟩
 case round=>
  obtain⟨m,cur,hm,rfl,hcl,hcb,hct,hE,hBl⟩:=hrel;have hE':=hE.out;have c2:wr.cell? ⟨b,2,none⟩=some (.slice a n c):=by rw[←hcl.out];exact hE'.blk.cell 2
  cases m with
  | zero=>
    have hd:¬(0:Int)≤((0:Nat):Int)-1:=by omega
    clear hE';go_wp2;go_returns;refine⟨rfl,?_,hBl⟩;have h1:=hct.out;rw[S15.bump]at h1;rw[←h1];exact hE.out
  | succ k=>
    have e0:((k+1:Nat):Int)-1=(k:Int):=by omega
    rw[e0];have hk0:(0:Int)≤(k:Int):=by omega
    have hkn:(k:Int)<(n:Int):=by omega
    obtain⟨g,rfl,hg1,hg2,_,_⟩:=zpG hE'.own (by rw[hcl.out];omega);have hkl:k<cur.length:=by rw[hcl.out];omega
    obtain⟨g',o',eg,hrd⟩:=(Rd.of_owns hE'.own) (fun e=>by have:=yS List.length e;rw[zgR,List.length_nil]at this;omega);cases eg;have x0:wr.cell? ⟨g,k,none⟩=some (.int .u8 (cur.getD k 0:Nat)):=by
     have:=hrd k _ (Nbs_at hkl);rwa[yK]at this
    have f0:wr.frozen? ⟨g,k,none⟩=false:=by
     have:=(zfS hE'.own (o:=k) (k:=1) (by omega) 0 (by omega)).2;simpa using this
    have hxb:=zeJ hcb.out k;have hw1:IntKind.i64.wrap ((k:Int)-1)=(k:Int)-1:=IntWalk.i64_in _ (by omega);have hgb:¬b=g:=hE'.ne;have hb1:=S15.bump.eq_2 cur k;obtain⟨x,hx⟩:∃x,cur.getD k 0=x:=⟨_,rfl⟩;rw[hx]at x0 hxb hb1;rw[hct.out]at hb1;by_cases h5:x=255
    ·subst h5;rw[zO rfl]at hb1;obtain⟨W1,hW1⟩:∃W,wr.setCell ⟨g,k,none⟩ (.int .u8 0)=W:=⟨_,rfl⟩;have hE1:EB W1 B0 b wd low (cur.set k 0) (some ⟨g,0,none⟩) c:=by rw[←hW1];exact hE'.byte hkl 0
     have c21:W1.cell? ⟨b,2,none⟩=some (.slice (some ⟨g,0,none⟩) n c):=by
      have h:=hE1.blk.cell 2;rw[yT,hcl.out]at h;exact h
     have x1:W1.cell? ⟨g,k,none⟩=some (.int .u8 0):=by rw[←hW1];exact World.cell?_setCell_self15 x0
     have hB1:Below B0 w W1:=by rw[←hW1];exact hBl.setCell (by show B0≤g;omega) _
     have Hrel:=zB (zaC hb1 (zaC hE1 hB1));clear hE' hrd hE hb1 hE1 hB1 hx hct;go_wp2_with (first|(rw[hW1])|fail);go_roundw
     case rel=>exact⟨k,cur.set k 0,by omega,rfl,zB (by rw[yT];exact hcl.out),zB (By_set hcb.out k (by decide)),zB Hrel.out.1.symm,zB Hrel.out.2.1,Hrel.out.2.2⟩
     case measure=>simp[intOf]
    ·rw[zG h5]at hb1;have hw2:IntKind.u8.wrap ((x:Int)+1)=((x+1:Nat):Int):=by
      rw[show((x+1:Nat):Int)=(x:Int)+1 by omega];exact IntWalk.u8_in _ (by omega)
     have hne:(((x+1:Nat):Int) != 0)=true:=by simp;omega
     obtain⟨y,hy⟩:∃y,x+1=y:=⟨_,rfl⟩;rw[hy]at hw2 hne hb1;obtain⟨W1,hW1⟩:∃W,wr.setCell ⟨g,k,none⟩ (.int .u8 (y:Int))=W:=⟨_,rfl⟩;have hE1:EB W1 B0 b wd low (cur.set k y) (some ⟨g,0,none⟩) c:=by rw[←hW1];exact hE'.byte hkl y
     have c21:W1.cell? ⟨b,2,none⟩=some (.slice (some ⟨g,0,none⟩) n c):=by
      have h:=hE1.blk.cell 2;rw[yT,hcl.out]at h;exact h
     have x1:W1.cell? ⟨g,k,none⟩=some (.int .u8 (y:Int)):=by rw[←hW1];exact World.cell?_setCell_self15 x0
     have hB1:Below B0 w W1:=by rw[←hW1];exact hBl.setCell (by show B0≤g;omega) _
     have Hrel:=zB (zaC hb1 (zaC hE1 hB1));clear hE' hrd hE hb1 hE1 hB1 hx hct hy;go_wp2_with (first|(rw[hW1])|fail);dsimp only[Exit.noGoto];go_returns;refine⟨rfl,?_,Hrel.out.2.2⟩;rw[Hrel.out.1];exact Hrel.out.2.1
theorem ztJ(g wd bit p:Nat)(cs:List Value)(t:TypeId)(hw:wd<4294967296)(hp:p≤4095)(w:World)(hg:Blk w g cs t)(h0:cs[0]? = some (.int .u32 (wd:Int))) :
 Calls Tryz.prog 54 #[.pointer (some ⟨g,0,none⟩),.int .i64 (bit:Int),.int .i64 (p:Int)] w fun e w'=>e = .returned (.int .u32 (S15.off wd bit p:Int))∧∃w1,Below w.heap.size w w1∧w'=w1.setCell ⟨g,0,none⟩ (.int .u32 (S15.wid wd bit p:Int)):=by
 have C:=zB fun(W:World)=>bound15 wd p hw hp W;have hbl:S15.bound wd p≤wd:=by
  unfold S15.bound;have:=Nat.div_mul_le_self wd 4096;have:=Nat.mul_le_mul (zD (wd/4096)) hp;omega
 have h:w.cell? ⟨g,0,none⟩=some (.int .u32 (wd:Int)):=by rw[hg.cell 0];exact h0
 have H0:=zB h0;have HG:=zB hg;clear h0 hg;unfold S15.off S15.wid;obtain⟨B,hB⟩:∃B,S15.bound wd p=B:=⟨_,rfl⟩;rw[hB]at hbl C⊢;have hw2:IntKind.u32.wrap ((wd:Int)-B)=((wd-B:Nat):Int):=by
  rw[show(wd:Int)-B=((wd-B:Nat):Int) by omega];exact zfN (by omega)
 obtain⟨R,hR⟩:∃R,wd-B=R:=⟨_,rfl⟩;rw[hR]at hw2⊢;clear hB hR hw hp hbl;obtain⟨r1,hr1⟩:∃r,(if bit=1 then 0 else B)=r:=⟨_,rfl⟩;obtain⟨r2,hr2⟩:∃r,(if bit=1 then B else R)=r:=⟨_,rfl⟩;rw[hr1,hr2];have H1:=zB hr1;have H2:=zB hr2;clear hr1 hr2;go_enter Tryz.func54,Tryz.ntmps54;go_wp2_with fail;go_wp2_with fail;refine(C.out w).mono ?_;rintro e w1 ⟨rfl,hb1⟩;have hB1:Below w.heap.size w w1:=zA (by go_grown) hb1;have z1:w.heap.size≤w1.heap.size:=hB1.size;have h1:w1.cell? ⟨g,0,none⟩=some (.int .u32 (wd:Int)):=by rw[(HG.out.step hB1).cell 0];exact H0.out
 have f1:=(HG.out.step hB1).free 0;clear h;by_cases hb:bit=1
 ·subst hb;have hr1:=H1.out;have hr2:=H2.out;rw[zO rfl]at hr1 hr2;subst hr1 hr2;go_wp2_with fail;go_returns;exact⟨rfl,w1,hB1,rfl⟩
 ·have hb1:¬(bit:Int)=1:=by omega
  have hr1:=H1.out;have hr2:=H2.out;rw[zG hb]at hr1 hr2;subst hr1 hr2;go_wp2_with fail;go_returns;exact⟨rfl,w1,hB1,rfl⟩
theorem EB.cells{w:World}{B0 b wd low:Nat}{out:List Nat}{a:Option Addr}{c:Nat}(h:EB w B0 b wd low out a c):w.cell? ⟨b,0,none⟩=some (.int .u32 (wd:Int))∧w.cell? ⟨b,1,none⟩=some (.int .u64 (low:Int))∧w.cell? ⟨b,2,none⟩=some (.slice a out.length c):=⟨h.blk.cell 0,h.blk.cell 1,h.blk.cell 2⟩
theorem EB.setW{w:World}{B0 b wd low:Nat}{out:List Nat}{a:Option Addr}{c:Nat}(h:EB w B0 b wd low out a c)(x:Nat):EB (w.setCell ⟨b,0,none⟩ (.int .u32 (x:Int))) B0 b x low out a c:=⟨h.lo,h.blk.set 0 _,zcQ h.own (zaJ w b 0 _) (ziK h.own h.blk)⟩
theorem EB.setL{w:World}{B0 b wd low:Nat}{out:List Nat}{a:Option Addr}{c:Nat}(h:EB w B0 b wd low out a c)(x:Nat):EB (w.setCell ⟨b,1,none⟩ (.int .u64 (x:Int))) B0 b wd x out a c:=⟨h.lo,h.blk.set 1 _,zcQ h.own (zaJ w b 1 _) (ziK h.own h.blk)⟩
theorem EB.setO{w:World}{B0 b wd low:Nat}{a a':Option Addr}{c c' n m:Nat}{out':List Nat}(hlo:B0≤b)(h:Blk w b [.int .u32 (wd:Int),.int .u64 (low:Int),.slice a m c] 97)(hn:out'.length=n)(h':w.ownsRow B0 5 1 (.slice a' n c') n (Nbs out')):EB (w.setCell ⟨b,2,none⟩ (.slice a' n c')) B0 b wd low out' a' c':=by
 subst hn;exact⟨hlo,h.set 2 _,zcQ h' (zaJ w b 2 _) (ziK h' h)⟩
theorem EB.lt0{w:World}{B0 b wd low:Nat}{out:List Nat}{a:Option Addr}{c:Nat}(h:EB w B0 b wd low out a c):B0≤w.heap.size:=by have:=h.lo;have:=h.blk.lt;omega
theorem EB.lt{w:World}{B0 b wd low:Nat}{out:List Nat}{a:Option Addr}{c:Nat}(h:EB w B0 b wd low out a c):b<w.heap.size:=h.blk.lt
theorem yU(B:Nat)(w:World):Below B w w.drew:=(zF B w).drew
theorem norm_done{e:S15.E}(h:¬e.width<16777216):∀f,S15.norm f e=e
 | 0=>rfl
 | f+1=>by rw[S15.norm,zG h]
theorem Nbs_snoc(l:List Nat)(x:Nat):Nbs l ++ [.int .u8 (x:Int)]=Nbs (l ++ [x]):=by simp[Nbs]
theorem encode15(B0 b wd low:Nat)(out:List Nat)(a:Option Addr)(c bit p:Nat)(w:World)(h:EB w B0 b wd low out a c)(hB:S15.By out)(hl:out.length≤65536)(hlow:low<4294967296)(hw1:16777216≤wd)(hw2:wd<4294967296)(hp1:1≤p)(hp2:p≤4095) :
 Calls Tryz.prog 36 #[.pointer (some ⟨b,0,none⟩),.int .i64 (bit:Int),.int .i64 (p:Int)] w fun e w'=>e = .returned (.tuple #[])∧(∃a' c',EB w' B0 b (S15.enc1 ⟨low,wd,out⟩ bit p).width (S15.enc1 ⟨low,wd,out⟩ bit p).low (S15.enc1 ⟨low,wd,out⟩ bit p).out a' c')∧Below B0 w w':=by
 have HE:=zB h;have hwi:=zjX hw1 ⟨hp1,hp2⟩ (b:=bit);have CN:=zB fun(W:World) (hW:Below w.heap.size w W)=>ztJ b wd bit p _ _ hw2 hp2 W (h.blk.step hW) rfl;have CC:=zB fun(V L:Nat) (W:World) (hW:EB W B0 b V L out a c)=>carry15 B0 b V L out a c W hW hB (by omega);have CS:=zB fun(V:Nat) (W:World)=>small15 V W;obtain⟨E',hE'⟩:∃E,S15.enc1 ⟨low,wd,out⟩ bit p=E:=⟨_,rfl⟩;rw[hE'];have hN:S15.norm 4 ⟨(low+S15.off wd bit p)%4294967296,S15.wid wd bit p,if 4294967296≤low+S15.off wd bit p then S15.bump out out.length else out⟩=E':=hE';clear hE';obtain⟨O,hO⟩:∃O,S15.off wd bit p=O:=⟨_,rfl⟩;obtain⟨V,hV⟩:∃O,S15.wid wd bit p=O:=⟨_,rfl⟩;rw[hO,hV]at CN hN hwi;clear hO hV;have hO1:IntKind.u64.wrap (O:Int)=O:=IntWalk.u64_in _ (by omega);have hO2:IntKind.u64.wrap ((low:Int)+O)=((low+O:Nat):Int):=by
  rw[show(low:Int)+O=((low+O:Nat):Int) by omega];exact IntWalk.u64_in _ (by omega)
 obtain⟨L,hL⟩:∃L,low+O=L:=⟨_,rfl⟩;have hLb:L<8589934592:=by omega
 rw[hL]at hO2 hN;have hV1:1≤V:=hwi.1;have hV2:V<4294967296:=by omega
 have hbl:=h.lt;have h0b:=h.lt0;have hlo:=h.lo;obtain⟨z0,z1,z2⟩:=h.cells;obtain⟨ol,hol⟩:∃n,out.length=n:=⟨_,rfl⟩;have Hol:=zB hol;have HN:=zB hN;clear h hB hN hwi hL;go_enter Tryz.func36,Tryz.ntmps36;go_wp2_with fail;have hC0:zbT [(⟨b,1,none⟩,.int .u64 (low:Int))] w:=⟨z1,yF⟩;refine zbL 14 15 0 [(.r,[true,true,true,true,true,true,true,true,true]),(.e,[false,false,false,false,false,false,false,false,false,true]),(.p,[false,false,false,false,false,false,false,false,false,false,true,true,true,true]),(.l,[false,false,false,false,false,false,false,false,false,false,false,false,false,false,true])] _ _ (zbT [(⟨b,1,none⟩,.int .u64 (low:Int))]) (by kernel_rfl) (yB 15 _).symm (by kernel_rfl) (by kernel_rfl) (by kernel_rfl) (by kernel_rfl) (hC0) (fun Y Q4 F4 hY hF=> ?_);simp only[zeR,lfc,lfn,ltc,ltz,ldc,ldz,zeE,zdE,zfU,lmc,lmn,lca,lna,lan]
 repeat
  first
   | (apply zaR (by rw[hY];rfl)
      ·intro w2;go_simp;with_reducible rfl
      simp only[zuI])
   | (apply zaQ (by rw[hY];rfl)
      ·intro w2 hS2;(try simp only[Keeps,zbT,Cells]at hS2);go_simp;with_reducible rfl
      simp only[zuI])
 apply zfR (by rw[hY];rfl)
 ·go_simp;with_reducible exact⟨rfl,rfl⟩
 refine(CN.out _ (yU _ w)).mono ?_;rintro e w1' ⟨rfl,w1,hB1,rfl⟩;have hB1':Below w.heap.size w w1:=zA (yU _ w) hB1;have E1:=(HE.out.step hB1').setW V;have hB2:=(hB1'.mono h0b).setCell (p:=⟨b,0,none⟩) hlo (.int .u32 (V:Int));obtain⟨w2,hw2⟩:∃x,w1.setCell ⟨b,0,none⟩ (.int .u32 (V:Int))=x:=⟨_,rfl⟩;rw[hw2]at E1 hB2⊢;clear hw2 hB1 hB1' z0 z1 z2 hC0;refine⟨_,rfl,⟨E1.cells.2.1,yF⟩,?_⟩;simp only[zuI]
 repeat
  first
   | (apply zaR (by rw[hY];rfl)
      ·intro w2;go_simp;with_reducible rfl
      simp only[zuI])
   | (apply zaQ (by rw[hY];rfl)
      ·intro w2 hS2;(try simp only[Keeps,zbT,Cells]at hS2);go_simp;with_reducible rfl
      simp only[zuI])
 have E3:=E1.setL L;have hB3:=hB2.setCell (p:=⟨b,1,none⟩) hlo (.int .u64 (L:Int));obtain⟨w3,hw3⟩:∃x,w2.setCell ⟨b,1,none⟩ (.int .u64 (L:Int))=x:=⟨_,rfl⟩;rw[hw3]at E3 hB3;have q1:=E1.cells.2.1;have q1f:=E1.blk.free 1;refine zbD (by rw[hY];rfl) (by go_simp;first|with_reducible exact⟨rfl,rfl⟩|with_reducible rfl) ?_;simp only[zuI];(try rw[hw3]);refine zcR (hF.out _ _ (fun K hK=> ?_));clear hF hY hw3 q1 q1f E1 hB2;go_wp2_with fail;refine OnlyK.mk (hK.out _ _ ?_);clear hK;obtain⟨q0,q1,q2⟩:=E3.cells;have f1:=E3.blk.free 1;have HE3:=zB E3;have hHN:=HN.out;have Hol2:=Hol.out;clear E3;by_cases hge:4294967296≤L
 case' pos=>
  rw[zO hge]at hHN;have hg2:(4294967296:Int)≤(L:Int):=by omega
  obtain⟨L1,hL1⟩:∃x,L-4294967296=x:=⟨_,rfl⟩;have hmod:L%4294967296=L1:=by omega
  rw[hmod]at hHN;have HN5:=zB hHN;have hL5:L1<4294967296:=by omega
  have hw:IntKind.u64.wrap ((L:Int)-4294967296)=(L1:Int):=by
   rw[show(L:Int)-4294967296=(L1:Int) by omega];exact IntWalk.u64_in _ (by omega)
  have E4:=HE3.out.setL L1;have hB4:=hB3.setCell (p:=⟨b,1,none⟩) hlo (.int .u64 (L1:Int));obtain⟨w4,hw4⟩:∃x,w3.setCell ⟨b,1,none⟩ (.int .u64 (L1:Int))=x:=⟨_,rfl⟩;rw[hw4]at E4 hB4;clear hmod hL1 hHN;go_wp2_with (first|(rw[hw4])|fail);refine(CC.out V L1 w4 E4).mono ?_;rintro e w5 ⟨rfl,E5,hB5⟩;have hB6:=hB4.trans hB5;have HE5:=zB E5;clear hw4 E4 hB4 hB5 hB3 E5 HE3;go_wp2_with fail
 case' neg=>
  rw[zG hge,zcT (by omega)]at hHN;have hg2:¬(4294967296:Int)≤(L:Int):=by omega
  go_wp2_with fail;obtain⟨L1,hL1⟩:∃x,L=x:=⟨_,rfl⟩;obtain⟨w5,hw5⟩:∃x,w3=x:=⟨_,rfl⟩;rw[hL1]at hHN HE3;rw[hw5]at HE3 hB3⊢;have HN5:=zB hHN;have hL5:L1<4294967296:=by omega
  have hB6:=hB3;have HE5:=HE3;clear hHN HE3 hB3 hw5 hL1
 case' pos=>
  obtain⟨o5,ho5⟩:∃x,S15.bump out out.length=x:=⟨_,rfl⟩;have ho5l:Hid (o5.length≤65536):=by rw[←ho5,zeW];exact zB hl
  rw[ho5]at HN5 HE5;clear ho5
 case' neg=>
  obtain⟨o5,ho5⟩:∃x,out=x:=⟨_,rfl⟩;have ho5l:Hid (o5.length≤65536):=by rw[←ho5];exact zB hl
  rw[ho5]at HN5 HE5;clear ho5
 all_goals
  clear hg2 hge q0 q1 q2 f1 hO1 hO2 CN CC Hol Hol2 HN hLb;go_loopw [] (fun wr=>∃(f:Nat) (E1:S15.E) (a1:Option Addr) (c1:Nat),Hid (S15.norm f E1=E')∧Hid (EB wr B0 b E1.width E1.low E1.out a1 c1)∧Hid (E1.low<4294967296∧1≤E1.width∧E1.width<4294967296∧16777216≤E1.width*256^f∧E1.out.length+f≤70000)∧Below B0 w wr) (fun wr=>16777216-(intOf ((wr.cell? ⟨b,0,none⟩).getD undef)).toNat)
  case atStart=>exact⟨4,⟨L1,V,o5⟩,a,c,HN5,HE5,zB ⟨hL5,hV1,hV2,by show _≤V*256^4;omega,by have:=ho5l.out;show o5.length+4≤70000;omega⟩,hB6⟩
  case round=>
   obtain⟨f,⟨lo,wi,ou⟩,a1,c1,hn,hE,hc,hBl⟩:=hrel;have hE':EB wr B0 b wi lo ou a1 c1:=hE.out;have hc':lo<4294967296∧1≤wi∧wi<4294967296∧16777216≤wi*256^f∧ou.length+f≤70000:=hc.out;obtain⟨hc1,hc2,hc3,hc4,hc5⟩:=hc';obtain⟨y0,y1,y2⟩:=hE'.cells;have hm0:=zB y0;go_wp2_with fail;refine(CS.out wi _).mono ?_;rintro e w6 ⟨rfl,hB7⟩;have E7:=hE'.step hB7;have hB8:=hBl.trans (hB7.mono hE'.lt0);clear y0 y1 y2;by_cases hs:wi<16777216
   ·rw[zQ hs];cases f with
    | zero=>rw[zcL,zaO]at hc4;omega
    | succ f=>
      obtain⟨y0,y1,y2⟩:=E7.cells;obtain⟨n,hn1⟩:∃n,ou.length=n:=⟨_,rfl⟩;rw[hn1]at y2 hc5;obtain⟨y,hy⟩:∃y,lo/16777216=y:=⟨_,rfl⟩;have hyw:IntKind.u8.wrap ((lo:Int)/16777216)=(y:Int):=by
       rw[show(lo:Int)/16777216=(y:Int) by omega];exact IntWalk.u8_in _ (by omega)
      clear hE';go_wp2_with fail;have hC6:zbT [(⟨b,2,none⟩,.slice a1 n c1),(⟨b,1,none⟩,.int .u64 (lo:Int))] w6:=⟨y2,y1,yF⟩;refine zbL 15 16 0 [(.r,[true,true,true,true,true,true,true,true,true,true,true]),(.e,[false,false,false,false,false,false,false,false,false,false,false,true]),(.e,[false,false,false,false,false,false,false,false,false,false,false,false,true]),(.p,[false,false,false,false,false,false,false,false,false,false,false,false,false,true,true]),(.l,[false,false,false,false,false,false,false,false,false,false,false,false,false,false,false,true])] _ _ (zbT [(⟨b,2,none⟩,.slice a1 n c1),(⟨b,1,none⟩,.int .u64 (lo:Int))]) (by kernel_rfl) (yB 16 _).symm (by kernel_rfl) (by kernel_rfl) (by kernel_rfl) (by kernel_rfl) (hC6) (fun Y Q4 F4 hY hF=> ?_);simp only[zeR,lfc,lfn,ltc,ltz,ldc,ldz,zeE,zdE,zfU,lmc,lmn,lca,lna,lan]
      repeat
       first
        | (apply zaR (by rw[hY];rfl)
           ·intro w2;go_simp;with_reducible rfl
           simp only[zuI])
        | (apply zaQ (by rw[hY];rfl)
           ·intro w2 hS2;(try simp only[Keeps,zbT,Cells]at hS2);go_simp;with_reducible rfl
           simp only[zuI])
      have hC10:zbT [(⟨b,2,none⟩,.slice a1 n c1),(⟨b,1,none⟩,.int .u64 (lo:Int))] (w6.drew.alloc (Obj.cells #[.int .u8 (y:Int)] 5)):=Cells.step ((zF w6.drew.heap.size w6.drew).alloc (zD _) _) hC6;have hE10:Below w6.heap.size w6 (w6.drew.alloc (Obj.cells #[.int .u8 (y:Int)] 5)):=zA (yU _ w6) ((zF w6.drew.heap.size w6.drew).alloc (zD _) _);have E10:=E7.step hE10;have N10:Rd (w6.drew.alloc (Obj.cells #[.int .u8 (y:Int)] 5)) (some ⟨w6.heap.size,0,none⟩) [.int .u8 (y:Int)]:=Rd.new w6.drew [.int .u8 (y:Int)] 5;have ob10:=E10.own;have bk10:=E10.blk;have hb10:=E10.lt;rw[hn1]at ob10 bk10;refine zgE (by rw[hY];rfl) (by go_simp;first|with_reducible exact⟨rfl,rfl⟩|with_reducible rfl) (hC10) ?_;simp only[zuI];refine zgU (.tmp 43) (.tmp 50) 24 5 1 1 _ B0 zdR _ n (Nbs ou) (some ⟨w6.heap.size,0,none⟩) 1 1 [.int .u8 (y:Int)] (by rw[hY];rfl) rfl rfl rfl rfl (by intro u hu;rw[List.mem_singleton.1 hu];rfl) (by unfold maxLen;omega) (by omega) ob10 N10 (by omega) ?_;intro ab2 cb2 w11 ob11 hg11;have hB11:Below B0 w6 w11:=Below.grown (hE10.mono E7.lt0) hg11 E10.lt0 (fun k e=>(ob10.lt k e).1);have S11:=bk10.grown hg11 (fun e=>ziK ob10 bk10 e.symm);rw[Nbs_snoc]at ob11;refine⟨⟨S11.cell 2,S11.cell 1,yF⟩,?_⟩;simp only[zuI]
      repeat
       first
        | (apply zaR (by rw[hY];rfl)
           ·intro w2;go_simp;with_reducible rfl
           simp only[zuI])
        | (apply zaQ (by rw[hY];rfl)
           ·intro w2 hS2;(try simp only[Keeps,zbT,Cells]at hS2);go_simp;with_reducible rfl
           simp only[zuI])
      have E12:=EB.setO hlo S11 (out':=ou ++ [y]) (by simp[hn1]) ob11;have hB12:=(hB8.trans hB11).setCell (p:=⟨b,2,none⟩) hlo (.slice ab2 (n+1) cb2);obtain⟨w12,hw12⟩:∃x,w11.setCell ⟨b,2,none⟩ (.slice ab2 (n+1) cb2)=x:=⟨_,rfl⟩;rw[hw12]at E12 hB12;have q2:=S11.cell 2;have q2f:=S11.free 2;refine zbD (by rw[hY];rfl) (by go_simp;first|with_reducible exact⟨rfl,rfl⟩|with_reducible rfl) ?_;simp only[zuI];(try rw[hw12]);refine zcR (hF.out _ _ (fun K hK=> ?_));clear hF hY hw12 q2 q2f S11 hB11 ob11 hg11 E10 N10 ob10 bk10 hE10 hC10 hC6 y0 y1 y2 E7 hE;obtain⟨y0,y1,y2⟩:=E12.cells;have y1f:=E12.blk.free 1;have y0f:=E12.blk.free 0;refine OnlyK.mk (hK.out _ _ ?_);clear hK;go_wp2_with fail;have E13:=(E12.setL (lo*256%4294967296)).setW (wi*256);have hB13:=(hB12.setCell (p:=⟨b,1,none⟩) hlo (.int .u64 ((lo*256%4294967296:Nat):Int))).setCell (p:=⟨b,0,none⟩) hlo (.int .u32 ((wi*256:Nat):Int));have hm1:=E13.cells.1;have e1:((lo*256%4294967296:Nat):Int)=(lo:Int)*256%4294967296:=by omega
      have e2:((wi*256:Nat):Int)=(wi:Int)*256:=by omega
      rw[e1,e2]at E13 hB13 hm1;have hnn:=hn.out;rw[S15.norm,zO hs]at hnn;simp only[hy]at hnn;have hc6:16777216≤wi*256*256^f:=by
       rw[zcI,zdL (256^f) 256,←zaZ]at hc4;exact hc4
      refine⟨⟨f,⟨lo*256%4294967296,wi*256,ou ++ [y]⟩,ab2,cb2,zB hnn,zB E13,zB ⟨by show lo*256%4294967296<_;omega,by show 1≤wi*256;omega,by show wi*256<_;omega,hc6,by show(ou ++ [y]).length+f≤_;rw[yN,hn1,zcF];omega⟩,hB13⟩,?_⟩;rw[hm1,hm0.out];simp[intOf];omega
   ·rw[yD hs];have hN9:=hn.out;rw[norm_done hs]at hN9;go_wp2_with fail;go_returns;refine⟨rfl,⟨a1,c1,?_⟩,hB8⟩;rw[←hN9];exact E7
theorem owns_less15{w:World}{base:Nat}{e:TypeId}{a:Option Addr}{n k c:Nat}{xs:List Value}(h:w.ownsRow base e 1 (.slice a n c) n xs)(hk:k≤n):w.ownsRow base e 1 (.slice a k c) k (xs.take k):=by
 refine⟨by rw[yJ,h.1];omega,?_⟩;rcases h.2 with⟨e1,e2⟩|⟨g,cap',cur,e1,hb,hg,hnc,hcm,hcs,ht⟩
 ·simp only[Value.slice.injEq]at e1;obtain⟨rfl,_,rfl⟩:=e1;exact .inl ⟨by rw[show k=0 by omega],by omega⟩
 ·simp only[Value.slice.injEq]at e1;obtain⟨rfl,_,rfl⟩:=e1;refine .inr ⟨g,c,cur,rfl,hb,hg,by omega,hcm,hcs,?_⟩;rw[←ht,List.take_take]
  congr 1
  omega
theorem Nbs_take(l:List Nat)(k:Nat):(Nbs l).take k=Nbs (l.take k):=by simp[Nbs]
theorem finish15(B0 b wd low:Nat)(out:List Nat)(a:Option Addr)(c:Nat)(w:World)(h:EB w B0 b wd low out a c)(hB:S15.By out)(hl:out.length≤65536)(hlow:low<4294967296)(hw1:16777216≤wd)(hw2:wd<4294967296) :
 Calls Tryz.prog 39 #[.pointer (some ⟨b,0,none⟩)] w fun e w'=>∃a' c',e = .returned (.slice a' (S15.fin ⟨low,wd,out⟩).length c')∧w'.ownsRow B0 5 1 (.slice a' (S15.fin ⟨low,wd,out⟩).length c') (S15.fin ⟨low,wd,out⟩).length (Nbs (S15.fin ⟨low,wd,out⟩))∧Below B0 w w':=by
 have HE:=zB h;have CC:=zB fun(W:World) (hW:EB W B0 b wd low out a c)=>carry15 B0 b wd low out a c W hW hB (by omega);obtain⟨F,hF0⟩:∃F,S15.fin ⟨low,wd,out⟩=F:=⟨_,rfl⟩;rw[hF0];have hf:S15.trimN (S15.fin0 ⟨low,wd,out⟩) (S15.fin0 ⟨low,wd,out⟩).length=F:=hF0;have hf0:S15.fin0 ⟨low,wd,out⟩=if low=0 then out else if 4294967296<low+wd then S15.bump out out.length else out ++ [(low+16777215)/16777216]:=rfl
 clear hF0;obtain⟨o5,ho5⟩:∃F,S15.fin0 ⟨low,wd,out⟩=F:=⟨_,rfl⟩;rw[ho5]at hf hf0;have Hf:=zB hf;have Hf0:=zB hf0;obtain⟨z0,z1,z2⟩:=h.cells;have hbl:=h.lt;have hlo:=h.lo;have f2:=h.blk.free 2;obtain⟨n,hn⟩:∃n,out.length=n:=⟨_,rfl⟩;have Hn:=zB hn;rw[hn]at hl z2;clear h hB hf hf0 ho5 hn;go_enter Tryz.func39,Tryz.ntmps39;by_cases h0:low=0
 case' pos=>
  have hi0:(low:Int)=0:=by omega
  have h50:=Hf0.out;rw[zO h0]at h50;go_wp2_with fail;obtain⟨w5,hw5⟩:∃x,w=x:=⟨_,rfl⟩;have E5:∃a5 c5,Hid (EB w5 B0 b wd low o5 a5 c5):=⟨a,c,by rw[h50,←hw5];exact HE⟩;have L5:o5.length≤65537:=by rw[h50,Hn.out];omega
  have B5:Below B0 w w5:=by rw[←hw5];exact zF _ _
  rw[hw5];clear hw5 hi0 h50
 case' neg=>
  have hi0:¬(low:Int)=0:=by omega
  have h50:=Hf0.out;rw[zG h0]at h50;obtain⟨s,hs⟩:∃s,low+wd=s:=⟨_,rfl⟩;rw[hs]at h50;have e1:IntKind.u64.wrap (wd:Int)=wd:=IntWalk.u64_in _ (by omega);have e2:IntKind.u64.wrap ((low:Int)+wd)=(s:Int):=by
   rw[show(low:Int)+wd=(s:Int) by omega];exact IntWalk.u64_in _ (by omega)
  have Hs:=zB hs;clear hs;go_wp2_with fail;have hC0:zbT [(⟨b,1,none⟩,.int .u64 (low:Int)),(⟨b,0,none⟩,.int .u32 (wd:Int))] w:=⟨z1,z0,yF⟩;refine zuL 13 0 [(U,[U,U,U,U,U,U,U,U,U,U,U,U]),(zuH,[zuH,zuH,zuH,zuH,zuH,zuH,zuH,zuH,zuH,zuH,zuH,zuH,U])] (zbT [(⟨b,1,none⟩,.int .u64 (low:Int)),(⟨b,0,none⟩,.int .u32 (wd:Int))]) (by kernel_rfl) (hC0) (fun Y Q4 F4 hY hF=> ?_);simp only[zuJ]
  repeat
   apply zJ (by rw[hY];rfl)
   ·intro w2 hS2;(try simp only[Keeps,zbT,Cells]at hS2);go_simp;with_reducible rfl
   simp only[zuI]
  refine zbZ (by rw[hY];rfl) (by go_simp;first|with_reducible exact⟨rfl,rfl⟩|with_reducible rfl) (Cells.step (yU _ w) hC0) ?_;simp only[zuI];refine yE (hF.out _ _ (fun K hK=> ?_));clear hF hY hC0;refine OnlyK.mk (hK.out _ _ ?_);clear hK;have E1:=HE.out.step (yU _ w);have B1:=yU B0 w;by_cases h1:4294967296<s
  case' pos=>
   have hi1:(4294967296:Int)<(s:Int):=by omega
   rw[zO h1]at h50;clear z0 z1 z2 f2;go_wp2_with fail;refine(CC.out _ E1).mono ?_;rintro e w5 ⟨rfl,E4,B4⟩;have E5:∃a5 c5,Hid (EB w5 B0 b wd low o5 a5 c5):=⟨a,c,by rw[h50];exact zB E4⟩;have L5:o5.length≤65537:=by rw[h50,zeW,Hn.out];omega
   have B5:=B1.trans B4;clear E1 B1 E4 B4 h50 hi1 h1;go_wp2_with fail
  case' neg=>
   have hi1:¬(4294967296:Int)<(s:Int):=by omega
   rw[zG h1]at h50;obtain⟨y,hy⟩:∃y,(low+16777215)/16777216=y:=⟨_,rfl⟩;rw[hy]at h50;have hyb:y<256:=by have:=Hs.out;omega
   obtain⟨t1,ht1⟩:∃t:Nat,t=low+16777216:=⟨_,rfl⟩;obtain⟨t2,ht2⟩:∃t:Nat,t+1=t1:=⟨low+16777215,ht1.symm⟩;have hy2:t2/16777216=y:=by rw[←hy];congr 1;omega
   have hx1:IntKind.u64.wrap ((low:Int)+16777216)=(t1:Int):=by
    rw[show(low:Int)+16777216=(t1:Int) by omega];exact IntWalk.u64_in _ (by omega)
   have hx2:IntKind.u64.wrap ((t1:Int)-1)=(t2:Int):=by
    rw[show(t1:Int)-1=(t2:Int) by omega];exact IntWalk.u64_in _ (by omega)
   have hyw:IntKind.u8.wrap ((t2:Int)/16777216)=(y:Int):=by
    rw[show(t2:Int)/16777216=(y:Int) by omega];exact IntWalk.u8_in _ (by omega)
   clear hy ht1 ht2 hy2;obtain⟨q0,q1,q2⟩:=E1.cells;have E1':=zB E1;rw[Hn.out]at q2;clear z0 z1 z2 f2 E1;have Hx:=zB (zaC hx1 (zaC hx2 hyw));clear hx1 hx2 hyw;go_wp2_with fail;obtain⟨hx1,hx2,hyw⟩:=Hx.out;obtain⟨w1,hw1'⟩:∃x,w.drew=x:=⟨_,rfl⟩;rw[hw1']at q0 q1 q2 E1' B1⊢;clear hw1';have hC6:zbT [(⟨b,2,none⟩,.slice a n c),(⟨b,1,none⟩,.int .u64 (low:Int))] w1:=⟨q2,q1,yF⟩;have hC10:zbT [(⟨b,2,none⟩,.slice a n c),(⟨b,1,none⟩,.int .u64 (low:Int))] (w1.drew.alloc (Obj.cells #[.int .u8 (y:Int)] 5)):=Cells.step ((zF w1.drew.heap.size w1.drew).alloc (zD _) _) hC6;have hE10:Below w1.heap.size w1 (w1.drew.alloc (Obj.cells #[.int .u8 (y:Int)] 5)):=zA (yU _ w1) ((zF w1.drew.heap.size w1.drew).alloc (zD _) _);have E10:=E1'.out.step hE10;have N10:Rd (w1.drew.alloc (Obj.cells #[.int .u8 (y:Int)] 5)) (some ⟨w1.heap.size,0,none⟩) [.int .u8 (y:Int)]:=Rd.new w1.drew [.int .u8 (y:Int)] 5;have ob10:=E10.own;have bk10:=E10.blk;have hb10:=E10.lt;rw[Hn.out]at ob10 bk10;refine zbL 17 18 0 [(.r,[true,true,true,true,true,true,true,true,true,true,true,true,true]),(.e,[false,false,false,false,false,false,false,false,false,false,false,false,false,true]),(.e,[false,false,false,false,false,false,false,false,false,false,false,false,false,false,true]),(.p,[false,false,false,false,false,false,false,false,false,false,false,false,false,false,false,true,true]),(.l,[false,false,false,false,false,false,false,false,false,false,false,false,false,false,false,false,false,true])] _ _ (zbT [(⟨b,2,none⟩,.slice a n c),(⟨b,1,none⟩,.int .u64 (low:Int))]) (by kernel_rfl) (yB 18 _).symm (by kernel_rfl) (by kernel_rfl) (by kernel_rfl) (by kernel_rfl) (hC6) (fun Y Q4 F4 hY hF=> ?_);simp only[zeR,lfc,lfn,ltc,ltz,ldc,ldz,zeE,zdE,zfU,lmc,lmn,lca,lna,lan]
   repeat
    first
     | (apply zaR (by rw[hY];rfl)
        ·intro w2;go_simp;with_reducible rfl
        simp only[zuI])
     | (apply zaQ (by rw[hY];rfl)
        ·intro w2 hS2;(try simp only[Keeps,zbT,Cells]at hS2);go_simp;with_reducible rfl
        simp only[zuI])
   refine zgE (by rw[hY];rfl) (by go_simp;first|with_reducible exact⟨rfl,rfl⟩|with_reducible rfl) (hC10) ?_;simp only[zuI];refine zgU (.tmp 7) (.tmp 16) 24 5 1 1 _ B0 zdR _ n (Nbs out) (some ⟨w1.heap.size,0,none⟩) 1 1 [.int .u8 (y:Int)] (by rw[hY];rfl) rfl rfl rfl rfl (by intro u hu;rw[List.mem_singleton.1 hu];rfl) (by unfold maxLen;omega) (by omega) ob10 N10 (by omega) ?_;intro ab2 cb2 w11 ob11 hg11;have hB11:Below B0 w1 w11:=Below.grown (hE10.mono E1'.out.lt0) hg11 E10.lt0 (fun k e=>(ob10.lt k e).1);have S11:=bk10.grown hg11 (fun e=>ziK ob10 bk10 e.symm);rw[Nbs_snoc]at ob11;refine⟨⟨S11.cell 2,S11.cell 1,yF⟩,?_⟩;simp only[zuI]
   repeat
    first
     | (apply zaR (by rw[hY];rfl)
        ·intro w2;go_simp;with_reducible rfl
        simp only[zuI])
     | (apply zaQ (by rw[hY];rfl)
        ·intro w2 hS2;(try simp only[Keeps,zbT,Cells]at hS2);go_simp;with_reducible rfl
        simp only[zuI])
   have E12:=EB.setO hlo S11 (out':=out ++ [y]) (by simp[Hn.out]) ob11;have B5:=(B1.trans hB11).setCell (p:=⟨b,2,none⟩) hlo (.slice ab2 (n+1) cb2);obtain⟨w5,hw5⟩:∃x,w11.setCell ⟨b,2,none⟩ (.slice ab2 (n+1) cb2)=x:=⟨_,rfl⟩;rw[hw5]at E12 B5;have q2:=S11.cell 2;have q2f:=S11.free 2;refine zbD (by rw[hY];rfl) (by go_simp;first|with_reducible exact⟨rfl,rfl⟩|with_reducible rfl) ?_;simp only[zuI];(try rw[hw5]);refine zcR (hF.out _ _ (fun K hK=> ?_));have E5:∃a5 c5,Hid (EB w5 B0 b wd low o5 a5 c5):=⟨ab2,cb2,by rw[h50];exact zB E12⟩;have L5:o5.length≤65537:=by rw[h50,yN,Hn.out,zcF];omega
   clear hF hY hw5 q2 q2f S11 hB11 ob11 hg11 E10 N10 ob10 bk10 hE10 hC10 hC6 E1' E12 B1 h50 hx1 hx2 hyw;refine OnlyK.mk (hK.out _ _ ?_);clear hK;go_wp2_with fail
 all_goals
  obtain⟨a5,c5,HE5⟩:=E5;go_loopw [] (fun wr=>∃(k:Nat) (a1:Option Addr) (c1:Nat),k≤o5.length∧Hid (S15.trimN o5 k=F)∧Hid (EB wr B0 b wd low (o5.take k) a1 c1)∧Below B0 w wr) (fun wr=>match (wr.cell? ⟨b,2,none⟩).getD undef with | .slice _ m _=>m|_=>0)
  case atStart=>exact⟨o5.length,a5,c5,zD _,Hf,by rw[zdT];exact HE5,B5⟩
  case round=>
   obtain⟨k,a1,c1,hk,hn,hE,hBl⟩:=hrel;have hE':EB wr B0 b wd low (o5.take k) a1 c1:=hE.out;obtain⟨y0,y1,y2⟩:=hE'.cells;have hlk:(o5.take k).length=k:=by rw[yJ];omega
   have hown:=hE'.own;rw[hlk]at y2 hown;have hm0:=zB y2;clear y0 y1;cases k with
   | zero=>
     have hi:¬(0:Int)<((0:Nat):Int):=by omega
     have hC0:zbT [(⟨b,2,none⟩,.slice a1 0 c1)] wr:=⟨y2,yF⟩;go_wp2_with fail;refine zuL 21 0 [(U,[U,U,U,U,U,U,U,U,U,U,U,U,U,U,U,U,U,U,U,U,U])] (zbT [(⟨b,2,none⟩,.slice a1 0 c1)]) (by kernel_rfl) (hC0) (fun Y Q4 F4 hY hF=> ?_);simp only[zuJ]
     repeat
      apply zJ (by rw[hY];rfl)
      ·intro w2 hS2;(try simp only[Keeps,zbT,Cells]at hS2);go_simp;with_reducible rfl
      simp only[zuI]
     repeat
      first
       | (apply yV (by rw[hY];rfl);simp only[zuI])
       | (apply zJ (by rw[hY];rfl)
          ·intro w2 hS2;(try simp only[Keeps,zbT,Cells]at hS2);go_simp;with_reducible rfl
          simp only[zuI])
     refine yE (hF.out _ _ (fun K hK=> ?_));clear hF hY hC0;have E9:=hE'.step (yU _ wr);have q2:=E9.cells.2.2;have B9:=hBl.trans (yU B0 wr);have own9:=E9.own;rw[hlk]at q2 own9;refine OnlyK.mk (hK.out _ _ ?_);clear hK hE' hown y2;go_wp2_with fail;go_returns;have hF9:F = []:=hn.out.symm;refine⟨a1,c1,by rw[hF9];rfl,?_,B9⟩;rw[hF9];exact own9
   | succ k=>
     obtain⟨g,rfl,hg1,hg2,hg3,hg4⟩:=zpG hown (by omega);obtain⟨g',o',eg,hrd⟩:=(Rd.of_owns hown) (fun e=>by have:=yS List.length e;rw[zgR,hlk,List.length_nil]at this;omega);cases eg;obtain⟨x,hx⟩:∃x,o5.getD k 0=x:=⟨_,rfl⟩;have x0:wr.cell? ⟨g,k,none⟩=some (.int .u8 (x:Int)):=by
      have:=hrd k _ (Nbs_at (by rw[hlk];omega));rw[yK]at this;rw[this,←hx,zI,zI,zbG,zO (by omega)]
     obtain⟨m,hm⟩:∃m,k+1=m:=⟨_,rfl⟩;rw[hm]at y2 hm0 hown;have hi:(0:Int)<(m:Int):=by omega
     have hdt:decide (0<m)=true:=zQ (by omega);have hi2:(0:Int)≤(k:Int):=by omega
     have hi3:(k:Int)<(m:Int):=by omega
     have hkc:(k:Int)≤(c1:Int):=by omega
     have hkc2:k≤c1:=by omega
     have hkm:k≤m:=by omega
     have hkw:IntKind.i64.wrap ((m:Int)-1)=(k:Int):=by
      rw[show(m:Int)-1=(k:Int) by omega];exact IntWalk.i64_in _ (by have:=hown.1;omega)
     have hC0:zbT [(⟨b,2,none⟩,.slice (some ⟨g,0,none⟩) m c1),(⟨g,k,none⟩,.int .u8 (x:Int))] wr:=⟨y2,x0,yF⟩;have Hm:=zB hm;clear hrd hm;by_cases hx0:x=0
     ·subst hx0;go_wp2_with fail;refine zuL 21 0 [(U,[U,U,U,U,U,U,U,U,U,U,U,U,U,U,U,U,U,U,U,U,U])] (zbT [(⟨b,2,none⟩,.slice (some ⟨g,0,none⟩) m c1),(⟨g,k,none⟩,.int .u8 ((0:Nat):Int))]) (by kernel_rfl) (hC0) (fun Y Q4 F4 hY hF=> ?_);simp only[zuJ]
      repeat
       apply zJ (by rw[hY];rfl)
       ·intro w2 hS2;(try simp only[Keeps,zbT,Cells]at hS2);go_simp;with_reducible rfl
       simp only[zuI]
      refine yE (hF.out _ _ (fun K hK=> ?_));clear hF hY hC0 x0;have E9:=hE'.step (yU _ wr);have q2:=E9.cells.2.2;have B9:=hBl.trans (yU B0 wr);have hb9:=E9.blk;have own9:=E9.own;rw[hlk,Hm.out]at q2 own9 hb9;obtain⟨w9,hw9⟩:∃x,wr.drew=x:=⟨_,rfl⟩;rw[hw9]at q2 own9 hb9 B9⊢;clear hw9 E9 hE' hown y2;refine OnlyK.mk (hK.out _ _ ?_);clear hK;go_wp2_with fail;have hC1:zbT [(⟨b,2,none⟩,.slice (some ⟨g,0,none⟩) m c1)] w9:=⟨q2,yF⟩;refine zbL 14 15 0 [(.r,[true,true,true,true,true,true,true,true,true,true,true,true,true,true]),(.l,[false,false,false,false,false,false,false,false,false,false,false,false,false,false,true])] _ _ (zbT [(⟨b,2,none⟩,.slice (some ⟨g,0,none⟩) m c1)]) (by kernel_rfl) (yB 15 _).symm (by kernel_rfl) (by kernel_rfl) (by kernel_rfl) (by kernel_rfl) (hC1) (fun Y Q4 F4 hY hF=> ?_);simp only[zeR,lfc,lfn,ltc,ltz,ldc,ldz,zeE,zdE,zfU,lmc,lmn,lca,lna,lan]
      repeat
       first
        | (apply zaR (by rw[hY];rfl)
           ·intro w2;go_simp;with_reducible rfl
           simp only[zuI])
        | (apply zaQ (by rw[hY];rfl)
           ·intro w2 hS2;(try simp only[Keeps,zbT,Cells]at hS2);go_simp;with_reducible rfl
           simp only[zuI])
      have own10:=owns_less15 own9 (k:=k) (by omega);rw[Nbs_take,List.take_take,zbF (by omega)]at own10;have E12:=EB.setO hlo hb9 (out':=o5.take k) (by rw[yJ];omega) own10;have B12:=B9.setCell (p:=⟨b,2,none⟩) hlo (.slice (some ⟨g,0,none⟩) k c1);obtain⟨w12,hw12⟩:∃x,w9.setCell ⟨b,2,none⟩ (.slice (some ⟨g,0,none⟩) k c1)=x:=⟨_,rfl⟩;rw[hw12]at E12 B12;have q2f:=hb9.free 2;refine zbD (by rw[hY];rfl) (by go_simp;first|with_reducible exact⟨rfl,rfl⟩|with_reducible rfl) ?_;simp only[zuI];(try rw[hw12]);refine zcR (hF.out _ _ (fun K hK=> ?_));clear hF hY hw12 q2f own10 own9 hb9 q2 hC1 B9;refine OnlyK.mk (hK.out _ _ ?_);clear hK;go_wp2_with fail;have E13:=E12.step (yU _ w12);have B13:=B12.trans (yU B0 w12);have hm1:=E13.cells.2.2;have hn9:=hn.out;rw[S15.trimN,zO hx]at hn9;refine⟨⟨k,some ⟨g,0,none⟩,c1,by omega,zB hn9,zB E13,B13⟩,?_⟩;rw[hm1,hm0.out];show(o5.take k).length<m;rw[yJ];have:=Hm.out;omega
     ·have hxi:¬(x:Int)=0:=by omega
      have hxe:((x:Int)==0)=false:=by simp;omega
      go_wp2_with fail;refine zuL 21 0 [(U,[U,U,U,U,U,U,U,U,U,U,U,U,U,U,U,U,U,U,U,U,U])] (zbT [(⟨b,2,none⟩,.slice (some ⟨g,0,none⟩) m c1),(⟨g,k,none⟩,.int .u8 (x:Int))]) (by kernel_rfl) (hC0) (fun Y Q4 F4 hY hF=> ?_);simp only[zuJ]
      repeat
       apply zJ (by rw[hY];rfl)
       ·intro w2 hS2;(try simp only[Keeps,zbT,Cells]at hS2);go_simp;with_reducible rfl
       simp only[zuI]
      refine yE (hF.out _ _ (fun K hK=> ?_));clear hF hY hC0 x0;have E9:=hE'.step (yU _ wr);have q2:=E9.cells.2.2;have B9:=hBl.trans (yU B0 wr);have own9:=E9.own;rw[hlk,Hm.out]at q2 own9;refine OnlyK.mk (hK.out _ _ ?_);clear hK hE' hown y2;go_wp2_with fail;go_returns;have hF9:=hn.out;rw[S15.trimN,hx,zG hx0]at hF9;rw[Hm.out]at hF9 hlk;have hlF:F.length=m:=by rw[←hF9];exact hlk
      refine⟨some ⟨g,0,none⟩,c1,by rw[hlF];rfl,?_,B9⟩;rw[hlF,←hF9];exact own9
