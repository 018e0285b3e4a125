/- A part of the proof of L15. No condition. -/
import Derived.Deep.RegionHeld3
import Derived.Test.YtahaacfikalheaaGreatZL15ap
import Derived.Test.YtahaacfikalheaaGreatZL15av
import Derived.Test.YtahaacfikalheaaGreatZL15bc
set_option linter.all false
set_option maxRecDepth 100000
set_option maxHeartbeats 4000000
namespace Go.Proofs.YtahaacfikalheaaGreat
open Go.RowKit
theorem zsL:Elems Tryz.prog 72 69 1 24 [.slice none 0 0]:=⟨Tryz.underlying72,by kernel_rfl,rfl,by decide⟩
theorem info_rows:(Tryz.prog.info? 69).map (fun i=>(i.zero,i.size,i.bytes))=some (some (.slice none 0 0),1,24):=by kernel_rfl
structure OR13 where
 b:Nat
 cap:Nat
 l:List Int
def OR13.row(r:OR13):Row13:=⟨some ⟨r.b,0,none⟩,r.cap,r.l⟩
def OR13.head(r:OR13):Value:=.slice (some ⟨r.b,0,none⟩) r.l.length r.cap
def OR13.ok(w:World)(base:Nat)(r:OR13):Prop:=base≤r.b∧r.l.length≤r.cap∧r.cap≤9223372036854775807∧∃cs,Blk w r.b cs 3∧cs.take r.l.length=zaK r.l
theorem OR13.ok.lt{w:World}{base:Nat}{r:OR13}(h:r.ok w base):r.b<w.heap.size:=by obtain⟨_,_,_,cs,hb,_⟩:=h;exact hb.lt
theorem OR13.ok.step{w w':World}{base:Nat}{r:OR13}(h:r.ok w base)(hb:Below w.heap.size w w'):r.ok w' base:=by
 obtain⟨h1,h2,h3,cs,h4,h5⟩:=h;exact⟨h1,h2,h3,cs,h4.step hb,h5⟩
theorem OR13.ok.grown{w w':World}{base base' n cap:Nat}{e:TypeId}{a:Option Addr}{xs:List Value}{r:OR13}(h:r.ok w base)(ho:w.ownsRow base' e 1 (.slice a n cap) n xs)(he:¬e=3)(hg:w.grownBy w' (Value.slice a n cap).ownBlock):r.ok w' base:=by
 obtain⟨h1,h2,h3,cs,h4,h5⟩:=h;refine⟨h1,h2,h3,cs,?_,h5⟩;have hne:(Value.slice a n cap).ownBlock≠some r.b:=by
  intro hg';rcases ho.2 with⟨h',_⟩|⟨g2,cap',cur,h',_,hg2,_⟩
  ·simp at h';obtain⟨rfl,_,_⟩:=h';simp[Value.ownBlock]at hg'
  ·simp only[Value.slice.injEq]at h';obtain⟨rfl,_,_⟩:=h';simp[Value.ownBlock]at hg';subst hg';unfold Blk at h4;rw[h4]at hg2;simp at hg2;exact he hg2.2.symm
 unfold Blk at h4⊢;rw[hg.block r.b (Array.getElem?_eq_some_iff.1 h4).1 (Ne.symm hne)];exact h4
theorem OR13.ok.other{w:World}{base c i:Nat}{cs:List Value}{t:TypeId}{v:Value}{r:OR13}(h:r.ok w base)(hc:Blk w c cs t)(ht:¬t=3):r.ok (w.setCell ⟨c,i,none⟩ v) base:=by
 obtain⟨h1,h2,h3,cs',h4,h5⟩:=h;refine⟨h1,h2,h3,cs',h4.other _ _ _ ?_,h5⟩;intro e;rw[e]at h4;unfold Blk at h4 hc;rw[h4]at hc;simp at hc;exact ht hc.2.symm
theorem OR13.ok.row{w:World}{base:Nat}{r:OR13}(h:r.ok w base):r.row.ok w:=by
 obtain⟨h1,h2,h3,cs,h4,h5⟩:=h;refine⟨h2,h3,fun _=>⟨_,0,rfl,fun j v hv=> ?_⟩⟩;rw[yK,h4.cell];simp only[OR13.row]at hv;rw[←h5,zbG]at hv;split at hv
 ·exact hv
 ·cases hv
def ORs(w:World)(base:Nat)(R:List OR13):Prop:=(∀r∈R,r.ok w base)∧R.Pairwise fun x y=>x.b<y.b
theorem ORs.step{w w':World}{base:Nat}{R:List OR13}(h:ORs w base R)(hb:Below w.heap.size w w'):ORs w' base R:=⟨fun r hr=>(h.1 r hr).step hb,h.2⟩
theorem ORs.grown{w w':World}{base base' n cap:Nat}{e:TypeId}{a:Option Addr}{xs:List Value}{R:List OR13}(h:ORs w base R)(ho:w.ownsRow base' e 1 (.slice a n cap) n xs)(he:¬e=3)(hg:w.grownBy w' (Value.slice a n cap).ownBlock):ORs w' base R:=
 ⟨fun r hr=>(h.1 r hr).grown ho he hg,h.2⟩
theorem ORs.other{w:World}{base c i:Nat}{cs:List Value}{t:TypeId}{v:Value}{R:List OR13}(h:ORs w base R)(hc:Blk w c cs t)(ht:¬t=3):ORs (w.setCell ⟨c,i,none⟩ v) base R:=⟨fun r hr=>(h.1 r hr).other hc ht,h.2⟩
theorem ORs.snoc{w w':World}{base:Nat}{R:List OR13}{r:OR13}(h:ORs w base R)(hb:Below w.heap.size w w')(hr:r.ok w' base)(hl:w.heap.size≤r.b):ORs w' base (R ++ [r]):=by
 refine⟨fun x hx=> ?_,?_⟩
 ·rcases List.mem_append.1 hx with hx|hx
  ·exact(h.1 x hx).step hb
  ·rw[List.mem_singleton.1 hx];exact hr
 ·rw[List.pairwise_append];refine⟨h.2,by simp,fun x hx y hy=> ?_⟩;rw[List.mem_singleton.1 hy];have:=(h.1 x hx).lt;omega
theorem ORs.mix{w:World}{base base':Nat}{R:List OR13}{n:Int}{a:Option Addr}{cap:Nat}(h:ORs w base R)(ho:w.ownsRow base' 69 1 (.slice a R.length cap) R.length (R.map OR13.head)):MixIs n (R.map OR13.l) (.agg #[.int .i64 n,.slice a R.length cap]) w:=by
 obtain⟨_,_,he,h1,h2⟩:=zaX ho;simp at he;obtain⟨rfl,rfl⟩:=he;refine⟨R.map OR13.row,a,cap,by rw[List.map_map];rfl,by simp,by simpa using h1,by unfold maxLen at h2;exact h2,?_,fun r hr=> ?_⟩
 ·rw[List.map_map];exact Rd.of_owns ho
 ·obtain⟨x,hx,rfl⟩:=List.mem_map.1 hr;exact(h.1 x hx).row
def MixOwn(n:Int)(L:List (List Int))(V:Value)(w:World):Prop:=
 ∃(R:List OR13) (a:Option Addr) (cap base:Nat),L=R.map OR13.l∧V = .agg #[.int .i64 n,.slice a R.length cap]∧w.ownsRow base 69 1 (.slice a R.length cap) R.length (R.map OR13.head)∧ORs w base R
def MixNew(B:Nat)(n:Int)(L:List (List Int))(V:Value)(w:World):Prop:=
 ∃(R:List OR13) (a:Option Addr) (cap base:Nat),B≤base∧L=R.map OR13.l∧V = .agg #[.int .i64 n,.slice a R.length cap]∧w.ownsRow base 69 1 (.slice a R.length cap) R.length (R.map OR13.head)∧ORs w base R
theorem MixNew.own{B:Nat}{n:Int}{L:List (List Int)}{V:Value}{w:World}(h:MixNew B n L V w):MixOwn n L V w:=by
 obtain⟨R,a,cap,base,_,h⟩:=h;exact⟨R,a,cap,base,h⟩
theorem MixOwn.mix{n:Int}{L:List (List Int)}{V:Value}{w:World}(h:MixOwn n L V w):MixIs n L V w:=by
 obtain⟨R,a,cap,base,rfl,rfl,h1,h2⟩:=h;exact h2.mix h1
theorem reps_single(x:Int)(n:Nat):zfE [x] n=List.replicate n x:=by
 unfold zfE;induction n with
 | zero=>rfl
 | succ n ih=>rw[List.replicate_succ,List.flatten_cons,ih,List.replicate_succ];rfl
theorem new13_own(p m:Nat)(w:World)(hp:1≤p)(hp':p≤16)(hm:1≤m)(hm':m≤65536) :
 Calls Tryz.prog 201 #[.int .i64 p,.int .i64 m] w fun e w'=>∃V,e = .returned (.tuple #[V,.int .i64 0])∧MixNew w.heap.size p (List.replicate m (List.replicate p (65536/(p:Int)))) V w'∧Below w.heap.size w w':=by
 have HB1:=zB fun W=>zbS p 1 16 W;have HB2:=zB fun W=>zbS m 1 65536 W;rw[zQ (show(1:Int)≤p by omega),zQ (show(p:Int)≤16 by omega)]at HB1;rw[zQ (show(1:Int)≤m by omega),zQ (show(m:Int)≤65536 by omega)]at HB2;obtain⟨i0,hi0,hz0,hz1,hz2⟩:=info_parts info_rows;have HRp:=zB fun(b:Nat) (W:World) (hb:Blk W b [.int .i64 (65536/(p:Int))] 3)=>zhQ [65536/(p:Int)] p (some ⟨b,0,none⟩) 1 W (by simp) (by simp) (by omega) (fun _=>⟨b,0,rfl,hb.cells⟩);simp only[zcF,zaO,reps_single]at HRp;have hq1:(0:Int)≤65536/(p:Int):=Int.ediv_nonneg (by omega) (by omega);have hq2:65536/(p:Int)≤65536:=Int.ediv_le_self _ (by omega);have hqd:(65536:Int).tdiv p=65536/(p:Int):=zgM (by omega);have hqw:IntKind.i64.wrap (65536/(p:Int))=65536/(p:Int):=IntWalk.i64_in _ (by omega);have hp0:((p:Int)==0)=false:=by simp;omega
 have hp1:¬(p:Int)=0:=by omega
 have hp2:¬p=0:=by omega
 generalize 65536/(p:Int)=u at *;have hll:(List.replicate p u).length=p:=zaW;go_enter Tryz.func201,Tryz.ntmps201;go_wp2_with fail;refine(HB1.out _).mono ?_;rintro e w1 ⟨rfl,hb1⟩;have hB1:Below w.heap.size w w1:=zA (by go_grown) hb1;have hres1:=zB ((Blk.new w [.int .i64 0,.slice none 0 0] 74).step hb1);go_wp2_with fail;refine(HB2.out _).mono ?_;rintro e w2 ⟨rfl,hb2⟩;have hB2:Below w.heap.size w w2:=zA hB1 hb2;have hres2:=zB (hres1.out.step hb2);have z2:=hres2.out.lt;go_wp2
 go_loopw [20] (fun i wr=>∃(R:List OR13) (a:Option Addr) (cap:Nat),R.length≤m∧i = .int .i64 R.length∧(∀r∈R,r.l=List.replicate p u)∧Blk wr w2.heap.size [.int .i64 p,.slice a R.length cap] 74∧
  wr.ownsRow (w2.heap.size+1) 69 1 (.slice a R.length cap) R.length (R.map OR13.head)∧ORs wr (w2.heap.size+1) R∧Blk wr w.heap.size [.int .i64 0,.slice none 0 0] 74∧Below w.heap.size w wr) (fun i _=>m-(intOf i).toNat)
 case atStart=>exact⟨[],none,0,by simp,rfl,by simp,Blk.new w2 _ _,World.ownsRow_nil _ _ _ _,⟨by simp,List.Pairwise.nil⟩,hres2.out.alloc _,by go_grown⟩
 case round=>
  obtain⟨R,a,cap,hRm,rfl,hall,hv,hown,hR,hres,hB⟩:=hrel;have zv:=hv.lt;have zr:w.heap.size<wr.heap.size:=by omega
  obtain⟨k,hk⟩:∃k,k=R.length:=⟨_,rfl⟩;rw[←hk]at hv hown hRm⊢;have Hv:=zB hv;have Hown:=zB hown;have HR:=zB hR;have Hres:=zB hres;have Hall:=zB hall;have Hk:=zB hk;have hv0:=hv.cell 0;have hv1:=hv.cell 1;have hvf:=hv.free 1;simp only[zuK]at hv0 hv1;clear hv hown hR hres hall hk;by_cases hlt:k<m
  ·have hlt2:(k:Int)<m:=by omega
   go_wp2_with fail;refine zhM 9 2 [true,true,true,true,false,true,false,false,false] [false,false,false,false,true,false,true,true,true] _ _ (fun w'=>Cells w' [(⟨w2.heap.size,1,none⟩,.slice a k cap)]) (by kernel_rfl) (yB 9 _).symm (by kernel_rfl) (by kernel_rfl) (by kernel_rfl) (by kernel_rfl) (by kernel_rfl) (by simp only[Cells];exact⟨hv1,yF⟩) (fun Y Q4 F4 hY hF=> ?_);simp only[ltc,ltz,ldc,ldz,zeE,zdE,zfU]
   repeat
    apply zjV (by rw[hY];rfl)
    ·intro w2 hS2;(try simp only[Keeps,Cells]at hS2);go_simp;with_reducible rfl
    simp only[zuI]
   refine zmQ ?_;have kv0:=(Hv.out.alloc (Obj.cells #[.int .i64 u] 3)).drew;have kc0:=kv0.cell 1;simp only[zuK]at kc0;refine zfK (by rw[hY];rfl) (by go_simp;first|with_reducible exact⟨rfl,rfl⟩|with_reducible rfl) (by simp only[Cells];exact⟨kc0,yF⟩) ?_;simp only[zuI];apply zmU (by rw[hY];rfl)
   ·go_simp;with_reducible exact⟨rfl,rfl⟩
   refine(HRp.out _ _ (Blk.new wr [.int .i64 u] 3).drew).mono ?_;rintro e w3 ⟨b3,rfl,hl3,hblk3,hb3⟩;have hl3':wr.heap.size+1≤b3:=by have:=hl3;simp at this;omega
   have hz3:b3<w3.heap.size:=hblk3.lt;have kv3:=kv0.step hb3;have kc3:=kv3.cell 1;simp only[zuK]at kc3;refine⟨_,rfl,(by simp only[Cells];exact⟨kc3,yF⟩),?_⟩;simp only[zuI];have kv4:=kv3.alloc (Obj.cells #[.slice (some ⟨b3,0,none⟩) p p] 69);have kc4:=kv4.cell 1;simp only[zuK]at kc4;refine zfK (by rw[hY];rfl) (by go_simp;first|with_reducible exact⟨rfl,rfl⟩|with_reducible rfl) (by simp only[Cells];exact⟨kc4,yF⟩) ?_;simp only[zuI];have hB3:Below wr.heap.size wr w3:=zA (by go_grown) hb3;have hown4:=(ownS Hown.out hB3).alloc (Obj.cells #[.slice (some ⟨b3,0,none⟩) p p] 69)
   refine ziS (.tmp 23) (.tmp 29) 72 69 1 24 _ (w2.heap.size+1) zsL (.slice a k cap) k (R.map OR13.head) (some ⟨w3.heap.size,0,none⟩) 1 1 [.slice (some ⟨b3,0,none⟩) p p] (by rw[hY];rfl) rfl rfl rfl rfl
    (by simp[Value.oneCell']) (by unfold maxLen;omega) (by omega) hown4 (Rd.new w3 [.slice (some ⟨b3,0,none⟩) p p] 69) (by simp;omega) ?_
   intro a5 cap5 w5 hown5 hgrow5;have kv5:=kv4.grown hgrow5 (Ne.symm (zbQ hown4 kv4 (by decide)));have kc5:=kv5.cell 1;have kf5:=kv5.free 1;simp only[zuK]at kc5;refine⟨by simp only[Cells];exact⟨kc5,yF⟩,?_⟩;simp only[zuI];have hr3:(OR13.mk b3 p (List.replicate p u)).ok w3 (w2.heap.size+1):=⟨(show w2.heap.size+1≤b3 by omega),by simp,(show p≤9223372036854775807 by omega),_,hblk3,by simp[zaK]⟩;have hR4:=(HR.out.snoc hB3 hr3 (by simp only;omega)).step ((zF w3.heap.size w3).alloc (zD _) (Obj.cells #[.slice (some ⟨b3,0,none⟩) p p] 69));have hR5:=hR4.grown hown4 (by decide) hgrow5;have hres3:=(Hres.out.step hB3).alloc (Obj.cells #[.slice (some ⟨b3,0,none⟩) p p] 69);have hres5:=hres3.grown hgrow5 (Ne.symm (zbQ hown4 hres3 (by decide)));have hB5:Below w.heap.size w w5:=Below.grown ((zA hB hB3).alloc (by have:=hB3.size;have:=hB.size;omega) _) hgrow5 (by simp;have:=hB3.size;omega) (fun j e=>by have:=(zbX hown4 e).1;omega);have Hv6:=zB (kv5.set 1 (.slice a5 (k+1) cap5));have Hown6:=zB (hown5.kept (zaJ w5 w2.heap.size 1 (.slice a5 (k+1) cap5)) (.inr (zbQ hown5 kv5 (by decide))));have HR6:=zB (hR5.other (i:=1) (v:=.slice a5 (k+1) cap5) kv5 (by decide));have Hres6:=zB (hres5.other w2.heap.size 1 (.slice a5 (k+1) cap5) (by omega));have hB6:Below w.heap.size w (w5.setCell ⟨w2.heap.size,1,none⟩ (.slice a5 (k+1) cap5)):=hB5.setCell (by simp only;omega) _;clear hgrow5 hown5 hown4 kv0 kv3 kv4 kv5 hR4 hR5 hres3 hres5 hr3 hblk3;refine zmT (hF.out _ _ (fun K hK=> ?_));clear hF hY;go_wp2_with fail;refine OnlyK.mk (hK.out _ _ ?_);go_wp2;go_roundw
   case rel=>
    refine⟨R ++ [⟨b3,p,List.replicate p u⟩],a5,cap5,by rw[yN,←Hk.out];simp;omega,by rw[yN,←Hk.out];go_num,?_,?_,?_,HR6.out,Hres6.out,hB6⟩
    ·intro r hr;rcases List.mem_append.1 hr with hr|hr
     ·exact Hall.out r hr
     ·rw[List.mem_singleton.1 hr]
    ·rw[yN,←Hk.out];exact Hv6.out
    ·have:=Hown6.out;rw[yN,←Hk.out,List.map_append];simpa[OR13.head,hll] using this
   case measure=>simp[intOf];omega
  ·obtain rfl:k=m:=by omega
   have hres:=Hres.out;have hR1:=HR.out.other (i:=0) (v:=.int .i64 p) hres (by decide);have hown1:=Hown.out.kept (zaJ wr w.heap.size 0 (.int .i64 p)) (.inr (zbQ Hown.out hres (by decide)));have hR2:=hR1.other (i:=1) (v:=.slice a k cap) (hres.set 0 (.int .i64 p)) (by decide);have hown2:=hown1.kept (zaJ _ w.heap.size 1 (.slice a k cap)) (.inr (zbQ hown1 (hres.set 0 (.int .i64 p)) (by decide)));have hLs:R.map OR13.l=List.replicate k (List.replicate p u):=by
    rw[List.eq_replicate_iff];refine⟨by rw[zaH,←Hk.out],fun l hl=> ?_⟩;obtain⟨r,hr,rfl⟩:=List.mem_map.1 hl;exact Hall.out r hr
   have hmx:MixNew w.heap.size (p:Int) (List.replicate k (List.replicate p u)) (.agg #[.int .i64 p,.slice a k cap]) _:=⟨R,a,cap,w2.heap.size+1,by omega,hLs.symm,by rw[←Hk.out],by rw[←Hk.out];exact hown2,hR2⟩;have r0:=hres.cell 0;have r1:=hres.cell 1;have f0:=hres.free 0;have f1:=hres.free 1;have s1:=((hres.set 0 (.int .i64 p)).set 1 (.slice a k cap)).cell 0;have s2:=((hres.set 0 (.int .i64 p)).set 1 (.slice a k cap)).cell 1;simp only[sC0,sCs,lgz,lgs]at r0 r1 s1 s2;have Hmx:=zB hmx;clear hmx hLs hres hR1 hown1 hR2 hown2;go_wp2;refine bodyPost_ret (v:=.tuple #[.agg #[.int .i64 p,.slice a k cap],.int .i64 0]) (by simp[results,Tryz.results201,go_sem,s1,s2]) rfl ⟨_,rfl,?_,?_⟩
   ·exact Hmx.out
   ·exact(hB.setCell (zD _) _).setCell (zD _) _
theorem or_of_owns{w:World}{base base':Nat}{a:Option Addr}{cap:Nat}{l:List Int}(h:w.ownsRow base 3 1 (.slice a l.length cap) l.length (zaK l))(hne:1≤l.length)(hb:base'≤base) :
 ∃b,a=some ⟨b,0,none⟩∧base≤b∧(OR13.mk b cap l).ok w base':=by
 have hl:=h.1;rcases h.2 with⟨h',h0⟩|⟨g,cap',cur,h',hbg,hg,hnc,hcm,hcs,htake⟩
 ·omega
 ·simp only[Value.slice.injEq,true_and]at h';obtain⟨rfl,rfl⟩:=h';unfold maxLen at hcm;exact⟨g,rfl,hbg,yC hb hbg,hnc,hcm,cur.toList,hg,by simpa using htake⟩
theorem OR13.set_b{R:List OR13}{c:Nat}{r r':OR13}(hc:R[c]? = some r)(hb:r'.b=r.b){i:Nat}(h:i<(R.set c r').length):((R.set c r')[i]).b=(R[i]'(by simpa using h)).b:=by
 rw[List.getElem_set];split
 ·rename_i e
  subst e;obtain⟨hlt,hrc⟩:=List.getElem?_eq_some_iff.1 hc;rw[hb,hrc]
 ·rfl
theorem ORs.replace{w w':World}{base:Nat}{R:List OR13}{c:Nat}{r r':OR13}(h:ORs w base R)(hc:R[c]? = some r)(hg:w.grownBy w' (some r.b))(hr:r'.ok w' base)(hb:r'.b=r.b):ORs w' base (R.set c r'):=by
 obtain⟨hlt,hrc⟩:=List.getElem?_eq_some_iff.1 hc;have hp:=List.pairwise_iff_getElem.1 h.2;refine⟨fun x hx=> ?_,List.pairwise_iff_getElem.2 fun i j hi hj hij=> ?_⟩
 ·obtain⟨i,hi,rfl⟩:=List.getElem_of_mem hx;rw[List.getElem_set];split
  ·exact hr
  ·rename_i hne
   have hi':i<R.length:=by simpa using hi
   have hxb:R[i].b≠r.b:=by
    rw[←hrc];rcases Nat.lt_or_gt_of_ne hne with h1|h1
    ·have:=hp c i hlt hi' h1;omega
    ·have:=hp i c hi' hlt h1;omega
   obtain⟨h1,h2,h3,cs,h4,h5⟩:=h.1 _ (zbC hi');exact⟨h1,h2,h3,cs,h4.grown hg (fun e=>hxb (by simpa using e)),h5⟩
 ·rw[OR13.set_b hc hb hi,OR13.set_b hc hb hj];exact hp i j (by simpa using hi) (by simpa using hj) hij
theorem zqT{w w':World}(h:Below w.heap.size w w')(row:Option Nat):w.grownBy w' row:=⟨h.os,h.tape,h.output,h.size,fun k hk _=>h.block k hk⟩
theorem clone13_any(xs:List Int)(a:Option Addr)(cap:Nat)(w:World)(h1:1≤xs.length)(h2:xs.length≤2162688)(hrd:Rd w a (zaK xs)) :
 Calls Tryz.prog 169 #[.slice a xs.length cap] w fun e w'=>∃r:OR13,e = .returned r.head∧r.l=xs∧w.heap.size≤r.b∧r.ok w' w.heap.size∧Below w.heap.size w w':=by
 obtain⟨g,o,rfl,_⟩:=hrd.at (i:=0) (by rw[yM];omega);have qT:∀(w:World) (a:Option Addr) (n c n' c':Nat),(binOp .eql 69 (.slice a n c) (.slice none n' c')).run Tryz.prog w = .ok (.bool a.isNone) w:=fun w a n c n' c'=>Lib.run_eql_slice_nil w _ _ a n c n' c' Tryz.underlying69;have hrd':=zB (hrd.step ((zF w.heap.size w).alloc (zD _) (Obj.cells #[] 3)));go_enter Tryz.func169,Tryz.ntmps169;go_wp2_with (at_builtin;refine zaL _ _ 69 3 1 8 _ w.heap.size elems_ints rfl rfl _ 0 [] rfl (World.ownsRow_made w #[] 0 (zD _) (by decide) rfl) (some ⟨g,o,none⟩) xs.length cap (zaK xs) rfl (by simp[zaK]) hrd'.out (zlG xs) (by unfold maxLen;omega) (by omega) (by simp) ?_;intro a2 cap2 w2 hown2 hgrow2);have hB2:Below w.heap.size w w2:=Below.grown (by go_grown) hgrow2 (by simp) (fun k e=>by cases e;exact zD _);simp only[yK,lna]at hown2;obtain⟨b,rfl,hb,hok⟩:=or_of_owns (base':=w.heap.size) hown2 h1 (zD _);have hc:=zB hok;clear hgrow2 hown2 hok;go_wp2;go_returns;exact⟨⟨b,cap2,xs⟩,by simp[OR13.head],rfl,hb,hc.out,hB2⟩
def S13.lw(d rate w x:Int):Int:=max (-1048576) (min (w+S06.round (x*d*rate) 16384) 1048576)
def S13.learnRow(d rate:Int):List Int→List Int→List Int
 | w::ws,x::xs=>S13.lw d rate w x::S13.learnRow d rate ws xs
 | ws,_=>ws
theorem S13.learnRow_length(d rate:Int):∀ws xs:List Int,(S13.learnRow d rate ws xs).length=ws.length
 | [],_=>by simp[S13.learnRow]
 | _::_,[]=>by simp[S13.learnRow]
 | w::ws,x::xs=>by simp[S13.learnRow,S13.learnRow_length d rate ws xs]
theorem S13.learnRow_at(d rate:Int):∀(ws xs:List Int) (k:Nat),k<ws.length→ws.length=xs.length→(S13.learnRow d rate ws xs)[k]? = some (S13.lw d rate (ws.getD k 0) (xs.getD k 0))
 | w::ws,x::xs,0,_,_=>by simp[S13.learnRow]
 | w::ws,x::xs,k+1,h,hl=>by
   simp only[S13.learnRow,lgs,List.getD_cons_succ];exact S13.learnRow_at d rate ws xs k (by simpa using h) (by simpa using hl)
def S13.upd(d rate:Int)(ws xs:List Int)(k:Nat):List Int:=(S13.learnRow d rate ws xs).take k++ws.drop k
theorem S13.upd_zero(d rate:Int)(ws xs:List Int):S13.upd d rate ws xs 0=ws:=by simp[S13.upd]
theorem S13.upd_all(d rate:Int)(ws xs:List Int):S13.upd d rate ws xs ws.length=S13.learnRow d rate ws xs:=by
 unfold S13.upd;rw[List.drop_length,List.append_nil,zeM (by rw[S13.learnRow_length];exact zD _)]
theorem S13.upd_length(d rate:Int)(ws xs:List Int){k:Nat}(hk:k≤ws.length):(S13.upd d rate ws xs k).length=ws.length:=by
 unfold S13.upd;rw[yN,yJ,zgS,S13.learnRow_length];omega
theorem S13.upd_at(d rate:Int)(ws xs:List Int){k:Nat}(hk:k<ws.length):(S13.upd d rate ws xs k)[k]? = some (ws.getD k 0):=by
 unfold S13.upd;rw[yQ (by rw[yJ,S13.learnRow_length];omega),yJ,S13.learnRow_length,zbF (by omega),Nat.sub_self,List.getElem?_drop,zgA,zI,zE hk];rfl
theorem S13.upd_succ(d rate:Int)(ws xs:List Int){k:Nat}(hk:k<ws.length)(hl:ws.length=xs.length) :
 (S13.upd d rate ws xs k).set k (S13.lw d rate (ws.getD k 0) (xs.getD k 0))=S13.upd d rate ws xs (k+1):=by
 apply List.ext_getElem?;intro i;have hat:=S13.learnRow_at d rate ws xs k hk hl;rw[List.getElem?_set];unfold S13.upd;by_cases h1:k=i
 ·subst h1;have hlen:=S13.upd_length d rate ws xs (Nat.le_of_lt hk);unfold S13.upd at hlen;rw[zO rfl,zO (by rw[hlen];exact hk),zaN (by rw[yJ,S13.learnRow_length];omega),zbG,zO (by omega),hat]
 ·rw[zG h1];rcases Nat.lt_or_gt_of_ne h1 with h2|h2
  ·rw[yQ (by rw[yJ,S13.learnRow_length];omega),yQ (by rw[yJ,S13.learnRow_length];omega),yJ,yJ,S13.learnRow_length,
    zbF (by omega),zbF (by omega),List.getElem?_drop,List.getElem?_drop,show k+(i-k)=i by omega,show k+1+(i-(k+1))=i by omega]
  ·rw[zaN (by rw[yJ,S13.learnRow_length];omega),zaN (by rw[yJ,S13.learnRow_length];omega),zbG,zbG,zO h2,zO (by omega)]
theorem S13.prod_abs{x d rate:Int}(hx : -3071≤x∧x≤3071)(hd : -4096≤d∧d≤4096)(hr:0≤rate∧rate≤255):(-12578816≤x*d∧x*d≤12578816)∧ -3207598080≤x*d*rate∧x*d*rate≤3207598080:=by
 have h1:=S13.mul_abs (A:=3071) (B:=4096) hx.1 hx.2 hd.1 hd.2;have h2:=S13.mul_abs (a:=x*d) (b:=rate) (A:=12578816) (B:=255) (by omega) (by omega) (by omega) (by omega);exact⟨⟨by omega,by omega⟩,by omega,by omega⟩
theorem zpV(i n cap:Nat)(wt x d rate:Int)(bd br bw b:Nat)(cs:List Value)(w:World)(hi:i<n)(hn:n≤16)(hnc:n≤cs.length)(hx : -3071≤x∧x≤3071)(hd : -4096≤d∧d≤4096)(hr:0≤rate∧rate≤255)(hwt : -1048576≤wt∧wt≤1048576)
 (kd:Blk w bd [.int .i64 d] 3) (kr:Blk w br [.int .i64 rate] 3) (kw:Blk w bw [.slice (some ⟨b,0,none⟩) n cap] 69) (kb:Blk w b cs 3) :
 Calls Tryz.prog 210 #[.int .i64 i,.int .i64 wt,.int .i64 x,.pointer (some ⟨bd,0,none⟩),.pointer (some ⟨br,0,none⟩),.pointer (some ⟨bw,0,none⟩)] w fun e w'=>
  e = .returned (.tuple #[])∧∃w1,Below w.heap.size w w1∧w'=w1.setCell ⟨b,i,none⟩ (.int .i64 (S13.lw d rate wt x)):=by
 obtain⟨⟨p1,p2⟩,p3,p4⟩:=S13.prod_abs hx hd hr;have hrb:=S06.round_abs (n:=x*d*rate) (d:=16384) (B:=3207598080) (by omega) (by omega) (by omega);have HR:=zB fun W=>zjG (x*d*rate) 16384 W (by omega) (by omega) (by omega) (by omega);have Hlw:=zB (show S13.lw d rate wt x=max (-1048576) (min (wt+S06.round (x*d*rate) 16384) 1048576)from rfl);have e1:IntKind.i64.wrap (x*d)=x*d:=IntWalk.i64_in _ (by omega);have e2:IntKind.i64.wrap (x*d*rate)=x*d*rate:=IntWalk.i64_in _ (by omega);have e3:IntKind.i64.wrap (wt+S06.round (x*d*rate) 16384)=wt+S06.round (x*d*rate) 16384:=IntWalk.i64_in _ (by omega);generalize S06.round (x*d*rate) 16384=q at *;have c1:=kd.cell 0;have c2:=kr.cell 0;have c3:=kw.cell 0;simp only[lgz]at c1 c2 c3;have i1:(i:Int)<n:=by omega
 have i2:(0:Int)≤(i:Int):=by omega
 have Kb:=zB kb;have hbl:=kb.lt;have hci:∃u,cs[i]? = some u:=⟨_,zE (show i<cs.length by omega)⟩;obtain⟨u,hu⟩:=hci;have Hu:=zB hu;clear kd kr kw kb hu;go_enter Tryz.func210,Tryz.ntmps210;refine zfG 12 2 _ _ (Keeps w [(⟨bd,0,none⟩,.int .i64 d),(⟨br,0,none⟩,.int .i64 rate),(⟨bw,0,none⟩,.slice (some ⟨b,0,none⟩) n cap)]) (by kernel_rfl) (yB 12 _).symm rfl rfl (by kernel_rfl) (Keeps.start (by simp only[Cells];exact⟨c1,c2,c3,yF⟩)) (fun Y F hY hF=> ?_);simp only[ltc,ltz,ldc,ldz]
 repeat
  apply zbV (by rw[hY];rfl)
  ·intro w2 ⟨hB2,hk2⟩;simp only[Cells]at hk2;go_simp;with_reducible rfl
  simp only[zuI]
 apply zgT (by rw[hY];rfl)
 ·intro w2 ⟨hB2,hk2⟩;simp only[Cells]at hk2;go_simp;with_reducible exact⟨rfl,rfl⟩
 ·intro w2 hS2;have hk2:=hS2.2;simp only[Cells]at hk2;refine(HR.out _).mono ?_;rintro e w3 ⟨rfl,hb3⟩;exact⟨rfl,hS2.step hb3⟩
 simp only[zuI]
 repeat
  apply zbV (by rw[hY];rfl)
  ·intro w2 ⟨hB2,hk2⟩;simp only[Cells]at hk2;go_simp;with_reducible rfl
  simp only[zuI]
 refine hF.out _ (fun K w' hK hS'=> ?_);have hB':=hS'.1;have hf':w'.frozen? ⟨b,i,none⟩=false:=by rw[hB'.frozen (p:=⟨b,i,none⟩) hbl];exact Kb.out.free i
 have hcu:w'.cell? ⟨b,i,none⟩=some u:=by rw[hB'.cell (p:=⟨b,i,none⟩) hbl,Kb.out.cell];exact Hu.out
 clear hF hY hS';go_wp2_with fail;refine OnlyK.mk (hK.out _ _ ?_);go_wp2;go_returns;exact⟨rfl,w',hB',by rw[Hlw.out]⟩
def S13.learnL(L:List (List Int))(c:Nat)(xs:List Int)(bit rate:Int):List (List Int):=
 L.set c (S13.learnRow (4096*bit-S06.squash (S13.mix (L.getD c []) xs)) rate (L.getD c []) xs)
theorem Ints_set13(xs:List Int)(i:Nat)(v:Int):zaK (xs.set i v)=(zaK xs).set i (.int .i64 v):=by simp[zaK,List.map_set]
theorem enterLearn(a b c p q r:Value)(w:World):(callFunc 210 #[a,b,c,p,q,r]).run Tryz.prog w = .ok (.enter 210 #[a,b,c,p,q,r]) w:=by kernel_rfl
theorem visitLearn13_any(ws xs:List Int)(d rate:Int)(bd br bw b cap gx ox cx:Nat)(cs:List Value)(w:World)(hl:ws.length=xs.length)(h16:xs.length≤16)
 (hws:∀x∈ws,-1048576≤x∧x≤1048576) (hxs:∀x∈xs,-3071≤x∧x≤3071) (hd : -4096≤d∧d≤4096) (hr:0≤rate∧rate≤255)
 (kd:Blk w bd [.int .i64 d] 3) (kr:Blk w br [.int .i64 rate] 3) (kw:Blk w bw [.slice (some ⟨b,0,none⟩) xs.length cap] 69) (kb:Blk w b cs 3) (hcs:cs.take xs.length=zaK ws)
 (hbd:¬bd=b) (hbr:¬br=b) (hgx:¬gx=b) (hrx:∀k,k<xs.length→w.cell? ⟨gx,ox+k,none⟩=some (.int .i64 (xs.getD k 0))) :
 Calls Tryz.prog 211 #[.agg #[.func (.func 210) #[] #[.pointer (some ⟨bd,0,none⟩),.pointer (some ⟨br,0,none⟩),.pointer (some ⟨bw,0,none⟩)]],.slice (some ⟨b,0,none⟩) xs.length cap,.slice (some ⟨gx,ox,none⟩) xs.length cx] w fun e w'=>
  e = .returned (.tuple #[])∧(∃cs',Blk w' b cs' 3∧cs'.take xs.length=zaK (S13.learnRow d rate ws xs))∧w.grownBy w' (some b):=by
 have hbw:¬bw=b:=fun e=>by
  rw[e]at kw;unfold Blk at kw kb;rw[kb]at kw;simp at kw
 have hcl:xs.length≤cs.length:=by
  have:=yS List.length hcs;rw[yJ,yM]at this;omega
 have hvis:=visit13_any 210 #[.pointer (some ⟨bd,0,none⟩),.pointer (some ⟨br,0,none⟩),.pointer (some ⟨bw,0,none⟩)] (fun a b c W=>enterLearn a b c _ _ _ W) xs.length b 0 cap gx ox cx (fun k=>ws.getD k 0) (fun k=>xs.getD k 0)
  (fun k W=>(∃cs',Blk W b cs' 3∧cs'.take xs.length=zaK (S13.upd d rate ws xs k)∧k≤xs.length)∧w.grownBy W (some b))
  (fun k W W' h hb=>by
    obtain⟨⟨cs',h1,h2,h3⟩,h4⟩:=h;exact⟨⟨cs',h1.step hb,h2,h3⟩,h4.trans (zqT hb _)⟩)
  (fun k W hk h=>by
    obtain⟨⟨cs',h1,h2,h3⟩,h4⟩:=h;refine⟨?_,?_⟩
    ·rw[yK,h1.cell];have h5:(cs'.take xs.length)[k]? = some (.int .i64 (ws.getD k 0)):=by
      rw[h2,zaK,zaG,S13.upd_at d rate ws xs (by omega)];rfl
     rw[zbG,zO hk]at h5;exact h5
    ·exact h4.cell (hrx k hk) (fun e=>hgx (by simpa using e)))
  (fun k W hk h=>by
    obtain⟨⟨cs',h1,h2,h3⟩,h4⟩:=h;have hc':xs.length≤cs'.length:=by
     have:=yS List.length h2;rw[yJ,yM,S13.upd_length d rate ws xs (by omega)]at this;omega
    refine(zpV k xs.length cap (ws.getD k 0) (xs.getD k 0) d rate bd br bw b cs' W hk h16 hc' (S13.getD_mem (P:=fun x=> -3071≤x∧x≤3071) hxs hk) hd hr (S13.getD_mem (P:=fun x=> -1048576≤x∧x≤1048576) hws (by omega))
     (kd.grown h4 (fun e=>hbd (by simpa using e))) (kr.grown h4 (fun e=>hbr (by simpa using e))) (kw.grown h4 (fun e=>hbw (by simpa using e))) h1).mono ?_
    rintro e w' ⟨rfl,w1,hb1,rfl⟩;refine⟨rfl,⟨⟨cs'.set k (.int .i64 (S13.lw d rate (ws.getD k 0) (xs.getD k 0))),(h1.step hb1).set k _,?_,by omega⟩,(h4.trans (zqT hb1 _)).trans (zaJ w1 b k _)⟩,fun b2 cs2 hb2=> ?_⟩
    ·rw[List.take_set,h2,←Ints_set13,S13.upd_succ d rate ws xs (by omega) hl]
    ·refine(hb2.step hb1).other _ _ _ fun e=> ?_;subst e;unfold Blk at hb2 h1;rw[h1]at hb2;simp at hb2)
  w (by omega) ⟨⟨cs,kb,by rw[S13.upd_zero];exact hcs,by omega⟩,World.grownBy.refl _ _⟩
 refine hvis.mono ?_;rintro e w' ⟨rfl,⟨cs',h1,h2,_⟩,h4⟩;refine⟨rfl,⟨cs',h1,?_⟩,h4⟩;rw[h2,←hl,S13.upd_all]
theorem or_ok_set{R:List OR13}{c:Nat}{r:OR13}(hc:R[c]? = some r)(l':List Int):(R.set c ⟨r.b,r.cap,l'⟩).map OR13.l=(R.map OR13.l).set c l':=by rw[List.map_set]
theorem or_head_set{R:List OR13}{c:Nat}{r:OR13}(hc:R[c]? = some r){l':List Int}(hl:l'.length=r.l.length):(R.set c ⟨r.b,r.cap,l'⟩).map OR13.head=R.map OR13.head:=by
 rw[List.map_set];have:(OR13.mk r.b r.cap l').head=r.head:=by simp[OR13.head,hl]
 rw[this];apply List.ext_getElem?;intro i;rw[List.getElem?_set];split
 ·rename_i e
  subst e;rw[zaG,hc];have:c<(R.map OR13.head).length:=by rw[zaH];exact(List.getElem?_eq_some_iff.1 hc).1
  rw[zO this];rfl
 ·rfl
theorem learn13_own(n:Int)(L:List (List Int))(ma:Option Addr)(mc c:Nat)(xs:List Int)(a:Option Addr)(cap:Nat)(bit rate:Int)(w:World)(hV:MixIs n L (.agg #[.int .i64 n,.slice ma L.length mc]) w)(hrd:Rd w a (zaK xs))
 (hu:S13.usable 16 n L c xs=0) (hbit:0≤bit∧bit≤1) (hrate:1≤rate∧rate≤255) :
 Calls Tryz.prog 202 #[.agg #[.int .i64 n,.slice ma L.length mc],.int .i64 c,.slice a xs.length cap,.int .i64 bit,.int .i64 rate] w fun e w'=>
  ∃V,e = .returned (.tuple #[V,.int .i64 0])∧MixNew w.heap.size n (S13.learnL L c xs bit rate) V w'∧Below w.heap.size w w':=by
 have HU:=zB fun W (hb:Below w.heap.size w W)=>znA n L _ c xs a cap W (hV.step hb) (by have:=(S13.usable_zero hu).2.2.2.1;have:=(S13.check_zero (S13.usable_zero hu).1).2.1;omega) (hrd.step hb);rw[hu]at HU;obtain⟨k1,k2,k3,k4,k5,k6,k7⟩:=S13.usable_zero hu;obtain⟨q1,q2,q3,q4,q5⟩:=S13.check_zero k1;have HB1:=zB fun W=>zbS bit 0 1 W;have HB2:=zB fun W=>zbS rate 1 255 W;rw[zQ hbit.1,zQ hbit.2]at HB1;rw[zQ hrate.1,zQ hrate.2]at HB2;obtain⟨R0,ra,rc,rfl,hRV,h1,h2,hrm,hok⟩:=hV;simp at hRV;obtain⟨rfl,rfl⟩:=hRV;have HLL:=zB (show S13.learnL (R0.map Row13.l) c xs bit rate=(R0.map Row13.l).set c (S13.learnRow (4096*bit-S06.squash (S13.mix ((R0.map Row13.l).getD c []) xs)) rate ((R0.map Row13.l).getD c []) xs)from rfl);simp only[Int.toNat_natCast]at k7;rw[zaH]at *;obtain⟨m,hm⟩:∃m,m=R0.length:=⟨_,rfl⟩;rw[←hm]at k3 q3 q4 h1 HU⊢;have Hm:=zB hm;have Hrm:=zB hrm;have Hok:=zB hok;have Hq5:=zB q5;have Hfit:=zB k7;have Hrd:=zB hrd;have hcm:c<m:=by omega
 have hcm2:(c:Int)<m:=by omega
 have hc0:(0:Int)≤(c:Int):=by omega
 have hx16:xs.length≤16:=by omega
 clear hm hrm hok q5 k1 k6 k7 hu hrd;have hsq:=S06.squash_bounds (S13.mix ((R0.map Row13.l).getD c []) xs);have HSq:=zB fun W=>zdW (S13.mix ((R0.map Row13.l).getD c []) xs) W;obtain⟨q,hq⟩:∃q,S06.squash (S13.mix ((R0.map Row13.l).getD c []) xs)=q:=⟨_,rfl⟩;rw[hq]at hsq HSq;have HLLo:=zB (show S13.learnL (R0.map Row13.l) c xs bit rate=(R0.map Row13.l).set c (S13.learnRow (4096*bit-q) rate ((R0.map Row13.l).getD c []) xs) by rw[HLL.out,hq]);clear hq HLL;have e1:IntKind.i64.wrap (4096*bit)=4096*bit:=IntWalk.i64_in _ (by omega);have e2:IntKind.i64.wrap (4096*bit-q)=4096*bit-q:=IntWalk.i64_in _ (by omega);have Hxl:=zB k4;have hx1:=k5;clear k4 k5;obtain⟨l,hl⟩:∃l,l=xs.length:=⟨_,rfl⟩;rw[←hl]at HU hx16 hx1⊢;have Hl:=zB hl;clear hl;go_enter Tryz.func202,Tryz.ntmps202;go_wp2_with fail;refine(HU.out _ (by go_grown)).mono ?_;rintro e w1 ⟨rfl,hb1⟩;have hB1:Below w.heap.size w w1:=zA (by go_grown) hb1;obtain⟨w0,hw0⟩:∃w0,w0=((w.alloc (Obj.cells #[.int .i64 n,.slice ma m mc] 74)).alloc (Obj.cells #[.int .i64 rate] 3)).alloc (Obj.cells #[.int .i64 0,.slice none 0 0] 74):=⟨_,rfl⟩;rw[←hw0]at hb1
 have Hm1:=zB (show Blk w1 w.heap.size [.int .i64 n,.slice ma m mc] 74 by
  have:Blk w0 w.heap.size [.int .i64 n,.slice ma m mc] 74:=by rw[hw0];exact((Blk.new w _ _).alloc _).alloc _
  exact this.step hb1)
 have Hr1:=zB (show Blk w1 (w.heap.size+1) [.int .i64 rate] 3 by
  have h0:=(Blk.new (w.alloc (Obj.cells #[.int .i64 n,.slice ma m mc] 74)) [.int .i64 rate] 3).alloc (Obj.cells #[.int .i64 0,.slice none 0 0] 74);have:Blk w0 (w.heap.size+1) [.int .i64 rate] 3:=by rw[hw0];simpa using h0
  exact this.step hb1)
 have Ho1:=zB (show Blk w1 (w.heap.size+2) [.int .i64 0,.slice none 0 0] 74 by
  have h0:=Blk.new ((w.alloc (Obj.cells #[.int .i64 n,.slice ma m mc] 74)).alloc (Obj.cells #[.int .i64 rate] 3)) [.int .i64 0,.slice none 0 0] 74;have:Blk w0 (w.heap.size+2) [.int .i64 0,.slice none 0 0] 74:=by rw[hw0];simpa using h0
  exact this.step hb1)
 clear hb1 hw0;go_wp2_with fail;refine(HB1.out _).mono ?_;rintro e w2 ⟨rfl,hb2⟩;have hB2:Below w.heap.size w w2:=zA hB1 hb2;have Hr2:=zB (Hr1.out.step hb2);have hr2:=Hr2.out.cell 0;simp only[lgz]at hr2;have hr2l:=Hr2.out.lt;go_wp2_with fail;refine(HB2.out _).mono ?_;rintro e w3 ⟨rfl,hb3⟩;have hB3:Below w.heap.size w w3:=zA hB2 hb3;have hC3:Below w1.heap.size w1 w3:=zA hb2 hb3;have Hm3:=zB (Hm1.out.step hC3);have Hr3:=zB (Hr1.out.step hC3);have Ho3:=zB (Ho1.out.step hC3);have hm30:=Hm3.out.cell 0;have hm31:=Hm3.out.cell 1;simp only[zuK]at hm30 hm31;have zo3:=Ho3.out.lt;have zm3:=Hm3.out.lt;clear hb2 hb3 hC3 Hm1 Hr1 Ho1 Hr2;have e0:IntKind.i64.wrap 0=0:=rfl;go_wp2
 go_loopw [43] (fun i wr=>∃(R:List OR13) (a:Option Addr) (cap:Nat),R.length≤m∧i = .int .i64 R.length∧R.map OR13.l=(R0.map Row13.l).take R.length∧Blk wr w3.heap.size [.int .i64 n,.slice a R.length cap] 74∧
  wr.ownsRow (w3.heap.size+1) 69 1 (.slice a R.length cap) R.length (R.map OR13.head)∧ORs wr (w3.heap.size+1) R∧Below w3.heap.size w3 wr) (fun i _=>m-(intOf i).toNat)
 case atStart=>exact⟨[],none,0,by simp,rfl,by simp,Blk.new w3 _ _,World.ownsRow_nil _ _ _ _,⟨by simp,List.Pairwise.nil⟩,by go_grown⟩
 case round=>
  obtain⟨R,oa,ocap,hRm,rfl,hall,hv,hown,hR,hC⟩:=hrel;have zv:=hv.lt;obtain⟨k,hk⟩:∃k,k=R.length:=⟨_,rfl⟩;rw[←hk]at hv hown hRm hall⊢;have Hv:=zB hv;have Hown:=zB hown;have HR:=zB hR;have Hall:=zB hall;have Hk:=zB hk;have hv1:=hv.cell 1;simp only[zuK]at hv1;have hB:Below w.heap.size w wr:=zA hB3 hC;clear hv hown hR hall hk;by_cases hlt:k<m
  ·have hlt2:(k:Int)<m:=by omega
   obtain⟨r,g,o,hRr,hra,hcell,hro,hgl⟩:=row13_at Hrm.out Hok.out (k:=k) (by rw[←Hm.out];exact hlt);rw[hra]at Hm3 hm31⊢;have hgb:=zL hcell;simp only at hgb;have hcw:wr.cell? ⟨g,o+k,none⟩=some (.slice r.a r.l.length r.cap):=(hB.cell (p:=⟨g,o+k,none⟩) hgb).trans hcell;have hrl:(r.l.length:Int)=n:=(Hq5.out r.l (List.mem_map.2 ⟨r,zdB hRr,rfl⟩)).1;have HRr:=zB (show(R0.map Row13.l).take (k+1)=(R0.map Row13.l).take k ++ [r.l] by rw[List.take_add_one,zaG,hRr];rfl);have HCl:=zB fun W (hb:Below wr.heap.size wr W)=>clone13_any r.l r.a r.cap W (by omega) (by omega) (hro.2.2.step (zA hB hb));clear hRr hcell hro hgl;obtain⟨q',hq'⟩:∃q',q'=r.l.length:=⟨_,rfl⟩;rw[←hq']at hrl hcw HCl;have Hq:=zB hq';clear hq';go_wp2;refine zhM 6 2 [true,true,true,false,false,false] [false,false,false,true,true,true] _ _ (fun w'=>Cells w' [(⟨w3.heap.size,1,none⟩,.slice oa k ocap)]) (by kernel_rfl) (yB 6 _).symm (by kernel_rfl) (by kernel_rfl) (by kernel_rfl) (by kernel_rfl) (by kernel_rfl) (by simp only[Cells];exact⟨hv1,yF⟩) (fun Y Q4 F4 hY hF=> ?_);simp only[ltc,ltz,ldc,ldz,zeE,zdE,zfU]
   repeat
    apply zjV (by rw[hY];rfl)
    ·intro w2 hS2;(try simp only[Keeps,Cells]at hS2);go_simp;with_reducible rfl
    simp only[zuI]
   refine zmQ ?_;apply zmU (by rw[hY];rfl)
   ·go_simp;with_reducible exact⟨rfl,rfl⟩
   refine(HCl.out _ (zF _ _).drew).mono ?_;rintro e w4 ⟨⟨b4,cap4,l4⟩,rfl,hl4,hb4,hok4,hbb4⟩;obtain rfl:l4=r.l:=hl4;have hB4:Below wr.heap.size wr w4:=zA ((zF wr.heap.size wr).drew) hbb4;have zB4:wr.heap.size≤w4.heap.size:=hB4.size;have hb4':wr.heap.size≤b4:=hb4;have zr4:b4<w4.heap.size:=hok4.lt;have kv4:=Hv.out.step hB4;have kc4:=kv4.cell 1;simp only[zuK]at kc4;refine⟨.slice (some ⟨b4,0,none⟩) q' cap4,by rw[Hq.out];rfl,(by simp only[Cells];exact⟨kc4,yF⟩),?_⟩;simp only[zuI];have kv5:=kv4.alloc (Obj.cells #[.slice (some ⟨b4,0,none⟩) q' cap4] 69);have kc5:=kv5.cell 1;simp only[zuK]at kc5;refine zfK (by rw[hY];rfl) (by go_simp;first|with_reducible exact⟨rfl,rfl⟩|with_reducible rfl) (by simp only[Cells];exact⟨kc5,yF⟩) ?_;simp only[zuI];have hown5:=(ownS Hown.out hB4).alloc (Obj.cells #[.slice (some ⟨b4,0,none⟩) q' cap4] 69)
   refine ziS (.tmp 48) (.tmp 51) 72 69 1 24 _ (w3.heap.size+1) zsL (.slice oa k ocap) k (R.map OR13.head) (some ⟨w4.heap.size,0,none⟩) 1 1 [(.slice (some ⟨b4,0,none⟩) q' cap4)] (by rw[hY];rfl) rfl rfl rfl rfl
    (by simp[Value.oneCell',OR13.head]) (by unfold maxLen;omega) (by omega) hown5 (Rd.new w4 [(.slice (some ⟨b4,0,none⟩) q' cap4)] 69) (by simp;omega) ?_
   intro a6 cap6 w6 hown6 hgrow6;have kv6:=kv5.grown hgrow6 (Ne.symm (zbQ hown5 kv5 (by decide)));have kc6:=kv6.cell 1;have kf6:=kv6.free 1;simp only[zuK]at kc6;refine⟨by simp only[Cells];exact⟨kc6,yF⟩,?_⟩;simp only[zuI];have hok4':(OR13.mk b4 cap4 r.l).ok w4 (w3.heap.size+1):=⟨show w3.heap.size+1≤b4 by have:=hC.size;omega,hok4.2⟩;have hR5:=(HR.out.snoc hB4 hok4' hb4').step ((zF w4.heap.size w4).alloc (zD _) (Obj.cells #[.slice (some ⟨b4,0,none⟩) q' cap4] 69));have hR6:=hR5.grown hown5 (by decide) hgrow6;have hC6:Below w3.heap.size w3 w6:=Below.grown ((zA hC hB4).alloc (by have:=hC.size;omega) _) hgrow6 (by simp;have:=hC.size;omega) (fun j e=>by have:=(zbX hown5 e).1;omega);have Hv7:=zB (kv6.set 1 (.slice a6 (k+1) cap6));have Hown7:=zB (hown6.kept (zaJ w6 w3.heap.size 1 (.slice a6 (k+1) cap6)) (.inr (zbQ hown6 kv6 (by decide))));have HR7:=zB (hR6.other (i:=1) (v:=.slice a6 (k+1) cap6) kv6 (by decide));have hC7:Below w3.heap.size w3 (w6.setCell ⟨w3.heap.size,1,none⟩ (.slice a6 (k+1) cap6)):=hC6.setCell (zD _) _;clear hgrow6 hown6 hown5 kv4 kv5 kv6 hR5 hR6 hok4' hok4;refine zmT (hF.out _ _ (fun K hK=> ?_));clear hF hY;go_wp2_with fail;refine OnlyK.mk (hK.out _ _ ?_);go_wp2;go_roundw
   case rel=>
    refine⟨R ++ [⟨b4,cap4,r.l⟩],a6,cap6,by rw[yN,←Hk.out];simp;omega,by rw[yN,←Hk.out];go_num,?_,?_,?_,HR7.out,hC7⟩
    ·rw[List.map_append,Hall.out,yN,←Hk.out,List.map_singleton];exact HRr.out.symm
    ·rw[yN,←Hk.out];exact Hv7.out
    ·have:=Hown7.out;rw[yN,←Hk.out,List.map_append];simpa[OR13.head,←Hq.out] using this
   case measure=>simp[intOf];omega
  ·obtain rfl:k=m:=by omega
   have hcR:c<R.length:=by rw[←Hk.out];exact hcm
   obtain⟨r,hRr⟩:∃r,R[c]? = some r:=⟨R[c],zE hcR⟩;have hLk:(R0.map Row13.l).take k=R0.map Row13.l:=by rw[Hm.out,←zaH (f:=Row13.l),zdT]
   have hRL:R.map OR13.l=R0.map Row13.l:=by rw[Hall.out,hLk]
   have hrl:(R0.map Row13.l).getD c []=r.l:=by
    rw[←hRL,zI,zaG,hRr];rfl
   have hfit:=Hfit.out;rw[hrl]at hfit HSq;have hlen:r.l.length=l:=by rw[Hl.out];exact hfit.1
   have hro:=HR.out.1 r (zdB hRr);obtain⟨og,oo,hoa,hoc⟩:=(Rd.of_owns Hown.out).at (i:=c) (by rw[zaH];exact hcR);subst hoa;have hoc':wr.cell? ⟨og,oo+c,none⟩=some (.slice (some ⟨r.b,0,none⟩) l r.cap):=by
    rw[hoc c (by rw[zaH];exact hcR),List.getElem_map];have:R[c]=r:=by rw[zE hcR]at hRr;exact zK hRr
    rw[this,OR13.head,hlen]
   have hocl:=zL hoc';simp only at hocl;obtain⟨gx,ox,rfl,hcx⟩:=Hrd.out.at (i:=0) (by rw[yM,←Hl.out];exact hx1);have hgxl:gx<w.heap.size:=zL (hcx 0 (by rw[yM,←Hl.out];exact hx1));have HMx:=zB fun W (hb:Below wr.heap.size wr W)=>mix13_any r.l xs (some ⟨r.b,0,none⟩) (some ⟨gx,ox,none⟩) r.cap cap W hfit (by rw[←Hl.out];exact hx1) ((hro.row.2.2).step hb) ((Hrd.out.step hB).step hb);rw[←Hl.out]at HMx;have hd1 : -4096≤4096*bit-q:=by omega
   have hd2:4096*bit-q≤4096:=by omega
   have hLLv:S13.learnL (R0.map Row13.l) c xs bit rate=(R0.map Row13.l).set c (S13.learnRow (4096*bit-q) rate r.l xs):=by rw[HLLo.out,hrl]
   have HLLv:=zB hLLv;have Hfit2:=zB hfit;have Hro:=zB hro;have HRr2:=zB hRr;have HRL:=zB hRL;have Hlen:=zB hlen;clear hLLv hfit hrl hLk hoc hRr hRL hro hlen;generalize S13.mix r.l xs=mx at *;go_wp2_with fail;refine(HMx.out _ (by go_grown)).mono ?_;rintro e w4 ⟨rfl,hb4⟩;have hb4':Below wr.heap.size wr w4:=zA (by go_grown) hb4;have Hw4:=zB ((Blk.new wr [.slice (some ⟨r.b,0,none⟩) l r.cap] 69).step hb4);go_wp2_with fail;refine(HSq.out _).mono ?_;rintro e w5 ⟨rfl,hb5⟩;have hC5:Below wr.heap.size wr w5:=zA hb4' hb5;have hA5:Below w3.heap.size w3 w5:=zA hC hC5;have Hw5:=zB (Hw4.out.step hb5);have zw5:=Hw5.out.lt;have hw50:=Hw5.out.cell 0;simp only[lgz]at hw50;have z5:wr.heap.size≤w5.heap.size:=hC5.size;have z3:w3.heap.size<wr.heap.size:=zv;have hrb:=Hro.out.1;have hrl2:=Hro.out.lt;obtain⟨_,hrc1,hrc2,cs,hcs,hcst⟩:=Hro.out
   have HV:=zB (visitLearn13_any r.l xs (4096*bit-q) rate w5.heap.size (w.heap.size+1) wr.heap.size r.b r.cap gx ox cap cs (w5.alloc (Obj.cells #[.int .i64 (4096*bit-q)] 3)) Hfit2.out.1 (by rw[←Hl.out];exact hx16) Hfit2.out.2.2.1 Hfit2.out.2.2.2 ⟨hd1,hd2⟩ ⟨by omega,by omega⟩
    (Blk.new w5 [.int .i64 (4096*bit-q)] 3) (((Hr3.out.step hA5)).alloc _) (by rw[←Hl.out];exact Hw5.out.alloc _) ((hcs.step hC5).alloc _) (by rw[←Hfit2.out.1];exact hcst)
    (by omega) (by omega) (by have:=hB.size;omega) (fun j hj=>by
      have h0:=hcx j (by rw[yM];exact hj);have h1:w.cell? ⟨gx,ox+j,none⟩=some (.int .i64 (xs.getD j 0)):=by
       rw[h0];simp[zaK,zI,zE hj]
      have hB5:Below w.heap.size w (w5.alloc (Obj.cells #[.int .i64 (4096*bit-q)] 3)):=(zA hB hC5).alloc (by have:=hB.size;omega) _;exact(hB5.cell (zL h1)).trans h1))
   rw[←Hl.out]at HV;have Hv6:=zB ((Hv.out.step hC5).alloc (Obj.cells #[.int .i64 (4096*bit-q)] 3));have Ho6:=zB ((Ho3.out.step hA5).alloc (Obj.cells #[.int .i64 (4096*bit-q)] 3));have Hown6:=zB ((ownS Hown.out hC5).alloc (Obj.cells #[.int .i64 (4096*bit-q)] 3));have HR6:=zB ((HR.out.step hC5).step ((zF w5.heap.size w5).alloc (zD _) (Obj.cells #[.int .i64 (4096*bit-q)] 3)));have hB6:Below w.heap.size w (w5.alloc (Obj.cells #[.int .i64 (4096*bit-q)] 3)):=(zA hB hC5).alloc (by have:=hB.size;omega) _;have Hcs6:=zB ((hcs.step hC5).alloc (Obj.cells #[.int .i64 (4096*bit-q)] 3));clear hcs hcst;go_wp2_with fail;refine HV.out.mono ?_;rintro e w7 ⟨rfl,⟨cs',hb7,hcs'⟩,hg7⟩;have hv7:=Hv6.out.grown hg7 (by simp;omega);have ho7:=Ho6.out.grown hg7 (by simp;omega);have hown7:=Hown6.out.kept hg7 (.inr (zbQ Hown6.out Hcs6.out (by decide)));have hR7:=HR6.out.replace (r':=⟨r.b,r.cap,S13.learnRow (4096*bit-q) rate r.l xs⟩) HRr2.out hg7 ⟨hrb,by rw[S13.learnRow_length];exact hrc1,hrc2,cs',hb7,by rw[S13.learnRow_length,Hlen.out];exact hcs'⟩ rfl;have hB7:Below w.heap.size w w7:=Below.grown hB6 hg7 (by simp;have:=hB.size;omega) (fun j e=>by cases e;omega);have hR8:=hR7.other (i:=0) (v:=.int .i64 n) ho7 (by decide);have hown8:=hown7.kept (zaJ w7 (w.heap.size+2) 0 (.int .i64 n)) (.inr (zbQ hown7 ho7 (by decide)));have hR9:=hR8.other (i:=1) (v:=.slice (some ⟨og,oo,none⟩) k ocap) (ho7.set 0 (.int .i64 n)) (by decide);have hown9:=hown8.kept (zaJ _ (w.heap.size+2) 1 (.slice (some ⟨og,oo,none⟩) k ocap)) (.inr (zbQ hown8 (ho7.set 0 (.int .i64 n)) (by decide)))
   have hmx:MixNew w.heap.size n (S13.learnL (R0.map Row13.l) c xs bit rate) (.agg #[.int .i64 n,.slice (some ⟨og,oo,none⟩) k ocap]) _:=
    ⟨R.set c ⟨r.b,r.cap,S13.learnRow (4096*bit-q) rate r.l xs⟩,some ⟨og,oo,none⟩,ocap,w3.heap.size+1,by omega,by rw[or_ok_set HRr2.out,HRL.out,←HLLv.out],by rw[yT,←Hk.out],
      by rw[yT,←Hk.out,or_head_set HRr2.out (S13.learnRow_length _ _ _ _)];exact hown9,hR9⟩
   have v0:=hv7.cell 0;have v1:=hv7.cell 1;have r0:=ho7.cell 0;have r1:=ho7.cell 1;have f0:=ho7.free 0;have f1:=ho7.free 1;have s1:=((ho7.set 0 (.int .i64 n)).set 1 (.slice (some ⟨og,oo,none⟩) k ocap)).cell 0;have s2:=((ho7.set 0 (.int .i64 n)).set 1 (.slice (some ⟨og,oo,none⟩) k ocap)).cell 1;simp only[sC0,sCs,lgz,lgs]at v0 v1 r0 r1 s1 s2;have Hmx:=zB hmx;clear hmx hR7 hR8 hR9 hown8 hown9 hown7 hv7 ho7 hb7 hcs' hg7;go_wp2;refine bodyPost_ret (v:=.tuple #[.agg #[.int .i64 n,.slice (some ⟨og,oo,none⟩) k ocap],.int .i64 0]) (by simp[results,Tryz.results202,go_sem,s1,s2]) rfl ⟨_,rfl,?_,?_⟩
   ·exact Hmx.out
   ·exact(hB7.setCell (by simp only;omega) _).setCell (by simp only;omega) _
