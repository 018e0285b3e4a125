/- A part of the proof of L14n. No condition. -/
import Derived.Deep.RegionHeld3
import Derived.Test.YtieeogndnhighaaGreatZL14nar
import Derived.Test.YtieeogndnhighaaGreatZL14nba
set_option linter.all false
set_option maxRecDepth 100000
set_option maxHeartbeats 2000000
namespace Go.Proofs.YtieeogndnhighaaGreat
open Go.RowKit
theorem zpM:Elems Tryz.prog 70 39 1 24 [.slice none 0 0]:=⟨Tryz.underlying70,by kernel_rfl,rfl,by decide⟩
theorem info_rows:(Tryz.prog.info? 39).map (fun i=>(i.zero,i.size,i.bytes))=some (some (.slice none 0 0),1,24):=by kernel_rfl
structure OR13 where
 b:Nat
 cap:Nat
 l:List Int
def OR13.row(r:OR13):Row13:=⟨some ⟨r.b,0,none⟩,r.cap,r.l⟩
def OR13.head(r:OR13):Value:=.slice (some ⟨r.b,0,none⟩) r.l.length r.cap
def OR13.ok(w:World)(base:Nat)(r:OR13):Prop:=base≤r.b∧r.l.length≤r.cap∧r.cap≤9223372036854775807∧∃cs,Blk w r.b cs 3∧cs.take r.l.length=zaO r.l
theorem OR13.ok.lt{w:World}{base:Nat}{r:OR13}(h:r.ok w base):r.b<w.heap.size:=by obtain⟨_,_,_,cs,hb,_⟩:=h;exact hb.lt
theorem OR13.ok.step{w w':World}{base:Nat}{r:OR13}(h:r.ok w base)(hb:Below w.heap.size w w'):r.ok w' base:=by
 obtain⟨h1,h2,h3,cs,h4,h5⟩:=h;exact⟨h1,h2,h3,cs,h4.step hb,h5⟩
theorem OR13.ok.grown{w w':World}{base base' n cap:Nat}{e:TypeId}{a:Option Addr}{xs:List Value}{r:OR13}(h:r.ok w base)(ho:w.ownsRow base' e 1 (.slice a n cap) n xs)(he:¬e=3)(hg:w.grownBy w' (Value.slice a n cap).ownBlock):r.ok w' base:=by
 obtain⟨h1,h2,h3,cs,h4,h5⟩:=h;refine⟨h1,h2,h3,cs,?_,h5⟩;have hne:(Value.slice a n cap).ownBlock≠some r.b:=by
  intro hg';rcases ho.2 with⟨h',_⟩|⟨g2,cap',cur,h',_,hg2,_⟩
  ·simp at h';obtain⟨rfl,_,_⟩:=h';simp[Value.ownBlock]at hg'
  ·simp only[Value.slice.injEq]at h';obtain⟨rfl,_,_⟩:=h';simp[Value.ownBlock]at hg';subst hg';unfold Blk at h4;rw[h4]at hg2;simp at hg2;exact he hg2.2.symm
 unfold Blk at h4⊢;rw[hg.block r.b (Array.getElem?_eq_some_iff.1 h4).1 (Ne.symm hne)];exact h4
theorem OR13.ok.other{w:World}{base c i:Nat}{cs:List Value}{t:TypeId}{v:Value}{r:OR13}(h:r.ok w base)(hc:Blk w c cs t)(ht:¬t=3):r.ok (w.setCell ⟨c,i,none⟩ v) base:=by
 obtain⟨h1,h2,h3,cs',h4,h5⟩:=h;refine⟨h1,h2,h3,cs',h4.other _ _ _ ?_,h5⟩;intro e;rw[e]at h4;unfold Blk at h4 hc;rw[h4]at hc;simp at hc;exact ht hc.2.symm
theorem OR13.ok.row{w:World}{base:Nat}{r:OR13}(h:r.ok w base):r.row.ok w:=by
 obtain⟨h1,h2,h3,cs,h4,h5⟩:=h;refine⟨h2,h3,fun _=>⟨_,0,rfl,fun j v hv=> ?_⟩⟩;rw[yV,h4.cell];simp only[OR13.row]at hv;rw[←h5,List.getElem?_take]at hv;split at hv
 ·exact hv
 ·cases hv
def ORs(w:World)(base:Nat)(R:List OR13):Prop:=(∀r∈R,r.ok w base)∧R.Pairwise fun x y=>x.b<y.b
theorem ORs.step{w w':World}{base:Nat}{R:List OR13}(h:ORs w base R)(hb:Below w.heap.size w w'):ORs w' base R:=⟨fun r hr=>(h.1 r hr).step hb,h.2⟩
theorem ORs.grown{w w':World}{base base' n cap:Nat}{e:TypeId}{a:Option Addr}{xs:List Value}{R:List OR13}(h:ORs w base R)(ho:w.ownsRow base' e 1 (.slice a n cap) n xs)(he:¬e=3)(hg:w.grownBy w' (Value.slice a n cap).ownBlock):ORs w' base R:=
 ⟨fun r hr=>(h.1 r hr).grown ho he hg,h.2⟩
theorem ORs.other{w:World}{base c i:Nat}{cs:List Value}{t:TypeId}{v:Value}{R:List OR13}(h:ORs w base R)(hc:Blk w c cs t)(ht:¬t=3):ORs (w.setCell ⟨c,i,none⟩ v) base R:=⟨fun r hr=>(h.1 r hr).other hc ht,h.2⟩
theorem ORs.snoc{w w':World}{base:Nat}{R:List OR13}{r:OR13}(h:ORs w base R)(hb:Below w.heap.size w w')(hr:r.ok w' base)(hl:w.heap.size≤r.b):ORs w' base (R ++ [r]):=by
 refine⟨fun x hx=> ?_,?_⟩
 ·rcases List.mem_append.1 hx with hx|hx
  ·exact(h.1 x hx).step hb
  ·rw[List.mem_singleton.1 hx];exact hr
 ·rw[List.pairwise_append];refine⟨h.2,by simp,fun x hx y hy=> ?_⟩;rw[List.mem_singleton.1 hy];have:=(h.1 x hx).lt;omega
theorem ORs.mix{w:World}{base base':Nat}{R:List OR13}{n:Int}{a:Option Addr}{cap:Nat}(h:ORs w base R)(ho:w.ownsRow base' 39 1 (.slice a R.length cap) R.length (R.map OR13.head)):MixIs n (R.map OR13.l) (.agg #[.int .i64 n,.slice a R.length cap]) w:=by
 obtain⟨_,_,he,h1,h2⟩:=zaU ho;simp at he;obtain⟨rfl,rfl⟩:=he;refine⟨R.map OR13.row,a,cap,by rw[List.map_map];rfl,by simp,by simpa using h1,by unfold maxLen at h2;exact h2,?_,fun r hr=> ?_⟩
 ·rw[List.map_map];exact Rd.of_owns ho
 ·obtain⟨x,hx,rfl⟩:=List.mem_map.1 hr;exact(h.1 x hx).row
def MixOwn(n:Int)(L:List (List Int))(V:Value)(w:World):Prop:=
 ∃(R:List OR13) (a:Option Addr) (cap base:Nat),L=R.map OR13.l∧V = .agg #[.int .i64 n,.slice a R.length cap]∧w.ownsRow base 39 1 (.slice a R.length cap) R.length (R.map OR13.head)∧ORs w base R
def MixNew(B:Nat)(n:Int)(L:List (List Int))(V:Value)(w:World):Prop:=
 ∃(R:List OR13) (a:Option Addr) (cap base:Nat),B≤base∧L=R.map OR13.l∧V = .agg #[.int .i64 n,.slice a R.length cap]∧w.ownsRow base 39 1 (.slice a R.length cap) R.length (R.map OR13.head)∧ORs w base R
theorem MixNew.own{B:Nat}{n:Int}{L:List (List Int)}{V:Value}{w:World}(h:MixNew B n L V w):MixOwn n L V w:=by
 obtain⟨R,a,cap,base,_,h⟩:=h;exact⟨R,a,cap,base,h⟩
theorem MixOwn.mix{n:Int}{L:List (List Int)}{V:Value}{w:World}(h:MixOwn n L V w):MixIs n L V w:=by
 obtain⟨R,a,cap,base,rfl,rfl,h1,h2⟩:=h;exact h2.mix h1
theorem reps_single(x:Int)(n:Nat):zcT [x] n=List.replicate n x:=by
 unfold zcT;induction n with
 | zero=>rfl
 | succ n ih=>rw[List.replicate_succ,List.flatten_cons,ih,List.replicate_succ];rfl
theorem new13_own(p m:Nat)(w:World)(hp:1≤p)(hp':p≤16)(hm:1≤m)(hm':m≤65536) :
 Calls Tryz.prog 269 #[.int .i64 p,.int .i64 m] w fun e w'=>∃V,e = .returned (.tuple #[V,.int .i64 0])∧MixNew w.heap.size p (List.replicate m (List.replicate p (65536/(p:Int)))) V w'∧Below w.heap.size w w':=by
 have HB1:=zD fun W=>zcW p 1 16 W;have HB2:=zD fun W=>zcW m 1 65536 W;rw[zQ (show(1:Int)≤p by omega),zQ (show(p:Int)≤16 by omega)]at HB1;rw[zQ (show(1:Int)≤m by omega),zQ (show(m:Int)≤65536 by omega)]at HB2;obtain⟨i0,hi0,hz0,hz1,hz2⟩:=info_parts info_rows;have HRp:=zD fun(b:Nat) (W:World) (hb:Blk W b [.int .i64 (65536/(p:Int))] 3)=>zgE [65536/(p:Int)] p (some ⟨b,0,none⟩) 1 W (by simp) (by simp) (by omega) (fun _=>⟨b,0,rfl,hb.cells⟩);simp only[List.length_singleton,Nat.mul_one,reps_single]at HRp;have hq1:(0:Int)≤65536/(p:Int):=Int.ediv_nonneg (by omega) (by omega);have hq2:65536/(p:Int)≤65536:=Int.ediv_le_self _ (by omega);have hqd:(65536:Int).tdiv p=65536/(p:Int):=Int.tdiv_eq_ediv_of_nonneg (by omega);have hqw:IntKind.i64.wrap (65536/(p:Int))=65536/(p:Int):=IntWalk.i64_in _ (by omega);have hp0:((p:Int)==0)=false:=by simp;omega
 have hp1:¬(p:Int)=0:=by omega
 have hp2:¬p=0:=by omega
 generalize 65536/(p:Int)=u at *;have hll:(List.replicate p u).length=p:=yR;go_enter Tryz.func269,Tryz.ntmps269;go_wp2_with fail;refine(HB1.out _).mono ?_;rintro e w1 ⟨rfl,hb1⟩;have hB1:Below w.heap.size w w1:=zA (by go_grown) hb1;have hres1:=zD ((Blk.new w [.int .i64 0,.slice none 0 0] 79).step hb1);go_wp2_with fail;refine(HB2.out _).mono ?_;rintro e w2 ⟨rfl,hb2⟩;have hB2:Below w.heap.size w w2:=zA hB1 hb2;have hres2:=zD (hres1.out.step hb2);have z2:=hres2.out.lt;go_wp2
 go_loopw [20] (fun i wr=>∃(R:List OR13) (a:Option Addr) (cap:Nat),R.length≤m∧i = .int .i64 R.length∧(∀r∈R,r.l=List.replicate p u)∧Blk wr w2.heap.size [.int .i64 p,.slice a R.length cap] 79∧
  wr.ownsRow (w2.heap.size+1) 39 1 (.slice a R.length cap) R.length (R.map OR13.head)∧ORs wr (w2.heap.size+1) R∧Blk wr w.heap.size [.int .i64 0,.slice none 0 0] 79∧Below w.heap.size w wr) (fun i _=>m-(intOf i).toNat)
 case atStart=>exact⟨[],none,0,by simp,rfl,by simp,Blk.new w2 _ _,World.ownsRow_nil _ _ _ _,⟨by simp,List.Pairwise.nil⟩,hres2.out.alloc _,by go_grown⟩
 case round=>
  obtain⟨R,a,cap,hRm,rfl,hall,hv,hown,hR,hres,hB⟩:=hrel;have zv:=hv.lt;have zr:w.heap.size<wr.heap.size:=by omega
  obtain⟨k,hk⟩:∃k,k=R.length:=⟨_,rfl⟩;rw[←hk]at hv hown hRm⊢;have Hv:=zD hv;have Hown:=zD hown;have HR:=zD hR;have Hres:=zD hres;have Hall:=zD hall;have Hk:=zD hk;have hv0:=hv.cell 0;have hv1:=hv.cell 1;have hvf:=hv.free 1;simp only[zrD]at hv0 hv1;clear hv hown hR hres hall hk;by_cases hlt:k<m
  ·have hlt2:(k:Int)<m:=by omega
   go_wp2_with fail;refine zmJ 9 2 [true,true,true,true,false,true,false,false,false] [false,false,false,false,true,false,true,true,true] _ _ (fun w'=>Cells w' [(⟨w2.heap.size,1,none⟩,.slice a k cap)]) (by kernel_rfl) (zaF 9 _).symm (by kernel_rfl) (by kernel_rfl) (by kernel_rfl) (by kernel_rfl) (by kernel_rfl) (by simp only[Cells];exact⟨hv1,yJ⟩) (fun Y Q4 F4 hY hF=> ?_);simp only[ltc,ltz,ldc,ldz,sel_true,sel_false,sel_nil]
   repeat
    apply zpZ (by rw[hY];rfl)
    ·intro w2 hS2;(try simp only[Keeps,Cells]at hS2);go_simp;with_reducible rfl
    simp only[zrB]
   refine wpReads_done ?_;have kv0:=(Hv.out.alloc (Obj.cells #[.int .i64 u] 3)).drew;have kc0:=kv0.cell 1;simp only[zrD]at kc0;refine zfD (by rw[hY];rfl) (by go_simp;first|with_reducible exact⟨rfl,rfl⟩|with_reducible rfl) (by simp only[Cells];exact⟨kc0,yJ⟩) ?_;simp only[zrB];apply wpChain_call (by rw[hY];rfl)
   ·go_simp;with_reducible exact⟨rfl,rfl⟩
   refine(HRp.out _ _ (Blk.new wr [.int .i64 u] 3).drew).mono ?_;rintro e w3 ⟨b3,rfl,hl3,hblk3,hb3⟩;have hl3':wr.heap.size+1≤b3:=by have:=hl3;simp at this;omega
   have hz3:b3<w3.heap.size:=hblk3.lt;have kv3:=kv0.step hb3;have kc3:=kv3.cell 1;simp only[zrD]at kc3;refine⟨_,rfl,(by simp only[Cells];exact⟨kc3,yJ⟩),?_⟩;simp only[zrB];have kv4:=kv3.alloc (Obj.cells #[.slice (some ⟨b3,0,none⟩) p p] 39);have kc4:=kv4.cell 1;simp only[zrD]at kc4;refine zfD (by rw[hY];rfl) (by go_simp;first|with_reducible exact⟨rfl,rfl⟩|with_reducible rfl) (by simp only[Cells];exact⟨kc4,yJ⟩) ?_;simp only[zrB];have hB3:Below wr.heap.size wr w3:=zA (by go_grown) hb3;have hown4:=(ownS Hown.out hB3).alloc (Obj.cells #[.slice (some ⟨b3,0,none⟩) p p] 39)
   refine zoE (.tmp 23) (.tmp 29) 70 39 1 24 _ (w2.heap.size+1) zpM (.slice a k cap) k (R.map OR13.head) (some ⟨w3.heap.size,0,none⟩) 1 1 [.slice (some ⟨b3,0,none⟩) p p] (by rw[hY];rfl) rfl rfl rfl rfl
    (by simp[Value.oneCell']) (by unfold maxLen;omega) (by omega) hown4 (Rd.new w3 [.slice (some ⟨b3,0,none⟩) p p] 39) (by simp;omega) ?_
   intro a5 cap5 w5 hown5 hgrow5;have kv5:=kv4.grown hgrow5 (Ne.symm (zbR hown4 kv4 (by decide)));have kc5:=kv5.cell 1;have kf5:=kv5.free 1;simp only[zrD]at kc5;refine⟨by simp only[Cells];exact⟨kc5,yJ⟩,?_⟩;simp only[zrB];have hr3:(OR13.mk b3 p (List.replicate p u)).ok w3 (w2.heap.size+1):=⟨(show w2.heap.size+1≤b3 by omega),by simp,(show p≤9223372036854775807 by omega),_,hblk3,by simp[zaO]⟩;have hR4:=(HR.out.snoc hB3 hr3 (by simp only;omega)).step ((zG w3.heap.size w3).alloc (zE _) (Obj.cells #[.slice (some ⟨b3,0,none⟩) p p] 39));have hR5:=hR4.grown hown4 (by decide) hgrow5;have hres3:=(Hres.out.step hB3).alloc (Obj.cells #[.slice (some ⟨b3,0,none⟩) p p] 39);have hres5:=hres3.grown hgrow5 (Ne.symm (zbR hown4 hres3 (by decide)));have hB5:Below w.heap.size w w5:=Below.grown ((zA hB hB3).alloc (by have:=hB3.size;have:=hB.size;omega) _) hgrow5 (by simp;have:=hB3.size;omega) (fun j e=>by have:=(zaQ hown4 e).1;omega);have Hv6:=zD (kv5.set 1 (.slice a5 (k+1) cap5));have Hown6:=zD (hown5.kept (zbK w5 w2.heap.size 1 (.slice a5 (k+1) cap5)) (.inr (zbR hown5 kv5 (by decide))));have HR6:=zD (hR5.other (i:=1) (v:=.slice a5 (k+1) cap5) kv5 (by decide));have Hres6:=zD (hres5.other w2.heap.size 1 (.slice a5 (k+1) cap5) (by omega));have hB6:Below w.heap.size w (w5.setCell ⟨w2.heap.size,1,none⟩ (.slice a5 (k+1) cap5)):=hB5.setCell (by simp only;omega) _;clear hgrow5 hown5 hown4 kv0 kv3 kv4 kv5 hR4 hR5 hres3 hres5 hr3 hblk3;refine wpChain_done (hF.out _ _ (fun K hK=> ?_));clear hF hY;go_wp2_with fail;refine OnlyK.mk (hK.out _ _ ?_);go_wp2;go_roundw
   case rel=>
    refine⟨R ++ [⟨b3,p,List.replicate p u⟩],a5,cap5,by rw[zdI,←Hk.out];simp;omega,by rw[zdI,←Hk.out];go_num,?_,?_,?_,HR6.out,Hres6.out,hB6⟩
    ·intro r hr;rcases List.mem_append.1 hr with hr|hr
     ·exact Hall.out r hr
     ·rw[List.mem_singleton.1 hr]
    ·rw[zdI,←Hk.out];exact Hv6.out
    ·have:=Hown6.out;rw[zdI,←Hk.out,List.map_append];simpa[OR13.head,hll] using this
   case measure=>simp[intOf];omega
  ·obtain rfl:k=m:=by omega
   have hres:=Hres.out;have hR1:=HR.out.other (i:=0) (v:=.int .i64 p) hres (by decide);have hown1:=Hown.out.kept (zbK wr w.heap.size 0 (.int .i64 p)) (.inr (zbR Hown.out hres (by decide)));have hR2:=hR1.other (i:=1) (v:=.slice a k cap) (hres.set 0 (.int .i64 p)) (by decide);have hown2:=hown1.kept (zbK _ w.heap.size 1 (.slice a k cap)) (.inr (zbR hown1 (hres.set 0 (.int .i64 p)) (by decide)));have hLs:R.map OR13.l=List.replicate k (List.replicate p u):=by
    rw[List.eq_replicate_iff];refine⟨by rw[zaA,←Hk.out],fun l hl=> ?_⟩;obtain⟨r,hr,rfl⟩:=List.mem_map.1 hl;exact Hall.out r hr
   have hmx:MixNew w.heap.size (p:Int) (List.replicate k (List.replicate p u)) (.agg #[.int .i64 p,.slice a k cap]) _:=⟨R,a,cap,w2.heap.size+1,by omega,hLs.symm,by rw[←Hk.out],by rw[←Hk.out];exact hown2,hR2⟩;have r0:=hres.cell 0;have r1:=hres.cell 1;have f0:=hres.free 0;have f1:=hres.free 1;have s1:=((hres.set 0 (.int .i64 p)).set 1 (.slice a k cap)).cell 0;have s2:=((hres.set 0 (.int .i64 p)).set 1 (.slice a k cap)).cell 1;simp only[sC0,sCs,lgz,lgs]at r0 r1 s1 s2;have Hmx:=zD hmx;clear hmx hLs hres hR1 hown1 hR2 hown2;go_wp2;refine bodyPost_ret (v:=.tuple #[.agg #[.int .i64 p,.slice a k cap],.int .i64 0]) (by simp[results,Tryz.results269,go_sem,s1,s2]) rfl ⟨_,rfl,?_,?_⟩
   ·exact Hmx.out
   ·exact(hB.setCell (zE _) _).setCell (zE _) _
theorem or_of_owns{w:World}{base base':Nat}{a:Option Addr}{cap:Nat}{l:List Int}(h:w.ownsRow base 3 1 (.slice a l.length cap) l.length (zaO l))(hne:1≤l.length)(hb:base'≤base) :
 ∃b,a=some ⟨b,0,none⟩∧base≤b∧(OR13.mk b cap l).ok w base':=by
 have hl:=h.1;rcases h.2 with⟨h',h0⟩|⟨g,cap',cur,h',hbg,hg,hnc,hcm,hcs,htake⟩
 ·omega
 ·simp only[Value.slice.injEq,true_and]at h';obtain⟨rfl,rfl⟩:=h';unfold maxLen at hcm;exact⟨g,rfl,hbg,yD hb hbg,hnc,hcm,cur.toList,hg,by simpa using htake⟩
