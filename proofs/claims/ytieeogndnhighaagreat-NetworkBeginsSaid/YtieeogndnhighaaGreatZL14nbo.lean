/- A part of the proof of L14n. No condition. -/
import Derived.Test.YtieeogndnhighaaGreatZL14nbd
import Derived.Test.YtieeogndnhighaaGreatZL14nbk
set_option linter.all false
set_option maxRecDepth 100000
set_option maxHeartbeats 2000000
namespace Go.Proofs.YtieeogndnhighaaGreat
open Go.RowKit
theorem or_of_owns14{w:World}{base base':Nat}{a:Option Addr}{cap:Nat}{l:List Int}(h:w.ownsRow base 3 1 (.slice a l.length cap) l.length (zaO l))(hne:1≤l.length)(hb:base'≤base) :
 ∃b,a=some ⟨b,0,none⟩∧base≤b∧(OR13.mk b cap l).ok w base':=by
 have hl:=h.1;rcases h.2 with⟨h',h0⟩|⟨g,cap',cur,h',hbg,hg,hnc,hcm,hcs,htake⟩
 ·omega
 ·simp only[Value.slice.injEq,true_and]at h';obtain⟨rfl,rfl⟩:=h';unfold maxLen at hcm;exact⟨g,rfl,hbg,yD hb hbg,hnc,hcm,cur.toList,hg,by simpa using htake⟩
theorem refNew11_new(n:Nat)(w:World)(h1:1≤n)(h2:n≤65536) :
 Calls Tryz.prog 72 #[.int .i64 n] w fun e w'=>∃V,e = .returned (.tuple #[V,.int .i64 0])∧MapNew w.heap.size (zcT S11.first n) V w'∧Below w.heap.size w w':=by
 have e1:¬(n:Int)<1:=by omega
 have e2:¬(65536:Int)<n:=by omega
 have hfl:=S11.first_length;go_enter Tryz.func72,Tryz.ntmps72;go_wp2;go_loopw [4,5] (fun v i wr=>∃(k:Nat) (a:Option Addr) (cap:Nat),k≤n∧i = .int .i64 k∧v = .slice a (k*33) cap∧wr.ownsRow (w.heap.size+1) 3 1 (.slice a (k*33) cap) (k*33) (zaO (zcT S11.first k))∧Blk wr w.heap.size [.slice none 0 0] 81∧Below w.heap.size w wr) (fun _ i _=>n-(intOf i).toNat)
 case atStart=>exact⟨0,none,0,by omega,rfl,by simp,by simpa[zcT,zaO] using World.ownsRow_nil _ _ _ _,Blk.new w _ _,by go_grown⟩
 case round=>
  obtain⟨wo,rfl⟩:∃wo:World,wo=wr:=⟨_,rfl⟩;obtain⟨m,a0,cap0,hm,rfl,rfl,hown,hblk,hB⟩:=hrel;have zr:w.heap.size<wo.heap.size:=hblk.lt;have Hown:=zD hown;have Hblk:=zD hblk;clear hown hblk;by_cases hlt:m<n
  ·have hltI:(m:Int)<n:=by omega
   have d1:decide ((m:Int)<(n:Int))=true:=by simp;omega
   obtain⟨M,hM⟩:∃M,M=m*33:=⟨_,rfl⟩;rw[←hM]at Hown⊢;have hM2:M≤2162688:=by omega
   have HM:=zD hM;clear hM;go_wp2;go_loopw [4,6] (fun v i wr=>∃(k:Nat) (a:Option Addr) (cap:Nat),k≤33∧i = .int .i64 k∧v = .slice a (M+k) cap∧wr.ownsRow (w.heap.size+1) 3 1 (.slice a (M+k) cap) (M+k) (zaO (zcT S11.first m++S11.first.take k))∧Blk wr w.heap.size [.slice none 0 0] 81∧Below w.heap.size w wr) (fun _ i _=>33-(intOf i).toNat)
   case atStart=>exact⟨0,a0,cap0,by omega,rfl,rfl,by simpa using Hown.out,Hblk.out,hB⟩
   case round=>
    obtain⟨k,a,cap,hk,rfl,rfl,hown,hblk,hB2⟩:=hrel;have zr2:w.heap.size<wr.heap.size:=hblk.lt;have Hown2:=zD hown;have Hblk2:=zD hblk;clear hown hblk;by_cases hlt2:k<33
    ·have hlt3:(k:Int)≤32:=by omega
     have HS:=zD fun W=>zmZ (192*(k:Int)-3072) W;have hq:=S06.squash_bounds (192*(k:Int)-3072);have Hf:=zD (S11.first_at hlt2);have Hsn:=zD (take_snoc S11.first k (by rw[hfl];exact hlt2));generalize S06.squash (192*(k:Int)-3072)=q at *;go_wp2_with fail;refine(HS.out _).mono ?_;rintro e w1 ⟨rfl,hb1⟩;have hB1:Below w.heap.size w w1:=zA hB2 hb1;have z1:wr.heap.size≤w1.heap.size:=hb1.size;have Hown1:=zD (ownS Hown2.out hb1);have Hblk1:=zD (Hblk2.out.step hb1);go_wp2_with (at_builtin;refine zaJ _ _ 39 3 1 8 _ (w.heap.size+1) elems_ints rfl rfl _ (M+k) (zaO (zcT S11.first m++S11.first.take k)) rfl (Hown1.out.alloc _) (some ⟨w1.heap.size,0,none⟩) 1 1 [.int .i64 (16*q)] rfl rfl (Rd.new w1 [.int .i64 (16*q)] 3) (by simp[Value.oneCell']) (by unfold maxLen;omega) (by omega) (by simp;omega) ?_;intro a2 cap2 w2 hown3 hgrow2;have hB3:Below w.heap.size w w2:=Below.grown (by go_grown) hgrow2 (by simp;omega) (fun j e=>yD (Nat.le_succ _) (Hown1.out.lt j e).1);have hblk3:Blk w2 w.heap.size [.slice none 0 0] 81:=(Hblk1.out.alloc _).below (Below.grown (B:=w.heap.size+1) (zG _ _) hgrow2 (by simp;omega) (fun j e=>(Hown1.out.lt j e).1)) (by omega);have Hown3:=zD hown3;have Hblk3:=zD hblk3;clear hown3 hgrow2 hblk3);go_roundw
     case rel=>
      refine⟨k+1,a2,cap2,by omega,by go_num,by rw[Nat.add_assoc],?_,Hblk3.out,hB3⟩;rw[Hsn.out,Hf.out,←List.append_assoc,zeF,←Nat.add_assoc];exact Hown3.out
     case measure=>simp[intOf];omega
    ·obtain rfl:k=33:=by omega
     go_wp2;go_roundw
     case rel=>
      have he:M+33=(m+1)*33:=by rw[HM.out];omega
      refine⟨m+1,a,cap,by omega,by go_num,by rw[he],?_,Hblk2.out,hB2⟩;have hall:S11.first.take 33=S11.first:=zdB (by rw[hfl];omega);have:=Hown2.out;rw[hall,he]at this;rw[zqD,reps_one];exact this
     case measure=>simp[intOf];omega
  ·obtain rfl:m=n:=by omega
   obtain⟨M,hM⟩:∃M,M=m*33:=⟨_,rfl⟩;have hMl:(zcT S11.first m).length=M:=by rw[zcO,hfl,hM]
   rw[←hM]at Hown⊢;have hM2:M≤2162688:=by omega
   have hown:=Hown.out;obtain⟨g0,rfl,hg0,_⟩:=zcH hown (by omega);have ha:=zbR hown Hblk.out (by decide);have hfin:=hown.kept (zbK wo w.heap.size 0 (.slice (some ⟨g0,0,none⟩) M cap0)) (.inr ha);have Hfin:=zD (zpC hfin);obtain⟨_,_,hsl,hs1,hs2⟩:=zaU hown;simp at hsl;obtain⟨rfl,rfl⟩:=hsl;unfold maxLen at hs2;have r0:=Hblk.out.cell 0;have r1:=Hblk.out.free 0;have r2:=(Hblk.out.set 0 (.slice (some ⟨g0,0,none⟩) M cap0)).cell 0;simp only[sC0,lgz]at r0 r2;have HMl:=zD hMl;clear hown ha hfin hM hMl;go_wp2;refine bodyPost_ret (v:=.tuple #[.agg #[.slice (some ⟨g0,0,none⟩) M cap0],.int .i64 0]) (by simp[results,Tryz.results72,go_sem,r2]) rfl ⟨_,rfl,?_,hB.setCell (zE _) _⟩;exact⟨_,_,by rw[HMl.out],by omega,by rw[HMl.out];exact hs1,hs2,Hfin.out⟩
theorem refNew13_new(p m:Nat)(w:World)(hp:1≤p)(hp':p≤16)(hm:1≤m)(hm':m≤65536) :
 Calls Tryz.prog 71 #[.int .i64 p,.int .i64 m] w fun e w'=>∃V,e = .returned (.tuple #[V,.int .i64 0])∧MixNew w.heap.size p (List.replicate m (List.replicate p (65536/(p:Int)))) V w'∧Below w.heap.size w w':=by
 have hq1:(0:Int)≤65536/(p:Int):=Int.ediv_nonneg (by omega) (by omega);have hq2:65536/(p:Int)≤65536:=Int.ediv_le_self _ (by omega);have hqd:(65536:Int).tdiv p=65536/(p:Int):=Int.tdiv_eq_ediv_of_nonneg (by omega);have hqw:IntKind.i64.wrap (65536/(p:Int))=65536/(p:Int):=IntWalk.i64_in _ (by omega);have hp0:((p:Int)==0)=false:=by simp;omega
 have hp1:¬(p:Int)=0:=by omega
 have hp2:¬p=0:=by omega
 generalize 65536/(p:Int)=u at *;have e1:¬(p:Int)<1:=by omega
 have e2:¬(16:Int)<p:=by omega
 have e3:¬(m:Int)<1:=by omega
 have e4:¬(65536:Int)<m:=by omega
 go_enter Tryz.func71,Tryz.ntmps71;go_wp2;have Hres0:=zD ((Blk.new w [.int .i64 0,.slice none 0 0] 79).alloc (Obj.cells #[.int .i64 p,.slice none 0 0] 79))
 have Hv0:=zD (show Blk ((w.alloc (Obj.cells #[.int .i64 0,.slice none 0 0] 79)).alloc (Obj.cells #[.int .i64 p,.slice none 0 0] 79)) (w.heap.size+1) [.int .i64 p,.slice none 0 0] 79 by
  have:=Blk.new (w.alloc (Obj.cells #[.int .i64 0,.slice none 0 0] 79)) [.int .i64 p,.slice none 0 0] 79;simpa using this)
 go_loopw [7] (fun i wr=>∃(R:List OR13) (a:Option Addr) (cap:Nat),R.length≤m∧i = .int .i64 R.length∧(∀r∈R,r.l=List.replicate p u)∧Blk wr (w.heap.size+1) [.int .i64 p,.slice a R.length cap] 79∧
  wr.ownsRow (w.heap.size+2) 39 1 (.slice a R.length cap) R.length (R.map OR13.head)∧ORs wr (w.heap.size+2) R∧Blk wr w.heap.size [.int .i64 0,.slice none 0 0] 79∧Below w.heap.size w wr) (fun i _=>m-(intOf i).toNat)
 case atStart=>exact⟨[],none,0,by simp,rfl,by simp,Hv0.out,World.ownsRow_nil _ _ _ _,⟨by simp,List.Pairwise.nil⟩,Hres0.out,by go_grown⟩
 case round=>
  obtain⟨wo,rfl⟩:∃wo:World,wo=wr:=⟨_,rfl⟩;obtain⟨R,a,cap,hRm,rfl,hall,hv,hown,hR,hres,hB⟩:=hrel;have zv:=hv.lt;have zr:w.heap.size<wo.heap.size:=by omega
  obtain⟨k,hk⟩:∃k,k=R.length:=⟨_,rfl⟩;rw[←hk]at hv hown hRm⊢;have Hv:=zD hv;have Hown:=zD hown;have HR:=zD hR;have Hres:=zD hres;have Hall:=zD hall;have Hk:=zD hk;clear hv hown hR hres hall hk;by_cases hlt:k<m
  ·have hlt2:(k:Int)<m:=by omega
   have d1:decide ((k:Int)<(m:Int))=true:=by simp;omega
   go_wp2;go_loopw [8,9] (fun v i wr=>∃(j:Nat) (b:Option Addr) (c:Nat),j≤p∧i = .int .i64 j∧v = .slice b j c∧wr.ownsRow wo.heap.size 3 1 (.slice b j c) j (zaO (List.replicate j u))∧Below wo.heap.size wo wr) (fun _ i _=>p-(intOf i).toNat)
   case atStart=>exact⟨0,none,0,by omega,rfl,rfl,by simpa[zaO] using World.ownsRow_nil _ _ _ _,zG _ _⟩
   case round=>
    obtain⟨j,b,c,hj,rfl,rfl,hown2,hB2⟩:=hrel;have zr2:wo.heap.size≤wr.heap.size:=hB2.size;have Hown2:=zD hown2;clear hown2;by_cases hlt3:j<p
    ·have hlt4:(j:Int)<p:=by omega
     go_wp2_with (at_builtin;refine zaJ _ _ 39 3 1 8 _ wo.heap.size elems_ints rfl rfl _ j (zaO (List.replicate j u)) rfl (Hown2.out.alloc _) (some ⟨wr.heap.size,0,none⟩) 1 1 [.int .i64 u] rfl rfl (Rd.new wr [.int .i64 u] 3) (by simp[Value.oneCell']) (by unfold maxLen;omega) (by omega) (by simp;omega) ?_;intro a2 cap2 w2 hown3 hgrow2;have hB3:Below wo.heap.size wo w2:=Below.grown (by go_grown) hgrow2 (by simp;omega) (fun j e=>(Hown2.out.lt j e).1);have Hown3:=zD hown3;clear hown3 hgrow2);go_roundw
     case rel=>
      refine⟨j+1,a2,cap2,by omega,by go_num,rfl,?_,hB3⟩;have:=Hown3.out;rw[List.replicate_succ',zeF];exact this
     case measure=>simp[intOf];omega
    ·obtain rfl:j=p:=by omega
     have hB2':Below w.heap.size w wr:=zA hB hB2;have hown2:=Hown2.out;have hll:(List.replicate j u).length=j:=yR;obtain⟨b3,rfl,hb3,hok3⟩:=or_of_owns14 (base':=w.heap.size+2) (l:=List.replicate j u) (by rw[hll];exact hown2) (by rw[hll];exact hp) (by omega);have kv3:=Hv.out.step hB2;have kc3:=kv3.cell 1;have Hr3:=zD hok3;have kv4:=kv3.alloc (Obj.cells #[.slice (some ⟨b3,0,none⟩) j c] 39);have hown4:=(ownS Hown.out hB2).alloc (Obj.cells #[.slice (some ⟨b3,0,none⟩) j c] 39);simp only[zrD]at kc3;have hR4:=(HR.out.snoc hB2 hok3 hb3).step ((zG wr.heap.size wr).alloc (zE _) (Obj.cells #[.slice (some ⟨b3,0,none⟩) j c] 39));have hres3:=(Hres.out.step hB2).alloc (Obj.cells #[.slice (some ⟨b3,0,none⟩) j c] 39);have Kv4:=zD kv4;have Hown4:=zD hown4;have HR4:=zD hR4;have Hres3:=zD hres3;have hbl3:b3<wr.heap.size:=hok3.lt;clear hok3 hown2 kv3 kv4 hown4 hR4 hres3;go_wp2_with (at_builtin;refine zaJ _ _ 70 39 1 24 _ (w.heap.size+2) zpM rfl rfl _ k (R.map OR13.head) rfl Hown4.out (some ⟨wr.heap.size,0,none⟩) 1 1 [.slice (some ⟨b3,0,none⟩) j c] rfl rfl (Rd.new wr [.slice (some ⟨b3,0,none⟩) j c] 39) (by simp[Value.oneCell']) (by unfold maxLen;omega) (by omega) (by simp;omega) ?_;intro a5 cap5 w5 hown5 hgrow5;have kv5:=Kv4.out.grown hgrow5 (Ne.symm (zbR Hown4.out Kv4.out (by decide)));have hR5:=HR4.out.grown Hown4.out (by decide) hgrow5;have hres5:=Hres3.out.grown hgrow5 (Ne.symm (zbR Hown4.out Hres3.out (by decide)));have hB5:Below w.heap.size w w5:=Below.grown (hB2'.alloc (by omega) _) hgrow5 (by simp;omega) (fun j e=>by have:=(zaQ Hown4.out e).1;omega);have kf5:=kv5.free 1;have kz5:=kv5.lt;have Hv6:=zD (kv5.set 1 (.slice a5 (k+1) cap5));have Hown6:=zD (hown5.kept (zbK w5 (w.heap.size+1) 1 (.slice a5 (k+1) cap5)) (.inr (zbR hown5 kv5 (by decide))));have HR6:=zD (hR5.other (i:=1) (v:=.slice a5 (k+1) cap5) kv5 (by decide));have Hres6:=zD (hres5.other (w.heap.size+1) 1 (.slice a5 (k+1) cap5) (by omega));have hB6:Below w.heap.size w (w5.setCell ⟨w.heap.size+1,1,none⟩ (.slice a5 (k+1) cap5)):=hB5.setCell (by simp only;omega) _;have kc5:=kv5.cell 1;simp only[zrD]at kc5;clear hgrow5 hown5 kv5 hR5 hres5);go_roundw
     case rel=>
      refine⟨R ++ [⟨b3,c,List.replicate j u⟩],a5,cap5,by rw[zdI,←Hk.out];simp;omega,by rw[zdI,←Hk.out];go_num,?_,?_,?_,HR6.out,Hres6.out,hB6⟩
      ·intro r hr;rcases List.mem_append.1 hr with hr|hr
       ·exact Hall.out r hr
       ·rw[List.mem_singleton.1 hr]
      ·rw[zdI,←Hk.out];exact Hv6.out
      ·have:=Hown6.out;rw[zdI,←Hk.out,List.map_append];simpa[OR13.head,hll] using this
     case measure=>simp[intOf];omega
  ·obtain rfl:k=m:=by omega
   have hres:=Hres.out;have hR1:=HR.out.other (i:=0) (v:=.int .i64 p) hres (by decide);have hown1:=Hown.out.kept (zbK wo w.heap.size 0 (.int .i64 p)) (.inr (zbR Hown.out hres (by decide)));have hR2:=hR1.other (i:=1) (v:=.slice a k cap) (hres.set 0 (.int .i64 p)) (by decide);have hown2:=hown1.kept (zbK _ w.heap.size 1 (.slice a k cap)) (.inr (zbR hown1 (hres.set 0 (.int .i64 p)) (by decide)));have hLs:R.map OR13.l=List.replicate k (List.replicate p u):=by
    rw[List.eq_replicate_iff];refine⟨by rw[zaA,←Hk.out],fun l hl=> ?_⟩;obtain⟨r,hr,rfl⟩:=List.mem_map.1 hl;exact Hall.out r hr
   have hmx:MixNew w.heap.size (p:Int) (List.replicate k (List.replicate p u)) (.agg #[.int .i64 p,.slice a k cap]) _:=⟨R,a,cap,w.heap.size+2,by omega,hLs.symm,by rw[←Hk.out],by rw[←Hk.out];exact hown2,hR2⟩;have v0:=Hv.out.cell 0;have v1:=Hv.out.cell 1;have r0:=hres.cell 0;have r1:=hres.cell 1;have f0:=hres.free 0;have f1:=hres.free 1;have s1:=((hres.set 0 (.int .i64 p)).set 1 (.slice a k cap)).cell 0;have s2:=((hres.set 0 (.int .i64 p)).set 1 (.slice a k cap)).cell 1;simp only[sC0,sCs,lgz,lgs]at v0 v1 r0 r1 s1 s2;have Hmx:=zD hmx;clear hmx hLs hres hR1 hown1 hR2 hown2;go_wp2;refine bodyPost_ret (v:=.tuple #[.agg #[.int .i64 p,.slice a k cap],.int .i64 0]) (by simp[results,Tryz.results71,go_sem,s1,s2]) rfl ⟨_,rfl,?_,?_⟩
   ·exact Hmx.out
   ·exact(hB.setCell (zE _) _).setCell (zE _) _
