/- A part of the proof of L14l. No condition. -/
set_option linter.all false
set_option maxRecDepth 100000
set_option maxHeartbeats 200000
namespace Go.Proofs.YthhgkafloejjiaaGreat
def S06.clip(x:Int):Int:=max (-3071) (min x 3071)
def S06.chance(p:Int):Int:=max 1 (min p 4095)
def S06.sqE(n:Nat):Nat:=(65536-128*(n%256))/2^(n/256)
def S06.sqN(n:Nat):Nat:=268435456/(65536+S06.sqE n)
def S06.squash(x:Int):Int:=if S06.clip x<0 then 4096-S06.sqN (-S06.clip x).toNat else S06.sqN (S06.clip x).toNat
theorem S06.sqN_step:(List.range 3071).all (fun n=>decide (S06.sqN n≤S06.sqN (n+1)))=true:=by decide +kernel
theorem S06.sqN_ends:S06.sqN 0=2048∧S06.sqN 3071=4095:=by decide +kernel
theorem S06.sqN_mono:∀{m n:Nat},m≤n→n≤3071→S06.sqN m≤S06.sqN n:=by
 intro m n h c;induction n with
 | zero=>obtain rfl:m=0:=by omega
         exact Nat.le_refl _
 | succ n b=>
   by_cases e:m=n+1
   ·subst e;exact Nat.le_refl _
   ·have a:=S06.sqN_step;simp only[List.all_eq_true,List.mem_range,decide_eq_true_eq]at a;exact Nat.le_trans (b (by omega) (by omega)) (a n (by omega))
theorem S06.sqN_bounds{n:Nat}(h:n≤3071):2048≤S06.sqN n∧S06.sqN n≤4095:=by
 have b:=S06.sqN_mono (Nat.zero_le n) h;have a:=S06.sqN_mono h (Nat.le_refl 3071);rw[S06.sqN_ends.1]at b;rw[S06.sqN_ends.2]at a;exact⟨b,a⟩
theorem S06.clip_bounds(x:Int) : -3071≤S06.clip x∧S06.clip x≤3071:=by unfold S06.clip;omega
theorem S06.clip_in{x:Int}(h : -3071≤x)(a:x≤3071):S06.clip x=x:=by unfold S06.clip;omega
theorem S06.squash_bounds(x:Int):1≤S06.squash x∧S06.squash x≤4095:=by
 have h:=S06.clip_bounds x;unfold S06.squash;split
 ·have:=S06.sqN_bounds (n:=(-S06.clip x).toNat) (by omega);omega
 ·have:=S06.sqN_bounds (n:=(S06.clip x).toNat) (by omega);omega
theorem S06.squash_mono{x y:Int}(h:x≤y):S06.squash x≤S06.squash y:=by
 have e:=S06.clip_bounds x;have c:=S06.clip_bounds y;have d:S06.clip x≤S06.clip y:=by unfold S06.clip;omega
 unfold S06.squash;split
 ·have a:=S06.sqN_bounds (n:=(-S06.clip x).toNat) (by omega);split
  ·have:=S06.sqN_mono (m:=(-S06.clip y).toNat) (n:=(-S06.clip x).toNat) (by omega) (by omega);omega
  ·have b:=S06.sqN_bounds (n:=(S06.clip y).toNat) (by omega);omega
 ·rw[if_neg (by omega)];have:=S06.sqN_mono (m:=(S06.clip x).toNat) (n:=(S06.clip y).toNat) (by omega) (by omega);omega
def S06.find(p:Int):Nat→Nat→Nat→Nat
 | 0,i,_=>i
 | f+1,i,j=>if i<j then(if S06.squash (((i+j)/2:Nat)-3071)<p then S06.find p f ((i+j)/2+1) j else S06.find p f i ((i+j)/2))else i
def S06.spot(p:Int):Nat:=S06.find (S06.chance p) 13 0 6142
def S06.stretch(p:Int):Int:=(S06.spot p:Int)-3071
def S06.Cuts(p:Int)(k:Nat):Prop:=k≤6142∧∀i:Nat,i<6142→(S06.squash ((i:Int)-3071)<p↔i<k)
theorem S06.find_spec(p:Int):∀(f i j:Nat),i≤j→j≤6142→j-i<2^f→(∀k:Nat,k<i→S06.squash ((k:Int)-3071)<p)→(∀k:Nat,j≤k→k<6142→¬S06.squash ((k:Int)-3071)<p)→S06.Cuts p (S06.find p f i j)
 | 0,i,j,hij,hj,hf,hlo,hhi=>by
   obtain rfl:i=j:=by simp at hf;omega
   refine⟨hj,fun k b=>⟨fun h=> ?_,fun h=>hlo k h⟩⟩;rcases Nat.lt_or_ge k i with a|a
   ·exact a
   ·exact absurd h (hhi k a b)
 | f+1,i,j,hij,hj,hf,hlo,hhi=>by
   unfold S06.find;by_cases d:i<j
   ·rw[if_pos d];have e:2^(f+1)=2*2^f:=by rw[Nat.pow_succ,Nat.mul_comm]
    by_cases c:S06.squash (((i+j)/2:Nat)-3071)<p
    ·rw[if_pos c];refine S06.find_spec p f _ j (by omega) hj (by omega) (fun k b=> ?_) hhi;have:=S06.squash_mono (x:=(k:Int)-3071) (y:=((i+j)/2:Nat)-3071) (by omega);omega
    ·rw[if_neg c];refine S06.find_spec p f i _ (by omega) (by omega) (by omega) hlo (fun k b g=> ?_);have:=S06.squash_mono (x:=((i+j)/2:Nat)-3071) (y:=(k:Int)-3071) (by omega);omega
   ·rw[if_neg d];obtain rfl:i=j:=by omega
    refine⟨hj,fun k b=>⟨fun h=> ?_,fun h=>hlo k h⟩⟩;rcases Nat.lt_or_ge k i with a|a
    ·exact a
    ·exact absurd h (hhi k a b)
theorem S06.spot_cuts(p:Int):S06.Cuts (S06.chance p) (S06.spot p):=S06.find_spec _ 13 0 6142 (by omega) (by omega) (by decide) (fun k a=>by omega) (fun k a b=>by omega)
theorem S06.spot_le(p:Int):S06.spot p≤6142:=(S06.spot_cuts p).1
theorem S06.stretch_bounds(p:Int) : -3071≤S06.stretch p∧S06.stretch p≤3071:=by have:=S06.spot_le p;unfold S06.stretch;omega
end Go.Proofs.YthhgkafloejjiaaGreat
namespace Go.Proofs.YthhgkafloejjiaaGreat
def S13.heavy(x:Int):Bool:=decide (x < -1048576)||decide (1048576<x)
def S13.strong(x:Int):Bool:=decide (x < -3071)||decide (3071<x)
def S13.rows(n:Int):List (List Int)→Int
 | []=>0
 | l::r=>if(l.length:Int)≠n then 6 else if l.any S13.heavy then 2 else S13.rows n r
def S13.check(most n:Int)(L:List (List Int)):Int:=if n<1∨most<n∨L.length<1∨65536<L.length then 6 else S13.rows n L
def S13.usable(most n:Int)(L:List (List Int))(c:Int)(xs:List Int):Int:=
 if S13.check most n L≠0 then S13.check most n L else if c<0∨(L.length:Int)≤c then 7 else if(xs.length:Int)≠n then 6 else if xs.any S13.strong then 2 else 0
def S13.sum:List Int→List Int→Int
 | w::ws,x::xs=>w*x+S13.sum ws xs
 | _,_=>0
end Go.Proofs.YthhgkafloejjiaaGreat
namespace Go.Proofs.YthhgkafloejjiaaGreat
def S09.bound(less other:Int):Int:=if less=0 then 30 else if less=1 then 20 else if less=2 then 12 else if less=3 then 8 else if less=4 then 6 else if less=5 then 5 else other
def S09.allowed(z o:Int):Bool:=decide (max z o≤S09.bound (min z o) (-1))
def S09.fade(n:Int):Int:=if 2<n then 2+(n-2).tdiv 3 else n
def S09.rallowed(z o:Int):Bool:=decide (0≤z∧0≤o∧min z o≤5∧max z o≤S09.bound (min z o) 0)
def S09.is(z o last:Int):Bool:=S09.rallowed z o&&(if z+o=0 then decide (last=0)else(decide (last=0)&&decide (0<z))||(decide (last=1)&&decide (0<o)))
def S09.ok(t o l:Nat):Bool:=S09.is ((t:Int)-o) o l
def S09.cL(t o base:Nat):Nat→Nat
 | 0=>base
 | l+1=>S09.cL t o base l+(if S09.ok t o l then 1 else 0)
def S09.cO(t base:Nat):Nat→Nat
 | 0=>base
 | o+1=>S09.cL t o (S09.cO t base o) 2
def S09.cT:Nat→Nat
 | 0=>0
 | t+1=>S09.cO t (S09.cT t) (t+1)
def S09.cnt(t o l:Nat):Nat:=S09.cL t o (S09.cO t (S09.cT t) o) l
def S09.places:List (Nat×Nat×Nat):=
 (List.range 31).flatMap fun t=>(List.range (t+1)).flatMap fun o=>(List.range 2).filterMap fun l=>if S09.ok t o l then some (t,o,l)else none
def S09.place(s:Nat):Nat×Nat×Nat:=S09.places.getD s (0,0,0)
def S09.found(s:Int):Bool:=decide (0≤s∧s<215)
def S09.hz(s:Int):Int:=if S09.found s then((S09.place s.toNat).1:Int)-(S09.place s.toNat).2.1 else 0
def S09.ho(s:Int):Int:=if S09.found s then(S09.place s.toNat).2.1 else 0
def S09.hl(s:Int):Int:=if S09.found s then(S09.place s.toNat).2.2 else 0
def S09.idx(z o l:Int):Int:=if S09.is z o l then S09.cnt (z+o).toNat o.toNat l.toNat else 0
def S09.z1(z o b:Int):Int:=if b=0 then z+1 else S09.fade z
def S09.o1(z o b:Int):Int:=if b=0 then S09.fade o else o+1
def S09.lim(z o:Int):Int:=S09.bound (min z o) (-1)
def S09.z2(z o b:Int):Int:=min (S09.z1 z o b) (S09.lim (S09.z1 z o b) (S09.o1 z o b))
def S09.o2(z o b:Int):Int:=min (S09.o1 z o b) (S09.lim (S09.z1 z o b) (S09.o1 z o b))
def S09.next(s b:Int):Int:=S09.idx (S09.z2 (S09.hz s) (S09.ho s) b) (S09.o2 (S09.hz s) (S09.ho s) b) b
def S09.allPlaces(p:Nat→Nat→Nat→Bool):Bool:=(List.range 31).all fun t=>(List.range (t+1)).all fun o=>p t o 0&&p t o 1
theorem S09.allPlaces_spec{p:Nat→Nat→Nat→Bool}(h:S09.allPlaces p=true){t o l:Nat}(b:t≤30)(c:o≤t)(a:l<2):p t o l=true:=by
 simp only[S09.allPlaces,List.all_eq_true,List.mem_range,Bool.and_eq_true]at h;have:=h t (by omega) o (by omega);rcases(show l=0∨l=1 by omega)with rfl|rfl
 ·exact this.1
 ·exact this.2
theorem S09.places_at:S09.allPlaces (fun t o l=> !S09.ok t o l||(decide (S09.cnt t o l<215)&&decide (S09.place (S09.cnt t o l)=(t,o,l))))=true:=by decide +kernel
theorem S09.cT_all:S09.cT 31=215:=by decide +kernel
theorem S09.at_place{t o l:Nat}(b:t≤30)(c:o≤t)(a:l<2)(h:S09.ok t o l=true):S09.cnt t o l<215∧S09.place (S09.cnt t o l)=(t,o,l):=by
 have:=S09.allPlaces_spec S09.places_at b c a;simpa[h] using this
def S09.allStates(p:Nat→Bool):Bool:=(List.range 215).all p
theorem S09.allStates_spec{p:Nat→Bool}(h:S09.allStates p=true){s:Nat}(a:s<215):p s=true:=by
 simp only[S09.allStates,List.all_eq_true,List.mem_range]at h;exact h s a
theorem S09.state_place:S09.allStates (fun s=>decide ((S09.place s).1≤30)&&decide ((S09.place s).2.1≤(S09.place s).1)&&decide ((S09.place s).2.2<2)&&S09.ok (S09.place s).1 (S09.place s).2.1 (S09.place s).2.2&&decide (S09.cnt (S09.place s).1 (S09.place s).2.1 (S09.place s).2.2=s))=true:=by decide +kernel
def S09.nextOk(s:Nat)(b:Int):Bool:=S09.is (S09.z2 (S09.hz s) (S09.ho s) b) (S09.o2 (S09.hz s) (S09.ho s) b) b
theorem S09.next_is0:S09.allStates (fun s=>S09.nextOk s 0)=true:=by decide +kernel
theorem S09.next_is1:S09.allStates (fun s=>S09.nextOk s 1)=true:=by decide +kernel
end Go.Proofs.YthhgkafloejjiaaGreat
namespace Go.Proofs.YthhgkafloejjiaaGreat
def S11.bad(x:Int):Bool:=decide (x<0)||decide (65535<x)
def S11.check(xs:List Int):Int:=if xs.length%33≠0∨xs.length<33∨2162688<xs.length then 6 else if xs.any S11.bad then 2 else 0
def S11.usable(xs:List Int)(c p:Int):Int:=if S11.check xs≠0 then S11.check xs else if c<0∨(xs.length/33:Nat)≤c then 7 else if p<1∨4095<p then 2 else 0
def S11.at(p:Int):Nat:=((S06.stretch p+3072)/192).toNat
def S11.from(p:Int):Int:=(S06.stretch p+3072)%192
def S11.mix(a b f:Int):Int:=(a*(192-f)+b*f)/192
def S11.clamp(n:Int):Int:=max 1 (min (n/16) 4095)
def S11.refine(xs:List Int)(c:Nat)(p:Int):Int:=S11.clamp (S11.mix (xs.getD (33*c+S11.at p) 0) (xs.getD (33*c+S11.at p+1) 0) (S11.from p))
def S11.learn(r bit rate share:Int):Int:=r+((65535*bit-r)*rate*share).tdiv 49152
def S11.update(xs:List Int)(c:Nat)(p bit rate:Int):List Int:=
 (xs.set (33*c+S11.at p) (S11.learn (xs.getD (33*c+S11.at p) 0) bit rate (192-S11.from p))).set (33*c+S11.at p+1) (S11.learn (xs.getD (33*c+S11.at p+1) 0) bit rate (S11.from p))
theorem S11.x_bounds(p:Int):1≤S06.stretch p+3072∧S06.stretch p+3072≤6143:=by have:=S06.stretch_bounds p;omega
theorem S11.at_le(p:Int):S11.at p≤31:=by have:=S11.x_bounds p;unfold S11.at;omega
theorem S11.at_int(p:Int):(S06.stretch p+3072)/192=(S11.at p:Int):=by have:=S11.x_bounds p;unfold S11.at;omega
theorem S11.from_bounds(p:Int):0≤S11.from p∧S11.from p≤191:=by unfold S11.from;omega
