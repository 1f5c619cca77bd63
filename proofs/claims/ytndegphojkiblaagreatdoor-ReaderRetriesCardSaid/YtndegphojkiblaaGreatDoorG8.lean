/- A part of the proof. -/
import Derived.Test.YtndegphojkiblaaGreatDoorG7
set_option linter.all false
set_option maxHeartbeats 4000000
set_option maxRecDepth 100000
namespace Go.Proofs.YtndegphojkiblaaGreatDoor
noncomputable section
section
open Go.RowKit
open Classical
abbrev Ren:=List (Nat×Nat)
def Ren.to (ι:Ren) (n:Nat):Nat:=(List.lookup n ι).getD 0
def Ren.old (ι:Ren):List Nat:=ι.map (·.1)
def Ren.new (ι:Ren):List Nat:=ι.map (·.2)
def Ca (st:av) (ι:Ren) (Z:List Nat):C→C→Prop
 |_,.dead=>True
 |c,.p q=>c= .p q∨∃rows,q= .sl rows∧st.view c=some rows∧∀n∈c.names,n∉ι.old
 | .nil,.own n'=>n'∈Z
 | .nil,.sub n' lo len=>n'∈Z∧lo=0∧len=0
 |c,c'=>c'=c.cR ι.to∧∀n∈c.names,n∈ι.old
def BQ (st:av) (ι:Ren) (Z:List Nat):List C→List C→Prop
 |[],[]=>True
 |c::cs,c'::cs'=>Ca st ι Z c c'∧BQ st ι Z cs cs'
 |_,_=>False
def uu (st:av) (ι:Ren) (Z:List Nat):V1→V1→Prop
 |_,.c .dead=>True
 | .c c,.c c'=>Ca st ι Z c c'
 | .agg cs,.agg cs'=>BQ st ι Z cs cs'
 |_,_=>False
def FC (st:av) (ι:Ren) (Z:List Nat):List V1→List V1→Prop
 |[],[]=>True
 |c::cs,c'::cs'=>uu st ι Z c c'∧FC st ι Z cs cs'
 |_,_=>False
def wV (st:av) (ι:Ren) (Z:List Nat):V→V→Prop
 |_,.v (.c .dead)=>True
 | .v x,.v x'=>uu st ι Z x x'
 | .aj xs,.aj xs'=>FC st ι Z xs xs'
 |_,_=>False
def oz (st:av) (ι:Ren) (Z:List Nat):List V→List V→Prop
 |[],[]=>True
 |v::l,v'::l'=>wV st ι Z v v'∧oz st ι Z l l'
 |_,_=>False
def Z3 (st:av) (ι:Ren) (Z:List Nat):dI→dI→Prop
 | .box cs,.box cs'=>BQ st ι Z cs cs'
 | .row e rows,.row e' bF=>e=e'∧rows=bF
 | .map es,.map es'=>es=es'
 |_,_=>False
structure nJ (P:bB) (k0:Nat) (st st':av) (ι:Ren) (Z:List Nat):Prop where
 ar:st'.ar=[]
 old:ι.old.Nodup
 new:ι.new.Nodup
 zs:∀n∈Z,n∉ι.new∧k0≤n∧n<st'.next∧∃e,st'.heap.lookup n=some (.row e [])∧0<P.cellsOf e
 lt:∀x∈ι,x.2<st'.next∧(x.2<k0→x.1=x.2)
 k0:k0≤st'.next
 tmps:oz st ι Z st.tmps st'.tmps
 heap:∀n' b',st'.heap.lookup n'=some b'→n'∈Z∨∃n b,(n,n')∈ι∧st.heap.lookup n=some b∧Z3 st ι Z b b'
theorem aks {ι:Ren} {n} (h:n∈ι.old):∃n',List.lookup n ι=some n'∧(n,n')∈ι:=by
 induction ι with
 |nil=>simp[Ren.old]at h
 |cons x ι ih=>
  grind[Ren.old]
theorem awG {ι:Ren} (hn:ι.old.Nodup) {n a b} (h1:(n,a)∈ι) (h2:(n,b)∈ι):a=b:=by
 induction ι with
 |nil=>cases h1
 |cons x ι ih=>
  simp only[Ren.old,cu,List.nodup_cons]at hn;rcases dL.1 h1 with k1|k1<;>rcases dL.1 h2 with k2|k2
  · grind
  · grind
  · grind
  · exact ih hn.2 k1 k2
theorem awF {ι:Ren} (hn:ι.new.Nodup) {n a b} (h1:(a,n)∈ι) (h2:(b,n)∈ι):a=b:=by
 induction ι with
 |nil=>cases h1
 |cons x ι ih=>
  simp only[Ren.new,cu,List.nodup_cons]at hn;rcases dL.1 h1 with k1|k1<;>rcases dL.1 h2 with k2|k2
  · grind
  · grind
  · grind
  · exact ih hn.2 k1 k2
def Env.le (P:bB) (E:Env) (st':av) (ι:Ren) (Z:List Nat):Env:=
 ⟨fun n'=>if n'∈Z then some ⟨none,0,0,match st'.heap.lookup n' with|some (.row e _)=>P.cellsOf e|_=>0⟩else match ι.find? (fun x=>x.2==n')with|some x=>E.N x.1|none=>none,[]⟩
section
variable {X:Fx} {E:Env} {st st':av} {a:Act} {w:a7} {ι:Ren} {Z:List Nat}
theorem tA {n'} {x} (h:(E.le X.P st' ι Z).N n'=some x):(n'∈Z∧x.g=none)∨(n'∉Z∧∃n,(n,n')∈ι∧E.N n=some x):=by
 simp only[Env.le]at h;grind
theorem Qe (hL:nJ X.P X.k0 st st' ι Z) {n n'} (hn:(n,n')∈ι) {x} (h:E.N n=some x):(E.le X.P st' ι Z).N n'=some x:=by
 simp only[Env.le];rw[aC (fun hz=> (hL.zs n' hz).1 (fe.2 ⟨_,hn,rfl⟩))]
 cases hf:ι.find? (fun x=>x.2==n')with
 |none=>
  grind
 |some y=>
  have h1:=abK hf;have h2:=abL hf;simp at h1;subst h1;have:=awF hL.new hn h2;subst this;exact h
theorem R4 {g} (h:bad X.M (E.le X.P st' ι Z) g):bad X.M E g:=by
 rcases h with h| ⟨n',x,h1,h2⟩
 · exact .inl h
 · rcases tA h1 with⟨_,h3⟩| ⟨_,n,_,h3⟩
   · simp_all
   · exact .inr ⟨n,x,h3,h2⟩
theorem RC.le (h:Rel X E st a w) (hg:st.ar=[]) (hL:nJ X.P X.k0 st st' ι Z) {c c'} {v} (hl:Ca st ι Z c c') (hc:RC X.M E w c v):RC X.M (E.le X.P st' ι Z) w c' v:=by
 have hst:h_ (bad X.M E) (bad X.M (E.le X.P st' ι Z)) w w:=fun g o u h1 h2=> ⟨h1,fun h=>h2 (R4 h)⟩
 have ew:∀n,n∉E.ar:=fun n=>by rw[h.ar,hg];simp
 have key:c'=c.cR ι.to∧(∀n∈c.names,n∈ι.old)→RC X.M (E.le X.P st' ι Z) w c' v:=by
  rintro⟨rfl,hn⟩;refine RC.cR (.inl hst) (fun n h1=> ⟨ew n,fun x hx=> ?_⟩) hc;obtain⟨n',h2,h3⟩:=aks (hn n h1);have:ι.to n=n':=by simp[Ren.to,h2]
  rw[this];exact Qe hL h3 hx
 cases c' with
 |dead=>trivial
 |p q=>
  have hl':c= .p q∨∃rows,q= .sl rows∧st.view c=some rows∧∀n∈c.names,n∉ι.old:=by cases c<;>exact hl
  rcases hl' with rfl| ⟨rows,rfl,hv,hn⟩
  · exact RP.trans hc hst
  · obtain⟨ns,h1,h2⟩:=Xp hv;obtain⟨_,_,h3⟩:=h.sink hc (fun n _=>by rw[hg];simp) h1;refine RP.trans (h3 ns (fun _ h=>h)) (fun g o u k1 k2=> ⟨k1,fun k3=>k2 ?_⟩);rcases k3 with k3| ⟨n',x,k4,k5⟩
    · exact .inl k3
    · rcases tA k4 with⟨_,k6⟩| ⟨_,n,k6,k7⟩
      · simp_all
      · refine .inr ⟨n,x,?_,k5⟩;simp only[Env.drop];rw[aC fun gQ=>hn n (h2 n gQ) (fe.2 ⟨_,k6,rfl⟩)];exact k7
 |own n'=>
  cases c with
  | nil=>
    have hz:n'∈Z:=hl;obtain⟨_,_,_,e,h4,h5⟩:=hL.zs n' hz;refine .inr ⟨⟨none,0,0,X.P.cellsOf e⟩,by simp[Env.le,hz,h4],?_⟩;exact hc
  |_=>exact key hl
 |sub n' lo len=>
  cases c with
  | nil=>
    obtain⟨hz,rfl,rfl⟩:n'∈Z∧lo=0∧len=0:=hl;obtain⟨_,_,_,e,h4,h5⟩:=hL.zs n' hz;exact .inr ⟨⟨none,0,0,X.P.cellsOf e⟩,by simp[Env.le,hz,h4],cn _,none,hc,fun _=>rfl⟩
  |_=>exact key hl
 |_=>cases c<;>exact key hl
theorem Il:∀{cs cs'},BQ st ι Z cs cs'→cs.length=cs'.length∧∀(i:Nat) (c'),cs'[i]? =some c'→∃c,cs[i]? =some c∧Ca st ι Z c c'
 |[],[],_=> ⟨rfl,fun i c' h=>by simp at h⟩
 |c::cs,c'::cs',h=>by
  obtain⟨h1,h2⟩:=Il h.2;refine⟨by simp[h1],fun i x hi=> ?_⟩
  cases i with
  |zero=>simp at hi;subst hi;exact⟨c,rfl,h.1⟩
  |succ i=>simp_all
 |[],_::_,h=>h.elim
 |_::_,[],h=>h.elim
theorem PT:∀{cs cs'},FC st ι Z cs cs'→cs.length=cs'.length∧∀(i:Nat) (c'),cs'[i]? =some c'→∃c,cs[i]? =some c∧uu st ι Z c c'
 |[],[],_=> ⟨rfl,fun i c' h=>by simp at h⟩
 |c::cs,c'::cs',h=>by
  obtain⟨h1,h2⟩:=PT h.2;refine⟨by simp[h1],fun i x hi=> ?_⟩
  cases i with
  |zero=>simp at hi;subst hi;exact⟨c,rfl,h.1⟩
  |succ i=>simp_all
 |[],_::_,h=>h.elim
 |_::_,[],h=>h.elim
theorem LH:∀{cs cs'},oz st ι Z cs cs'→cs.length=cs'.length∧∀(i:Nat) (c'),cs'[i]? =some c'→∃c,cs[i]? =some c∧wV st ι Z c c'
 |[],[],_=> ⟨rfl,fun i c' h=>by simp at h⟩
 |c::cs,c'::cs',h=>by
  obtain⟨h1,h2⟩:=LH h.2;refine⟨by simp[h1],fun i x hi=> ?_⟩
  cases i with
  |zero=>simp at hi;subst hi;exact⟨c,rfl,h.1⟩
  |succ i=>simp_all
 |[],_::_,h=>h.elim
 |_::_,[],h=>h.elim
theorem db.le (h:Rel X E st a w) (hg:st.ar=[]) (hL:nJ X.P X.k0 st st' ι Z) {x x'} {v} (hl:uu st ι Z x x') (hc:db X.M E w x v):db X.M (E.le X.P st' ι Z) w x' v:=by
 unfold uu at hl;split at hl
 · trivial
 · exact RC.le h hg hL hl hc
 · obtain⟨us,h1,h2,h3⟩:=hc;obtain⟨h4,h5⟩:=Il hl;refine⟨us,h1,by rw[h2,h4],fun i c hi=> ?_⟩;obtain⟨c0,h6,h7⟩:=h5 i c hi;obtain⟨u,h8,h9,h10⟩:=h3 i c0 h6;exact⟨u,h8,RC.le h hg hL h7 h9,h10⟩
 · exact hl.elim
theorem RV.le (h:Rel X E st a w) (hg:st.ar=[]) (hL:nJ X.P X.k0 st st' ι Z) {x x'} {v} (hl:wV st ι Z x x') (hc:RV X.M E w x v):RV X.M (E.le X.P st' ι Z) w x' v:=by
 unfold wV at hl;split at hl
 · trivial
 · exact db.le h hg hL hl hc
 · obtain⟨us,h1,h2,h3⟩:=hc;obtain⟨h4,h5⟩:=PT hl;refine⟨us,h1,by rw[h2,h4],fun i c hi=> ?_⟩;obtain⟨c0,h6,h7⟩:=h5 i c hi;obtain⟨u,h8,h9⟩:=h3 i c0 h6;exact⟨u,h8,db.le h hg hL h7 h9⟩
 · exact hl.elim
theorem Rel.le (h:Rel X E st a w) (hg:st.ar=[]) (hL:nJ X.P X.k0 st st' ι Z):Rel X (E.le X.P st' ι Z) st' a w:=by
 have hst:h_ (bad X.M E) (bad X.M (E.le X.P st' ι Z)) w w:=fun g o u h1 h2=> ⟨h1,fun h=>h2 (R4 h)⟩
 exact {
  defers:=h.defers
  ar:=by rw[hL.ar];rfl
  frame:=h.frame
  eB:=h.eB
  cO:=fun n' x hx=>by
   rcases tA hx with⟨h1,_⟩| ⟨_,n,h1,_⟩
   · exact(hL.zs n' h1).2.2.1
   · exact(hL.lt _ h1).1
  names:=fun n' x g hx hgx=>by
   rcases tA hx with⟨_,h1⟩| ⟨_,n,_,h1⟩
   · simp_all
   · exact h.names n x g h1 hgx
  inj:=fun n' m' x y g hx hy hgx Cj=>by
   rcases tA hx with⟨_,h1⟩| ⟨_,n,h0,h1⟩
   · simp_all
   · rcases tA hy with⟨_,h2⟩| ⟨_,m,h3,h2⟩
     · simp_all
     · have:=h.inj n m x y g h1 h2 hgx Cj;subst this;exact awG hL.old h0 h3
  dz :=fun m hm=>by
   cases hx:(E.le X.P st' ι Z).N m with
   |none=>exact .inl rfl
   | some x=>
     right;rcases tA hx with⟨h1,_⟩| ⟨_,n,h0,h1⟩
     · have:=(hL.zs m h1).2.1;omega
     · have:=(hL.lt _ h0).2 hm;simp at this;subst this;rcases h.dz n hm with h2|h2
       · simp_all
       · rw[←h2,h1]
  fq:=hL.k0
  fg:=fun n hn=>by rw[hL.ar]at hn;cases hn
  size:=by rw[h.size,(LH hL.tmps).1]
  tmps:=fun i v' hi=>by
   obtain⟨v,h6,h7⟩:=(LH hL.tmps).2 i v' hi;obtain⟨u,h8,h9⟩:=h.tmps i v h6;exact⟨u,h8,h9.le h hg hL h7⟩
  heap :=fun n' b' hl=>by
   right;rcases hL.heap n' b' hl with hz| ⟨n,b,h1,h2,h3⟩
   · obtain⟨_,_,_,e,h4,h5⟩:=hL.zs n' hz;rw[h4]at hl;cases hl;exact⟨⟨none,0,0,X.P.cellsOf e⟩,#[],(0,0),by simp[Env.le,hz,h4],.inl rfl,fun g hg=> (by cases hg),rfl,cn _,by simp[maxLen],h5,rfl,by simp,fun r hr=>by simp at hr,fun _=>rfl,fun i r j p hi=>by simp at hi⟩
   · have hr:=h.row (by rw[hg];simp) h2;have hN:∀x,E.N n=some x→(E.le X.P st' ι Z).N n'=some x:=fun x hx=>Qe hL h1 hx
     cases b with
     | box cs=>
       cases b' with
       | box cs'=>
         obtain⟨x,g,cur,e,k1,k0,k2,k3,k4⟩:=hr;obtain⟨h4,h5⟩:=Il h3;refine⟨x,g,cur,e,hN x k1,k0,k2,by rw[k3,h4],fun i c' hi=> ?_⟩;obtain⟨c,h6,h7⟩:=h5 i c' hi;obtain⟨u,h8,h9,h10⟩:=k4 i c h6;exact⟨u,h8,RC.le h hg hL h7 h9,h10⟩
       |_=>exact h3.elim
     | row e rows=>
       cases b' with
       | row e' bF=>
         obtain⟨rfl,rfl⟩:=h3;obtain⟨x,cur,fz,h1,bX,h2,h3,h4,h5,h6,h11,h7,h8,h10,h9⟩:=hr;exact⟨x,cur,fz,hN x h1,bX,h2,h3,h4,h5,h6,h11,h7,h8,h10,fun i r j p hi hj=>let⟨u,k1,k2⟩:=h9 i r j p hi hj; ⟨u,k1,k2.trans hst⟩⟩
       |_=>exact h3.elim
     | map es=>
       cases b' with
       | map es'=>
         cases h3;obtain⟨x,g,en,clock,h1,h0,h2,h3⟩:=hr;exact⟨x,g,en,clock,hN x h1,h0,h2,h3.trans hst⟩
       |_=>exact h3.elim}
theorem nJ.le (hg:st.ar=[]) (hL:nJ X.P X.k0 st st' ι Z):Le X st st':=fun _ _ ⟨E,h,_⟩=> ⟨E.le X.P st' ι Z,h.le hg hL,hL.ar⟩
end
def ub (n L:Nat) (c c':C):Prop:=c'= .dead∨(c'=c∧n∉c.names)∨(c= .sub n 0 L∧c'= .own n)
def zW (n L:Nat):V1→V1→Prop
 |_,.c .dead=>True
 | .c c,.c c'=>ub n L c c'
 | .agg cs,.agg cs'=>cs.length=cs'.length∧∀(i:Nat) (c':C),cs'[i]? =some c'→∃c,cs[i]? =some c∧ub n L c c'
 |_,_=>False
def Yi (n L:Nat):V→V→Prop
 |_,.v (.c .dead)=>True
 | .v x,.v x'=>zW n L x x'
 | .aj xs,.aj xs'=>xs.length=xs'.length∧∀(i:Nat) (c':V1),xs'[i]? =some c'→∃c,xs[i]? =some c∧zW n L c c'
 |_,_=>False
def Q_ (n L:Nat):dI→dI→Prop
 | .box cs,.box cs'=>cs.length=cs'.length∧∀(i:Nat) (c':C),cs'[i]? =some c'→∃c,cs[i]? =some c∧ub n L c c'
 | .row e rows,.row e' bF=>e'=e∧bF=rows
 | .map es,.map es'=>es'=es
 |_,_=>False
structure KK (k0:Nat) (st st':av) (n L:Nat) (e:a6) (rows:List (List PV)):Prop where
 k0:k0≤n
 ar:st'.ar=[]
 next:st'.next=st.next
 row:st.heap.lookup n=some (.row e rows)
 told:∃i:Nat,st.tmps[i]? =some (.v (.c (.sub n 0 L)))
 len:st.tmps.length=st'.tmps.length
 tmps:∀(i:Nat) (v':V),st'.tmps[i]? =some v'→∃v,st.tmps[i]? =some v∧Yi n L v v'
 heap:∀m b',st'.heap.lookup m=some b'→(m=n∧b'= .row e (rows.take L))∨(m≠n∧∃b,st.heap.lookup m=some b∧Q_ n L b b')
theorem KK.le {X} {st st'} {n L} {e} {rows} (hg:st.ar=[]) (hC:KK X.k0 st st' n L e rows):Le X st st':=by
 rintro a w ⟨E,h,_⟩;have ew:∀m,m∉E.ar:=fun m=>by rw[h.ar,hg];simp
 obtain⟨x,cur,fz,k1,bX,k2,k3,k4,k5,k6,k7,k8,k9,i_,ly⟩:=h.row (by rw[hg];simp) hC.row;obtain⟨i0,hi0⟩:=hC.told;obtain⟨u0,_,hu0⟩:=h.tmps i0 _ hi0;obtain⟨x',Hr,hL,_⟩:=bO.get (show RC X.M E w (.sub n 0 L) u0 from hu0) (ew n);rw[k1]at Hr;cases Hr
 let E':Env:=⟨fun m=>if m=n then some {x with len:=L}else E.N m,[]⟩
 have hN:∀m y,m≠n→E.N m=some y→E'.N m=some y:=fun m y hm hy=>by grind
 have lG:∀m y,E'.N m=some y→∃z,E.N m=some z∧z.g=y.g:=fun m y hy=>by
  grind
 have iI:∀g,bad X.M E' g→bad X.M E g:=by
  rintro g (h1| ⟨m,y,h1,h2⟩)
  · exact .inl h1
  · obtain⟨z,h3,h4⟩:=lG m y h1;exact .inr ⟨m,z,h3,h4.trans h2⟩
 have hst:h_ (bad X.M E) (bad X.M E') w w:=fun g o u h1 h2=> ⟨h1,fun h=>h2 (iI g h)⟩
 have kb:∀m (Q:Nm→Prop),m≠n→bO E m Q→bO E' m Q:=fun m Q hm hq=>by
  obtain⟨y,h1,h2⟩:=bO.get hq (ew m);exact .inr ⟨y,hN m y hm h1,h2⟩
 have hc:∀c c' v,ub n L c c'→RC X.M E w c v→RC X.M E' w c' v:=by
  rintro c c' v (rfl| ⟨rfl,hn⟩| ⟨rfl,rfl⟩) hv
  · trivial
  · cases c' with
    |p q=>exact RP.trans hv hst
    |nil=>exact hv
    |own m=>exact kb m _ (by simpa[C.names]using fun h:m=n=>hn (by simp[C.names,h])) hv
    |sub m lo len=>exact kb m _ (by simpa[C.names]using fun h:m=n=>hn (by simp[C.names,h])) hv
    |ptr m off=>exact kb m _ (by simpa[C.names]using fun h:m=n=>hn (by simp[C.names,h])) hv
    |cE m i j=>exact kb m _ (by simpa[C.names]using fun h:m=n=>hn (by simp[C.names,h])) hv
    | ref cells=>
      obtain⟨g,o,h1,h2⟩:=hv;refine⟨g,o,h1,fun j p hj=> ?_⟩;obtain⟨u,h3,h4,h5⟩:=h2 j p hj;exact⟨u,h3,fun h=>h4 (iI g h),RP.trans h5 hst⟩
    | fn f cN=>
      obtain⟨us,h1,h2,h3⟩:=hv;refine⟨us,h1,h2,fun i m hi=> ?_⟩;obtain⟨u,h4,h5⟩:=h3 i m hi;exact⟨u,h4,kb m _ (fun hm=>hn (by subst hm;exact dn hi)) h5⟩
    |mp m=>exact kb m _ (by simpa[C.names]using fun h:m=n=>hn (by simp[C.names,h])) hv
    |dead=>trivial
  · obtain⟨y,h1,_,A,h3,h4⟩:=bO.get (show RC X.M E w (.sub n 0 L) v from hv) (ew n);rw[k1]at h1;cases h1;have hA:=h4 (.inr rfl);simp only[Nat.zero_mul,Nat.sub_zero]at hA h3;exact .inr ⟨{x with len:=L},by simp[E'],by rw[h3,hA]⟩
 have s_:∀y y' v,zW n L y y'→db X.M E w y v→db X.M E' w y' v:=by
  intro y y' v hy hv
  cases y' with
  | c c'=>
    cases y with
    | c c=>
      have:c'= .dead∨ub n L c c':=by cases c'<;>first|exact .inl rfl|exact .inr hy
      rcases this with rfl|hy
      · trivial
      · exact hc c c' v hy hv
    |agg=>cases c'<;>first|trivial|exact hy.elim
  | agg cs'=>
    cases y with
    |c=>exact hy.elim
    | agg cs=>
      obtain⟨us,rfl,h2,h3⟩:=hv;refine⟨us,rfl,h2.trans hy.1,fun i c' hi=> ?_⟩;obtain⟨c,h4,h5⟩:=hy.2 i c' hi;grind
 refine⟨E',?_,hC.ar⟩;exact{
  defers:=h.defers
  ar:=by rw[hC.ar]
  frame:=h.frame
  eB:=h.eB
  cO:=fun m y hy=>by
    obtain⟨z,h1,_⟩:=lG m y hy;rw[hC.next];exact h.cO m z h1
  names:=fun m y g hy yS=>by
    obtain⟨z,h1,h2⟩:=lG m y hy;exact h.names m z g h1 (h2.trans yS)
  inj:=fun m m' y y' g hy hy' hg hg'=>by
    obtain⟨z,h1,h2⟩:=lG m y hy;obtain⟨z',h3,h4⟩:=lG m' y' hy';exact h.inj m m' z z' g h1 h3 (h2.trans hg) (h4.trans hg')
  dz:=fun m hm=>by
    have:m≠n:=by have:=hC.k0;omega
    simp only[E',aC this];exact h.dz m hm
  fq:=by rw[hC.next];exact h.fq
  fg:=fun m hm=>by rw[hC.ar]at hm;cases hm
  size:=by rw[h.size,hC.len]
  tmps := fun i v' hi=>by
    obtain⟨v,h1,h2⟩:=hC.tmps i v' hi;obtain⟨u,h3,h4⟩:=h.tmps i v h1;refine⟨u,h3,?_⟩
    cases v' with
    | v y'=>
      cases v with
      | v y=>
        have:y'= .c .dead∨zW n L y y':=by
          cases y' with
          |c c'=>cases c'<;>first|exact .inl rfl|exact .inr h2
          |agg=>exact .inr h2
        rcases this with rfl|h2
        · trivial
        · exact s_ y y' u h2 h4
      | aj=>
        cases y' with
        |c c'=>cases c'<;>first|trivial|exact h2.elim
        |agg=>exact h2.elim
    | aj xs'=>
      cases v with
      |v=>exact h2.elim
      | aj xs=>
        obtain⟨us,rfl,h5,h6⟩:=h4;refine⟨us,rfl,h5.trans h2.1,fun j c' hj=> ?_⟩;obtain⟨c,h7,h8⟩:=h2.2 j c' hj;grind
  heap := fun m b' hb=>by
    right;rcases hC.heap m b' hb with⟨rfl,rfl⟩| ⟨hm,b,h1,h2⟩
    · exact⟨{x with len:=L},cur,fz,by simp[E'],bX,k2,by simp;omega,by simp only;omega,k5,k6,k7,k8,fun r hr=>k9 r (mf hr),i_,fun i r j p hi hj=>by
        obtain⟨u,q1,q2⟩:=ly i r j p (DC hi).1 hj;exact⟨u,q1,q2.trans hst⟩⟩
    · have hr:=h.row (by rw[hg];simp) h1
      cases b with
      | box cs=>
        cases b' with
        | box cs'=>
          obtain⟨y,g,cur',e',j1,j2,j3,j4,j5⟩:=hr;refine⟨y,g,cur',e',hN m y hm j1,j2,j3,j4.trans h2.1,fun i c' hi=> ?_⟩;obtain⟨c,q1,q2⟩:=h2.2 i c' hi;grind
        |_=>exact h2.elim
      | row e0 yW=>
        cases b' with
        | row e' bF=>
          obtain⟨rfl,rfl⟩:=h2;obtain⟨y,cur',yZ,j1,jf,j2,j3,j4,j5,j6,j7,j8,j9,vL,Cq⟩:=hr;exact⟨y,cur',yZ,hN m y hm j1,jf,j2,j3,j4,j5,j6,j7,j8,j9,vL,fun i r j p hi hj=>let⟨u,q1,q2⟩:=Cq i r j p hi hj; ⟨u,q1,q2.trans hst⟩⟩
        |_=>exact h2.elim
      | map es=>
        cases b' with
        | map es'=>
          obtain⟨y,g,en,clock,j1,j2,j3,j4⟩:=hr;exact⟨y,g,en,clock,hN m y hm j1,j2,j3,h2▸j4.trans hst⟩
        |_=>exact h2.elim}
def V.one:V→Option V1
 | .v x=>some x
 | .aj _=>none
def nD (P:bB) (st:av):ResultVar→Option V1
 | .tmp t=> (st.tmps[t]?).bind V.one
 | .cell t ty=>match st.tmps[t]? with
  |some (.v (.c (.ptr n off)))=>match st.heap.lookup n with
   |some (.box cs)=> (kO P ty (cs.drop off)).bind V.one
   |_=>none
  |_=>none
def aqu:List V1→V
 |[x]=> .v x
 |xs=> .aj xs
def sf (P:bB) (rs:List ResultVar) (st:av):Option V:=(rs.mapM (nD P st)).map aqu
theorem Z6 {v:V} {x} (h:v.one=some x):v= .v x:=by cases v<;>simp[V.one]at h;subst h;rfl
def zw (tmps:Array bh):ResultVar→Sem bh
 | .tmp t=>Pure.pure (tmps.getD t undef)
 | .cell t ty=>do loadVar ty (←asAddr (tmps.getD t undef))
theorem akF (fn) (tmps):results fn tmps=(do let vs←fn.results.mapM (zw tmps);Pure.pure (if h:vs.size=1 then vs[0]else .tuple vs)):=by
 rfl
section
variable {X:Fx} {E:Env} {st:av} {a:Act} {w:a7}
theorem awH (h:Rel X E st a w) (hg:st.ar=[]) {rv} {x} (hr:nD X.P st rv=some x):
  ∃u,(zw a.tmps rv).run X.P w= .ok u w∧db X.M E w x u:=by
 cases rv with
 |tmp t=>
  simp only[nD,iu]at hr;obtain⟨v,h1,h2⟩:=hr;have:=Z6 h2;subst this;obtain⟨u,h3,h4⟩:=h.tmps t _ h1;exact⟨u,by simp_all[zw],h4⟩
 |cell t ty=>
  simp only[nD]at hr;split at hr
  · rename_i n off ht;obtain⟨u,h3,vR⟩:=h.tmps t _ ht;obtain⟨x',h4,g,h5,h6⟩:=bO.get vR (by rw[h.ar,hg];simp);subst h6;split at hr
    · rename_i cs hl;simp only[iu]at hr;obtain⟨v,h6,h7⟩:=hr;have:=Z6 h7;subst this;obtain⟨x2,g',cur,e,k3,k0,k4,k5,k6⟩:=h.row (by rw[hg];simp) hl;rw[h4]at k3;cases k3;rw[h5]at k0;cases k0;obtain⟨u,h8,h9⟩:=Dq (P:=X.P) (M:=X.M) (E:=E) (w:=w) (g:=g) (o:=off) h6 (fun j c hj=>by
       rw[wi]at hj;obtain⟨u,j1,j2,j3⟩:=k6 _ c hj;exact⟨u,by rw[cell_of_row w g _ cur e (0,0) k4];exact j1,j2,j3⟩)
      refine⟨u,?_,h9⟩;simp[zw,wg,h3,asAddr,h8]
    · cases hr
  · cases hr
theorem TJ (h:Rel X E st a w) (hg:st.ar=[]):∀(l:List ResultVar) {xs},l.mapM (nD X.P st)=some xs→
  ∃us,(l.mapM (zw a.tmps)).run X.P w= .ok us w∧
   us.length=xs.length∧∀(i:Nat) (x),xs[i]? =some x→∃u,us[i]? =some u∧db X.M E w x u
 |[],xs,hx=>by simp_all
 | rv::l,xs,hx=>by
  cases h1:nD X.P st rv with
  |none=>simp[h1]at hx
  | some x=>
   cases h2:l.mapM (nD X.P st)with
   |none=>simp[h1,h2]at hx
   |some ys=>
    simp[h1,h2]at hx;subst hx;obtain⟨u,h3,h4⟩:=awH h hg h1;obtain⟨us,h5,h6,h7⟩:=TJ h hg l h2;refine⟨u::us,?_,by simp[h6],fun i y hi=> ?_⟩
    · simp_all
    grind
theorem UU (h:Rel X E st a w) (hg:st.ar=[]) {fn} {r} (hr:sf X.P fn.results.toList st=some r):∃u,(results fn a.tmps).run X.P w= .ok u w∧RV X.M E w r u:=by
 unfold sf at hr;simp only[aT]at hr;obtain⟨xs,h1,rfl⟩:=hr;obtain⟨us,h2,h3,h4⟩:=TJ h hg _ h1;refine⟨if hh:us.toArray.size=1 then us.toArray[0]else .tuple us.toArray,?_,?_⟩
 · simp_all[akF,Array.mapM_eq_mapM_toList]
 · cases xs with
   |nil=>
    have:us=[]:=ni (by simpa using h3);subst this;exact⟨#[],by simp,rfl,by simp⟩
   | cons x ys=>
    cases ys with
    | nil=>
     obtain⟨u,h5,h6⟩:=h4 0 x rfl
     cases us with
     |nil=>simp at h3
     |cons u' pE=>
      have:pE=[]:=ni (by simpa using h3);subst this;simp at h5;subst h5;show db X.M E w x _;simpa using h6
    |cons y zs=>
     have:us.length≠1:=by rw[h3];simp
     refine⟨us.toArray,by simp[this],by simp[h3],fun i z hi=> ?_⟩;simp_all
end
def MB (P:bB) (rs:List ResultVar) (r:V) (H':Hp) (e:Exit) (st:av):Prop:=
 (match e with| .normal=>True| .ret=>True|_=>False)∧sf P rs st=some r∧∀n b,H'.lookup n=some b→st.heap.lookup n=some b
def nR (n:Nat) (args:List V1) (H:List dI):av:=⟨args.map V.v++List.replicate (n-args.length) (.aj []),hp H,[],H.length⟩
theorem eJ.intro {P} {f} {fn} {c} (hf:P.funcs[f]? =some fn) (hname:(fn.name== "runtime.NumGoroutine")=false) (hb:fn.body=some c) {n} (hn:fn.ntmps=n) {rs} (lE:fn.results=rs.toArray) {args} {H} {r} {H'}
  (h:∀X:Fx,X.P=P→X.k0=H.length→Aw X c (MB P rs r H') (nR n args H)):eJ P f args H r H' where
 own:=⟨fn,hf,hname,by rw[hb];rfl⟩
 call :=fun w M N vals hM pI lD lG hH hsz hv=>by
  subst hn;have Ox:rs=fn.results.toList:=by rw[lE]
  subst Ox
  let X:Fx:=⟨P,M,fun g=>∃n x,N n=some x∧x.g=some g,w,N,H.length,[]⟩
  refine calls_of_wp hf hb (wp_mono (h X rfl rfl _ w ?_) ?_)
  · refine⟨⟨N,[]⟩,?_,rfl⟩;exact {
     defers:=rfl
     ar:=rfl
     frame:=Frame.refl _ _
     eB:=hM
     cO:=pI
     names:=fun n x g h1 h2=> ⟨(lD n x g h1 h2).1,.inl ⟨n,x,h1,h2⟩,(lD n x g h1 h2).2⟩
     inj:=lG
     dz:=fun _ _=> .inr rfl
     fq:=cn _
     fg:=fun n hn=>by cases hn
     size:=by simp[nR,hsz]
     tmps :=fun i v hi=>by
      simp only[nR]at hi;rw[mg]at hi;simp only[aA]at hi;split at hi
      · rename_i hlt;simp only[bV,aT]at hi;obtain⟨x,hx,rfl⟩:=hi;obtain⟨u,h1,h2⟩:=hv i x hx;exact⟨u,by grind,h2⟩
      · rename_i hlt;rw[Pw]at hi;split at hi
        · rename_i vS;simp at hi;subst hi;exact⟨undef,by grind,KI _ _ _⟩
        · cases hi
     heap:=fun n b hl=>by
      simp only[nR,VE]at hl;grind}
  · rintro e a' w' ⟨st',⟨he,hr,Oy⟩,E,hR,hg⟩;obtain⟨u,h1,h2⟩:=UU (X:=X) hR hg hr;have hback:xO N H.length w w' E:={
     ar:=hR.ar.trans hg
     names:=fun n x g k1 k2=>by
      obtain⟨k3,k4,_⟩:=hR.names n x g k1 k2;grind
     inj:=hR.inj
     dz:=hR.dz}
    have Hw:∀n b,H'.lookup n=some b→RB P M E w' n b:=fun n b hl=>hR.row (by rw[hg];simp) (Oy n b hl)
    cases e with
    |normal=>exact⟨hR.defers,u,h1,u,E,rfl,hR.frame,hback,Hw,h2⟩
    |ret=>exact⟨hR.defers,u,h1,u,E,rfl,hR.frame,hback,Hw,h2⟩
    |exit=>exact he.elim
    |goto=>exact he.elim
    |panic=>exact he.elim
    |outgrown=>exact he.elim
end
section
open Go.RowKit
inductive Kd where
 |int (k:dZ)|bool|str|sl|ptr|mp|fn|Ii
deriving DecidableEq,Repr,Inhabited
inductive L where
 |i (n:Int)|b (t:Bool)|s (x:fo)|r (rows:List (List PV))|c (cells:List PV)
deriving Inhabited
def L.ah:L→Int| .i n=>n|_=>0
def L.bx:L→Bool| .b t=>t|_=>false
def L.eQ:L→fo| .s x=>x|_=>ByteArray.empty
def L.az:L→List (List PV)| .r x=>x|_=> []
def L.jk:L→List PV| .c x=>x|_=> []
inductive At where
 |v (n:Nat)|i (n:Int)|b (t:Bool)|s (x:fo)|r0
deriving Inhabited
def At.ev (ρ:List L):At→L
 | .v n=> (ρ[n]?).getD (.b false)
 | .i n=> .i n
 | .b t=> .b t
 | .s x=> .s x
 | .r0=> .r []
def Kd.pv (k:Kd) (l:L):PV:=match k with
 | .int k=> .sc (.int k l.ah)
 | .bool=> .sc (.bool l.bx)
 | .str=> .sc (.string l.eQ)
 | .sl=> .sl l.az
 | .ptr=> .sc (.pointer none)
 | .mp=> .sc (.map none)
 | .fn=> .sc .nilFunc
 | .Ii=> .sc .nilIface
def Kd.of (k:Kd) (q:PV):Option L:=match k,q with
 | .int k,.sc (.int k' n)=>if k=k' then some (.i n)else none
 | .bool,.sc (.bool t)=>some (.b t)
 | .str,.sc (.string x)=>some (.s x)
 | .sl,.sl rows=>some (.r rows)
 |_,_=>none
theorem Kd.Gb {k:Kd} {q} {l} (h:k.of q=some l):k.pv l=q:=by
 unfold Kd.of at h;split at h
 · split at h
   · rename_i hk;subst hk;cases h;rfl
   · cases h
 all_goals first| (cases h;rfl)|cases h
inductive SC where
 |p (k:Kd) (x:At)
 |nil
 |own (n:Nat)
 |sub (n:Nat) (lo len:At)
 |ptr (n off:Nat)
 |gy (n off bS m:Nat) (i:At)
 |cE (n:Nat) (i:At) (j:Nat)
 |ref (x:At) (j:Nat)
 |fn (f:FuncId) (cN:List Nat)
 |mp (n:Nat)
 |dead
deriving Inhabited
def SC.aa (ρ:List L):SC→C
 | .p k x=> .p (k.pv (x.ev ρ))
 | .nil=> .nil
 | .own n=> .own n
 | .sub n lo len=> .sub n (lo.ev ρ).ah.toNat (len.ev ρ).ah.toNat
 | .ptr n off=> .ptr n off
 | .gy n off _ m i=> .ptr n (off+(i.ev ρ).ah.toNat*m)
 | .cE n i j=> .cE n (i.ev ρ).ah.toNat j
 | .ref x j=> .ref ((x.ev ρ).jk.drop j)
 | .fn f cN=> .fn f cN
 | .mp n=> .mp n
 | .dead=> .dead
inductive aF where
 |c (c:SC)
 |agg (cs:List SC)
deriving Inhabited
inductive SV where
 |v (x:aF)
 |aj (xs:List aF)
deriving Inhabited
inductive SB where
 |box (cs:List SC)
 |row (e:a6) (x:At)
 |map (x:At)
deriving Inhabited
def aF.aa (ρ:List L):aF→V1
 | .c y=> .c (y.aa ρ)
 | .agg cs=> .agg (cs.map (SC.aa ρ))
def SV.aa (ρ:List L):SV→V
 | .v x=> .v (x.aa ρ)
 | .aj xs=> .aj (xs.map (aF.aa ρ))
def SB.aa (ρ:List L):SB→dI
 | .box cs=> .box (cs.map (SC.aa ρ))
 | .row e x=> .row e (x.ev ρ).az
 | .map x=> .map (x.ev ρ).az
abbrev bY:=List (Nat×SB)
def bY.aa (ρ:List L) (h:bY):Hp:=h.map fun x=> (x.1,x.2.aa ρ)
structure fL where
 cj:bY
 ar:List Nat
def fL.aa (ρ:List L) (e:fL):g_:=⟨e.cj.aa ρ,e.ar⟩
structure af where
 tmps:List SV
 heap:bY
 ar:List Nat
 next:Nat
 nv:Nat
deriving Inhabited
def af.aa (ρ:List L) (S:af):av:=⟨S.tmps.map (SV.aa ρ),S.heap.aa ρ,S.ar,S.next⟩
theorem bY.ED (ρ) (h:bY) (n):List.lookup n (h.aa ρ)=(List.lookup n h).map (SB.aa ρ):=by
 induction h with
 |nil=>rfl
 |cons x h ih=>
  obtain⟨k,b⟩:=x;simp only[bY.aa,cu,gW]at ih⊢;split
  · rfl
  · exact ih
def SC.names:SC→List Nat
 | .own n=> [n]| .sub n _ _=> [n]| .ptr n _=> [n]| .gy n _ _ _ _=> [n]| .cE n _ _=> [n]| .mp n=> [n]| .fn _ cN=>cN|_=> []
def aF.names:aF→List Nat
 | .c x=>x.names
 | .agg xs=>xs.flatMap SC.names
def SV.names:SV→List Nat
 | .v x=>x.names
 | .aj xs=>xs.flatMap aF.names
def SB.names:SB→List Nat
 | .box cs=>cs.flatMap SC.names
 |_=> []
theorem SC.ng (ρ) (c:SC):(c.aa ρ).names=c.names:=by cases c<;>rfl
theorem SC.VY (ρ) (cs:List SC):(cs.map (SC.aa ρ)).flatMap C.names=cs.flatMap SC.names:=by
 induction cs with
 |nil=>rfl
 |cons c cs ih=>simp only[cu,List.flatMap_cons,SC.ng,ih]
theorem aF.ng (ρ) (x:aF):(x.aa ρ).names=x.names:=by
 cases x with
 |c c=>exact SC.ng ρ c
 |agg cs=>exact SC.VY ρ cs
theorem SV.ng (ρ) (x:SV):(x.aa ρ).names=x.names:=by
 cases x with
 |v x=>exact aF.ng ρ x
 |aj xs=>
  show(xs.map (aF.aa ρ)).flatMap V1.names=xs.flatMap aF.names
  induction xs with
  |nil=>rfl
  |cons c cs ih=>simp only[cu,List.flatMap_cons,aF.ng,ih]
def SC.nw:SC→Bool
 | .dead=>true
 |_=>false
def SV.nw:SV→Bool
 | .v (.c c)=>c.nw
 |_=>false
def SV.live (ar:List Nat) (v:SV):Bool:= !v.nw&&v.names.all fun n=> !ar.contains n
theorem SV.YG (ρ) (g) (x:SV):(x.aa ρ).live g=x.live g:=by
 unfold V.live SV.live;rw[SV.ng]
 cases x with
 |v x=>
  cases x with
  |c c=>cases c<;>rfl
  |agg=>rfl
 |aj=>rfl
def Kk:bh→SC
 | .slice none 0 0=> .nil
 | .int k n=> .p (.int k) (.i n)
 | .bool t=> .p .bool (.b t)
 | .string x=> .p .str (.s x)
 | .pointer none=> .p .ptr .r0
 | .map none=> .p .mp .r0
 | .nilFunc=> .p .fn .r0
 | .nilIface=> .p .Ii .r0
 |_=> .dead
def vC:bh→Bool
 | .slice none 0 0=>true
 | .int _ _=>true| .bool _=>true| .string _=>true| .pointer none=>true| .map none=>true| .nilFunc=>true| .nilIface=>true
 |_=>false
theorem asX (ρ) {v} (h:vC v=true):(Kk v).aa ρ=lb v:=by
 unfold vC at h;split at h<;>first|rfl|cases h
def G5:bh→Option aF
 | .agg us=>if us.toList.all vC then some (.agg (us.toList.map Kk))else none
 | .func (.func f) first captured=>if first.size=0∧captured.size=0 then some (.c (.fn f []))else none
 |v=>if vC v then some (.c (Kk v))else none
theorem afb {v} (h:vC v=true):v.oneCell'=true:=by
 unfold vC at h;split at h<;>first|rfl|cases h
theorem amd (ρ) {v} {x} (h:G5 v=some x):x.aa ρ=ofValue v:=by
 unfold G5 at h;split at h
 · split at h
   · rename_i hall;cases h;simp only[bC]at hall;simp only[aF.aa,ofValue];rw[ay (by simp only[bC];exact fun u hu=>afb (hall u hu))];simp only[gd];congr 1;apply fK;intro u hu;exact asX ρ (hall u hu)
   · cases h
 · split at h
   · rename_i hc;cases h;simp only[ofValue,ay hc];rfl
   · cases h
 · split at h
   · rename_i hk;cases h;unfold vC at hk;split at hk<;>first|rfl|cases hk
   · cases h
def af.arg (S:af):bD→Option SV
 | .tmp t=>match S.tmps[t]? with
  |some x=>if x.live S.ar then some x else none
  |none=>none
 | .const v=>match G5 v with
  |some x=>if(SV.v x).live S.ar then some (.v x)else none
  |none=>none
 | .func f=>some (.v (.c (.fn f [])))
 | .global _=>none
theorem af.bH (ρ) {S:af} {x} {v} (h:S.arg x=some v):(S.aa ρ).arg x=some (v.aa ρ):=by
 cases x with
 |tmp t=>
  simp only[af.arg]at h;split at h
  · rename_i y hy;split at h
    · rename_i hl;cases h;simp only[av.arg,af.aa,bV,hy,aV,SV.YG,hl,if_true]
    · cases h
  · cases h
 |const u=>
  simp only[af.arg]at h;split at h
  · rename_i y hy;split at h
    · rename_i hl;cases h;have h1:=amd ρ hy;have h2:=SV.YG ρ S.ar (.v y);simp only[SV.aa,h1,hl]at h2;simp only[av.arg,SV.aa,h1];exact ay h2
    · cases h
  · cases h
 |func f=>cases h;rfl
 |global=>cases h
def cU (op:BinOp) (k:dZ) (a b:Int):Option L:=match op with
 | .add=>some (.i (k.wrap (a+b)))
 | .sub=>some (.i (k.wrap (a-b)))
 | .mul=>some (.i (k.wrap (a*b)))
 | .quo=>if b≠0 then some (.i (k.wrap (a.tdiv b)))else none
 | .rem=>if b≠0 then some (.i (a.tmod b))else none
 | .and=>some (.i (k.wrap (BitVec.ofInt k.bits a&&&BitVec.ofInt k.bits b).toNat))
 | .or=>some (.i (k.wrap (BitVec.ofInt k.bits a|||BitVec.ofInt k.bits b).toNat))
 | .xor=>some (.i (k.wrap (BitVec.ofInt k.bits a^^^BitVec.ofInt k.bits b).toNat))
 | .andNot=>some (.i (k.wrap (BitVec.ofInt k.bits a&&& ~~~ BitVec.ofInt k.bits b).toNat))
 | .shl=>if 0≤b then some (.i (k.wrap (a*2^ (min b.toNat k.bits))))else none
 | .shr=>if 0≤b then some (.i (a.fdiv (2^ (min b.toNat k.bits))))else none
 | .eql=>some (.b (decide (a=b)))
 | .neq=>some (.b (decide (a≠b)))
 | .lss=>some (.b (decide (a<b)))
 | .leq=>some (.b (decide (a≤b)))
 | .gtr=>some (.b (decide (b<a)))
 | .geq=>some (.b (decide (b≤a)))
def Aq (op:BinOp) (a b:fo):Option L:=match op with
 | .add=>if((a.size+b.size:Nat):Int)≤9223372036854775807 then some (.s (a++b))else none
 | .eql=>some (.b (a.toList==b.toList))
 | .neq=>some (.b (!(a.toList==b.toList)))
 | .lss=>some (.b (Op.bytesLess a.toList b.toList))
 | .leq=>some (.b (Op.bytesLess a.toList b.toList||a.toList==b.toList))
 | .gtr=>some (.b (!(Op.bytesLess a.toList b.toList||a.toList==b.toList)))
 | .geq=>some (.b (!(Op.bytesLess a.toList b.toList)))
 |_=>none
def mF (op:BinOp) (a b:Bool):Option L:=match op with
 | .eql=>some (.b (a==b))
 | .neq=>some (.b (!(a==b)))
 | .and=>some (.b (a&&b))
 |_=>none
def lO:BinOp→Bool
 | .eql| .neq| .lss| .leq| .gtr| .geq=>true
 |_=>false
def Mu:BinOp→Bool
 | .shl| .shr=>true
 |_=>false
def TI (op:UnOp) (k:dZ) (n:Int):Option L:=match op with
 | .neg=>some (.i (k.wrap (0-n)))
 | .xor=>some (.i (k.wrap (BitVec.ofInt k.bits (if k.signed then-1 else k.max) ^^^BitVec.ofInt k.bits n).toNat))
 |_=>none
inductive Nd where
 |bi (op:BinOp) (k:dZ) (x y:At)
 |bs (op:BinOp) (x y:At)
 |bb (op:BinOp) (x y:At)
 |not (x:At)
 |un (op:UnOp) (k:dZ) (x:At)
 |conv (k:dZ) (x:At)
 |len (x:At)
 |qk (x:At)
 |row (x i:At) (size:Nat)
 |jS (x lo len i:At) (size:Nat)
 |rc (x i:At) (j:Nat) (k:Kd)
 |cl (x:At) (j:Nat) (k:Kd)
 |dD (i:At) (bS:Nat)
 |fH (xs:List At) (i:At)
 |cj (x i:At) (k:Nat) (y:At)
 |part (x lo hi:At) (size:Nat)
 |cut (x lo hi:At) (size:Nat)
 |Eu (x l0 len lo hi:At) (size:Nat)
 |vw (x lo len:At)
 |tk (x len:At)
 |app (x y:At) (n b:Nat)
 |set (x i:At) (j:Nat) (ps:List (Kd×At))
 |lit (rows:List (List (Kd×At)))
 |ix (n:At) (ps:List (Kd×At)) (b:Nat)
 |Hb (x y:At) (size:Nat)
 |uJ (x lo len y:At) (size:Nat)
 |ym (x len y:At) (size:Nat)
 |str (x:At)
 |AU (x i:At)
 |I6 (x lo hi:At)
 |mn (x y:At)
 |mx (x y:At)
 |call (tag:Nat) (F:List L→Option (List L)) (args:List At) (n:Nat) (bs:List Nat)
deriving Inhabited
def sr (size:Nat) (rows:List (List PV)):Bool:=match rows with
 |[]=>true
 |r::_=>r.length==size
def cb (ρ:List L) (ps:List (Kd×At)):List PV:=ps.map fun x=>x.1.pv (x.2.ev ρ)
def Nd.ev (ρ:List L):Nd→Option (List L)
 | .bi op k x y=> (cU op k (x.ev ρ).ah (y.ev ρ).ah).map ([·])
 | .bs op x y=> (Aq op (x.ev ρ).eQ (y.ev ρ).eQ).map ([·])
 | .bb op x y=> (mF op (x.ev ρ).bx (y.ev ρ).bx).map ([·])
 | .not x=>some [.b (!(x.ev ρ).bx)]
 | .un op k x=> (TI op k (x.ev ρ).ah).map ([·])
 | .conv k x=>some [.i (k.wrap (x.ev ρ).ah)]
 | .len x=>some [.i (x.ev ρ).az.length]
 | .qk x=>some [.i (x.ev ρ).eQ.size]
 | .row x i size=>if 0≤(i.ev ρ).ah then match(x.ev ρ).az[(i.ev ρ).ah.toNat]? with
  |some r=>if r.length=size then some [.c r]else none
  |none=>none
  else none
 | .jS x lo ln i size=>if 0≤(i.ev ρ).ah then match(x.ev ρ).az[(lo.ev ρ).ah.toNat+(i.ev ρ).ah.toNat]? with
  |some r=>if r.length=size∧(i.ev ρ).ah.toNat< (ln.ev ρ).ah.toNat then some [.i (((lo.ev ρ).ah.toNat+(i.ev ρ).ah.toNat:Nat):Int)]else none
  |none=>none
  else none
 | .rc x i j k=>match(x.ev ρ).az[(i.ev ρ).ah.toNat]? with
  |some r=>match r[j]? with
   |some q=> (k.of q).map ([·])
   |none=>none
  |none=>none
 | .cl x j k=>match(x.ev ρ).jk[j]? with
  |some q=> (k.of q).map ([·])
  |none=>none
 | .dD i bS=>if 0≤(i.ev ρ).ah∧(i.ev ρ).ah<bS then some []else none
 | .fH xs i=>match xs[(i.ev ρ).ah.toNat]? with
  |some x=>some [x.ev ρ]
  |none=>none
 | .cj x i k y=>some [if(i.ev ρ).ah.toNat=k then y.ev ρ else x.ev ρ]
 | .part x lo hi size=>if 0≤(lo.ev ρ).ah∧(lo.ev ρ).ah≤(hi.ev ρ).ah∧(hi.ev ρ).ah.toNat≤(x.ev ρ).az.length∧bu size (x.ev ρ).az=true then some [.r (((x.ev ρ).az.take (hi.ev ρ).ah.toNat).drop (lo.ev ρ).ah.toNat)]else none
 | .cut x lo hi size=>if 0≤(lo.ev ρ).ah∧(lo.ev ρ).ah≤(hi.ev ρ).ah∧(hi.ev ρ).ah.toNat≤(x.ev ρ).az.length∧sr size (x.ev ρ).az=true then some [.i (((hi.ev ρ).ah.toNat- (lo.ev ρ).ah.toNat:Nat):Int)]else none
 | .Eu x l0 ln lo hi size=>if 0≤(lo.ev ρ).ah∧(lo.ev ρ).ah≤(hi.ev ρ).ah∧(hi.ev ρ).ah.toNat≤(ln.ev ρ).ah.toNat∧sr size (x.ev ρ).az=true then some [.i (((l0.ev ρ).ah.toNat+(lo.ev ρ).ah.toNat:Nat):Int),.i (((hi.ev ρ).ah.toNat- (lo.ev ρ).ah.toNat:Nat):Int)]else none
 | .vw x lo ln=>some [.r (((x.ev ρ).az.drop (lo.ev ρ).ah.toNat).take (ln.ev ρ).ah.toNat)]
 | .tk x ln=>some [.r ((x.ev ρ).az.take (ln.ev ρ).ah.toNat)]
 | .app x y n b=>if(x.ev ρ).az.length+(y.ev ρ).az.length≤9223372036854775807∧((x.ev ρ).az.length+(y.ev ρ).az.length)*b≤140737488355328∧bu n (x.ev ρ).az=true∧bu n (y.ev ρ).az=true then some [.r ((x.ev ρ).az++(y.ev ρ).az)]else none
 | .set x i j ps=>match(x.ev ρ).az[(i.ev ρ).ah.toNat]? with
  |some r=>if j+ps.length≤r.length then some [.r ((x.ev ρ).az.set (i.ev ρ).ah.toNat (r.take j++cb ρ ps++r.drop (j+ps.length)))]else none
  |none=>none
 | .lit rows=>some [.r (rows.map (cb ρ))]
 | .ix n ps b=>if 0≤(n.ev ρ).ah∧(n.ev ρ).ah≤9223372036854775807∧b*(n.ev ρ).ah.toNat≤281474976710656 then some [.r (List.replicate (n.ev ρ).ah.toNat (cb ρ ps))]else none
 | .Hb x y size=>if bu size (y.ev ρ).az=true then some [.r ((y.ev ρ).az.take (min (y.ev ρ).az.length (x.ev ρ).az.length)++(x.ev ρ).az.drop (min (y.ev ρ).az.length (x.ev ρ).az.length)),.i ((min (y.ev ρ).az.length (x.ev ρ).az.length:Nat):Int)]else none
 | .uJ x lo ln y size=>if bu size (y.ev ρ).az=true∧(lo.ev ρ).ah.toNat+(ln.ev ρ).ah.toNat≤(x.ev ρ).az.length then some [.r ((x.ev ρ).az.take (lo.ev ρ).ah.toNat++(y.ev ρ).az.take (min (y.ev ρ).az.length (ln.ev ρ).ah.toNat)++(x.ev ρ).az.drop ((lo.ev ρ).ah.toNat+min (y.ev ρ).az.length (ln.ev ρ).ah.toNat)),.i ((min (y.ev ρ).az.length (ln.ev ρ).ah.toNat:Nat):Int)]else none
 | .ym x ln y size=>if bu size (y.ev ρ).az=true∧(ln.ev ρ).ah.toNat+(y.ev ρ).az.length≤(x.ev ρ).az.length then some [.r ((x.ev ρ).az.take (ln.ev ρ).ah.toNat++(y.ev ρ).az++(x.ev ρ).az.drop ((ln.ev ρ).ah.toNat+(y.ev ρ).az.length)),.i (((ln.ev ρ).ah.toNat+(y.ev ρ).az.length:Nat):Int)]else none
 | .str x=> (ny (x.ev ρ).az).map fun l=> [.s (strOfNums l)]
 | .AU x i=>if 0≤(i.ev ρ).ah then match(x.ev ρ).eQ[(i.ev ρ).ah.toNat]? with
  |some b=>some [.i b.toNat]
  |none=>none
  else none
 | .I6 x lo hi=>if 0≤(lo.ev ρ).ah∧(lo.ev ρ).ah≤(hi.ev ρ).ah∧(hi.ev ρ).ah≤(x.ev ρ).eQ.size then some [.s ((x.ev ρ).eQ.extract (lo.ev ρ).ah.toNat (hi.ev ρ).ah.toNat)]else none
 | .mn x y=>some [.i (if(y.ev ρ).ah< (x.ev ρ).ah then(y.ev ρ).ah else(x.ev ρ).ah)]
 | .mx x y=>some [.i (if(y.ev ρ).ah> (x.ev ρ).ah then(y.ev ρ).ah else(x.ev ρ).ah)]
 | .call _ F args n us=>match F (args.map (At.ev ρ))with
  |some l=>if l.length=n∧(us.all fun i=> ((l[i]?).getD (.b false)).az.all (·.all PV.bare))=true then some l else none
  |none=>none
def Nd.n:Nd→Nat
 | .dD _ _=>0
 | .Eu .. =>2
 | .Hb .. =>2
 | .uJ .. =>2
 | .ym .. =>2
 | .call _ _ _ n _=>n
 |_=>1
theorem Nd.ML {ρ} {nd:Nd} {ls} (h:nd.ev ρ=some ls):ls.length=nd.n:=by
 cases nd<;>simp only[Nd.ev,Nd.n]at h⊢<;>first
  | (cases h;rfl)
  | (simp only[aT]at h;obtain⟨_,_,rfl⟩:=h;rfl)
  | (split at h<;>first| (cases h;first|rfl|assumption|exact(And.left ‹_∧_›))|cases h| (split at h<;>first| (cases h;first|rfl|assumption|exact(And.left ‹_∧_›))|cases h| (split at h<;>first| (cases h;first|rfl|assumption|exact(And.left ‹_∧_›))|cases h)| (simp only[aT]at h;obtain⟨_,_,rfl⟩:=h;rfl)| (cases h;first|rfl|assumption|exact(And.left ‹_∧_›)))| (simp only[aT]at h;obtain⟨_,_,rfl⟩:=h;rfl))
def At.in (m:Nat):At→Bool
 | .v n=>decide (n<m)
 |_=>true
def Ba (m:Nat) (ps:List (Kd×At)):Bool:=ps.all fun x=>x.2.in m
def Nd.in (m:Nat):Nd→Bool
 | .bi _ _ x y| .bs _ x y| .bb _ x y| .row x y _| .rc x y _ _| .tk x y| .app x y _ _| .Hb x y _| .AU x y| .mn x y| .mx x y=>x.in m&&y.in m
 | .not x| .un _ _ x| .conv _ x| .len x| .qk x| .cl x _ _| .dD x _| .str x=>x.in m
 | .jS x a b c _| .uJ x a b c _=>x.in m&&a.in m&&b.in m&&c.in m
 | .fH xs i=>xs.all (At.in m)&&i.in m
 | .cj x i _ y| .ym x i y _| .part x i y _| .cut x i y _| .vw x i y| .I6 x i y=>x.in m&&i.in m&&y.in m
 | .Eu x a b c d _=>x.in m&&a.in m&&b.in m&&c.in m&&d.in m
 | .set x i _ ps=>x.in m&&i.in m&&Ba m ps
 | .lit rows=>rows.all (Ba m)
 | .ix n ps _=>n.in m&&Ba m ps
 | .call _ _ args _ _=>args.all (At.in m)
theorem At.ep {m} {ρ xs} {x:At} (h:x.in m=true) (hm:m≤ρ.length):x.ev (ρ++xs)=x.ev ρ:=by
 cases x with
 |v n=>
  simp only[At.in,dj]at h;simp only[At.ev];rw[rF om]
 |_=>rfl
theorem NJ {m} {ρ xs} {ps} (h:Ba m ps=true) (hm:m≤ρ.length):cb (ρ++xs) ps=cb ρ ps:=by
 apply fK;intro y hy;simp only[Ba,bC]at h;rw[At.ep (h y hy) hm]
theorem Nd.ep {m} {ρ xs} {nd:Nd} (h:nd.in m=true) (hm:m≤ρ.length):nd.ev (ρ++xs)=nd.ev ρ:=by
 cases nd
 case fH ys i=>
  simp only[Nd.in,bt,bC]at h;simp only[Nd.ev,At.ep h.2 hm]
  cases hx:ys[(i.ev ρ).ah.toNat]? with
  |none=>rfl
  |some x=>simp only[At.ep (h.1 x (dn hx)) hm]
 case lit rows=>
  simp only[Nd.in,bC]at h;simp only[Nd.ev];congr 3;apply fK;intro y hy;exact NJ (h y hy) hm
 case call F args n bs=>
  simp only[Nd.in,bC]at h;simp only[Nd.ev];rw[fK (g:=At.ev ρ) (fun y hy=>At.ep (h y hy) hm)]
 case set x i j ps=>
  simp only[Nd.in,bt]at h;simp only[Nd.ev,At.ep h.1.1 hm,At.ep h.1.2 hm,NJ h.2 hm]
 case ix n ps b=>
  simp only[Nd.in,bt]at h;simp only[Nd.ev,At.ep h.1 hm,NJ h.2 hm]
 all_goals
  simp only[Nd.in,bt]at h
  first
   | (simp only[Nd.ev,At.ep h hm];done)
   | (simp only[Nd.ev,At.ep h.1 hm,At.ep h.2 hm];done)
   | (simp only[Nd.ev,At.ep h.1.1 hm,At.ep h.1.2 hm,At.ep h.2 hm];done)
   | (simp only[Nd.ev,At.ep h.1.1.1 hm,At.ep h.1.1.2 hm,At.ep h.1.2 hm,At.ep h.2 hm];done)
   | (simp only[Nd.ev,At.ep h.1.1.1.1 hm,At.ep h.1.1.1.2 hm,At.ep h.1.1.2 hm,At.ep h.1.2 hm,At.ep h.2 hm];done)
def Sat (ρ:List L):Nat→List Nd→Prop
 |_,[]=>True
 |m,nd::nds=> (∃ls,nd.ev ρ=some ls∧∀i,i<nd.n→ρ[m+i]? =ls[i]?)∧Sat ρ (m+nd.n) nds
def fM:List Nd→Nat
 |[]=>0
 |nd::nds=>nd.n+fM nds
def p8 (ρ:List L):List Nd→Option (List L)
 |[]=>some ρ
 |nd::nds=>match nd.ev ρ with
  |some ls=>p8 (ρ++ls) nds
  |none=>none
def tQ:Nat→List Nd→Bool
 |_,[]=>true
 |m,nd::nds=>nd.in m&&tQ (m+nd.n) nds
theorem Fw:∀{nds:List Nd} {ρ ρ':List L},p8 ρ nds=some ρ'→∃xs,ρ'=ρ++xs∧xs.length=fM nds
 |[],ρ,ρ',h=>by cases h;exact⟨[],by simp,rfl⟩
 |nd::nds,ρ,ρ',h=>by
  simp only[p8]at h;split at h
  · rename_i ls cT;obtain⟨xs,h1,h2⟩:=Fw h;exact⟨ls++xs,by rw[h1,cd],by simp[h2,Nd.ML cT,fM]⟩
  · cases h
theorem Ja:∀{nds:List Nd} {ρ ρ' ys:List L},tQ ρ.length nds=true→p8 ρ nds=some ρ'→Sat (ρ'++ys) ρ.length nds
 |[],_,_,_,_,_=>trivial
 | nd ::nds,ρ,ρ',ys,hi,h=>by
  simp only[tQ,bt]at hi;simp only[p8]at h;split at h
  · rename_i ls cT;have hn:=Nd.ML cT;obtain⟨xs,h1,h2⟩:=Fw h;refine⟨⟨ls,?_,fun i hi'=> ?_⟩,?_⟩
    · rw[h1,cd,cd,Nd.ep hi.1 (cn _)];exact cT
    · rw[h1,cd,cd,mh om,Nat.add_sub_cancel_left,rF om]
    · have:=Ja (ys:=ys) (nds:=nds) (ρ:=ρ++ls) (by rw[bE,hn];exact hi.2) h;rw[bE,hn]at this;exact this
  · cases h
theorem Sat.one {ρ} {m} {nd} {nds} (h:Sat ρ m (nd::nds)):∃ls,nd.ev ρ=some ls∧∀i,i<nd.n→At.ev ρ (.v (m+i))=(ls[i]?).getD (.b false):=by
 obtain⟨⟨ls,h1,h2⟩,_⟩:=h;exact⟨ls,h1,fun i hi=>by simp only[At.ev,h2 i hi]⟩
theorem Sat.app:∀{ρ} {m} {a b},Sat ρ m (a++b)→Sat ρ m a∧Sat ρ (m+fM a) b
 |_,_,[],b,h=> ⟨trivial,by simpa[fM]using h⟩
 |ρ,m,nd::a,b,h=>by
  obtain⟨h1,h2⟩:=h;obtain⟨h3,h4⟩:=Sat.app (a:=a) h2;exact⟨⟨h1,h3⟩,by simpa[fM,CQ]using h4⟩
structure Ty where
 size:Nat
 agg:Bool
 some:Bool
 info:Bool
 nu:Option (List Kd)
 fields:List (Option Nat)
 places:Option (List (Nat×Nat))
 elem:Option a6
 arr:Option (Nat×a6)
 app:Option (Nat×Nat)
 bT:Bool
 int:Option dZ
 tO:Bool
 sl:Option a6
 ptr:Option a6
 GS:Bool
 N3:Option a6
 XY:Nat
deriving DecidableEq,Repr,Inhabited
def yR:bh→Option Kd
 | .int k n=>if n=0 then some (.int k)else none
 | .bool t=>if t then none else some .bool
 | .string x=>if x.size=0 then some .str else none
 | .slice none 0 0=>some .sl
 | .pointer none=>some .ptr
 | .map none=>some .mp
 | .nilFunc=>some .fn
 | .nilIface=>some .Ii
 |_=>none
def DN (P:bB) (t:a6):Option (List Kd):=match P.info? t with
 |some i=>match i.zero with
  |some z=>z.cells.toList.mapM yR
  |none=>none
 |none=>none
def Kd.zero:Kd→SC
 | .int k=> .p (.int k) (.i 0)
 | .bool=> .p .bool (.b false)
 | .str=> .p .str (.s ByteArray.empty)
 | .sl=> .nil
 |k=> .p k .r0
theorem aps {v} {k} (h:yR v=some k) (ρ):k.zero.aa ρ=lb v∧v.oneCell'=true:=by
 unfold yR at h;split at h
 · split at h
   · rename_i hn;subst hn;cases h;exact⟨rfl,rfl⟩
   · cases h
 · split at h
   · cases h
   · rename_i hn;simp at hn;subst hn;cases h;exact⟨rfl,rfl⟩
 · rename_i x;split at h
   · have:x=ByteArray.empty:=by
      simp_all
     subst this;cases h;exact⟨rfl,rfl⟩
   · cases h
 all_goals first| (cases h;exact⟨rfl,rfl⟩)|cases h
theorem wD {P} {t} {ks} (h:DN P t=some ks) (ρ):pz P t=some ((ks.map Kd.zero).map (SC.aa ρ)):=by
 unfold DN at h;unfold pz;split at h
 · rename_i i hi;split at h
   · rename_i z hz;simp only[hi,hz];have key:∀{l:List bh} {ks:List Kd},l.mapM yR=some ks→(∀u∈l,u.oneCell'=true)∧(ks.map Kd.zero).map (SC.aa ρ)=l.map lb:=by
      intro l
      induction l with
      |nil=>simp_all
      | cons u l ih=>
       intro ks h
       cases hu:yR u with
       |none=>simp[hu]at h
       | some k=>
        cases hl:l.mapM yR with
        |none=>simp[hu,hl]at h
        |some ks'=>
         simp[hu,hl]at h;subst h;obtain⟨h1,h2⟩:=ih hl;obtain⟨h3,h4⟩:=aps hu ρ;exact⟨by simpa[h4]using h1,by simp only[cu,h2,h3]⟩
     obtain⟨h1,h2⟩:=key h;rw[ay (by simp only[bC];exact h1),h2]
   · cases h
 · cases h
def agE (P:bB) (t:a6):Nat:=match P.underlying t with
 |some (.struct fs)=>fs.size
 |_=>0
def Iv (P:bB) (t:a6):Bool:=match P.underlying t with|some .string=>true|_=>false
def Ce (P:bB) (t:a6):Option a6:=match P.underlying t with|some (.slice e)=>some e|_=>none
def akV (P:bB) (t:a6):Option a6:=match P.underlying t with|some (.pointer e)=>some e|_=>none
def Ts (P:bB) (t:a6):Bool:=match P.underlying t with
 |some (.map kt _)=>match P.underlying kt with
  |some (.int .u64)=>true
  |_=>false
 |_=>false
def LA (P:bB) (t:a6):Option a6:=match P.underlying t with
 |some (.map kt vt)=>match P.underlying kt,(P.info? vt).bind (·.zero)with
  |some (.int .u64),some (.agg _)=>some vt
  |_,_=>none
 |_=>none
def eK (P:bB) (t:a6):Ty where
 size:=da P t
 agg:=nz P t
 some:=A7 P t
 info:=mH P t
 nu:=DN P t
 fields:=(List.range (agE P t)).map (BG P t)
 places:=GQ P t
 elem:=eO P t
 arr:=kT P t
 app:=jP P t
 bT:=qe P t
 int:=Gx P t
 tO:=Iv P t
 sl:=Ce P t
 ptr:=akV P t
 GS:=Ts P t
 N3:=LA P t
 XY:=Ec P t
abbrev aU:=List (a6×Ty)
def aU.ok (P:bB) (T:aU):Prop:=∀t r,List.lookup t T=some r→r=eK P t
theorem aU.K7 {P} {T} (h:(T.all fun x=>decide (x.2=eK P x.1))=true):aU.ok P T:=by
 intro t r hl
 induction T with
 |nil=>cases hl
 |cons x T ih=>
  simp only[Pq,bt,dj]at h;rw[gW]at hl;split at hl
  · rename_i heq;simp at heq;subst heq;cases hl;exact h.1
  · exact ih h.2 hl
theorem Ty.akm {P} {t} {f k} (h:(eK P t).fields[f]? =Option.some (Option.some k)):BG P t f=Option.some k:=by
 simp only[eK,bV,aT]at h;obtain⟨n,h1,h2⟩:=h;have:=(dr.1 h1).2;simp at this;rw[this];exact h2
end
end
end Go.Proofs.YtndegphojkiblaaGreatDoor
