/- A part. -/
import Derived.Test.YtndegphojkiblaaGreatDoorG5
set_option linter.all false
set_option maxHeartbeats 4000000
set_option maxRecDepth 100000
namespace Go.Proofs.YtndegphojkiblaaGreatDoor
noncomputable section
section
open Go.RowKit
open Classical
abbrev Ren:=List (Nat×Nat)
def Ren.to(ι:Ren)(n:Nat):Nat:=(List.lookup n ι).getD 0
def Ren.old(ι:Ren):List Nat:=ι.map (·.1)
def Ren.new(ι:Ren):List Nat:=ι.map (·.2)
def zX(st:bz)(ι:Ren)(Z:List Nat):C->C->Prop
 |_,.dead=>True
 |c,.p q=>c=.p q\/∃rows,q=.sl rows/\st.view c=some rows/\∀n∈c.names,n∉ι.old
 |.nil,.own b=>b∈Z
 |.nil,.sub b d len=>b∈Z/\d=0/\len=0
 |c,e=>e=c.dK ι.to/\∀n∈c.names,n∈ι.old
def xW(st:bz)(ι:Ren)(Z:List Nat):List C->List C->Prop
 |[],[]=>True
 |c::cs,d::b=>zX st ι Z c d/\xW st ι Z cs b
 |_,_=>False
def um(st:bz)(ι:Ren)(Z:List Nat):V1->V1->Prop
 |_,.c .dead=>True
 |.c c,.c d=>zX st ι Z c d
 |.agg cs,.agg b=>xW st ι Z cs b
 |_,_=>False
def DO(st:bz)(ι:Ren)(Z:List Nat):List V1->List V1->Prop
 |[],[]=>True
 |c::cs,d::b=>um st ι Z c d/\DO st ι Z cs b
 |_,_=>False
def vd(st:bz)(ι:Ren)(Z:List Nat):V->V->Prop
 |_,.v (.c .dead)=>True
 |.v x,.v c=>um st ι Z x c
 |.bq xs,.bq b=>DO st ι Z xs b
 |_,_=>False
def dP(st:bz)(ι:Ren)(Z:List Nat):List V->List V->Prop
 |[],[]=>True
 |v::l,b::c=>vd st ι Z v b/\dP st ι Z l c
 |_,_=>False
def VZ(st:bz)(ι:Ren)(Z:List Nat):eD->eD->Prop
 |.box cs,.box c=>xW st ι Z cs c
 |.row e rows,.row f b=>e=f/\rows=b
 |.map g,.map d=>g=d
 |_,_=>False
structure mX(P:cD)(k0:Nat)(st st':bz)(ι:Ren)(Z:List Nat):Prop where
 bt:st'.bt=[]
 old:ι.old.Nodup
 new:ι.new.Nodup
 zs:∀n∈Z,n∉ι.new/\k0<=n/\n<st'.next/\∃e,st'.heap.lookup n=some (.row e [])/\0<P.cellsOf e
 lt:∀x∈ι,x.2<st'.next/\(x.2<k0->x.1=x.2)
 k0:k0<=st'.next
 tmps:dP st ι Z st.tmps st'.tmps
 heap:∀n' b',st'.heap.lookup n'=some b'->n'∈Z\/∃n b,(n,n')∈ι/\st.heap.lookup n=some b/\VZ st ι Z b b'
theorem awf{ι:Ren}{n}(h:n∈ι.old):∃b,List.lookup n ι=some b/\(n,b)∈ι:=by
 induction ι with
 |nil=>simp[Ren.old]at h
 |cons x ι ih=>
  grind[Ren.old]
theorem asx{ι:Ren}(c:ι.old.Nodup){n a b}(d:(n,a)∈ι)(e:(n,b)∈ι):a=b:=by
 induction ι with
 |nil=>cases d
 |cons x ι ih=>
  simp only[Ren.old,ct,List.nodup_cons]at c;rcases dn.1 d with k1|k1<;>rcases dn.1 e with k2|k2
  .grind
  .grind
  .grind
  .exact ih c.2 k1 k2
theorem awn{ι:Ren}(c:ι.new.Nodup){n a b}(d:(a,n)∈ι)(e:(b,n)∈ι):a=b:=by
 induction ι with
 |nil=>cases d
 |cons x ι ih=>
  simp only[Ren.new,ct,List.nodup_cons]at c;rcases dn.1 d with k1|k1<;>rcases dn.1 e with k2|k2
  .grind
  .grind
  .grind
  .exact ih c.2 k1 k2
def Env.le(P:cD)(E:Env)(st':bz)(ι:Ren)(Z:List Nat):Env:=
 ⟨λd=>if d∈Z then some ⟨none,0,0,match st'.heap.lookup d with|some (.row e _)=>P.cellsOf e|_=>0⟩else match ι.find? (λx=>x.2==d)with|some x=>E.N x.1|none=>none,[]⟩
section
variable{X:Fx}{E:Env}{st st':bz}{a:Act}{w:cp}{ι:Ren}{Z:List Nat}
theorem sS{b x}(h:(E.le X.P st' ι Z).N b=some x):(b∈Z/\x.g=none)\/(b∉Z/\∃n,(n,b)∈ι/\E.N n=some x):=by
 simp only[Env.le]at h;grind
theorem ZR(c:mX X.P X.k0 st st' ι Z){n b}(d:(n,b)∈ι){x}(h:E.N n=some x):(E.le X.P st' ι Z).N b=some x:=by
 simp only[Env.le];rw[bO (λg=>(c.zs b g).1 (eV.2 ⟨_,d,rfl⟩))]
 cases e:ι.find? (λx=>x.2==b)with
 |none=>
  grind
 |some y=>
  have f:=List.find?_some e;have i:=List.mem_of_find?_eq_some e;simp at f;subst f;have:=awn c.new d i;subst this;exact h
theorem Zg{g}(h:bad X.M (E.le X.P st' ι Z) g):bad X.M E g:=by
 rcases h with h| ⟨e,x,c,d⟩
 .exact .inl h
 .rcases sS c with⟨_,b⟩| ⟨_,n,_,b⟩
  .simp_all
  .exact .inr ⟨n,x,b,d⟩
theorem RC.le(h:Rel X E st a w)(Q:st.bt=[])(G:mX X.P X.k0 st st' ι Z){c m v}(k:zX st ι Z c m)(t:RC X.M E w c v):RC X.M (E.le X.P st' ι Z) w m v:=by
 have A:iP (bad X.M E) (bad X.M (E.le X.P st' ι Z)) w w:=λg o u B D=>⟨B,λh=>D (Zg h)⟩
 have H:∀n,n∉E.bt:=λn=>by rw[h.bt,Q];simp
 have key:m=c.dK ι.to/\(∀n∈c.names,n∈ι.old)->RC X.M (E.le X.P st' ι Z) w m v:=by
  rintro⟨rfl,I⟩;refine RC.dK (.inl A) (λn B=>⟨H n,λx U=>?_⟩) t;obtain⟨d,D,J⟩:=awf (I n B);have:ι.to n=d:=by simp[Ren.to,D]
  rw[this];exact ZR G J U
 cases m with
 |dead=>trivial
 |p q=>
  have K:c=.p q\/∃rows,q=.sl rows/\st.view c=some rows/\∀n∈c.names,n∉ι.old:=by cases c<;>exact k
  rcases K with rfl| ⟨rows,rfl,W,I⟩
  .exact RP.trans t A
  .obtain⟨Y,B,D⟩:=R4 W;obtain⟨_,_,J⟩:=h.sink t (λn _=>by rw[Q];simp) B;refine RP.trans (J Y (λ_ h=>h)) (λg o u k1 k2=>⟨k1,λM=>k2 ?_⟩);rcases M with M| ⟨d,x,k4,k5⟩
   .exact .inl M
   .rcases sS k4 with⟨_,R⟩| ⟨_,n,R,k7⟩
    .simp_all
    .refine .inr ⟨n,x,?_,k5⟩;simp only[Env.drop];rw[bO λN=>I n (D n N) (eV.2 ⟨_,R,rfl⟩)];exact k7
 |own d=>
  cases c with
  |nil=>
   have F:d∈Z:=k;obtain⟨_,_,_,e,O,h5⟩:=G.zs d F;refine .inr ⟨⟨none,0,0,X.P.cellsOf e⟩,by simp[Env.le,F,O],?_⟩;exact t
  |_=>exact key k
 |sub d lo len=>
  cases c with
  |nil=>
   obtain⟨F,rfl,rfl⟩:d∈Z/\lo=0/\len=0:=k;obtain⟨_,_,_,e,O,h5⟩:=G.zs d F;exact .inr ⟨⟨none,0,0,X.P.cellsOf e⟩,by simp[Env.le,F,O],dx _,none,t,λ_=>rfl⟩
  |_=>exact key k
 |_=>cases c<;>exact key k
theorem I8:∀{cs b},xW st ι Z cs b->cs.length=b.length/\∀(i:Nat)(d),b[i]?=some d->∃c,cs[i]?=some c/\zX st ι Z c d
 |[],[],_=>⟨rfl,λi d h=>by simp at h⟩
 |c::cs,d::b,h=>by
  obtain⟨f,g⟩:=I8 h.2;refine⟨by simp[f],λi x e=>?_⟩
  cases i with
  |zero=>simp at e;subst e;exact⟨c,rfl,h.1⟩
  |succ i=>simp_all
 |[],_::_,h=>h.elim
 |_::_,[],h=>h.elim
theorem Sb:∀{cs b},DO st ι Z cs b->cs.length=b.length/\∀(i:Nat)(d),b[i]?=some d->∃c,cs[i]?=some c/\um st ι Z c d
 |[],[],_=>⟨rfl,λi d h=>by simp at h⟩
 |c::cs,d::b,h=>by
  obtain⟨f,g⟩:=Sb h.2;refine⟨by simp[f],λi x e=>?_⟩
  cases i with
  |zero=>simp at e;subst e;exact⟨c,rfl,h.1⟩
  |succ i=>simp_all
 |[],_::_,h=>h.elim
 |_::_,[],h=>h.elim
theorem N2:∀{cs b},dP st ι Z cs b->cs.length=b.length/\∀(i:Nat)(d),b[i]?=some d->∃c,cs[i]?=some c/\vd st ι Z c d
 |[],[],_=>⟨rfl,λi d h=>by simp at h⟩
 |c::cs,d::b,h=>by
  obtain⟨f,g⟩:=N2 h.2;refine⟨by simp[f],λi x e=>?_⟩
  cases i with
  |zero=>simp at e;subst e;exact⟨c,rfl,h.1⟩
  |succ i=>simp_all
 |[],_::_,h=>h.elim
 |_::_,[],h=>h.elim
theorem dR.le(h:Rel X E st a w)(m:st.bt=[])(o:mX X.P X.k0 st st' ι Z){x q v}(d:um st ι Z x q)(t:dR X.M E w x v):dR X.M (E.le X.P st' ι Z) w q v:=by
 unfold um at d;split at d
 .trivial
 .exact RC.le h m o d t
 .obtain⟨us,A,B,D⟩:=t;obtain⟨F,G⟩:=I8 d;refine⟨us,A,by rw[B,F],λi c H=>?_⟩;obtain⟨c0,I,J⟩:=G i c H;obtain⟨u,K,M,k⟩:=D i c0 I;exact⟨u,K,RC.le h m o J M,k⟩
 .exact d.elim
theorem RV.le(h:Rel X E st a w)(k:st.bt=[])(m:mX X.P X.k0 st st' ι Z){x o v}(d:vd st ι Z x o)(q:RV X.M E w x v):RV X.M (E.le X.P st' ι Z) w o v:=by
 unfold vd at d;split at d
 .trivial
 .exact dR.le h k m d q
 .obtain⟨us,t,A,B⟩:=q;obtain⟨D,F⟩:=Sb d;refine⟨us,t,by rw[A,D],λi c G=>?_⟩;obtain⟨c0,H,I⟩:=F i c G;obtain⟨u,J,K⟩:=B i c0 H;exact⟨u,J,dR.le h k m I K⟩
 .exact d.elim
theorem Rel.le(h:Rel X E st a w)(J:st.bt=[])(k:mX X.P X.k0 st st' ι Z):Rel X (E.le X.P st' ι Z) st' a w:=by
 have Y:iP (bad X.M E) (bad X.M (E.le X.P st' ι Z)) w w:=λg o u d q=>⟨d,λh=>q (Zg h)⟩
 exact {
  defers:=h.defers
  bt:=by rw[k.bt];rfl
  frame:=h.frame
  eW:=h.eW
  dD:=λB x A=>by
   rcases sS A with⟨d,_⟩| ⟨_,n,d,_⟩
   .exact(k.zs B d).2.2.1
   .exact(k.lt _ d).1
  names:=λB x g A D=>by
   rcases sS A with⟨_,d⟩| ⟨_,n,_,d⟩
   .simp_all
   .exact h.names n x g d D
  inj:=λB m' x y g A hy D aa=>by
   rcases sS A with⟨_,d⟩| ⟨_,n,K,d⟩
   .simp_all
   .rcases sS hy with⟨_,q⟩| ⟨_,m,t,q⟩
    .simp_all
    .have:=h.inj n m x y g d q D aa;subst this;exact asx k.old K t
  ec :=λm hm=>by
   cases A:(E.le X.P st' ι Z).N m with
   |none=>exact .inl rfl
   |some x=>
    right;rcases sS A with⟨d,_⟩| ⟨_,n,K,d⟩
    .have:=(k.zs m d).2.1;omega
    .have:=(k.lt _ K).2 hm;simp at this;subst this;rcases h.ec n hm with q|q
     .simp_all
     .rw[<-q,d]
  fQ:=k.k0
  fK:=λn hn=>by rw[k.bt]at hn;cases hn
  size:=by rw[h.size,(N2 k.tmps).1]
  tmps:=λi v' F=>by
   obtain⟨v,M,N⟩:=(N2 k.tmps).2 i v' F;obtain⟨u,O,Q⟩:=h.tmps i v M;exact⟨u,O,Q.le h J k N⟩
  heap :=λB W hl=>by
   right;rcases k.heap B W hl with hz| ⟨n,b,d,q,t⟩
   .obtain⟨_,_,_,e,I,R⟩:=k.zs B hz;rw[I]at hl;cases hl;exact⟨⟨none,0,0,X.P.cellsOf e⟩,#[],(0,0),by simp[Env.le,hz,I],.inl rfl,λg J=>(by cases J),rfl,dx _,by simp[maxLen],R,rfl,by simp,λr U=>by simp at U,λ_=>rfl,λi r j p F=>by simp at F⟩
   .have U:=h.row (by rw[J];simp) q;have hN:∀x,E.N n=some x->(E.le X.P st' ι Z).N B=some x:=λx A=>ZR k d A
    cases b with
    |box cs=>
     cases W with
     |box af=>
      obtain⟨x,g,G,e,k1,k0,k2,k3,k4⟩:=U;obtain⟨I,R⟩:=I8 t;refine⟨x,g,G,e,hN x k1,k0,k2,by rw[k3,I],λi c' F=>?_⟩;obtain⟨c,M,N⟩:=R i c' F;obtain⟨u,O,Q,H⟩:=k4 i c M;exact⟨u,O,RC.le h J k N Q,H⟩
     |_=>exact t.elim
    |row e rows=>
     cases W with
     |row e' ab=>
      obtain⟨rfl,rfl⟩:=t;obtain⟨x,G,fz,d,ad,q,t,I,R,M,ae,N,O,H,Q⟩:=U;exact⟨x,G,fz,hN x d,ad,q,t,I,R,M,ae,N,O,H,λi r j p F hj=>let⟨u,k1,k2⟩:=Q i r j p F hj; ⟨u,k1,k2.trans Y⟩⟩
     |_=>exact t.elim
    |map es=>
     cases W with
     |map ag=>
      cases t;obtain⟨x,g,en,clock,d,K,q,t⟩:=U;exact⟨x,g,en,clock,hN x d,K,q,t⟩
     |_=>exact t.elim}
theorem mX.le(k:st.bt=[])(d:mX X.P X.k0 st st' ι Z):Le X st st':=λ_ _⟨E,h,_⟩=>⟨E.le X.P st' ι Z,h.le k d,d.bt⟩
end
def tt(n L:Nat)(c b:C):Prop:=b=.dead\/(b=c/\n∉c.names)\/(c=.sub n 0 L/\b=.own n)
def zb(n L:Nat):V1->V1->Prop
 |_,.c .dead=>True
 |.c c,.c d=>tt n L c d
 |.agg cs,.agg b=>cs.length=b.length/\∀(i:Nat)(d:C),b[i]?=some d->∃c,cs[i]?=some c/\tt n L c d
 |_,_=>False
def T9(n L:Nat):V->V->Prop
 |_,.v (.c .dead)=>True
 |.v x,.v e=>zb n L x e
 |.bq xs,.bq b=>xs.length=b.length/\∀(i:Nat)(d:V1),b[i]?=some d->∃c,xs[i]?=some c/\zb n L c d
 |_,_=>False
def abY(n L:Nat):eD->eD->Prop
 |.box cs,.box d=>cs.length=d.length/\∀(i:Nat)(g:C),d[i]?=some g->∃c,cs[i]?=some c/\tt n L c g
 |.row e rows,.row h b=>h=e/\b=rows
 |.map j,.map f=>f=j
 |_,_=>False
structure H0(k0:Nat)(st st':bz)(n L:Nat)(e:cg)(rows:List (List PV)):Prop where
 k0:k0<=n
 bt:st'.bt=[]
 next:st'.next=st.next
 row:st.heap.lookup n=some (.row e rows)
 told:∃i:Nat,st.tmps[i]?=some (.v (.c (.sub n 0 L)))
 len:st.tmps.length=st'.tmps.length
 tmps:∀(i:Nat)(v':V),st'.tmps[i]?=some v'->∃v,st.tmps[i]?=some v/\T9 n L v v'
 heap:∀m b',st'.heap.lookup m=some b'->(m=n/\b'=.row e (rows.take L))\/(m≠n/\∃b,st.heap.lookup m=some b/\abY n L b b')
theorem H0.le{X st st' n L e rows}(hg:st.bt=[])(M:H0 X.k0 st st' n L e rows):Le X st st':=by
 rintro a w ⟨E,h,_⟩;have W:∀m,m∉E.bt:=λm=>by rw[h.bt,hg];simp
 obtain⟨x,ab,fz,k1,ad,k2,k3,k4,k5,k6,k7,k8,k9,ae,af⟩:=h.row (by rw[hg];simp) M.row;obtain⟨i0,ag⟩:=M.told;obtain⟨u0,_,ah⟩:=h.tmps i0 _ ag;obtain⟨x',aa,hL,_⟩:=cS.get (show RC X.M E w (.sub n 0 L) u0 from ah) (W n);rw[k1]at aa;cases aa
 let E':Env:=⟨λm=>if m=n then some {x with len:=L}else E.N m,[]⟩
 have hN:∀m y,m≠n->E.N m=some y->E'.N m=some y:=λm y D B=>by grind
 have N:∀m y,E'.N m=some y->∃z,E.N m=some z/\z.g=y.g:=λm y B=>by
  grind
 have U:∀g,bad X.M E' g->bad X.M E g:=by
  rintro g (k| ⟨m,y,k,d⟩)
  .exact .inl k
  .obtain⟨z,F,G⟩:=N m y k;exact .inr ⟨m,z,F,G.trans d⟩
 have R:iP (bad X.M E) (bad X.M E') w w:=λg o u k d=>⟨k,λh=>d (U g h)⟩
 have H:∀m(Q:Nm->Prop),m≠n->cS E m Q->cS E' m Q:=λm Q D hq=>by
  obtain⟨y,k,d⟩:=cS.get hq (W m);exact .inr ⟨y,hN m y D k,d⟩
 have hc:∀c t v,tt n L c t->RC X.M E w c v->RC X.M E' w t v:=by
  rintro c t v (rfl| ⟨rfl,hn⟩| ⟨rfl,rfl⟩) I
  .trivial
  .cases t with
   |p q=>exact RP.trans I R
   |nil=>exact I
   |own m=>exact H m _ (by simpa[C.names]usingλh:m=n=>hn (by simp[C.names,h])) I
   |sub m lo len=>exact H m _ (by simpa[C.names]usingλh:m=n=>hn (by simp[C.names,h])) I
   |ptr m off=>exact H m _ (by simpa[C.names]usingλh:m=n=>hn (by simp[C.names,h])) I
   |dy m i j=>exact H m _ (by simpa[C.names]usingλh:m=n=>hn (by simp[C.names,h])) I
   |ref cells=>
    obtain⟨g,o,k,d⟩:=I;refine⟨g,o,k,λj p Y=>?_⟩;obtain⟨u,F,G,h5⟩:=d j p Y;exact⟨u,F,λh=>G (U g h),RP.trans h5 R⟩
   |fn f dE=>
    obtain⟨us,k,d,F⟩:=I;refine⟨us,k,d,λi m J=>?_⟩;obtain⟨u,G,h5⟩:=F i m J;exact⟨u,G,H m _ (λD=>hn (by subst D;exact dB J)) h5⟩
   |mp m=>exact H m _ (by simpa[C.names]usingλh:m=n=>hn (by simp[C.names,h])) I
   |dead=>trivial
  .obtain⟨y,k,_,A,F,G⟩:=cS.get (show RC X.M E w (.sub n 0 L) v from I) (W n);rw[k1]at k;cases k;have hA:=G (.inr rfl);simp only[Nat.zero_mul,Nat.sub_zero]at hA F;exact .inr ⟨{x with len:=L},by simp[E'],by rw[F,hA]⟩
 have ai:∀y K v,zb n L y K->dR X.M E w y v->dR X.M E' w K v:=by
  intro y K v B I
  cases K with
  |c t=>
   cases y with
   |c c=>
    have:t=.dead\/tt n L c t:=by cases t<;>first|exact .inl rfl|exact .inr B
    rcases this with rfl|B
    .trivial
    .exact hc c t v B I
   |agg=>cases t<;>first|trivial|exact B.elim
  |agg aj=>
   cases y with
   |c=>exact B.elim
   |agg cs=>
    obtain⟨us,rfl,d,F⟩:=I;refine⟨us,rfl,d.trans B.1,λi t J=>?_⟩;obtain⟨c,G,h5⟩:=B.2 i t J;grind
 refine⟨E',?_,M.bt⟩;exact{
  defers:=h.defers
  bt:=by rw[M.bt]
  frame:=h.frame
  eW:=h.eW
  dD:=λm y B=>by
   obtain⟨z,k,_⟩:=N m y B;rw[M.next];exact h.dD m z k
  names:=λm y g B ak=>by
   obtain⟨z,k,d⟩:=N m y B;exact h.names m z g k (d.trans ak)
  inj:=λm m' y K g B al hg am=>by
   obtain⟨z,k,d⟩:=N m y B;obtain⟨z',F,G⟩:=N m' K al;exact h.inj m m' z z' g k F (d.trans hg) (G.trans am)
  ec:=λm D=>by
   have:m≠n:=by have:=M.k0;omega
   simp only[E',bO this];exact h.ec m D
  fQ:=by rw[M.next];exact h.fQ
  fK:=λm D=>by rw[M.bt]at D;cases D
  size:=by rw[h.size,M.len]
  tmps :=λi v' J=>by
   obtain⟨v,k,d⟩:=M.tmps i v' J;obtain⟨u,F,G⟩:=h.tmps i v k;refine⟨u,F,?_⟩
   cases v' with
   |v K=>
    cases v with
    |v y=>
     have:K=.c .dead\/zb n L y K:=by
      cases K with
      |c t=>cases t<;>first|exact .inl rfl|exact .inr d
      |agg=>exact .inr d
     rcases this with rfl|d
     .trivial
     .exact ai y K u d G
    |bq=>
     cases K with
     |c t=>cases t<;>first|trivial|exact d.elim
     |agg=>exact d.elim
   |bq au=>
    cases v with
    |v=>exact d.elim
    |bq xs=>
     obtain⟨us,rfl,h5,h6⟩:=G;refine⟨us,rfl,h5.trans d.1,λj t Y=>?_⟩;obtain⟨c,h7,h8⟩:=d.2 j t Y;grind
  heap :=λm b' hb=>by
   right;rcases M.heap m b' hb with⟨rfl,rfl⟩| ⟨D,b,k,d⟩
   .exact⟨{x with len:=L},ab,fz,by simp[E'],ad,k2,by simp;omega,by simp only;omega,k5,k6,k7,k8,λr hr=>k9 r (iR hr),ae,λi r j p J Y=>by
     obtain⟨u,q1,q2⟩:=af i r j p (CH J).1 Y;exact⟨u,q1,q2.trans R⟩⟩
   .have hr:=h.row (by rw[hg];simp) k
    cases b with
    |box cs=>
     cases b' with
     |box aj=>
      obtain⟨y,g,O,e',j1,j2,j3,j4,j5⟩:=hr;refine⟨y,g,O,e',hN m y D j1,j2,j3,j4.trans d.1,λi t J=>?_⟩;obtain⟨c,q1,q2⟩:=d.2 i t J;grind
     |_=>exact d.elim
    |row e0 an=>
     cases b' with
     |row e' ao=>
      obtain⟨rfl,rfl⟩:=d;obtain⟨y,O,ap,j1,jf,j2,j3,j4,j5,j6,j7,j8,j9,aq,ar⟩:=hr;exact⟨y,O,ap,hN m y D j1,jf,j2,j3,j4,j5,j6,j7,j8,j9,aq,λi r j p J Y=>let⟨u,q1,q2⟩:=ar i r j p J Y; ⟨u,q1,q2.trans R⟩⟩
     |_=>exact d.elim
    |map es=>
     cases b' with
     |map av=>
      obtain⟨y,g,en,clock,j1,j2,j3,j4⟩:=hr;exact⟨y,g,en,clock,hN m y D j1,j2,j3,j4⟩
     |_=>exact d.elim}
def V.one:V->Option V1
 |.v x=>some x
 |.bq _=>none
def mY(P:cD)(st:bz):ResultVar->Option V1
 |.tmp t=>(st.tmps[t]?).bind V.one
 |.cell t ty=>match st.tmps[t]? with
  |some (.v (.c (.ptr n off)))=>match st.heap.lookup n with
   |some (.box cs)=>(kb P ty (cs.drop off)).bind V.one
   |_=>none
  |_=>none
def aqr:List V1->V
 |[x]=>.v x
 |xs=>.bq xs
def rQ(P:cD)(rs:List ResultVar)(st:bz):Option V:=(rs.mapM (mY P st)).map aqr
theorem YF{v:V}{x}(h:v.one=some x):v=.v x:=by cases v<;>simp[V.one]at h;subst h;rfl
def xN(tmps:Array cr):ResultVar->Sem cr
 |.tmp t=>Pure.pure (tmps.getD t undef)
 |.cell t ty=>do loadVar ty (<-asAddr (tmps.getD t undef))
theorem aqN(fn)(tmps):results fn tmps=(do let vs<-fn.results.mapM (xN tmps);Pure.pure (if h:vs.size=1 then vs[0]else .tuple vs)):=by
 rfl
section
variable{X:Fx}{E:Env}{st:bz}{a:Act}{w:cp}
theorem amX(h:Rel X E st a w)(m:st.bt=[]){d x}(b:mY X.P st d=some x):
 ∃u,(xN a.tmps d).run X.P w=.ok u w/\dR X.M E w x u:=by
 cases d with
 |tmp t=>
  simp only[mY,gV]at b;obtain⟨v,s,y⟩:=b;have:=YF y;subst this;obtain⟨u,p,f⟩:=h.tmps t _ s;exact⟨u,by simp_all[xN],f⟩
 |cell t ty=>
  simp only[mY]at b;split at b
  .rename_i n off z;obtain⟨u,p,i⟩:=h.tmps t _ z;obtain⟨K,f,g,A,k⟩:=cS.get i (by rw[h.bt,m];simp);subst k;split at b
   .rename_i cs B;simp only[gV]at b;obtain⟨v,k,C⟩:=b;have:=YF C;subst this;obtain⟨N,g',l,e,q,k0,D,O,F⟩:=h.row (by rw[m];simp) B;rw[f]at q;cases q;rw[A]at k0;cases k0;obtain⟨u,G,H⟩:=DW (P:=X.P) (M:=X.M) (E:=E) (w:=w) (g:=g) (o:=off) k (λj c r=>by
     rw[pb]at r;obtain⟨u,j1,I,J⟩:=F _ c r;exact⟨u,by rw[cell_of_row w g _ l e (0,0) D];exact j1,I,J⟩)
    refine⟨u,?_,H⟩;simp[xN,u5,p,asAddr,G]
   .cases b
  .cases b
theorem Ui(h:Rel X E st a w)(e:st.bt=[]):∀(l:List ResultVar){xs},l.mapM (mY X.P st)=some xs->
 ∃us,(l.mapM (xN a.tmps)).run X.P w=.ok us w/\
  us.length=xs.length/\∀(i:Nat)(x),xs[i]?=some x->∃u,us[i]?=some u/\dR X.M E w x u
 |[],xs,b=>by simp_all
 |rv::l,xs,b=>by
  cases c:mY X.P st rv with
  |none=>simp[c]at b
  |some x=>
   cases d:l.mapM (mY X.P st)with
   |none=>simp[c,d]at b
   |some ys=>
    simp[c,d]at b;subst b;obtain⟨u,g,j⟩:=amX h e c;obtain⟨us,k,f,m⟩:=Ui h e l d;refine⟨u::us,?_,by simp[f],λi y n=>?_⟩
    .simp_all
    grind
theorem YN(h:Rel X E st a w)(f:st.bt=[]){fn r}(c:rQ X.P fn.results.toList st=some r):∃u,(results fn a.tmps).run X.P w=.ok u w/\RV X.M E w r u:=by
 unfold rQ at c;simp only[bY]at c;obtain⟨xs,g,rfl⟩:=c;obtain⟨us,l,b,j⟩:=Ui h f _ g;refine⟨if m:us.toArray.size=1 then us.toArray[0]else .tuple us.toArray,?_,?_⟩
 .simp_all[aqN,Array.mapM_eq_mapM_toList]
 .cases xs with
  |nil=>
   have:us=[]:=jX (by simpa using b);subst this;exact⟨#[],by simp,rfl,by simp⟩
  |cons x ys=>
   cases ys with
   |nil=>
    obtain⟨u,e,k⟩:=j 0 x rfl
    cases us with
    |nil=>simp at b
    |cons n d=>
     have:d=[]:=jX (by simpa using b);subst this;simp at e;subst e;show dR X.M E w x _;simpa using k
   |cons y o=>
    have:us.length≠1:=by rw[b];simp
    refine⟨us.toArray,by simp[this],by simp[b],λi z p=>?_⟩;simp_all
end
def LS(P:cD)(rs:List ResultVar)(r:V)(c:Hp)(e:Exit)(st:bz):Prop:=
 (match e with| .normal=>True| .ret=>True|_=>False)/\rQ P rs st=some r/\∀n b,c.lookup n=some b->st.heap.lookup n=some b
def nk(n:Nat)(args:List V1)(H:List eD):bz:=⟨args.map V.v++List.replicate (n-args.length) (.bq []),hp H,[],H.length⟩
theorem fg.intro{P f fn c}(hf:P.funcs[f]?=some fn) (hname:(fn.name== "runtime.NumGoroutine")=false) (hb:fn.body=some c) {n} (hn:fn.ntmps=n) {rs} (xn:fn.results=rs.toArray) {args} {H} {r} {H'}
 (h:∀X:Fx,X.P=P->X.k0=H.length->Aw X c (LS P rs r H') (nk n args H)):fg P f args H r H' where
 own:=⟨fn,hf,hname,by rw[hb];rfl⟩
 call :=λw M N vals hM O7 AV O8 hH gn hv=>by
  subst hn;have O9:rs=fn.results.toList:=by rw[xn]
  subst O9
  let X:Fx:=⟨P,M,λg=>∃n x,N n=some x/\x.g=some g,w,N,H.length,[]⟩
  refine calls_of_wp hf hb (wp_mono (h X rfl rfl _ w ?_) ?_)
  .refine⟨⟨N,[]⟩,?_,rfl⟩;exact {
    defers:=rfl
    bt:=rfl
    frame:=Frame.refl _ _
    eW:=hM
    dD:=O7
    names:=λn x g h1 h2=>⟨(AV n x g h1 h2).1,.inl ⟨n,x,h1,h2⟩,(AV n x g h1 h2).2⟩
    inj:=O8
    ec:=λ_ _=>.inr rfl
    fQ:=dx _
    fK:=λn hn=>by cases hn
    size:=by simp[nk,gn]
    tmps :=λi v hi=>by
     simp only[nk]at hi;rw[lZ]at hi;simp only[bC]at hi;split at hi
     .rename_i hlt;simp only[cN,bY]at hi;obtain⟨x,hx,rfl⟩:=hi;obtain⟨u,h1,h2⟩:=hv i x hx;exact⟨u,by grind,h2⟩
     .rename_i hlt;rw[ada]at hi;split at hi
      .rename_i uL;simp at hi;subst hi;exact⟨undef,by grind,MA _ _ _⟩
      .cases hi
    heap:=λn b hl=>by
     simp only[nk,Z']at hl;grind}
  .rintro e a' w' ⟨st',⟨he,hr,O_⟩,E,hR,hg⟩;obtain⟨u,h1,h2⟩:=YN (X:=X) hR hg hr;have hback:wG N H.length w w' E:={
    bt:=hR.bt.trans hg
    names:=λn x g k1 k2=>by
     obtain⟨k3,k4,_⟩:=hR.names n x g k1 k2;grind
    inj:=hR.inj
    ec:=hR.ec}
   have Gr:∀n b,H'.lookup n=some b->RB P M E w' n b:=λn b hl=>hR.row (by rw[hg];simp) (O_ n b hl)
   cases e with
   |normal=>exact⟨hR.defers,u,h1,u,E,rfl,hR.frame,hback,Gr,h2⟩
   |ret=>exact⟨hR.defers,u,h1,u,E,rfl,hR.frame,hback,Gr,h2⟩
   |exit=>exact he.elim
   |goto=>exact he.elim
   |panic=>exact he.elim
   |outgrown=>exact he.elim
end
section
open Go.RowKit
inductive Kd where
 |int (k:dH)|bool|str|sl|ptr|mp|fn|BR
deriving DecidableEq,Repr,Inhabited
inductive L where
 |i (n:Int)|b (t:Bool)|s (x:fy)|r (rows:List (List PV))|c (cells:List PV)
deriving Inhabited
def L.a_:L->Int| .i n=>n|_=>0
def L.ck:L->Bool| .b t=>t|_=>false
def L.du:L->fy| .s x=>x|_=>ByteArray.empty
def L.bm:L->List (List PV)| .r x=>x|_=>[]
def L.jm:L->List PV| .c x=>x|_=>[]
inductive At where
 |v (n:Nat)|i (n:Int)|b (t:Bool)|s (x:fy)|r0
deriving Inhabited
def At.ev(ρ:List L):At->L
 |.v n=>(ρ[n]?).getD (.b false)
 |.i n=>.i n
 |.b t=>.b t
 |.s x=>.s x
 |.r0=>.r []
def Kd.pv(k:Kd)(l:L):PV:=match k with
 |.int k=>.sc (.int k l.a_)
 |.bool=>.sc (.bool l.ck)
 |.str=>.sc (.string l.du)
 |.sl=>.sl l.bm
 |.ptr=>.sc (.pointer none)
 |.mp=>.sc (.map none)
 |.fn=>.sc .nilFunc
 |.BR=>.sc .nilIface
def Kd.of(k:Kd)(q:PV):Option L:=match k,q with
 |.int k,.sc (.int d n)=>if k=d then some (.i n)else none
 |.bool,.sc (.bool t)=>some (.b t)
 |.str,.sc (.string x)=>some (.s x)
 |.sl,.sl rows=>some (.r rows)
 |_,_=>none
theorem Kd.BN{k:Kd}{q l}(h:k.of q=some l):k.pv l=q:=by
 unfold Kd.of at h;split at h
 .split at h
  .rename_i d;subst d;cases h;rfl
  .cases h
 all_goals first| (cases h;rfl)|cases h
inductive SC where
 |p (k:Kd) (x:At)
 |nil
 |own (n:Nat)
 |sub (n:Nat) (lo len:At)
 |ptr (n off:Nat)
 |gN (n off cM m:Nat) (i:At)
 |dy (n:Nat) (i:At) (j:Nat)
 |ref (x:At) (j:Nat)
 |fn (f:FuncId) (dE:List Nat)
 |mp (n:Nat)
 |dead
deriving Inhabited
def SC.a6(ρ:List L):SC->C
 |.p k x=>.p (k.pv (x.ev ρ))
 |.nil=>.nil
 |.own n=>.own n
 |.sub n d len=>.sub n (d.ev ρ).a_.toNat (len.ev ρ).a_.toNat
 |.ptr n off=>.ptr n off
 |.gN n off _ m i=>.ptr n (off+(i.ev ρ).a_.toNat*m)
 |.dy n i j=>.dy n (i.ev ρ).a_.toNat j
 |.ref x j=>.ref ((x.ev ρ).jm.drop j)
 |.fn f dE=>.fn f dE
 |.mp n=>.mp n
 |.dead=>.dead
inductive bK where
 |c (c:SC)
 |agg (cs:List SC)
deriving Inhabited
inductive SV where
 |v (x:bK)
 |bq (xs:List bK)
deriving Inhabited
inductive SB where
 |box (cs:List SC)
 |row (e:cg) (x:At)
 |map
deriving Inhabited
def bK.a6(ρ:List L):bK->V1
 |.c y=>.c (y.a6 ρ)
 |.agg cs=>.agg (cs.map (SC.a6 ρ))
def SV.a6(ρ:List L):SV->V
 |.v x=>.v (x.a6 ρ)
 |.bq xs=>.bq (xs.map (bK.a6 ρ))
def SB.a6(ρ:List L):SB->eD
 |.box cs=>.box (cs.map (SC.a6 ρ))
 |.row e x=>.row e (x.ev ρ).bm
 |.map=>.map []
abbrev dh:=List (Nat×SB)
def dh.a6(ρ:List L)(h:dh):Hp:=h.map λx=>(x.1,x.2.a6 ρ)
structure gY where
 jl:dh
 bt:List Nat
def gY.a6(ρ:List L)(e:gY):im:=⟨e.jl.a6 ρ,e.bt⟩
structure bp where
 tmps:List SV
 heap:dh
 bt:List Nat
 next:Nat
 nv:Nat
deriving Inhabited
def bp.a6(ρ:List L)(S:bp):bz:=⟨S.tmps.map (SV.a6 ρ),S.heap.a6 ρ,S.bt,S.next⟩
theorem dh.Cw(ρ)(h:dh)(n):List.lookup n (h.a6 ρ)=(List.lookup n h).map (SB.a6 ρ):=by
 induction h with
 |nil=>rfl
 |cons x h ih=>
  obtain⟨k,b⟩:=x;simp only[dh.a6,ct,hX]at ih⊢;split
  .rfl
  .exact ih
def SC.names:SC->List Nat
 |.own n=>[n]| .sub n _ _=>[n]| .ptr n _=>[n]| .gN n _ _ _ _=>[n]| .dy n _ _=>[n]| .mp n=>[n]| .fn _ dE=>dE|_=>[]
def bK.names:bK->List Nat
 |.c x=>x.names
 |.agg xs=>xs.flatMap SC.names
def SV.names:SV->List Nat
 |.v x=>x.names
 |.bq xs=>xs.flatMap bK.names
def SB.names:SB->List Nat
 |.box cs=>cs.flatMap SC.names
 |_=>[]
theorem SC.mG(ρ)(c:SC):(c.a6 ρ).names=c.names:=by cases c<;>rfl
theorem SC.VJ(ρ)(cs:List SC):(cs.map (SC.a6 ρ)).flatMap C.names=cs.flatMap SC.names:=by
 induction cs with
 |nil=>rfl
 |cons c cs ih=>simp only[ct,List.flatMap_cons,SC.mG,ih]
theorem bK.mG(ρ)(x:bK):(x.a6 ρ).names=x.names:=by
 cases x with
 |c c=>exact SC.mG ρ c
 |agg cs=>exact SC.VJ ρ cs
theorem SV.mG(ρ)(x:SV):(x.a6 ρ).names=x.names:=by
 cases x with
 |v x=>exact bK.mG ρ x
 |bq xs=>
  show(xs.map (bK.a6 ρ)).flatMap V1.names=xs.flatMap bK.names
  induction xs with
  |nil=>rfl
  |cons c cs ih=>simp only[ct,List.flatMap_cons,bK.mG,ih]
def SC.nj:SC->Bool
 |.dead=>true
 |_=>false
def SV.nj:SV->Bool
 |.v (.c c)=>c.nj
 |_=>false
def SV.live(bt:List Nat)(v:SV):Bool:= !v.nj&&v.names.all λn=> !bt.contains n
theorem SV.Ra(ρ)(g)(x:SV):(x.a6 ρ).live g=x.live g:=by
 unfold V.live SV.live;rw[SV.mG]
 cases x with
 |v x=>
  cases x with
  |c c=>cases c<;>rfl
  |agg=>rfl
 |bq=>rfl
def KX:cr->SC
 |.slice none 0 0=>.nil
 |.int k n=>.p (.int k) (.i n)
 |.bool t=>.p .bool (.b t)
 |.string x=>.p .str (.s x)
 |.pointer none=>.p .ptr .r0
 |.map none=>.p .mp .r0
 |.nilFunc=>.p .fn .r0
 |.nilIface=>.p .BR .r0
 |_=>.dead
def uu:cr->Bool
 |.slice none 0 0=>true
 |.int _ _=>true| .bool _=>true| .string _=>true| .pointer none=>true| .map none=>true| .nilFunc=>true| .nilIface=>true
 |_=>false
theorem afZ(ρ){v}(h:uu v=true):(KX v).a6 ρ=kL v:=by
 unfold uu at h;split at h<;>first|rfl|cases h
def FU:cr->Option bK
 |.agg us=>if us.toList.all uu then some (.agg (us.toList.map KX))else none
 |.func (.func f) first captured=>if first.size=0/\captured.size=0 then some (.c (.fn f []))else none
 |v=>if uu v then some (.c (KX v))else none
theorem anB{v}(h:uu v=true):v.oneCell'=true:=by
 unfold uu at h;split at h<;>first|rfl|cases h
theorem aoY(ρ){v x}(h:FU v=some x):x.a6 ρ=ofValue v:=by
 unfold FU at h;split at h
 .split at h
  .rename_i hall;cases h;simp only[cj]at hall;simp only[bK.a6,ofValue];rw[bF (by simp only[cj];exactλu b=>anB (hall u b))];simp only[h_];congr 1;apply ia;intro u b;exact afZ ρ (hall u b)
  .cases h
 .split at h
  .rename_i d;cases h;simp only[ofValue,bF d];rfl
  .cases h
 .split at h
  .rename_i c;cases h;unfold uu at c;split at c<;>first|rfl|cases c
  .cases h
def bp.arg(S:bp):cF->Option SV
 |.tmp t=>match S.tmps[t]? with
  |some x=>if x.live S.bt then some x else none
  |none=>none
 |.const v=>match FU v with
  |some x=>if(SV.v x).live S.bt then some (.v x)else none
  |none=>none
 |.func f=>some (.v (.c (.fn f [])))
 |.global _=>none
theorem bp.cL(ρ){S:bp}{x v}(h:S.arg x=some v):(S.a6 ρ).arg x=some (v.a6 ρ):=by
 cases x with
 |tmp t=>
  simp only[bp.arg]at h;split at h
  .rename_i y d;split at h
   .rename_i k;cases h;simp only[bz.arg,bp.a6,cN,d,bS,SV.Ra,k,if_true]
   .cases h
  .cases h
 |const u=>
  simp only[bp.arg]at h;split at h
  .rename_i y d;split at h
   .rename_i k;cases h;have m:=aoY ρ d;have o:=SV.Ra ρ S.bt (.v y);simp only[SV.a6,m,k]at o;simp only[bz.arg,SV.a6,m];exact bF o
   .cases h
  .cases h
 |func f=>cases h;rfl
 |global=>cases h
def cw(op:BinOp)(k:dH)(a b:Int):Option L:=match op with
 |.add=>some (.i (k.wrap (a+b)))
 |.sub=>some (.i (k.wrap (a-b)))
 |.mul=>some (.i (k.wrap (a*b)))
 |.quo=>if b≠0 then some (.i (k.wrap (a.tdiv b)))else none
 |.rem=>if b≠0 then some (.i (a.tmod b))else none
 |.and=>some (.i (k.wrap (BitVec.ofInt k.bits a&&&BitVec.ofInt k.bits b).toNat))
 |.or=>some (.i (k.wrap (BitVec.ofInt k.bits a|||BitVec.ofInt k.bits b).toNat))
 |.xor=>some (.i (k.wrap (BitVec.ofInt k.bits a^^^BitVec.ofInt k.bits b).toNat))
 |.andNot=>some (.i (k.wrap (BitVec.ofInt k.bits a&&& ~~~ BitVec.ofInt k.bits b).toNat))
 |.shl=>if 0<=b then some (.i (k.wrap (a*2^ (min b.toNat k.bits))))else none
 |.shr=>if 0<=b then some (.i (a.fdiv (2^ (min b.toNat k.bits))))else none
 |.eql=>some (.b (decide (a=b)))
 |.neq=>some (.b (decide (a≠b)))
 |.lss=>some (.b (decide (a<b)))
 |.leq=>some (.b (decide (a<=b)))
 |.gtr=>some (.b (decide (b<a)))
 |.geq=>some (.b (decide (b<=a)))
def rT(op:BinOp)(a b:fy):Option L:=match op with
 |.add=>if((a.size+b.size:Nat):Int)<=9223372036854775807 then some (.s (a++b))else none
 |.eql=>some (.b (a.toList==b.toList))
 |.neq=>some (.b (!(a.toList==b.toList)))
 |.lss=>some (.b (Op.bytesLess a.toList b.toList))
 |.leq=>some (.b (Op.bytesLess a.toList b.toList||a.toList==b.toList))
 |.gtr=>some (.b (!(Op.bytesLess a.toList b.toList||a.toList==b.toList)))
 |.geq=>some (.b (!(Op.bytesLess a.toList b.toList)))
 |_=>none
def iu(op:BinOp)(a b:Bool):Option L:=match op with
 |.eql=>some (.b (a==b))
 |.neq=>some (.b (!(a==b)))
 |.and=>some (.b (a&&b))
 |_=>none
def lL:BinOp->Bool
 |.eql| .neq| .lss| .leq| .gtr| .geq=>true
 |_=>false
def JL:BinOp->Bool
 |.shl| .shr=>true
 |_=>false
def unI(op:UnOp)(k:dH)(n:Int):Option L:=match op with
 |.neg=>some (.i (k.wrap (0-n)))
 |.xor=>some (.i (k.wrap (BitVec.ofInt k.bits (if k.signed then-1 else k.max) ^^^BitVec.ofInt k.bits n).toNat))
 |_=>none
inductive Nd where
 |bi (op:BinOp) (k:dH) (x y:At)
 |bs (op:BinOp) (x y:At)
 |bb (op:BinOp) (x y:At)
 |not (x:At)
 |un (op:UnOp) (k:dH) (x:At)
 |conv (k:dH) (x:At)
 |len (x:At)
 |lI (x:At)
 |row (x i:At) (size:Nat)
 |gh (x lo len i:At) (size:Nat)
 |rc (x i:At) (j:Nat) (k:Kd)
 |cl (x:At) (j:Nat) (k:Kd)
 |ed (i:At) (cM:Nat)
 |fw (xs:List At) (i:At)
 |jl (x i:At) (k:Nat) (y:At)
 |part (x lo hi:At) (size:Nat)
 |cut (x lo hi:At) (size:Nat)
 |D' (x l0 len lo hi:At) (size:Nat)
 |vw (x lo len:At)
 |tk (x len:At)
 |app (x y:At) (n b:Nat)
 |set (x i:At) (j:Nat) (ps:List (Kd×At))
 |lit (rows:List (List (Kd×At)))
 |f_ (n:At) (ps:List (Kd×At)) (b:Nat)
 |Ec (x y:At) (size:Nat)
 |ue (x lo len y:At) (size:Nat)
 |xl (x len y:At) (size:Nat)
 |str (x:At)
 |rr (x i:At)
 |IP (x lo hi:At)
 |mn (x y:At)
 |mx (x y:At)
 |call (tag:Nat) (F:List L->Option (List L)) (args:List At) (n:Nat) (bs:List Nat)
deriving Inhabited
def rC(size:Nat)(rows:List (List PV)):Bool:=match rows with
 |[]=>true
 |r::_=>r.length==size
def cH(ρ:List L)(ps:List (Kd×At)):List PV:=ps.map λx=>x.1.pv (x.2.ev ρ)
def Nd.ev(ρ:List L):Nd->Option (List L)
 |.bi op k x y=>(cw op k (x.ev ρ).a_ (y.ev ρ).a_).map ([·])
 |.bs op x y=>(rT op (x.ev ρ).du (y.ev ρ).du).map ([·])
 |.bb op x y=>(iu op (x.ev ρ).ck (y.ev ρ).ck).map ([·])
 |.not x=>some [.b (!(x.ev ρ).ck)]
 |.un op k x=>(unI op k (x.ev ρ).a_).map ([·])
 |.conv k x=>some [.i (k.wrap (x.ev ρ).a_)]
 |.len x=>some [.i (x.ev ρ).bm.length]
 |.lI x=>some [.i (x.ev ρ).du.size]
 |.row x i size=>if 0<=(i.ev ρ).a_ then match(x.ev ρ).bm[(i.ev ρ).a_.toNat]? with
  |some r=>if r.length=size then some [.c r]else none
  |none=>none
  else none
 |.gh x d ln i size=>if 0<=(i.ev ρ).a_ then match(x.ev ρ).bm[(d.ev ρ).a_.toNat+(i.ev ρ).a_.toNat]? with
  |some r=>if r.length=size/\(i.ev ρ).a_.toNat< (ln.ev ρ).a_.toNat then some [.i (((d.ev ρ).a_.toNat+(i.ev ρ).a_.toNat:Nat):Int)]else none
  |none=>none
  else none
 |.rc x i j k=>match(x.ev ρ).bm[(i.ev ρ).a_.toNat]? with
  |some r=>match r[j]? with
   |some q=>(k.of q).map ([·])
   |none=>none
  |none=>none
 |.cl x j k=>match(x.ev ρ).jm[j]? with
  |some q=>(k.of q).map ([·])
  |none=>none
 |.ed i cM=>if 0<=(i.ev ρ).a_/\(i.ev ρ).a_<cM then some []else none
 |.fw xs i=>match xs[(i.ev ρ).a_.toNat]? with
  |some x=>some [x.ev ρ]
  |none=>none
 |.jl x i k y=>some [if(i.ev ρ).a_.toNat=k then y.ev ρ else x.ev ρ]
 |.part x d h size=>if 0<=(d.ev ρ).a_/\(d.ev ρ).a_<=(h.ev ρ).a_/\(h.ev ρ).a_.toNat<=(x.ev ρ).bm.length/\cf size (x.ev ρ).bm=true then some [.r (((x.ev ρ).bm.take (h.ev ρ).a_.toNat).drop (d.ev ρ).a_.toNat)]else none
 |.cut x d h size=>if 0<=(d.ev ρ).a_/\(d.ev ρ).a_<=(h.ev ρ).a_/\(h.ev ρ).a_.toNat<=(x.ev ρ).bm.length/\rC size (x.ev ρ).bm=true then some [.i (((h.ev ρ).a_.toNat- (d.ev ρ).a_.toNat:Nat):Int)]else none
 |.D' x l0 ln d h size=>if 0<=(d.ev ρ).a_/\(d.ev ρ).a_<=(h.ev ρ).a_/\(h.ev ρ).a_.toNat<=(ln.ev ρ).a_.toNat/\rC size (x.ev ρ).bm=true then some [.i (((l0.ev ρ).a_.toNat+(d.ev ρ).a_.toNat:Nat):Int),.i (((h.ev ρ).a_.toNat- (d.ev ρ).a_.toNat:Nat):Int)]else none
 |.vw x d ln=>some [.r (((x.ev ρ).bm.drop (d.ev ρ).a_.toNat).take (ln.ev ρ).a_.toNat)]
 |.tk x ln=>some [.r ((x.ev ρ).bm.take (ln.ev ρ).a_.toNat)]
 |.app x y n b=>if(x.ev ρ).bm.length+(y.ev ρ).bm.length<=9223372036854775807/\((x.ev ρ).bm.length+(y.ev ρ).bm.length)*b<=140737488355328/\cf n (x.ev ρ).bm=true/\cf n (y.ev ρ).bm=true then some [.r ((x.ev ρ).bm++(y.ev ρ).bm)]else none
 |.set x i j ps=>match(x.ev ρ).bm[(i.ev ρ).a_.toNat]? with
  |some r=>if j+ps.length<=r.length then some [.r ((x.ev ρ).bm.set (i.ev ρ).a_.toNat (r.take j++cH ρ ps++r.drop (j+ps.length)))]else none
  |none=>none
 |.lit rows=>some [.r (rows.map (cH ρ))]
 |.f_ n ps b=>if 0<=(n.ev ρ).a_/\(n.ev ρ).a_<=9223372036854775807/\b*(n.ev ρ).a_.toNat<=281474976710656 then some [.r (List.replicate (n.ev ρ).a_.toNat (cH ρ ps))]else none
 |.Ec x y size=>if cf size (y.ev ρ).bm=true then some [.r ((y.ev ρ).bm.take (min (y.ev ρ).bm.length (x.ev ρ).bm.length)++(x.ev ρ).bm.drop (min (y.ev ρ).bm.length (x.ev ρ).bm.length)),.i ((min (y.ev ρ).bm.length (x.ev ρ).bm.length:Nat):Int)]else none
 |.ue x d ln y size=>if cf size (y.ev ρ).bm=true/\(d.ev ρ).a_.toNat+(ln.ev ρ).a_.toNat<=(x.ev ρ).bm.length then some [.r ((x.ev ρ).bm.take (d.ev ρ).a_.toNat++(y.ev ρ).bm.take (min (y.ev ρ).bm.length (ln.ev ρ).a_.toNat)++(x.ev ρ).bm.drop ((d.ev ρ).a_.toNat+min (y.ev ρ).bm.length (ln.ev ρ).a_.toNat)),.i ((min (y.ev ρ).bm.length (ln.ev ρ).a_.toNat:Nat):Int)]else none
 |.xl x ln y size=>if cf size (y.ev ρ).bm=true/\(ln.ev ρ).a_.toNat+(y.ev ρ).bm.length<=(x.ev ρ).bm.length then some [.r ((x.ev ρ).bm.take (ln.ev ρ).a_.toNat++(y.ev ρ).bm++(x.ev ρ).bm.drop ((ln.ev ρ).a_.toNat+(y.ev ρ).bm.length)),.i (((ln.ev ρ).a_.toNat+(y.ev ρ).bm.length:Nat):Int)]else none
 |.str x=>(lh (x.ev ρ).bm).map λl=>[.s (strOfNums l)]
 |.rr x i=>if 0<=(i.ev ρ).a_ then match(x.ev ρ).du[(i.ev ρ).a_.toNat]? with
  |some b=>some [.i b.toNat]
  |none=>none
  else none
 |.IP x d h=>if 0<=(d.ev ρ).a_/\(d.ev ρ).a_<=(h.ev ρ).a_/\(h.ev ρ).a_<=(x.ev ρ).du.size then some [.s ((x.ev ρ).du.extract (d.ev ρ).a_.toNat (h.ev ρ).a_.toNat)]else none
 |.mn x y=>some [.i (if(y.ev ρ).a_< (x.ev ρ).a_ then(y.ev ρ).a_ else(x.ev ρ).a_)]
 |.mx x y=>some [.i (if(y.ev ρ).a_> (x.ev ρ).a_ then(y.ev ρ).a_ else(x.ev ρ).a_)]
 |.call _ F args n us=>match F (args.map (At.ev ρ))with
  |some l=>if l.length=n/\(us.all λi=>((l[i]?).getD (.b false)).bm.all (·.all PV.bare))=true then some l else none
  |none=>none
def Nd.n:Nd->Nat
 |.ed _ _=>0
 |.D' .. =>2
 |.Ec .. =>2
 |.ue .. =>2
 |.xl .. =>2
 |.call _ _ _ n _=>n
 |_=>1
theorem Nd.EG{ρ}{d:Nd}{ls}(h:d.ev ρ=some ls):ls.length=d.n:=by
 cases d<;>simp only[Nd.ev,Nd.n]at h⊢<;>first
  |(cases h;rfl)
  |(simp only[bY]at h;obtain⟨_,_,rfl⟩:=h;rfl)
  |(split at h<;>first| (cases h;first|rfl|assumption|exact(And.left ‹_/\_›))|cases h| (split at h<;>first| (cases h;first|rfl|assumption|exact(And.left ‹_/\_›))|cases h| (split at h<;>first| (cases h;first|rfl|assumption|exact(And.left ‹_/\_›))|cases h)| (simp only[bY]at h;obtain⟨_,_,rfl⟩:=h;rfl)| (cases h;first|rfl|assumption|exact(And.left ‹_/\_›)))| (simp only[bY]at h;obtain⟨_,_,rfl⟩:=h;rfl))
def At.in(m:Nat):At->Bool
 |.v n=>decide (n<m)
 |_=>true
def yV(m:Nat)(ps:List (Kd×At)):Bool:=ps.all λx=>x.2.in m
def Nd.in(m:Nat):Nd->Bool
 |.bi _ _ x y| .bs _ x y| .bb _ x y| .row x y _| .rc x y _ _| .tk x y| .app x y _ _| .Ec x y _| .rr x y| .mn x y| .mx x y=>x.in m&&y.in m
 |.not x| .un _ _ x| .conv _ x| .len x| .lI x| .cl x _ _| .ed x _| .str x=>x.in m
 |.gh x a b c _| .ue x a b c _=>x.in m&&a.in m&&b.in m&&c.in m
 |.fw xs i=>xs.all (At.in m)&&i.in m
 |.jl x i _ y| .xl x i y _| .part x i y _| .cut x i y _| .vw x i y| .IP x i y=>x.in m&&i.in m&&y.in m
 |.D' x a b c d _=>x.in m&&a.in m&&b.in m&&c.in m&&d.in m
 |.set x i _ ps=>x.in m&&i.in m&&yV m ps
 |.lit rows=>rows.all (yV m)
 |.f_ n ps _=>n.in m&&yV m ps
 |.call _ _ args _ _=>args.all (At.in m)
theorem At.eY{m ρ xs}{x:At}(h:x.in m=true)(d:m<=ρ.length):x.ev (ρ++xs)=x.ev ρ:=by
 cases x with
 |v n=>
  simp only[At.in,dj]at h;simp only[At.ev];rw[sy om]
 |_=>rfl
theorem IE{m ρ xs ps}(h:yV m ps=true)(b:m<=ρ.length):cH (ρ++xs) ps=cH ρ ps:=by
 apply ia;intro y c;simp only[yV,cj]at h;rw[At.eY (h y c) b]
theorem Nd.eY{m ρ xs}{k:Nd}(h:k.in m=true)(d:m<=ρ.length):k.ev (ρ++xs)=k.ev ρ:=by
 cases k
 case fw ys i=>
  simp only[Nd.in,cd,cj]at h;simp only[Nd.ev,At.eY h.2 d]
  cases q:ys[(i.ev ρ).a_.toNat]? with
  |none=>rfl
  |some x=>simp only[At.eY (h.1 x (dB q)) d]
 case lit rows=>
  simp only[Nd.in,cj]at h;simp only[Nd.ev];congr 3;apply ia;intro y o;exact IE (h y o) d
 case call F args n bs=>
  simp only[Nd.in,cj]at h;simp only[Nd.ev];rw[ia (g:=At.ev ρ) (λy o=>At.eY (h y o) d)]
 case set x i j ps=>
  simp only[Nd.in,cd]at h;simp only[Nd.ev,At.eY h.1.1 d,At.eY h.1.2 d,IE h.2 d]
 case f_ n ps b=>
  simp only[Nd.in,cd]at h;simp only[Nd.ev,At.eY h.1 d,IE h.2 d]
 all_goals
  simp only[Nd.in,cd]at h
  first
   |(simp only[Nd.ev,At.eY h d];done)
   |(simp only[Nd.ev,At.eY h.1 d,At.eY h.2 d];done)
   |(simp only[Nd.ev,At.eY h.1.1 d,At.eY h.1.2 d,At.eY h.2 d];done)
   |(simp only[Nd.ev,At.eY h.1.1.1 d,At.eY h.1.1.2 d,At.eY h.1.2 d,At.eY h.2 d];done)
   |(simp only[Nd.ev,At.eY h.1.1.1.1 d,At.eY h.1.1.1.2 d,At.eY h.1.1.2 d,At.eY h.1.2 d,At.eY h.2 d];done)
def Sat(ρ:List L):Nat->List Nd->Prop
 |_,[]=>True
 |m,b::nds=>(∃ls,b.ev ρ=some ls/\∀i,i<b.n->ρ[m+i]?=ls[i]?)/\Sat ρ (m+b.n) nds
def gy:List Nd->Nat
 |[]=>0
 |nd::nds=>nd.n+gy nds
def qa(ρ:List L):List Nd->Option (List L)
 |[]=>some ρ
 |nd::nds=>match nd.ev ρ with
  |some ls=>qa (ρ++ls) nds
  |none=>none
def ti:Nat->List Nd->Bool
 |_,[]=>true
 |m,b::nds=>b.in m&&ti (m+b.n) nds
theorem CA:∀{nds:List Nd}{ρ ρ':List L},qa ρ nds=some ρ'->∃xs,ρ'=ρ++xs/\xs.length=gy nds
 |[],ρ,ρ',h=>by cases h;exact⟨[],by simp,rfl⟩
 |nd::nds,ρ,ρ',h=>by
  simp only[qa]at h;split at h
  .rename_i ls b;obtain⟨xs,c,d⟩:=CA h;exact⟨ls++xs,by rw[c,eU],by simp[d,Nd.EG b,gy]⟩
  .cases h
theorem Nk:∀{nds:List Nd}{ρ ρ' ys:List L},ti ρ.length nds=true->qa ρ nds=some ρ'->Sat (ρ'++ys) ρ.length nds
 |[],_,_,_,_,_=>trivial
 |nd ::nds,ρ,ρ',ys,c,h=>by
  simp only[ti,cd]at c;simp only[qa]at h;split at h
  .rename_i ls b;have d:=Nd.EG b;obtain⟨xs,e,g⟩:=CA h;refine⟨⟨ls,?_,λi f=>?_⟩,?_⟩
   .rw[e,eU,eU,Nd.eY c.1 (dx _)];exact b
   .rw[e,eU,eU,nV om,Nat.add_sub_cancel_left,sy om]
   .have:=Nk (ys:=ys) (nds:=nds) (ρ:=ρ++ls) (by rw[ez,d];exact c.2) h;rw[ez,d]at this;exact this
  .cases h
theorem Sat.one{ρ m d nds}(h:Sat ρ m (d::nds)):∃ls,d.ev ρ=some ls/\∀i,i<d.n->At.ev ρ (.v (m+i))=(ls[i]?).getD (.b false):=by
 obtain⟨⟨ls,k,o⟩,_⟩:=h;exact⟨ls,k,λi q=>by simp only[At.ev,o i q]⟩
theorem Sat.app:∀{ρ}{m}{a b},Sat ρ m (a++b)->Sat ρ m a/\Sat ρ (m+gy a) b
 |_,_,[],b,h=>⟨trivial,by simpa[gy]using h⟩
 |ρ,m,t::a,b,h=>by
  obtain⟨d,k⟩:=h;obtain⟨o,q⟩:=Sat.app (a:=a) k;exact⟨⟨d,o⟩,by simpa[gy,Bl]using q⟩
structure Ty where
 size:Nat
 agg:Bool
 some:Bool
 info:Bool
 oQ:Option (List Kd)
 fields:List (Option Nat)
 places:Option (List (Nat×Nat))
 elem:Option cg
 arr:Option (Nat×cg)
 app:Option (Nat×Nat)
 cI:Bool
 int:Option dH
 tF:Bool
 sl:Option cg
 ptr:Option cg
 CQ:Bool
 Vu:Nat
deriving DecidableEq,Repr,Inhabited
def wU:cr->Option Kd
 |.int k n=>if n=0 then some (.int k)else none
 |.bool t=>if t then none else some .bool
 |.string x=>if x.size=0 then some .str else none
 |.slice none 0 0=>some .sl
 |.pointer none=>some .ptr
 |.map none=>some .mp
 |.nilFunc=>some .fn
 |.nilIface=>some .BR
 |_=>none
def Je(P:cD)(t:cg):Option (List Kd):=match P.info? t with
 |some i=>match i.zero with
  |some z=>z.cells.toList.mapM wU
  |none=>none
 |none=>none
def Kd.zero:Kd->SC
 |.int k=>.p (.int k) (.i 0)
 |.bool=>.p .bool (.b false)
 |.str=>.p .str (.s ByteArray.empty)
 |.sl=>.nil
 |k=>.p k .r0
theorem agH{v k}(h:wU v=some k)(ρ):k.zero.a6 ρ=kL v/\v.oneCell'=true:=by
 unfold wU at h;split at h
 .split at h
  .rename_i b;subst b;cases h;exact⟨rfl,rfl⟩
  .cases h
 .split at h
  .cases h
  .rename_i b;simp at b;subst b;cases h;exact⟨rfl,rfl⟩
 .rename_i x;split at h
  .have:x=ByteArray.empty:=by
    simp_all
   subst this;cases h;exact⟨rfl,rfl⟩
  .cases h
 all_goals first| (cases h;exact⟨rfl,rfl⟩)|cases h
theorem Am{P t ks}(h:Je P t=some ks)(ρ):qh P t=some ((ks.map Kd.zero).map (SC.a6 ρ)):=by
 unfold Je at h;unfold qh;split at h
 .rename_i i f;split at h
  .rename_i z g;simp only[f,g];have key:∀{l:List cr}{ks:List Kd},l.mapM wU=some ks->(∀u∈l,u.oneCell'=true)/\(ks.map Kd.zero).map (SC.a6 ρ)=l.map kL:=by
    intro l
    induction l with
    |nil=>simp_all
    |cons u l ih=>
     intro ks h
     cases b:wU u with
     |none=>simp[b]at h
     |some k=>
      cases c:l.mapM wU with
      |none=>simp[b,c]at h
      |some j=>
       simp[b,c]at h;subst h;obtain⟨d,e⟩:=ih c;obtain⟨m,n⟩:=agH b ρ;exact⟨by simpa[n]using d,by simp only[ct,e,m]⟩
   obtain⟨d,e⟩:=key h;rw[bF (by simp only[cj];exact d),e]
  .cases h
 .cases h
def apk(P:cD)(t:cg):Nat:=match P.underlying t with
 |some (.struct fs)=>fs.size
 |_=>0
def KB(P:cD)(t:cg):Bool:=match P.underlying t with|some .string=>true|_=>false
def xL(P:cD)(t:cg):Option cg:=match P.underlying t with|some (.slice e)=>some e|_=>none
def ael(P:cD)(t:cg):Option cg:=match P.underlying t with|some (.pointer e)=>some e|_=>none
def T4(P:cD)(t:cg):Bool:=match P.underlying t with
 |some (.map b _)=>match P.underlying b with
  |some (.int .u64)=>true
  |_=>false
 |_=>false
def fc(P:cD)(t:cg):Ty where
 size:=dV P t
 agg:=nF P t
 some:=zJ P t
 info:=mA P t
 oQ:=Je P t
 fields:=(List.range (apk P t)).map (xQ P t)
 places:=Dp P t
 elem:=fk P t
 arr:=lj P t
 app:=jE P t
 cI:=qf P t
 int:=FN P t
 tF:=KB P t
 sl:=xL P t
 ptr:=ael P t
 CQ:=T4 P t
 Vu:=Dg P t
abbrev b_:=List (cg×Ty)
def b_.ok(P:cD)(T:b_):Prop:=∀t r,List.lookup t T=some r->r=fc P t
theorem b_.C8{P T}(h:(T.all λx=>decide (x.2=fc P x.1))=true):b_.ok P T:=by
 intro t r d
 induction T with
 |nil=>cases d
 |cons x T ih=>
  simp only[P',cd,dj]at h;rw[hX]at d;split at d
  .rename_i k;simp at k;subst k;cases d;exact h.1
  .exact ih h.2 d
theorem Ty.aej{P t f k}(h:(fc P t).fields[f]?=Option.some (Option.some k)):xQ P t f=Option.some k:=by
 simp only[fc,cN,bY]at h;obtain⟨n,d,m⟩:=h;have:=(dW.1 d).2;simp at this;rw[this];exact m
end
section
open Go.RowKit
open Classical
structure cE where
 nds:List Nd
 v:SV
 e:gY
 rd:List Nat
def eF:gY:=⟨[],[]⟩
def cE.pure(v:SV):cE:=⟨[],v,eF,[]⟩
def cE.a6(ρ:List L)(r:cE):cb:=⟨r.v.a6 ρ,r.e.a6 ρ,r.rd⟩
abbrev SV.c1(c:SC):SV:=.v (.c c)
def EV(r:Ty)(cs:List SC):Option SV:=
 if r.agg then(if r.size<=cs.length/\r.info=true then some (.v (.agg (cs.take r.size)))else none)
 else match r.some,cs with
  |true,c::_=>some (.c1 c)
  |_,_=>none
theorem Zn{P t cs v}(ρ)(h:EV (fc P t) cs=some v):kb P t (cs.map (SC.a6 ρ))=some (v.a6 ρ):=by
 unfold EV at h;unfold kb;have b:(fc P t).agg=nF P t:=rfl;have e2:(fc P t).size=dV P t:=rfl;have e3:(fc P t).info=mA P t:=rfl;have d:(fc P t).some=zJ P t:=rfl;rw[b,e2,e3,d]at h;split at h
 .split at h
  .cases h;simp_all[SV.a6,bK.a6]
  .cases h
 .rename_i e;rw[bO e];split at h
  .rename_i c l f;cases h;simp only[ct,f];rfl
  .cases h
def ja(m:Nat):List Kd->List SC
 |[]=>[]
 |k::ks=>.p k (.v m)::ja (m+1) ks
def OP(x i:At):Nat->List Kd->List Nd
 |_,[]=>[]
 |j,k::ks=>.rc x i j k::OP x i (j+1) ks
def IB(x:At):Nat->List Kd->List Nd
 |_,[]=>[]
 |j,k::ks=>.cl x j k::IB x (j+1) ks
theorem Yk:∀(ks:List Kd)(m:Nat),(ja m ks).length=ks.length
 |[],_=>rfl
 |_::ks,m=>by simp[ja,Yk ks]
theorem VH{ρ x i}:∀{ks}{m j}{r},(x.ev ρ).bm[(i.ev ρ).a_.toNat]?=some r->Sat ρ m (OP x i j ks)->
 (ja m ks).map (SC.a6 ρ)=((r.drop j).map C.p).take ks.length/\ks.length<=(r.drop j).length
 |[],_,_,_,_,_=>by simp[ja]
 |k ::ks,m,j,r,e,h=>by
  obtain⟨⟨ls,b,g⟩,n⟩:=h;simp only[Nd.ev,e]at b;split at b
  .rename_i q o;simp only[bY]at b;obtain⟨l,p,rfl⟩:=b;obtain⟨s,v⟩:=VH e n;have t:r.drop j=q::r.drop (j+1):=by
    obtain⟨c,u⟩:=dW.1 o;rw[<-u];exact sA c
   have f:=g 0 (by simp[Nd.n]);simp only[l_,sB]at f;refine⟨?_,by simp_all⟩;simp only[ja,ct,t,kH,Qa];have d:(ja (m+1) ks).map (SC.a6 ρ)=((r.drop (j+1)).map C.p).take ks.length:=s;rw[d];simp only[SC.a6,At.ev,f,gS,Kd.BN p]
  .cases b
theorem Ud{ρ x}:∀{ks}{m j},Sat ρ m (IB x j ks)->
 (ja m ks).map (SC.a6 ρ)=(((x.ev ρ).jm.drop j).map C.p).take ks.length/\ks.length<=((x.ev ρ).jm.drop j).length
 |[],_,_,_=>by simp[ja]
 |k ::ks,m,j,h=>by
  obtain⟨⟨ls,b,f⟩,g⟩:=h;simp only[Nd.ev]at b;split at b
  .rename_i q i;simp only[bY]at b;obtain⟨l,n,rfl⟩:=b;obtain⟨o,s⟩:=Ud g;have p:(x.ev ρ).jm.drop j=q::(x.ev ρ).jm.drop (j+1):=by
    obtain⟨c,r⟩:=dW.1 i;rw[<-r];exact sA c
   have e:=f 0 (by simp[Nd.n]);simp only[l_,sB]at e;refine⟨?_,by simp_all⟩;simp only[ja,ct,p,kH,Qa];have d:(ja (m+1) ks).map (SC.a6 ρ)=(((x.ev ρ).jm.drop (j+1)).map C.p).take ks.length:=o;rw[d];simp only[SC.a6,At.ev,e,gS,Kd.BN n]
  .cases b
def rD(r:Ty)(ks:List Kd)(m:Nat):Option SV:=
 if r.agg then(if ks.length=r.size/\r.info=true then some (.v (.agg (ja m ks)))else none)
 else match r.some,ks with
  |true,[k]=>some (.c1 (.p k (.v m)))
  |_,_=>none
theorem S6{P t ks m v ρ}{cs:List PV}(h:rD (fc P t) ks m=some v)(b:(ja m ks).map (SC.a6 ρ)=(cs.map C.p).take ks.length)(e:ks.length<=cs.length):
 kb P t (cs.map C.p)=some (v.a6 ρ):=by
 unfold rD at h;unfold kb;have f:(fc P t).agg=nF P t:=rfl;have e2:(fc P t).size=dV P t:=rfl;have e3:(fc P t).info=mA P t:=rfl;have g:(fc P t).some=zJ P t:=rfl;rw[f,e2,e3,g]at h;split at h
 .rename_i c;rw[bF c];split at h
  .rename_i d;cases h;rw[bF ⟨by simp_all,d.2⟩,<-d.1,<-b];rfl
  .cases h
 .rename_i c;rw[bO c];split at h
  .rename_i k i;cases h
   cases cs with
   |nil=>simp at e
   |cons q j=>
    simp[ja]at b;simp only[ct,i];rw[<-b];rfl
  .cases h
def BL(cs:List SC)(off m:Nat):Nat->Nat->Option (Kd×List At)
 |_,0=>none
 |k,c+1=>match cs[off+k*m]? with
  |some (.p b a)=>if c=0 then some (b,[a])else match BL cs off m (k+1) c with
   |some (d,as)=>if b=d then some (b,a::as)else none
   |none=>none
  |_=>none
theorem Xj{cs:List SC}{off m:Nat}:∀{c k:Nat}{d:Kd}{as:List At},BL cs off m k c=some (d,as)->∀(i:Nat)(a:At),as[i]?=some a->cs[off+(k+i)*m]?=some (.p d a)
 |0,_,_,_,h=>by cases h
 |c+1,k,d,as,h=>by
  intro i a b;simp only[BL]at h;split at h
  .rename_i f o e;split at h
   .cases h
    cases i with
    |zero=>simp at b;subst b;exact e
    |succ i=>simp at b
   .split at h
    .rename_i g j l;split at h
     .rename_i n;subst n;cases h
      cases i with
      |zero=>simp at b;subst b;exact e
      |succ i=>
       have:=Xj l i a (by simpa using b);rw[show k+(i+1)=k+1+i by omega];exact this
     .cases h
    .cases h
  .cases h
def zi(cs:List SC)(off cM m:Nat)(i:At):Nat->Nat->Option (List Kd×List Nd)
 |_,0=>some ([],[])
 |j,c+1=>match BL cs (off+j) m 0 cM,zi cs off cM m i (j+1) c with
  |some (b,as),some (ks,nds)=>some (b::ks,.fw as i::nds)
  |_,_=>none
theorem M_{ρ:List L}{cs:List SC}{off cM m:Nat}{i:At}:∀{c j b:Nat}{ks:List Kd}{nds:List Nd},zi cs off cM m i j c=some (ks,nds)->Sat ρ b nds->
 ks.length=c/\∀d,d<c->∃k a,ks[d]?=some k/\cs[off+j+d+(i.ev ρ).a_.toNat*m]?=some (.p k a)/\a.ev ρ=At.ev ρ (.v (b+d))
 |0,_,_,_,_,h,_=>by cases h;simp_all
 |c + 1,j,b,ks,nds,h,g=>by
  simp only[zi]at h;split at h
  .rename_i l as n f o p;cases h;obtain⟨⟨ls,e,q⟩,r⟩:=g;obtain⟨s,t⟩:=M_ p r;refine⟨by simp[s],λd y=>?_⟩
   cases d with
   |zero=>
    simp only[Nd.ev]at e;split at e
    .rename_i a u;cases e;have:=Xj o _ a u;refine⟨l,a,rfl,by simpa using this,?_⟩;have v:=q 0 (by simp[Nd.n]);simp only[At.ev,v];rfl
    .cases e
   |succ d=>
    obtain⟨k,a,k1,k2,x⟩:=t d om;refine⟨k,a,by simpa using k1,?_,?_⟩
    .rw[show off+j+(d+1)=off+(j+1)+d by omega];exact k2
    .rw[x];simp only[Nd.n];rw[show b+1+d=b+(d+1)by omega]
  .cases h
theorem Ws:∀{ks}{m b:Nat}{k},ks[b]?=some k->(ja m ks)[b]?=some (.p k (.v (m+b)))
 |[],_,_,_,h=>by simp at h
 |k0::ks,m,b,k,h=>by
  cases b with
  |zero=>simp at h;subst h;rfl
  |succ b=>
   have:=Ws (m:=m+1) (ks:=ks) (by simpa using h);simp only[ja,Qb];rw[this];congr 3;omega
def Nq(T:b_)(S:bp)(t:cg)(x:cF):Option cE:=
 match S.arg x,List.lookup t T with
 |some (.v (.c (.ptr n off))),some r=>match List.lookup n S.heap with
  |some (.box cs)=>(EV r (cs.drop off)).map cE.pure
  |_=>none
 |some (.v (.c (.gN n off cM m i))),some r=>match List.lookup n S.heap with
  |some (.box cs)=>match zi cs off cM m i 0 (if r.agg then r.size else 1)with
   |some (ks,nds)=>(rD r ks S.nv).map λv=>⟨nds,v,eF,[]⟩
   |none=>none
  |_=>none
 |some (.v (.c (.dy n i j))),some r=>match List.lookup n S.heap,r.oQ with
  |some (.row _ x),some (k::ks)=>(rD r (k::ks) S.nv).map λv=>⟨OP x i j (k::ks),v,eF,[]⟩
  |_,_=>none
 |some (.v (.c (.ref x j))),some r=>match r.oQ with
  |some ks=>(rD r ks S.nv).map λv=>⟨IB x j ks,v,eF,[]⟩
  |none=>none
 |_,_=>none
theorem ep(ρ)(S:bp)(n):(S.a6 ρ).heap.lookup n=(List.lookup n S.heap).map (SB.a6 ρ):=dh.Cw ρ S.heap n
theorem Vm{P t}{cs:List SC}{off m b}{i:At}{ρ ks v}(hp:rD (fc P t) ks b=some v)(h:ks.length=if(fc P t).agg then(fc P t).size else 1)
 (n:∀d,d<ks.length->∃k a,ks[d]?=some k/\cs[off+d+(i.ev ρ).a_.toNat*m]?=some (.p k a)/\a.ev ρ=At.ev ρ (.v (b+d))):kb P t ((cs.map (SC.a6 ρ)).drop (off+(i.ev ρ).a_.toNat*m))=some (v.a6 ρ):=by
 have hcell:∀d,d<ks.length->((cs.map (SC.a6 ρ)).drop (off+(i.ev ρ).a_.toNat*m))[d]?=((ja b ks).map (SC.a6 ρ))[d]?:=by
  intro d j;obtain⟨k,a,o,e,p⟩:=n d j;rw[pb,cN,cN,Ws o,show off+(i.ev ρ).a_.toNat*m+d=off+d+(i.ev ρ).a_.toNat*m by omega,e];simp only[bS,SC.a6,p]
 have hlen:ks.length<=((cs.map (SC.a6 ρ)).drop (off+(i.ev ρ).a_.toNat*m)).length:=by
  rcases Nat.eq_zero_or_pos ks.length with f|f
  .omega
  .obtain⟨k,a,o,e,p⟩:=n (ks.length-1) om;have:=(dW.1 e).1;simp;omega
 unfold rD at hp;unfold kb;have q:(fc P t).agg=nF P t:=rfl;have e2:(fc P t).size=dV P t:=rfl;have e3:(fc P t).info=mA P t:=rfl;have r:(fc P t).some=zJ P t:=rfl;rw[q,e2,e3,r]at hp;rw[q,e2]at h;split at hp
 .rename_i g;rw[bF g];rw[bF g]at h;split at hp
  .rename_i e;cases hp;rw[bF ⟨om,e.2⟩,<-h];congr 3;apply sv;intro d;rw[sr];split
   .rename_i j;exact hcell d j
   .symm;simp[Yk];omega
  .cases hp
 .rename_i g;rw[bO g];split at hp
  .rename_i k s;cases hp;have f:=hcell 0 (by simp)
   cases u:(cs.map (SC.a6 ρ)).drop (off+(i.ev ρ).a_.toNat*m)with
   |nil=>simp_all
   |cons c l=>
    rw[u]at f;simp[ja]at f;simp only[s];rw[f];rfl
  .cases hp
section
variable{P:cD}{T:b_}{S:bp}{ρ:List L}
theorem aoh(o:b_.ok P T){t x r}(h:Nq T S t x=some r)(p:Sat ρ S.nv r.nds):(pq P (S.a6 ρ) t x).map cb.pure=some (r.a6 ρ):=by
 unfold Nq at h;split at h
 .rename_i n off row c d;have:=o _ _ d;subst this;split at h
  .rename_i cs g;simp only[bY]at h;obtain⟨v,f,rfl⟩:=h;simp only[pq,bp.cL ρ c,ep,g,bS,SB.a6,SV.a6,bK.a6,SC.a6];rw[<-nX,Zn ρ f];rfl
  .cases h
 .rename_i n off cM m i row c d;have:=o _ _ d;subst this;split at h
  .rename_i cs g;split at h
   .rename_i ks nds y;simp only[bY]at h;obtain⟨v,f,rfl⟩:=h;simp only[pq,bp.cL ρ c,ep,g,bS,SB.a6,SV.a6,bK.a6,SC.a6];obtain⟨b,q⟩:=M_ y p;rw[Vm f b (λz A=>by
     simp_all)]
    rfl
   .cases h
  .cases h
 .rename_i n i j row c d;have:=o _ _ d;subst this;split at h
  .rename_i e s k ks g B;simp only[bY]at h;obtain⟨v,f,rfl⟩:=h;simp only[pq,bp.cL ρ c,ep,g,bS,SB.a6,SV.a6,bK.a6,SC.a6];have hrow:∃u,(s.ev ρ).bm[(i.ev ρ).a_.toNat]?=some u:=by
    obtain⟨⟨ls,b,_⟩,_⟩:=p;simp only[Nd.ev]at b;split at b
    .simp_all
    .cases b
   obtain⟨u,l⟩:=hrow;obtain⟨b,q⟩:=VH l p;rw[l];simp only[nX]at b⊢;rw[<-nX,S6 f (by rw[<-nX]at b;exact b) q];rfl
  .cases h
 .rename_i s j row c d;have:=o _ _ d;subst this;split at h
  .simp only[bY]at h;obtain⟨v,f,rfl⟩:=h;simp only[pq,bp.cL ρ c,SV.a6,bK.a6,SC.a6];obtain⟨b,q⟩:=Ud p;rw[S6 f b q];rfl
  .cases h
 .cases h
end
end
end
end Go.Proofs.YtndegphojkiblaaGreatDoor
