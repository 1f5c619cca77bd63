/- A part. -/
import Derived.Test.YtndegphojkiblaaGreatDoorG13
import Derived.Test.YtndegphojkiblaaGreatDoorG15
import Derived.Test.YtndegphojkiblaaGreatDoorG16
import Derived.Test.YtndegphojkiblaaGreatDoorG17
import Derived.Test.YtndegphojkiblaaGreatDoorG22
import Derived.Test.YtndegphojkiblaaGreatDoorG23
import Derived.WalkKit
set_option linter.all false
set_option maxHeartbeats 4000000
set_option maxRecDepth 100000
namespace Go.Proofs.YtndegphojkiblaaGreatDoor
noncomputable section
section
open Go.RowKit Pl AI
attribute [local irreducible] a8.wp
def cU(l:List It):Nat->Int:=oX (·.key) l
theorem oq{l p}(h):cU l p=l[p].key:=ami h
theorem aaK(a):F0 [a]=some [.b false]:=by
 refine bN ?_;refine uR ?_;refine a7 ?_;show[L.b (decide (a.a_≠a.a_))]=_;simp
theorem ahZ(a b):∃c,F1 [a,b]=some [.i c]/\(c<0↔a.a_<b.a_):=by
 suffices h:∃o,Fo NJ [a,b]=some o/\∃c:Int,o=[.i c]/\(c<0↔a.a_<b.a_)by
  obtain⟨o,e,c,rfl,f⟩:=h;exact⟨c,e,f⟩
 refine gi ?_;refine bu (aaK a) rfl rfl (nW ?_);refine bu (aaK b) rfl rfl (nW ?_);refine cZ rfl (cZ rfl ?_);refine uR ?_;refine bG rfl (λg=>?_) (λg=>?_)
 .exact a7 ⟨-1,rfl,om⟩
 refine uR ?_;refine bG rfl (λd=>?_) (λd=>?_)
 .exact a7 ⟨1,rfl,om⟩
 .exact a7 ⟨0,rfl,om⟩
theorem DR(x y:It):∃c,F6 [.i x.key,.i x.cookie,.i x.off,.i x.size,.i y.key,.i y.cookie,.i y.off,.i y.size]=some [.i c]/\(c<0↔x.key<y.key):=by
 obtain⟨c,a,b⟩:=ahZ (.i x.key) (.i y.key);refine⟨c,bN ?_,b⟩;exact bu a rfl rfl (a7 rfl)
def DS(F:List L->Option (List L))(n:Nat):Prop:=∀(l:List It)(a m b:Nat),l.length<=1000000->a<m->m<b->b<=l.length->b-a<=n->dM (cU l) a m->dM (cU l) m b->
 ∃d,F [.r (l.map bw),.i a,.i m,.i b]=some [.r (d.map bw)]/\dU a b l d/\dM (cU d) a b
theorem vp{t F n N}(hF:DS F n)(hN:N<=2*n\/N<=3):DS (Fo (km t F)) N:=by
 intro l a m b hl h1 h2 hb hs ha hm
 suffices h:∃o,Fo (km t F) [.r (l.map bw),.i a,.i m,.i b]=some o/\∃d:List It,o=[.r (d.map bw)]/\dU a b l d/\dM (cU d) a b by
  obtain⟨o,h1,d,rfl,h2⟩:=h;exact⟨d,h1,h2⟩
 refine gi ?_;unfold km;have A9:a<l.length:=om;have xu:m<l.length:=om;refine dk (n:=((m-a:Nat):Int)) (by show(m:Int) -a=_;omega) om om (nW ?_);refine uR ?_;refine bG rfl (λhc=>?_) (λhc=>?_)
 ·
  obtain rfl:m=a+1:=om;refine bE (λxs=>∃i:Nat,xs=[.i i]/\a+1<=i/\i<=b/\(i=a+1\/cU l (i-1)<=cU l a)/\(i=b\/cU l a<=cU l i)) ?_ ?_
  .refine wp_loop (I:=λs=>∃i j:Nat,s=[.i i,.i j]/\a+1<=i/\i<=j/\j<=b/\(i=a+1\/cU l (i-1)<=cU l a)/\(j=b\/cU l a<=cU l j)) (mu:=λs=>match s with|[.i i,.i j]=>j.toNat-i.toNat|_=>0)
    ⟨a+1,b,rfl,om,om,om,.inl rfl,.inl rfl⟩ ?_
   rintro s ⟨i,j,rfl,i0,ij,j1,k1,k2⟩;refine uR ?_;refine bG rfl (λhc=>?_) (λhc=>?_);rotate_left
   .obtain rfl:i=j:=om;exact a7 ⟨i,rfl,i0,j1,k1,k2⟩
   have hh:(i+j) /2<l.length:=om;refine xK (i:=i) (j:=j) rfl rfl rfl om (nW ?_);refine iF (l:=l) (j:=(i+j) /2) rfl rfl hh (nW ?_);refine iF (l:=l) (j:=a) rfl rfl A9 (nW ?_);obtain⟨c,uP,jW⟩:=DR l[(i+j) /2] l[a];refine bu uP rfl rfl (uR ?_);rw[<-oq hh,<-oq A9]at jW;refine bG rfl (λhz=>?_) (λhz=>?_)
   .refine cm (i:=(i+j) /2) rfl om (nW ?_);refine a7 ⟨⟨(i+j) /2+1,j,rfl,om,om,j1,.inr (by rw[Qk];omega),k2⟩,?_⟩;show j- (((i+j) /2+1:Nat):Int).toNat<j-i;omega
   .refine a7 ⟨⟨i,(i+j) /2,rfl,i0,om,om,k1,.inr om⟩,?_⟩;show(((i+j) /2:Nat):Int).toNat-i<j-i;omega
  .rintro _ ⟨i,rfl,i0,i1,k1,k2⟩;refine nW ?_;refine bE (λxs=>∃d:List It,xs=[.r (d.map bw)]/\dU a b l d/\dM (cU d) a b) ?_ ?_;rotate_left
   .rintro _ ⟨d,rfl,hd⟩;exact nW (a7 ⟨d,rfl,hd⟩)
   refine wp_loop (I:=λs=>∃(k:Nat)(d:List It),s=[.i k,.r (d.map bw)]/\a<=k/\k<=i-1/\dU a b l d/\∀p,d[p]?=l[cR a (a+1) (k+1) p]?) (mu:=λs=>match s with|[.i k,_]=>i-k.toNat|_=>0)
    ⟨a,l,rfl,om,om,.refl l,λp=>by rw[Zq]⟩ ?_
   rintro s ⟨k,d,rfl,k0,ki,hs,hd⟩;have jU:=hs.perm.length_eq;refine dk (n:=((i-1:Nat):Int)) (by show(i:Int) -1=_;omega) om om (uR ?_);refine bG rfl (λhc=>?_) (λhc=>?_);rotate_left
   .obtain rfl:k=i-1:=om;have e:i-1+1=i:=om;rw[e]at hd;exact a7 ⟨d,rfl,hs,(aep hm i0 i1 k1 k2).congr λp _ _=>lK (hd p)⟩
   have lX:k+1<d.length:=om;have hk:k<d.length:=om;refine cm (i:=k) rfl om (nW ?_);refine cm (i:=k) rfl om (nW ?_);refine iF (l:=d) (j:=k+1) rfl rfl lX (nW ?_);refine iF (l:=d) (j:=k) rfl rfl hk (nW ?_);refine qS (l:=d) (j:=k) (z:=d[k+1]) rfl rfl hk rfl rfl (nW ?_);refine qS (l:=d.set k d[k+1]) (j:=k+1) (z:=d[k]) rfl rfl (by simpa using lX) rfl rfl (nW ?_);refine cm (i:=k) rfl om (nW ?_);refine a7 ⟨⟨k+1,_,rfl,om,om,hs.trans (.swap hk lX om om om om),λp=>?_⟩,?_⟩
   .rw[Eu hk lX];have e:(if p=k+1 then cR a (a+1) (k+1) k else if p=k then cR a (a+1) (k+1) (k+1)else cR a (a+1) (k+1) p)=cR a (a+1) (k+1+1) p:=by unfold cR; (repeat' split)<;>omega
    rw[<-e]
    (repeat' split)<;>exact hd _
   .show i- ((k+1:Nat):Int).toNat<i-k;omega
 refine dk (n:=((b-m:Nat):Int)) (by show(b:Int) -m=_;omega) om om (nW ?_);refine uR ?_;refine bG rfl (λhc2=>?_) (λhc2=>?_)
 ·
  obtain rfl:b=m+1:=om;refine bE (λxs=>∃i:Nat,xs=[.i i]/\a<=i/\i<=m/\(i=a\/cU l (i-1)<=cU l m)/\(i=m\/cU l m<=cU l i)) ?_ ?_
  .refine wp_loop (I:=λs=>∃i j:Nat,s=[.i i,.i j]/\a<=i/\i<=j/\j<=m/\(i=a\/cU l (i-1)<=cU l m)/\(j=m\/cU l m<=cU l j)) (mu:=λs=>match s with|[.i i,.i j]=>j.toNat-i.toNat|_=>0)
    ⟨a,m,rfl,om,om,om,.inl rfl,.inl rfl⟩ ?_
   rintro s ⟨i,j,rfl,i0,ij,j1,k1,k2⟩;refine uR ?_;refine bG rfl (λhc=>?_) (λhc=>?_);rotate_left
   .obtain rfl:i=j:=om;exact a7 ⟨i,rfl,i0,j1,k1,k2⟩
   have hh:(i+j) /2<l.length:=om;refine xK (i:=i) (j:=j) rfl rfl rfl om (nW ?_);refine iF (l:=l) (j:=m) rfl rfl xu (nW ?_);refine iF (l:=l) (j:=(i+j) /2) rfl rfl hh (nW ?_);obtain⟨c,uP,jW⟩:=DR l[m] l[(i+j) /2];refine bu uP rfl rfl (uR ?_);rw[<-oq hh,<-oq xu]at jW;refine bZ (λhz=>?_) (λhz=>?_)
   .have hz:(!decide (c<0))=true:=hz;have hz:¬c<0:=by simpa using hz
    refine cm (i:=(i+j) /2) rfl om (nW ?_);refine a7 ⟨⟨(i+j) /2+1,j,rfl,om,om,j1,.inr (by rw[Qk];omega),k2⟩,?_⟩;show j- (((i+j) /2+1:Nat):Int).toNat<j-i;omega
   .have hz:(!decide (c<0))=false:=hz;have hz:c<0:=by simpa using hz
    refine a7 ⟨⟨i,(i+j) /2,rfl,i0,om,om,k1,.inr om⟩,?_⟩;show(((i+j) /2:Nat):Int).toNat-i<j-i;omega
  .rintro _ ⟨i,rfl,i0,i1,k1,k2⟩;refine nW ?_;refine bE (λxs=>∃d:List It,xs=[.r (d.map bw)]/\dU a (m+1) l d/\dM (cU d) a (m+1)) ?_ ?_;rotate_left
   .rintro _ ⟨d,rfl,hd⟩;exact nW (a7 ⟨d,rfl,hd⟩)
   refine wp_loop (I:=λs=>∃(k:Nat)(d:List It),s=[.i k,.r (d.map bw)]/\i<=k/\k<=m/\dU a (m+1) l d/\∀p,d[p]?=l[cR k m (m+1) p]?) (mu:=λs=>match s with|[.i k,_]=>k.toNat|_=>0)
    ⟨m,l,rfl,om,om,.refl l,λp=>by rw[V4 om]⟩ ?_
   rintro s ⟨k,d,rfl,k0,ki,hs,hd⟩;have jU:=hs.perm.length_eq;refine uR ?_;refine bG rfl (λhc=>?_) (λhc=>?_);rotate_left
   .obtain rfl:k=i:=om;exact a7 ⟨d,rfl,hs,(awC ha i0 i1 k1 k2).congr λp _ _=>lK (hd p)⟩
   have lX:k-1<d.length:=om;have hk:k<d.length:=om;refine dk (n:=((k-1:Nat):Int)) (by show(k:Int) -1=_;omega) om om (nW ?_);refine dk (n:=((k-1:Nat):Int)) (by show(k:Int) -1=_;omega) om om (nW ?_);refine iF (l:=d) (j:=k-1) rfl rfl lX (nW ?_);refine iF (l:=d) (j:=k) rfl rfl hk (nW ?_);refine qS (l:=d) (j:=k) (z:=d[k-1]) rfl rfl hk rfl rfl (nW ?_);refine qS (l:=d.set k d[k-1]) (j:=k-1) (z:=d[k]) rfl rfl (by simpa using lX) rfl rfl (nW ?_);refine dk (n:=((k-1:Nat):Int)) (by show(k:Int) -1=_;omega) om om (nW ?_);refine a7 ⟨⟨k-1,_,rfl,om,om,hs.trans (.swap hk lX om om om om),λp=>?_⟩,?_⟩
   .rw[Eu hk lX];have e:(if p=k-1 then cR k m (m+1) k else if p=k then cR k m (m+1) (k-1)else cR k m (m+1) p)=cR (k-1) m (m+1) p:=by unfold cR; (repeat' split)<;>omega
    rw[<-e]
    (repeat' split)<;>exact hd _
   .show((k-1:Nat):Int).toNat<k;omega
 have hmb:b-a<=2*n:=om;refine xK (i:=a) (j:=b) rfl rfl rfl om (nW ?_);refine c_ (n:=(((a+b) /2+m:Nat):Int)) (by rfl) om om (nW ?_);generalize azW:(a+b) /2=mid;have q1:2*mid<=a+b:=om;have q2:a+b<=2*mid+1:=om;refine bE (λxs=>∃lo r:Nat,xs=[.i lo,.i r]/\a<=lo/\lo<=r/\r<=m/\r<=mid/\mid+m<=b+lo/\(lo=a\/mid+m=b+lo)/\(r=m\/r=mid)) ?_ ?_
 .refine uR ?_;refine bG rfl (λhg=>?_) (λhg=>?_)
  .refine dk (n:=((mid+m-b:Nat):Int)) (by show((mid+m:Nat):Int) -b=_;omega) om om (nW ?_);exact a7 ⟨mid+m-b,mid,rfl,om,om,om,om,om,.inr om,.inr rfl⟩
  .exact a7 ⟨a,m,rfl,om,om,om,om,om,.inl rfl,.inl rfl⟩
 rintro _ ⟨lo,r,rfl,b1,b2,b3,b4,b5,b6,b7⟩;refine nW ?_;refine dk (n:=((mid+m-1:Nat):Int)) (by show((mid+m:Nat):Int) -1=_;omega) om om (nW ?_);refine bE (λxs=>∃s:Nat,xs=[.i s]/\lo<=s/\s<=r/\(s=lo\/cU l (s-1)<=cU l (mid+m-s))/\(s=r\/cU l (mid+m-1-s)<=cU l s)) ?_ ?_
 .refine wp_loop (I:=λx=>∃i j:Nat,x=[.i i,.i j]/\lo<=i/\i<=j/\j<=r/\(i=lo\/cU l (i-1)<=cU l (mid+m-i))/\(j=r\/cU l (mid+m-1-j)<=cU l j)) (mu:=λs=>match s with|[.i i,.i j]=>j.toNat-i.toNat|_=>0)
   ⟨lo,r,rfl,om,om,om,.inl rfl,.inl rfl⟩ ?_
  rintro x ⟨i,j,rfl,i0,ij,j1,k1,k2⟩;refine uR ?_;refine bG rfl (λhc=>?_) (λhc=>?_);rotate_left
  .obtain rfl:i=j:=om;exact a7 ⟨i,rfl,i0,j1,k1,k2⟩
  have hh:(i+j) /2<l.length:=om;have hp:mid+m-1- (i+j) /2<l.length:=om;refine xK (i:=i) (j:=j) rfl rfl rfl om (nW ?_);refine dk (n:=((mid+m-1- (i+j) /2:Nat):Int)) (by show((mid+m-1:Nat):Int) - (((i+j) /2:Nat):Int)=_;omega) om om (nW ?_);refine iF (l:=l) (j:=mid+m-1- (i+j) /2) rfl rfl hp (nW ?_);refine iF (l:=l) (j:=(i+j) /2) rfl rfl hh (nW ?_);obtain⟨c,uP,jW⟩:=DR l[mid+m-1- (i+j) /2] l[(i+j) /2];refine bu uP rfl rfl (uR ?_);rw[<-oq hh,<-oq hp]at jW;refine bZ (λhz=>?_) (λhz=>?_)
  .have hz:(!decide (c<0))=true:=hz;have hz:¬c<0:=by simpa using hz
   refine cm (i:=(i+j) /2) rfl om (nW ?_);refine a7 ⟨⟨(i+j) /2+1,j,rfl,om,om,j1,.inr (by rw[Qk,show mid+m- ((i+j) /2+1)=mid+m-1- (i+j) /2 by omega];omega),k2⟩,?_⟩;show j- (((i+j) /2+1:Nat):Int).toNat<j-i;omega
  .have hz:(!decide (c<0))=false:=hz;have hz:c<0:=by simpa using hz
   refine a7 ⟨⟨i,(i+j) /2,rfl,i0,om,om,k1,.inr om⟩,?_⟩;show(((i+j) /2:Nat):Int).toNat-i<j-i;omega
 rintro _ ⟨s,rfl,s0,s1,k1,k2⟩;refine nW ?_;obtain⟨e,he⟩:∃e,e=mid+m-s:=⟨_,rfl⟩
 refine dk (n:=(e:Int)) (by show((mid+m:Nat):Int) -s=_;omega) om om (nW ?_);have axP:s+(e-m)=mid:=om;obtain ⟨z1,z2,z3,z4,z5⟩:=awR ha hm (show a<=s by omega) (show s<=m by omega) (show m<=e by omega) (show e<=b by omega)
  (by
   rcases k1 with k|k
   .rcases b6 with k'|k'
    .exact .inl om
    .exact .inr (.inl om)
   .exact .inr (.inr (by rw[he];exact k)))
  (by
   rcases k2 with k|k
   .rcases b7 with k'|k'
    .exact .inl om
    .exact .inr (.inl om)
   .exact .inr (.inr (by rw[he,show mid+m-s-1=mid+m-1-s by omega];exact k)))
 rw[axP]at z2 z3 z5;refine bE (λxs=>∃d:List It,xs=[.r (d.map bw)]/\dU a b l d/\∀p,d[p]?=l[cR s m e p]?) ?_ ?_
 .refine bE (cI (s<m/\m<e)) ?_ ?_
  .refine uR ?_;refine bG rfl (λg1=>?_) (λg1=>?_)
   .refine uR (a7 ?_);exact d' om
   .exact a7 (d_ om)
  .rintro _ ⟨t1,rfl,ht⟩;refine nW ?_;refine bZ (λg1=>?_) (λg1=>?_)
   .have g1:=ht.1 g1;obtain⟨d,hd,Gx,hgd⟩:=agG l hl g1.1 g1.2 (show e<=l.length by omega);refine bu hd rfl rfl (nW ?_);exact a7 ⟨d,rfl,Gx.mono om om,hgd⟩
   .have g1:¬(s<m/\m<e):=λh=>by rw[ht.2 h]at g1;cases g1
    refine a7 ⟨l,rfl,.refl l,λp=>?_⟩;by_cases c1:s=m
    .rw[c1,V4 om]
    .rw[show e=m by omega,Zq]
 rintro _ ⟨d,rfl,Gx,hgd⟩;refine nW ?_;have jU:=Gx.perm.length_eq;have hv:∀p,cU d p=cU l (cR s m e p):=λp=>lK (hgd p)
 have y1:dM (cU d) a s:=z1.congr λp _ _=>hv p
 have y2:dM (cU d) s mid:=z2.congr λp _ _=>hv p
 have y3:dM (cU d) mid e:=z3.congr λp _ _=>hv p
 have y4:dM (cU d) e b:=z4.congr λp _ _=>hv p
 have y5:∀p q,a<=p->p<mid->mid<=q->q<b->cU d p<=cU d q:=λp q h1 h2 h3 h4=>by rw[hv,hv];exact z5 p q h1 h2 h3 h4
 refine bE (λxs=>∃d2:List It,xs=[.r (d2.map bw)]/\dU a mid d d2/\dM (cU d2) a mid) ?_ ?_
 .refine bE (cI (a<s/\s<mid)) ?_ ?_
  .refine uR ?_;refine bG rfl (λg1=>?_) (λg1=>?_)
   .refine uR (a7 ?_);exact d' om
   .exact a7 (d_ om)
  .rintro _ ⟨t1,rfl,ht⟩;refine nW ?_;refine bZ (λg1=>?_) (λg1=>?_)
   .have g1:=ht.1 g1;obtain⟨d2,Pe,axQ,axR⟩:=hF d a s mid om g1.1 g1.2 om om y1 y2;refine bu Pe rfl rfl (nW ?_);exact a7 ⟨d2,rfl,axQ,axR⟩
   .have g1:¬(a<s/\s<mid):=λh=>by rw[ht.2 h]at g1;cases g1
    refine a7 ⟨d,rfl,.refl d,?_⟩;by_cases c1:a=s
    .rw[c1];exact y2
    .rw[show mid=s by omega];exact y1
 rintro _ ⟨d2,rfl,hs2,hg2⟩;refine nW ?_;have azX:=hs2.perm.length_eq;have hv2:∀p,mid<=p->cU d2 p=cU d p:=λp hp=>lK (hs2.out p (.inr hp))
 have x3:dM (cU d2) mid e:=y3.congr λp h1 _=>hv2 p h1
 have x4:dM (cU d2) e b:=y4.congr λp h1 _=>hv2 p om
 have fin:∀d3:List It,dU mid b d2 d3->dM (cU d3) mid b->dU a b l d3/\dM (cU d3) a b:=λd3 h3 h4=>
  ⟨Gx.trans ((hs2.mono om om).trans (h3.mono om om)),dM.join (hg2.congr λp _ h2=>lK (h3.out p (.inl h2))) h4 (amz y5 hs2 h3)⟩
 refine bE (cI (mid<e/\e<b)) ?_ ?_
 .refine uR ?_;refine bG rfl (λg1=>?_) (λg1=>?_)
  .have g1:(mid:Int)<e:=g1;refine uR (a7 ?_);show cI _ [L.b (decide ((e:Int)<b))];exact d' om
  .have g1:¬(mid:Int)<e:=g1;exact a7 (d_ om)
 .rintro _ ⟨t1,rfl,ht⟩;refine nW ?_;refine bZ (λg1=>?_) (λg1=>?_)
  .have g1:=ht.1 g1;obtain⟨d3,xt,axS,axT⟩:=hF d2 mid e b om g1.1 g1.2 om om x3 x4;refine bu xt rfl rfl (nW ?_);exact a7 ⟨d3,rfl,fin d3 axS axT⟩
  .have g1:¬(mid<e/\e<b):=λh=>by rw[ht.2 h]at g1;cases g1
   refine a7 ⟨d2,rfl,fin d2 (.refl d2) ?_⟩;by_cases c1:mid=e
   .rw[c1];exact x4
   .rw[show b=e by omega];exact x3
theorem adU:DS EA 0:=λl a m b _ c d _ e _ _=>om
theorem V2:DS EB 96:=vp (n:=48) (vp (n:=24) (vp (n:=12) (vp (n:=6) (vp (n:=3) (vp (n:=0) adU (.inr om)) (.inl om)) (.inl om)) (.inl om)) (.inl om)) (.inl om)
end
section
attribute [local irreducible] Fo
open Go.RowKit
def S7:a8:=.bI .eql U1 (.i 0)<|.ite U2 (.j [.i 1]) (.op (.bi .eql .u8 U0 (.i 0))<|.ite U3 (.j [.i 0]) (.cA 300 vD [] 0<|.op (.ed U0 256)<|.op (.fw wD U0)<|.cA 342 ZM [U1] 1<|.bI .mul U4 U5<|.bI .rem U6 (.i 255)<|.op (.ed U7 510)<|.op (.fw Ah U7)<|.j [U8]))
def Z6:=Fo S7
def QL:bB:=⟨332,[.c (.p (.int .u8) U0),ci 1],[],2,1,.v (.c (.p (.int .u8) U2)),[],Z6,343⟩
instance:Ok QL:=oS [TW,AD]
def Zp:a8:=.cA 306 pB [U0] 1<|.no U1<|.ite U2 (.j [.i 1,.i 0,.r0]) (.cA 303 FB [U0,U0] 1<|.join (.loop [.i 0,U3] (.bI .lss U4 U0<|.ite U6 (.cA 341 mf [U0,U0,U5,U4] 2<|.op (.gh U5 U7 U8 U4 1)<|.op (.set U5 U9 0 [((.int .u8),(.i 1))])<|.bI .add U4 (.i 1)<|.j [bD,bA]) (.br (.jump 1 [U5])))) (.j [.i 0,U0,U4]))
def Vh:=Fo Zp
def Vv:bB:=⟨318,[ci 0],[],1,3,.bq [.agg [pi 2,pi 2,.own 0],ci 1],[(0,(.row 5 U3))],Vh,344⟩
instance:Ok Vv:=oS [sP,t_,zg,Cz]
def UH:a8:=.join (.cA 306 pB [U0] 1<|.no U2<|.ite U3 (.j [.b true]) (.cA 306 pB [U1] 1<|.no U4<|.j [U5])) (.ite U2 (.j [.i 1,.i 0,.i 0,.r0]) (.cA 303 FB [U0,U1] 1<|.join (.loop [.i 0,U3] (.bI .lss U4 U0<|.ite U6 (.join (.loop [.i 0,U5] (.bI .lss U7 U1<|.ite U9 (.cA 341 mf [U0,U1,U8,U4] 2<|.op (.conv .u8 U4)<|.cA 343 Z6 [bJ,U7] 1<|.op (.gh U8 bA bD U7 1)<|.op (.set U8 bM 0 [((.int .u8),bH)])<|.bI .add U7 (.i 1)<|.j [bV,bL]) (.br (.jump 1 [U8])))) (.bI .add U4 (.i 1)<|.j [U8,U7])) (.br (.jump 1 [U5])))) (.j [.i 0,U0,U1,U4])))
def XC:=Fo UH
def aaV:bB:=⟨314,[ci 0,ci 1],[],2,4,.bq [.agg [pi 3,pi 4,.own 0],ci 2],[(0,(.row 5 U5))],XC,345⟩
instance:Ok aaV:=oS [QL,sP,t_,zg,Cz]
def Zf:a8:=.join (.cA 307 tm [U0,U1,U2] 1<|.no U6<|.ite U7 (.j [.b true]) (.cA 307 tm [U3,U4,U5] 1<|.no U8<|.ite U9 (.j [.b true]) (.bI .neq U1 U3<|.j [bA]))) (.ite U6 (.j [.i 1,.i 0,.i 0,.r0]) (.cA 303 FB [U0,U4] 1<|.join (.loop [.i 0,U7] (.bI .lss U8 U0<|.ite bA (.join (.loop [.i 0,U9] (.bI .lss bD U4<|.ite bH (.join (.loop [.i 0,bJ] (.bI .lss bM U1<|.ite bV (.cA 341 mf [U0,U4,bL,U8] 2<|.op (.gh bL bR bW bD 1)<|.op (.rc bL bX 0 (.int .u8))<|.cA 304 tZ [U0,U1,U2,U8,bM] 1<|.cA 304 tZ [U3,U4,U5,bM,bD] 1<|.cA 302 vT [cu,cq] 1<|.op (.bi .xor .u8 b9 cv)<|.op (.gh bL bR bW bD 1)<|.op (.set bL cG 0 [((.int .u8),cX)])<|.bI .add bM (.i 1)<|.j [c9,cK]) (.br (.jump 1 [bL])))) (.bI .add bD (.i 1)<|.j [bL,bM])) (.br (.jump 1 [bJ])))) (.bI .add U8 (.i 1)<|.j [bJ,bD])) (.br (.jump 1 [U9])))) (.j [.i 0,U0,U4,U8])))
def B2:=Fo Zf
def Ik:bB:=⟨307,[.agg [pi 0,pi 1,ps 2],.agg [pi 3,pi 4,ps 5]],[],6,4,.bq [.agg [pi 7,pi 8,.own 0],ci 6],[(0,(.row 5 U9))],B2,346⟩
instance:Ok Ik:=oS [sP,t_,yY,Ct,Cz,Cj]
def WI:a8:=.join (.cA 307 tm [U0,U1,U2] 1<|.no U4<|.ite U5 (.j [.b true]) (.ln U3<|.cA 306 pB [U6] 1<|.no U7<|.j [U8])) (.ite U4 (.j [.i 1,.i 0,.i 0,.r0]) (.ln U3<|.join (.ln U3<|.loop [.i 0,.r0] (.bI .lss U7 U6<|.ite U9 (.rw U3 U7 1<|.cl bA 0 (.int .i64)<|.join (.bI .lss bD (.i 0)<|.ite bJ (.j [.b true]) (.bI .geq bD U0<|.j [bH])) (.ite bJ (.br (.jump 2 [.i 1,.i 0,.i 0,.r0])) (.cA 340 abp [U0,U1,U2,bD] 1<|.op (.app U8 bH 1 1)<|.bI .add U7 (.i 1)<|.j [bL,bM]))) (.br (.jump 1 [U8])))) (.j [.i 0,U5,U1,U6])))
def C7:=Fo WI
def Is:bB:=⟨305,[.agg [pi 0,pi 1,ps 2],cs 3],[],4,4,.bq [.agg [pi 5,pi 6,.own 0],ci 4],[(0,(.row 5 U7))],C7,347⟩
instance:Ok Is:=oS [sP,t_,yY,zg]
def afB:a8:=.join (.bI .lss U0 (.i 0)<|.ite U2 (.j [.b true]) (.bI .gtr U0 (.i 4611686018427387904)<|.ite U3 (.j [.b true]) (.bI .lss U1 (.i 0)<|.ite U4 (.j [.b true]) (.bI .gtr U1 (.i 1048576)<|.j [U5])))) (.ite U2 (.j [.i 1,.r0]) (.join (.loop [.i 0,.r0] (.bI .lss U3 U1<|.ite U5 (.bI .add U0 U3<|.cA 27 K4 [U6] 3<|.bI .add U0 U3<|.bI .rem bA (.i 64)<|.bI .sub (.i 64) bD<|.bI .sub U1 U3<|.op (.mn bJ bH)<|.op (.lit [[((.int .i64),U7),((.int .i64),U8),((.int .i64),bM)]])<|.op (.app U4 bL 3 24)<|.bI .add U3 bM<|.j [bR,bV]) (.br (.jump 1 [U4])))) (.j [.i 0,U3])))
def Lk:=Fo afB
def Uo:bB:=⟨216,[ci 0,ci 1],[],2,2,.bq [.c (.own 0),ci 2],[(0,(.row 321 U3))],Lk,348⟩
instance:Ok Uo:=oS [WJ]
def afI:a8:=.ln U0<|.bI .lss U1 (.i 20)<|.ite U2 (.j [.i 0,.i 4,.i 0,.i 0,.b false,.r0]) (.ln U0<|.op (.part U0 (.i 16) (.i 20) 1)<|.cA 40 F40 [U4] 1<|.join (.rw U0 (.i 0) 1<|.cl U6 0 (.int .u8)<|.op (.bi .neq .u8 U7 (.i 78))<|.ite U8 (.j [.b true]) (.rw U0 (.i 1) 1<|.cl U9 0 (.int .u8)<|.op (.bi .neq .u8 bA (.i 165))<|.ite bD (.j [.b true]) (.rw U0 (.i 2) 1<|.cl bJ 0 (.int .u8)<|.op (.bi .gtr .u8 bH (.i 1))<|.ite bM (.j [.b true]) (.rw U0 (.i 3) 1<|.cl bL 0 (.int .u8)<|.op (.bi .neq .u8 bV (.i 0))<|.ite bR (.j [.b true]) (.op (.bi .gtr .u64 U5 (.i 4096))<|.ite bW (.j [.b true]) (.rw U0 (.i 2) 1<|.cl bX 0 (.int .u8)<|.op (.bi .eql .u8 b9 (.i 1))<|.ite cu (.op (.bi .gtr .u64 U5 (.i 0))<|.j [cq]) (.j [.b false]))))))) (.ite U6 (.j [.i 0,.i 3,.i 0,.i 0,.b false,.r0]) (.op (.conv .i64 U5)<|.cA 44 mL [U7] 1<|.op (.conv .i64 U5)<|.bI .add (.i 20) U9<|.ln U0<|.bI .lss bD U8<|.ite bJ (.j [.i 0,.i 4,.i 0,.i 0,.b false,.r0]) (.ln U0<|.op (.part U0 (.i 0) bA 1)<|.cA 41 wO [bM] 1<|.op (.str bL)<|.bI .add bA (.i 4)<|.ln U0<|.op (.part U0 bA bR 1)<|.op (.str bX)<|.op (.bs .neq bV b9)<|.ite cu (.j [.i 0,.i 5,.i 0,.i 0,.b false,.r0]) (.join (.bI .add bA (.i 4)<|.loop [cq] (.bI .lss cv U8<|.ite cX (.rw U0 cv 1<|.cl cG 0 (.int .u8)<|.op (.bi .neq .u8 cK (.i 0))<|.ite c9 (.br (.jump 2 [.i 0,.i 3,.i 0,.i 0,.b false,.r0])) (.bI .add cv (.i 1)<|.j [dJ])) (.br (.jump 1 [])))) (.ln U0<|.op (.part U0 (.i 8) (.i 16) 1)<|.cA 40 F40 [cv] 1<|.ln U0<|.op (.part U0 (.i 4) (.i 8) 1)<|.cA 40 F40 [cK] 1<|.op (.conv .u32 c9)<|.rw U0 (.i 2) 1<|.cl dI 0 (.int .u8)<|.op (.bi .eql .u8 eo (.i 1))<|.op (.lit [])<|.ln U0<|.op (.part U0 (.i 20) bA 1)<|.op (.app e_ gG 1 1)<|.j [U8,.i 0,cX,dJ,fm,fv]))))))
def CU:=Fo afI
def My:bB:=⟨145,[cs 0],[],1,6,.bq [.agg [.p (.int .u64) U3,.p (.int .u32) U4,.p .bool U5,.own 0],ci 1,ci 2],[(0,(.row 5 U6))],CU,354⟩
instance:Ok My:=oS [kX,ox,yQ]
def awg:a8:=.ln U0<|.bI .lss U1 (.i 52)<|.ite U2 (.j [.i 4,.i 0,.i 0,.i 0,.i 0,.i 0,.i 0,.i 0,.i 0,.i 0,.i 0,.r0]) (.ln U0<|.op (.part U0 (.i 0) (.i 4) 1)<|.op (.str U4)<|.op (.bs .neq U5 (.s ⟨#[78,73,68,88]⟩))<|.ite U6 (.j [.i 3,.i 0,.i 0,.i 0,.i 0,.i 0,.i 0,.i 0,.i 0,.i 0,.i 0,.r0]) (.ln U0<|.op (.part U0 (.i 44) (.i 48) 1)<|.cA 40 F40 [U8] 1<|.op (.conv .i64 U9)<|.bI .mul (.i 24) bA<|.bI .add (.i 52) bD<|.bI .lss U1 bJ<|.ite bH (.j [.i 4,.i 0,.i 0,.i 0,.i 0,.i 0,.i 0,.i 0,.i 0,.i 0,.i 0,.r0]) (.bI .gtr U1 bJ<|.ite bM (.j [.i 3,.i 0,.i 0,.i 0,.i 0,.i 0,.i 0,.i 0,.i 0,.i 0,.i 0,.r0]) (.bI .sub U1 (.i 4)<|.ln U0<|.op (.part U0 (.i 0) bL 1)<|.cA 41 wO [bR] 1<|.op (.str bW)<|.bI .sub U1 (.i 4)<|.ln U0<|.op (.part U0 b9 cu 1)<|.op (.str cq)<|.op (.bs .neq bX cv)<|.ite cX (.j [.i 5,.i 0,.i 0,.i 0,.i 0,.i 0,.i 0,.i 0,.i 0,.i 0,.i 0,.r0]) (.bI .sub U1 (.i 4)<|.ln U0<|.op (.part U0 (.i 48) cG 1)<|.cA 352 Kz [c9] 2<|.bI .neq dJ (.i 0)<|.ite eo (.j [dJ,.i 0,.i 0,.i 0,.i 0,.i 0,.i 0,.i 0,.i 0,.i 0,.i 0,.r0]) (.ln U0<|.op (.part U0 (.i 4) (.i 6) 1)<|.cA 40 F40 [e_] 1<|.op (.conv .i64 eH)<|.ln U0<|.op (.part U0 (.i 6) (.i 8) 1)<|.cA 40 F40 [mb] 1<|.op (.conv .i64 oP)<|.ln U0<|.op (.part U0 (.i 8) (.i 12) 1)<|.cA 40 F40 [nH] 1<|.op (.conv .i64 ou)<|.ln U0<|.op (.part U0 (.i 12) (.i 20) 1)<|.cA 40 F40 [xj] 1<|.op (.conv .i64 vW)<|.join (.loop [.i 0,.i 0,.i 0,.i 0,.i 0,.i 0,.i 0] (.bI .lss jA (.i 6)<|.ite CO (.join (.bI .mul (.i 4) jA<|.bI .add (.i 20) Cv<|.bI .mul (.i 4) jA<|.bI .add (.i 24) yN<|.ln U0<|.op (.part U0 AP Eg 1)<|.cA 40 F40 [NK] 1<|.op (.conv .u32 pj)<|.bI .eql jA (.i 0)<|.ite YK (.j [.i 0,qY,nl,nf,kD,nG,kJ]) (.bI .eql jA (.i 1)<|.ite En (.j [.i 1,lH,qY,nf,kD,nG,kJ]) (.bI .eql jA (.i 2)<|.ite CK (.j [.i 2,lH,nl,qY,kD,nG,kJ]) (.bI .eql jA (.i 3)<|.ite Fs (.j [.i 3,lH,nl,nf,qY,nG,kJ]) (.bI .eql jA (.i 4)<|.ite Nw (.j [.i 4,lH,nl,nf,kD,qY,kJ]) (.bI .eql jA (.i 5)<|.ite Uv (.j [.i 5,lH,nl,nf,kD,nG,qY]) (.op (.ed (.i 0) 0)<|.j []))))))) (.bI .add Cv (.i 1)<|.j [qY,AP,yN,Eg,tG,NK,pj])) (.br (.jump 1 [lH,nl,nf,kD,nG,kJ])))) (.cA 61 Jg [gG,lx,tW,tj,jA,lH,nl,nf,kD,nG,dI] 1<|.no kJ<|.ite CO (.j [.i 3,.i 0,.i 0,.i 0,.i 0,.i 0,.i 0,.i 0,.i 0,.i 0,.i 0,.r0]) (.j [.i 0,gG,lx,tW,tj,jA,lH,nl,nf,kD,nG,dI]))))))))
def HB:=Fo awg
def Rc:bB:=⟨109,[cs 0],[],1,12,.bq [.agg (de 2 4++[.p (.int .u32) U6,.p (.int .u32) U7,.p (.int .u32) U8,.p (.int .u32) U9,.p (.int .u32) bA,.p (.int .u32) bD,.own 0]),ci 1],[(0,(.row 25 bJ))],HB,355⟩
instance:Ok Rc:=oS [TH,vY,ox,yQ]
def Oz:=mS [D_,IW,wQ,KV,kX,D3] 77 [.agg (de 0 4++eT 4 8++[pi 12,pi 13]),cs 14] [] 15 15 (.bq [.agg (de 16 4++eT 20 8++[pi 28,pi 29]),ci 15]) [] 114
def atJ:=Oz.F
instance:Ok Oz:=oM
def akI:a8:=.join (.ln U3<|.bI .sub U5 (.i 1)<|.loop [U6] (.join (.bI .geq U7 (.i 0)<|.ite U8 (.op (.call 103 zM (w 0 4) 1 [])<|.j [U9]) (.j [.b false])) (.ite U8 (.rw U3 U7 14<|.cl U9 4 .sl<|.cl U9 5 .sl<|.cl U9 6 .sl<|.cl U9 7 .sl<|.cl U9 8 .sl<|.cl U9 9 .sl<|.cl U9 10 .sl<|.cl U9 11 .sl<|.cl U9 12 (.int .i64)<|.cl U9 13 (.int .i64)<|.op (.call 99 Dd (w 10 10++[U4]) 5 [])<|.ite b9 (.rw U3 U7 14<|.cl cG 0 (.int .i64)<|.rw U3 U7 14<|.cl c9 2 (.int .i64)<|.rw U3 U7 14<|.cl dI 1 (.int .i64)<|.br (.jump 2 ([.b true,cK,dJ,eo]++w 21 4))) (.bI .sub U7 (.i 1)<|.j [cG])) (.br (.jump 1 []))))) (.j [.b false,.i 0,.i 0,.i 0,.i 0,.i 0,.i 0,.i 0])
def v_:=Fo akI
def Ny:bB:=⟨13,[.agg [pi 0,pi 1,.p .bool U2,ps 3],.c (.p (.int .u64) U4)],[],5,8,.bq [.agg [pi 6,pi 7,pi 8,.p (.int .u64) U9,.p (.int .u32) bA,pi 11,pi 12],.c (.p .bool U5)],[],v_,115⟩
instance:Ok Ny:=oS [po,py,vO]
def BE:=mS [po,py] 76 [.agg [pi 0,pi 1,.p .bool U2,ps 3]] [] 4 15 (.bq [.agg (de 5 4++eT 9 8++[pi 17,pi 18]),ci 4]) [] 116
def apo:=BE.F
instance:Ok BE:=oM
def Iy:=mS [po,py,vO] 73 [.agg [pi 0,pi 1,.p .bool U2,ps 3],.c (.p (.int .u64) U4)] [] 5 1 (.v (.c (.own 0))) [(0,(.row 3 U5))] 117
def avX:=Iy.F
instance:Ok Iy:=oM
def QO:a8:=.join (.cA 307 tm [U0,U1,U2] 1<|.no U3<|.ite U4 (.j [.b true]) (.bI .neq U0 U1<|.j [U5])) (.ite U3 (.j [.i 1,.i 0,.r0]) (.cA 2010 qH [U2] 0<|.cA 344 Vh [U0] 3<|.join (.loop [.i 0,U2,U6] (.bI .lss U7 U0<|.ite bA (.join (.join (.loop [U7] (.bI .lss bD U0<|.ite bJ (.cA 304 tZ [U0,U1,U8,bD,U7] 1<|.cA 305 QF [bH] 2<|.bI .neq bL (.i 0)<|.ite bV (.bI .add bD (.i 1)<|.j [bR]) (.cA 359 On [U0,U1,U8,bD,U7] 1<|.cA 359 On [U5,U5,U9,bD,U7] 1<|.cA 341 mf [U0,U1,bR,U7] 2<|.cA 367 Kg [bR,bX,b9,bM] 1<|.cA 341 mf [U5,U5,bW,U7] 2<|.cA 367 Kg [bW,cq,cv,bM] 1<|.join (.loop [.i 0,cu,cX] (.bI .lss cG U0<|.ite dJ (.join (.cA 304 tZ [U0,U1,cK,cG,U7] 1<|.bI .neq cG U7<|.ite eo (.cA 341 mf [U0,U1,cK,cG] 2<|.cA 341 mf [U0,U1,cK,U7] 2<|.cA 380 Js [cK,fm,e_,eH,gG,dI] 1<|.cA 341 mf [U5,U5,c9,cG] 2<|.cA 341 mf [U5,U5,c9,U7] 2<|.cA 380 Js [c9,mb,oP,lx,nz,dI] 1<|.j [fv,nH]) (.j [cK,c9])) (.bI .add cG (.i 1)<|.j [fm,dI,eo])) (.br (.jump 1 [cK,c9])))) (.br (.jump 2 [cG,cK])))) (.br (.jump 1 [])))) (.br (.jump 3 [.i 14,.i 0,.r0]))) (.bI .add U7 (.i 1)<|.j [bH,bD,bJ])) (.br (.jump 1 [U9])))) (.j [.i 0,U5,U7])))
def EO:=Fo QO
def Kb:bB:=⟨306,[.agg [pi 0,pi 1,ps 2]],[],3,3,.bq [.agg [pi 4,pi 4,.own 0],ci 3],[(0,(.row 5 U5))],EO,384⟩
instance:Ok Kb:=oS [ZT,TJ,RF,Vv,sP,t_,yY,VA,Ct,FF]
def aaC:a8:=.cA 345 XC [.i 6,.i 4] 4<|.op (.lit [[((.int .i64),(.i 0))],[((.int .i64),(.i 1))],[((.int .i64),(.i 2))],[((.int .i64),(.i 3))]])<|.op (.call 347 C7 [U1,U2,U3,U4] 4 [3])<|.op (.call 384 EO [U6,U7,U8] 3 [2])<|.op (.call 346 B2 [U1,U2,U3,bA,bA,bD] 4 [3])<|.j [bH,bM,bL]
def Ju:=Fo aaC
def Zo:bB:=⟨304,[],[],0,3,.v (.agg [pi 0,pi 1,.own 0]),[(0,(.row 5 U2))],Ju,385⟩
instance:Ok Zo:=oS [Kb,Is,Ik,aaV]
def aqY:a8:=.join (.loop [.i 0,.r0,.r0] (.bI .lss U7 (.i 6)<|.ite bA (.join (.op (.ed U7 6)<|.op (.fw [U1,U2,U3,U4,U5,U6] U7)<|.join (.ite bD (.ln U8<|.bI .lss bJ (.i 4)<|.j [bH]) (.j [.b false])) (.ite bJ (.op (.lit [[((.int .i64),U7)]])<|.op (.app U8 bH 1 8)<|.rw U0 U7 1<|.cl bL 0 .sl<|.op (.lit [[(.sl,bV)]])<|.op (.app U9 bR 1 24)<|.j [bM,bW]) (.j [U8,U9]))) (.bI .add U7 (.i 1)<|.j [bH,bD,bJ])) (.br (.jump 1 [U8,U9])))) (.cA 385 Ju [] 3<|.op (.call 347 C7 [U9,bA,bD,U7] 4 [3])<|.op (.call 384 EO [bH,bM,bL] 3 [2])<|.op (.call 346 B2 [U9,bA,bD,bR,bR,bW] 4 [3])<|.cA 308 Iu [b9,cu,cq,U8] 2<|.j [cX])
def NO:=Fo aqY
def XK:bB:=⟨284,[cs 0,.agg [.p .bool U1,.p .bool U2,.p .bool U3,.p .bool U4,.p .bool U5,.p .bool U6]],[],7,1,.v (.c (.own 0)),[(0,(.row 71 U7))],NO,386⟩
instance:Ok XK:=oS [Zo,Kb,Is,Ik,XS]
def agP:a8:=.join (.ln U0<|.bI .neq U2 (.i 6)<|.ite U3 (.j [.b true]) (.ln U1<|.bI .neq U4 (.i 6)<|.j [U5])) (.ite U2 (.j [.i 1,.r0]) (.op (.part U1 (.i 0) (.i 6) 1)<|.op (.rc U3 (.i 0) 0 .bool)<|.op (.rc U3 (.i 1) 0 .bool)<|.op (.rc U3 (.i 2) 0 .bool)<|.op (.rc U3 (.i 3) 0 .bool)<|.op (.rc U3 (.i 4) 0 .bool)<|.op (.rc U3 (.i 5) 0 .bool)<|.op (.lit [[(.bool,U4),(.bool,U5),(.bool,U6),(.bool,U7),(.bool,U8),(.bool,U9)]])<|.rw bA (.i 0) 6<|.cl bD 0 .bool<|.cl bD 1 .bool<|.cl bD 2 .bool<|.cl bD 3 .bool<|.cl bD 4 .bool<|.cl bD 5 .bool<|.join (.loop [.i (-1),.i 0,.i 0] (.bI .lss b9 (.i 6)<|.ite cu (.join (.op (.ed b9 6)<|.op (.fw [bJ,bH,bM,bL,bV,bR] b9)<|.no cq<|.ite cv (.j [bW,bX]) (.join (.bI .lss bW (.i 0)<|.ite cX (.j [b9]) (.j [bW])) (.rw U0 b9 1<|.cl cG 0 .sl<|.ln cK<|.rw U0 cX 1<|.cl dJ 0 .sl<|.ln dI<|.bI .neq c9 eo<|.ite fm (.br (.jump 3 [.i 1,.r0])) (.bI .add bX (.i 1)<|.j [cX,e_])))) (.bI .add b9 (.i 1)<|.j [cq,cv,cX])) (.br (.jump 1 [bX])))) (.bI .lss bW (.i 4)<|.ite bX (.j [.i 11,.r0]) (.cA 386 NO [U0,bJ,bH,bM,bL,bV,bR] 1<|.j [.i 0,b9]))))
def K2:=Fo agP
def Xc:bB:=⟨243,[cs 0,cs 1],[],2,2,.bq [.c (.own 0),ci 2],[(0,(.row 71 U3))],K2,387⟩
instance:Ok Xc:=oS [XK]
def agr:a8:=.op (.f_ (.i 6) [(.sl,.r0)] 24)<|.join (.ln U0<|.loop [.i 0,U5] (.bI .lss U7 U6<|.ite U9 (.join (.rw U0 U7 1<|.cl bA 0 .sl<|.rw U1 U7 1<|.cl bJ 0 .bool<|.ite bH (.bI .add U3 U4<|.ln bD<|.op (.part bD U3 bM 1)<|.rw U8 U7 1<|.op (.set U8 U7 0 [(.sl,bV)])<|.j [bW]) (.j [U8])) (.bI .add U7 (.i 1)<|.j [bD,bA])) (.br (.jump 1 [U8])))) (.cA 387 K2 [U6,U1] 2<|.rw U8 U2 1<|.op (.rc U8 U2 0 .sl)<|.j [bA])
def K8:=Fo agr
def Yb:bB:=⟨214,[cs 0,cs 1,.agg [pi 2,pi 3,pi 4]],[],5,1,.v (cs 5),[],K8,389⟩
instance:Ok Yb:=oS [Xc]
def auD:a8:=.join (.cA 67 AF [U0,U1,U2,U3,U4,U5,U6,U7,U8,U9,bA] 1<|.no bV<|.ite bR (.j [.b true]) (.ln bD<|.bI .neq bW (.i 6)<|.ite bX (.j [.b true]) (.ln bJ<|.bI .neq b9 (.i 6)<|.ite cu (.j [.b true]) (.bI .lss bM (.i 0)<|.ite cq (.j [.b true]) (.bI .lss bL (.i 0)<|.ite cv (.j [.b true]) (.bI .gtr bM U3<|.ite cX (.j [.b true]) (.bI .sub U3 bM<|.bI .gtr bL cG<|.j [cK]))))))) (.ite bV (.j [.b false,.r0]) (.cA 349 Mx [U0,U1,U2,U3,U4,U5,U6,U7,U8,U9,bA,bD,bJ,bH] 1<|.cA 348 Lk [bM,bL] 2<|.join (.loop [.i 0,.r0] (.ln bX<|.bI .lss b9 cq<|.ite cv (.rw bX b9 3<|.op (.rc bX b9 0 (.int .i64))<|.op (.rc bX b9 1 (.int .i64))<|.op (.rc bX b9 2 (.int .i64))<|.join (.loop [.i 0,.r0] (.bI .lss dJ (.i 6)<|.ite eo (.join (.rw bR dJ 1<|.op (.rc bR dJ 0 .bool)<|.ite e_ (.rw bD dJ 1<|.cl eH 0 .sl<|.bI .add cK c9<|.ln gG<|.op (.part gG cK fv 1)<|.j [oP]) (.j [.r0])) (.op (.lit [[(.sl,fm)]])<|.op (.app dI e_ 1 24)<|.bI .add dJ (.i 1)<|.j [gG,eH])) (.br (.jump 1 [dI])))) (.join (.rw bR cG 1<|.op (.rc bR cG 0 .bool)<|.no eo<|.ite fm (.cA 390 As [dJ,bR] 2<|.bI .neq e_ (.i 0)<|.ite gG (.br (.jump 3 [.b false,.r0])) (.j [eH])) (.j [dJ])) (.rw dI cG 1<|.op (.rc dI cG 0 .sl)<|.op (.app cu fm 1 1)<|.bI .add b9 (.i 1)<|.j [eH,e_]))) (.br (.jump 1 [cu])))) (.j [.b true,b9])))
def JS:=Fo auD
def Z9:bB:=⟨167,[.agg (de 0 4++[.p (.int .u32) U4,.p (.int .u32) U5,.p (.int .u32) U6,.p (.int .u32) U7,.p (.int .u32) U8,.p (.int .u32) U9,ps 10]),cs 11,cs 12,cs 13,ci 14,ci 15],[],16,2,.bq [.c (.own 0),.c (.p .bool bV)],[(0,(.row 5 bR))],JS,394⟩
instance:Ok Z9:=oS [XG,yI,VW,Uo,vY]
def asd:a8:=.join (.bI .lss bH (.i 0)<|.ite bW (.j [.b true]) (.bI .geq bH (.i 22)<|.ite bX (.j [.b true]) (.bI .lss bR (.i 0)<|.ite b9 (.j [.b true]) (.bI .gtr bR (.i 4096)<|.j [cu])))) (.ite bW (.j [.b false,.i 0,.i 0,.b false,.r0]) (.cA 323 KP [bH] 1<|.cA 44 mL [bR] 1<|.cA 394 JS [U0,U1,U2,U3,U4,U5,U6,U7,U8,U9,bA,bD,bJ,bX,bV,b9] 2<|.no cu<|.ite cv (.j [.b false,.i 0,.i 0,.b false,.r0]) (.op (.call 354 CU [cq] 6 [5])<|.join (.bI .neq cG (.i 0)<|.ite eo (.j [.b true]) (.ln cq<|.bI .neq cX fm<|.ite e_ (.j [.b true]) (.ite dJ (.j [.b true]) (.op (.bi .neq .u64 cK bM)<|.ite eH (.j [.b true]) (.op (.bi .neq .u32 c9 bL)<|.ite gG (.j [.b true]) (.ln dI<|.bI .neq fv bR<|.j [mb])))))) (.ite eo (.j [.b false,.i 0,.i 0,.b false,.r0]) (.j [.b true,cK,c9,dJ,dI])))))
def O4:=Fo asd
def SS:bB:=⟨111,[.agg (de 0 4++[.p (.int .u32) U4,.p (.int .u32) U5,.p (.int .u32) U6,.p (.int .u32) U7,.p (.int .u32) U8,.p (.int .u32) U9,ps 10]),cs 11,cs 12,ci 13,.agg [.p (.int .u64) bM,.p (.int .u32) bL,pi 16,pi 17]],[],18,5,.bq [.agg [.p (.int .u64) bX,.p (.int .u32) b9,.p .bool cu,.own 0],.c (.p .bool bW)],[(0,(.row 5 cq))],O4,395⟩
instance:Ok SS:=oS [Z9,My,kX,WS]
def arF:a8:=.join (.cA 67 AF [U0,U1,U2,U3,U4,U5,U6,U7,U8,U9,bA] 1<|.no bR<|.ite bW (.j [.b true]) (.ln bD<|.bI .neq bX (.i 6)<|.ite b9 (.j [.b true]) (.ln bJ<|.bI .neq cu (.i 6)<|.j [cq]))) (.ite bR (.j [.i 1,.i 0,.i 0,.b false,.r0]) (.join (.loop [.b false,.i 0] (.ln bA<|.bI .lss bX b9<|.ite cu (.join (.ite bW (.j [.b true]) (.rw bA bX 4<|.cl cq 0 (.int .u64)<|.cl cq 1 (.int .u32)<|.cl cq 2 (.int .i64)<|.cl cq 3 (.int .i64)<|.op (.bi .eql .u64 cv bH)<|.op (.bi .eql .u32 cX bM)<|.op (.bb .and c9 dJ)<|.bI .eql cG bL<|.op (.bb .and dI eo)<|.bI .eql cK bV<|.op (.bb .and fm e_)<|.j [eH])) (.bI .add bX (.i 1)<|.j [cq,cv])) (.br (.jump 1 [bW])))) (.no bW<|.ite bX (.j [.i 1,.i 0,.i 0,.b false,.r0]) (.join (.loop [.i 0] (.bI .lss b9 (.i 22)<|.ite cu (.cA 395 O4 [U0,U1,U2,U3,U4,U5,U6,U7,U8,U9,bA,bD,bJ,b9,bH,bM,bL,bV] 5<|.ite cq (.br (.jump 2 [.i 0,cv,cX,cG,cK])) (.bI .add b9 (.i 1)<|.j [c9])) (.br (.jump 1 [])))) (.j [.i 11,.i 0,.i 0,.b false,.r0])))))
def Mn:=Fo arF
def VK:bB:=⟨57,[.agg (de 0 4++[.p (.int .u32) U4,.p (.int .u32) U5,.p (.int .u32) U6,.p (.int .u32) U7,.p (.int .u32) U8,.p (.int .u32) U9,ps 10]),cs 11,cs 12,.agg [.p (.int .u64) bH,.p (.int .u32) bM,pi 15,pi 16]],[],17,5,.bq [.agg [.p (.int .u64) bW,.p (.int .u32) bX,.p .bool b9,.own 0],ci 17],[(0,(.row 5 cu))],Mn,396⟩
instance:Ok VK:=oS [SS,yI,vY]
def alS:a8:=.op (.call 128 z_ (w 0 4) 2 [])<|.bI .neq U5 (.i 0)<|.ite U6 (.j [.r0,U5]) (.op (.call 127 nZ (w 0 4++[.i 0,U4]) 2 [])<|.j [U7,U8])
def qc:=Fo alS
def D9:bB:=⟨63,[.agg [pi 0,pi 1,ps 2],.c (.p .str U3)],[],4,2,.bq [cs 4,ci 5],[],qc,143⟩
instance:Ok D9:=oS [Sk,Lu]
def MI:=mS [IX,sW,qP] 119 [.agg [pi 0,pi 1,ps 2],.c (.p .str U3),cs 4] [] 5 4 (.bq [.agg [pi 6,pi 7,.own 0],ci 5]) [(0,(.row 109 U8))] 144
def Md:=MI.F
instance:Ok MI:=oM
def Nl:=mS [Ef,NI,Ee] 34 [ci 0,ci 1] [] 2 6 (.v (.agg [pi 2,pi 3,.own 0,pi 4,pi 5,.p .bool (.b false),ps 6,.mp 1])) [(0,(.row 109 U7)),(1,.map)] 149
def ajH:=Nl.F
instance:Ok Nl:=oM
def Eh:=mS [wY,zu,BE,Oz,HW,qG] 37 [.c (.ptr 0 0),cs 7] [.box [pi 0,pi 1,ps 2,pi 3,pi 4,.p .bool U5,ps 6,.mp 1],.map] 8 8 (.v (.c (.p .bool U8))) [(0,(.box [pi 9,pi 10,ps 11,pi 12,pi 13,.p .bool bM,ps 15,.mp 1])),(1,.map)] 150
def atb:=Eh.F
instance:Ok Eh:=oM
def Jn:=mS [Eh,wY,zu,Iy,BE,KM,vO,K5,qG] 36 [.c (.ptr 0 0),.c (.p (.int .u64) U7)] [.box [pi 0,pi 1,ps 2,pi 3,pi 4,.p .bool U5,ps 6,.mp 1],.map] 8 7 (.bq []) [(1,.map),(0,(.box [pi 8,pi 9,ps 10,pi 11,pi 12,.p .bool bH,ps 14,.mp 1]))] 151
def arX:=Jn.F
instance:Ok Jn:=oM
def aiS:a8:=.cA 5 F5 [U3] 1<|.bI .add U2 bL<|.bI .gtr bV U7<|.j [bR]
def N9:=Fo aiS
def XZ:bB:=⟨157,[.agg [.p (.int .u64) U0,.p (.int .u32) U1,pi 2,pi 3],.c (.ptr 0 0)],[.box (de 4 4++[.p (.int .u32) U8,.p (.int .u32) U9,.p (.int .u32) bA,.p (.int .u32) bD,.p (.int .u32) bJ,.p (.int .u32) bH,ps 14])],15,1,.v (.c (.p .bool bL)),[(0,(.box (de 4 4++[.p (.int .u32) U8,.p (.int .u32) U9,.p (.int .u32) bA,.p (.int .u32) bD,.p (.int .u32) bJ,.p (.int .u32) bH,ps 14])))],N9,397⟩
instance:Ok XZ:=oS [s5]
def Us:a8:=.join (.ln U0<|.loop [.i 0] (.bI .lss bH bJ<|.ite bM (.rw U0 bH 4<|.cl bL 0 (.int .u64)<|.cl bL 1 (.int .u32)<|.cl bL 2 (.int .i64)<|.cl bL 3 (.int .i64)<|.cA 397 N9 [bV,bR,bW,bX,U1,U2,U3,U4,U5,U6,U7,U8,U9,bA,bD] 1<|.ite b9 (.br (.jump 2 [bH])) (.bI .add bH (.i 1)<|.j [cu])) (.br (.jump 1 [])))) (.j [.i (-1)])
def HF:=Fo Us
def TF:bB:=⟨208,[cs 0,.c (.fn 157 [0])],[.box (de 1 4++[.p (.int .u32) U5,.p (.int .u32) U6,.p (.int .u32) U7,.p (.int .u32) U8,.p (.int .u32) U9,.p (.int .u32) bA,ps 11])],12,1,.v (ci 12),[(0,(.box (de 1 4++[.p (.int .u32) U5,.p (.int .u32) U6,.p (.int .u32) U7,.p (.int .u32) U8,.p (.int .u32) U9,.p (.int .u32) bA,ps 11])))],HF,398⟩
instance:Ok TF:=oS [XZ]
def aeK:a8:=.cA 398 HF [U0,U1,U2,U3,U4,U5,U6,U7,U8,U9,bA,bD] 1<|.bI .geq bJ (.i 0)<|.j [bH]
def JG:=Fo aeK
def Z8:bB:=⟨156,[cs 0,.c (.fn 157 [0])],[.box (de 1 4++[.p (.int .u32) U5,.p (.int .u32) U6,.p (.int .u32) U7,.p (.int .u32) U8,.p (.int .u32) U9,.p (.int .u32) bA,ps 11])],12,1,.v (.c (.p .bool bJ)),[(0,(.box (de 1 4++[.p (.int .u32) U5,.p (.int .u32) U6,.p (.int .u32) U7,.p (.int .u32) U8,.p (.int .u32) U9,.p (.int .u32) bA,ps 11])))],JG,401⟩
instance:Ok Z8:=oS [TF,Fp]
def XO:a8:=.join (.cA 109 rW [U0,U1,U2,U7] 4<|.bI .eql U9 (.i 0)<|.ite bH (.j [bA,bD,bJ]) (.j [U0,U1,U2])) (.cA 144 Md [U9,bA,bD,U7,U8] 4<|.cA 130 uG [bH,bM,bL,U7] 4<|.j [bR,bW,bX])
def xk:=Fo XO
def Ms:bB:=⟨61,[.c (.ptr 0 0),.c (.p .str U7),cs 8],[.box [pi 0,pi 1,ps 2,pi 3,pi 4,.p .bool U5,ps 6,.mp 1],.map],9,3,.bq [],[(0,(.box [pi 9,pi 10,.own 2,pi 3,pi 4,.p .bool U5,ps 6,.mp 1])),(1,.map),(2,(.row 109 bD))],xk,152⟩
instance:Ok Ms:=oS [MI,OS,KN,DN]
def akF:a8:=.join (.cA 325 NM [U0,U1,U2] 1<|.no bD<|.ite bJ (.j [.b true]) (.bI .lss U3 (.i 16)<|.ite bH (.j [.b true]) (.bI .gtr U3 (.i 524288)<|.ite bM (.j [.b true]) (.cA 91 EX [bA] 1<|.no bL<|.j [bV])))) (.ite bD (.j [.b false]) (.cA 401 JG [bA,U0,U1,U2,U3,U4,U5,U6,U7,U8,U9,bA] 1<|.no bJ<|.j [bH]))
def Co:=Fo akF
def OX:bB:=⟨100,[.agg (de 0 4++[.p (.int .u32) U4,.p (.int .u32) U5,.p (.int .u32) U6,.p (.int .u32) U7,.p (.int .u32) U8,.p (.int .u32) U9,ps 10])],[],11,1,.v (.c (.p .bool bD)),[],Co,402⟩
instance:Ok OX:=oS [Z8,IU,L9,DT,Es,TM]
def auP:a8:=.join (.loop [.i 0,.r0,.r0] (.bI .lss U5 (.i 6)<|.ite U8 (.cA 68 Cd [U3,U4,U5] 1<|.cA 143 qc [U0,U1,U2,U9] 2<|.op (.lit [[(.sl,bA)]])<|.op (.app U6 bJ 1 24)<|.bI .eql bD (.i 0)<|.op (.lit [[(.bool,bM)]])<|.op (.app U7 bL 1 1)<|.bI .add U5 (.i 1)<|.j [bR,bH,bV]) (.br (.jump 1 [U6,U7])))) (.j [U5,U6])
def Ig:=Fo auP
def Un:bB:=⟨56,[.agg [pi 0,pi 1,ps 2],ci 3,ci 4],[],5,2,.bq [.c (.own 0),.c (.own 1)],[(0,(.row 71 U5)),(1,(.row 4 U6))],Ig,403⟩
instance:Ok Un:=oS [D9,H3]
def adX:a8:=.cA 56 yk [.i 4,U3,U4] 1<|.cA 143 qc [U0,U1,U2,U5] 2<|.bI .neq U7 (.i 0)<|.ite U8 (.j [U7,.i 0,.i 0,.i 0,.i 0,.i 0,.i 0,.i 0,.i 0,.i 0,.i 0,.r0]) (.cA 355 HB [U6] 12<|.j [U9,bA,bD,bJ,bH,bM,bL,bV,bR,bW,bX,b9])
def DM:=Fo adX
def abv:bB:=⟨55,[.agg [pi 0,pi 1,ps 2],ci 3,ci 4],[],5,12,.bq [.agg (de 6 4++[.p (.int .u32) bA,.p (.int .u32) bD,.p (.int .u32) bJ,.p (.int .u32) bH,.p (.int .u32) bM,.p (.int .u32) bL,.own 0]),ci 5],[(0,(.row 25 bV))],DM,404⟩
instance:Ok abv:=oS [D9,Rc,qG]
def amL:a8:=.ln U0<|.bI .lss U1 (.i 52)<|.ite U2 (.j [.i 4,.i 0,.i 0,.i 0,.i 0,.i 0,.i 0,.i 0,.i 0,.i 0,.i 0,.r0]) (.ln U0<|.op (.part U0 (.i 0) (.i 4) 1)<|.op (.str U4)<|.op (.bs .neq U5 (.s ⟨#[78,73,68,88]⟩))<|.ite U6 (.j [.i 3,.i 0,.i 0,.i 0,.i 0,.i 0,.i 0,.i 0,.i 0,.i 0,.i 0,.r0]) (.ln U0<|.op (.part U0 (.i 44) (.i 48) 1)<|.cA 335 rS [U8] 1<|.bI .mul (.i 24) U9<|.bI .add (.i 52) bA<|.ln U0<|.bI .sub bJ (.i 4)<|.ln U0<|.bI .lss bM bD<|.ite bL (.j [.i 4,.i 0,.i 0,.i 0,.i 0,.i 0,.i 0,.i 0,.i 0,.i 0,.i 0,.r0]) (.ln U0<|.bI .gtr bV bD<|.ite bR (.j [.i 3,.i 0,.i 0,.i 0,.i 0,.i 0,.i 0,.i 0,.i 0,.i 0,.i 0,.r0]) (.ln U0<|.op (.part U0 (.i 0) bH 1)<|.cA 333 JF [bX] 1<|.ln U0<|.op (.part U0 bH cu 1)<|.cA 334 Ar [b9,cq] 1<|.no cv<|.ite cX (.j [.i 5,.i 0,.i 0,.i 0,.i 0,.i 0,.i 0,.i 0,.i 0,.i 0,.i 0,.r0]) (.ln U0<|.op (.part U0 (.i 48) bH 1)<|.cA 375 L0 [cK] 2<|.bI .neq c9 (.i 0)<|.ite dI (.j [c9,.i 0,.i 0,.i 0,.i 0,.i 0,.i 0,.i 0,.i 0,.i 0,.i 0,.r0]) (.cA 356 HT [U0] 10<|.cA 402 Co [eo,fm,e_,eH,gG,fv,mb,oP,lx,nz,dJ] 1<|.no nH<|.ite ou (.j [.i 3,.i 0,.i 0,.i 0,.i 0,.i 0,.i 0,.i 0,.i 0,.i 0,.i 0,.r0]) (.j [.i 0,eo,fm,e_,eH,gG,fv,mb,oP,lx,nz,dJ])))))))
def Mh:=Fo amL
def TB:bB:=⟨52,[cs 0],[],1,12,.bq [.agg (de 2 4++[.p (.int .u32) U6,.p (.int .u32) U7,.p (.int .u32) U8,.p (.int .u32) U9,.p (.int .u32) bA,.p (.int .u32) bD,.own 0]),ci 1],[(0,(.row 25 bJ))],Mh,405⟩
instance:Ok TB:=oS [OX,Ub,RX,MC,C_,aaL]
def ast:a8:=.bI .eql U1 (.i 0)<|.ite U9 (.j [.i 13,.i 0,.i 0,.b false,.r0]) (.cA 404 DM [U0,U1,U2,U3,U4] 12<|.bI .neq bA (.i 0)<|.ite cq (.j [.i 11,.i 0,.i 0,.b false,.r0]) (.cA 403 Ig [U0,U1,U2,U3,U4] 2<|.op (.call 396 Mn [bD,bJ,bH,bM,bL,bV,bR,bW,bX,b9,cu,cv,cX,U5,U6,U7,U8] 5 [4])<|.j [cG,cK,c9,dJ,dI]))
def Ey:=Fo ast
def QI:bB:=⟨27,[.agg [pi 0,pi 1,ps 2],ci 3,ci 4,.agg [.p (.int .u64) U5,.p (.int .u32) U6,pi 7,pi 8]],[],9,5,.bq [.agg [.p (.int .u64) bA,.p (.int .u32) bD,.p .bool bJ,.own 0],ci 9],[(0,(.row 5 bH))],Ey,406⟩
instance:Ok QI:=oS [abv,Un,VK]
def UU:a8:=.ln U0<|.cA 106 F106 [U0,U1] 1<|.j [U2]
def JH:=Fo UU
def S8:bB:=⟨247,[.c (.own 0),.c (.fn 248 [])],[.row 25 U0],1,1,.bq [],[(0,(.row 25 U1))],JH,121⟩
instance:Ok S8:=oS [SP]
def NV:=mS [Ms,D9,wY,J_,NY,zu,M4,Kx,tn,MK,H3,qG] 31 [.c (.ptr 0 0)] [.box [pi 0,pi 1,ps 2,pi 3,pi 4,.p .bool U5,ps 6,.mp 1],.map] 7 8 (.v (.c (.p .bool U7))) [(0,(.box [pi 8,pi 9,ps 10,pi 11,pi 12,.p .bool bH,ps 14,.mp 1])),(1,.map)] 153
def aqq:=NV.F
instance:Ok NV:=oM
def Kt:=mS [Ms,Ef,wY,M2,qG] 30 [.c (.ptr 0 0)] [.box [pi 0,pi 1,ps 2,pi 3,pi 4,.p .bool U5,ps 6,.mp 1],.map] 7 8 (.v (.c (.p .bool U7))) [(0,(.box [pi 8,pi 9,ps 10,pi 11,pi 12,.p .bool bH,ps 14,.mp 1])),(1,.map)] 155
def amv:=Kt.F
instance:Ok Kt:=oM
def awa:a8:=.join (.cA 402 Co [U0,U1,U2,U3,U4,U5,U6,U7,U8,U9,bA] 1<|.ite bH (.ln bD<|.bI .eql bM (.i 6)<|.ite bL (.ln bJ<|.bI .eql bV (.i 6)<|.j [bR]) (.j [.b false])) (.j [.b false])) (.j [bH])
def rH:=Fo awa
def Ib:bB:=⟨105,[.agg (de 0 4++[.p (.int .u32) U4,.p (.int .u32) U5,.p (.int .u32) U6,.p (.int .u32) U7,.p (.int .u32) U8,.p (.int .u32) U9,ps 10]),cs 11,cs 12],[],13,1,.v (.c (.p .bool bH)),[],rH,409⟩
instance:Ok Ib:=oS [OX]
def Lz:a8:=.cA 2000 qC [U0] 0<|.cA 62 BH [U0] 1<|.ite U1 (.j [U0]) (.cA 121 JH [U0] 1<|.ln U2<|.op (.cut U2 (.i 0) (.i 0) 4)<|.join (.ln U2<|.loop [.i 0,.i 0,U2] (.bI .lss U7 U5<|.ite U9 (.join (.rw U8 U7 4<|.op (.rc U8 U7 0 (.int .u64))<|.op (.rc U8 U7 1 (.int .u32))<|.op (.rc U8 U7 2 (.int .i64))<|.op (.rc U8 U7 3 (.int .i64))<|.join (.bI .add U7 (.i 1)<|.ln U8<|.bI .eql bL bV<|.ite bR (.j [.b true]) (.bI .add U7 (.i 1)<|.rw U8 bW 4<|.op (.rc U8 bW 0 (.int .u64))<|.op (.bi .neq .u64 b9 bD)<|.j [cu])) (.ite bL (.op (.lit [[((.int .u64),bD),((.int .u32),bJ),((.int .i64),bH),((.int .i64),bM)]])<|.op (.xl U8 U6 bV 4)<|.j [bW,bR]) (.j [U6,U8]))) (.bI .add U7 (.i 1)<|.j [bA,bJ,bD])) (.br (.jump 1 [U6,U8])))) (.op (.tk U6 U5)<|.j [U7]))
def wy:=Fo Lz
def Im:bB:=⟨218,[cs 0],[],1,1,.v (.c (.own 0)),[(0,(.row 25 U1))],wy,123⟩
instance:Ok Im:=oT ase [S8,Dm,s9,O5] (Lz)
def WZ:a8:=.cA 123 wy [U0] 1<|.cA 90 LX [U2,U1] 2<|.no U4<|.ite U5 (.j [.b false,.i 0,.i 0,.i 0,.i 0]) (.rw U2 U3 4<|.op (.rc U2 U3 0 (.int .u64))<|.op (.rc U2 U3 1 (.int .u32))<|.op (.rc U2 U3 2 (.int .i64))<|.op (.rc U2 U3 3 (.int .i64))<|.j [.b true,U7,U8,U9,bA])
def Mu:=Fo WZ
def WH:bB:=⟨170,[cs 0,.c (.p (.int .u64) U1)],[],2,5,.bq [.agg [.p (.int .u64) U3,.p (.int .u32) U4,pi 5,pi 6],.c (.p .bool U2)],[],Mu,124⟩
instance:Ok WH:=oS [Im,Rh]
def Ua:a8:=.cA 92 xU [U0,U1,U2,U3,U4,U5,U6,U7,U8,U9] 1<|.no bD<|.ite bJ (.j [.b false,.i 0,.i 0,.i 0,.i 0]) (.cA 12 Oc [bA] 1<|.op (.ed bH 8)<|.op (.fw [U0,U1,U2,U3,U4,U5,U6,U7] bH)<|.cA 124 Mu [bM,bA] 5<|.j [bL,bV,bR,bW,bX])
def oh:=Fo Ua
def YV:bB:=⟨113,[.agg (eT 0 8++[pi 8,pi 9]),.c (.p (.int .u64) bA)],[],11,5,.bq [.agg [.p (.int .u64) bJ,.p (.int .u32) bH,pi 14,pi 15],.c (.p .bool bD)],[],oh,125⟩
instance:Ok YV:=oS [WH,vA,Ds]
def zF:=mS [Kt,NV,Jn,Eh,Nl,ON,BI] 11 [cs 0,ci 1] [] 2 7 (.v (.agg [pi 2,pi 3,ps 4,pi 5,pi 6,.p .bool U7,ps 8,.mp 0])) [(0,.map)] 156
def yJ:=zF.F
instance:Ok zF:=oM
def aur:a8:=.join (.cA 409 rH [U0,U1,U2,U3,U4,U5,U6,U7,U8,U9,bA,bD,bJ] 1<|.no bV<|.ite bR (.j [.b true]) (.bI .lss bM (.i 0)<|.ite bW (.j [.b true]) (.bI .lss bL (.i 0)<|.ite bX (.j [.b true]) (.bI .gtr bM U3<|.ite b9 (.j [.b true]) (.bI .sub U3 bM<|.bI .gtr bL cu<|.j [cq]))))) (.ite bV (.j [.b false,.r0]) (.cA 2031 Tu [U0,U1,U2,U3,U4,U5,U6,U7,U8,U9,bA,bD,bJ,bH] 2<|.cA 2030 zh [bM,bL] 2<|.join (.ln bX<|.loop [.i 0,.r0] (.bI .lss cq cu<|.ite cX (.join (.rw bX cq 3<|.op (.rc bX cq 0 (.int .i64))<|.op (.rc bX cq 1 (.int .i64))<|.op (.rc bX cq 2 (.int .i64))<|.rw bW cK 1<|.cl dI 0 .bool<|.ite eo (.rw bD cK 1<|.cl fm 0 .sl<|.bI .add c9 dJ<|.ln e_<|.op (.part e_ c9 eH 1)<|.op (.app cv fv 1 1)<|.j [mb]) (.bI .geq bR (.i 4)<|.ite fm (.cA 389 K8 [bD,bW,cK,c9,dJ] 1<|.op (.app cv e_ 1 1)<|.j [eH]) (.br (.jump 3 [.b false,.r0])))) (.bI .add cq (.i 1)<|.j [cK,cG])) (.br (.jump 1 [cv])))) (.j [.b true,cu])))
def OR:=Fo aur
def RI:bB:=⟨164,[.agg (de 0 4++[.p (.int .u32) U4,.p (.int .u32) U5,.p (.int .u32) U6,.p (.int .u32) U7,.p (.int .u32) U8,.p (.int .u32) U9,ps 10]),cs 11,cs 12,cs 13,ci 14,ci 15],[],16,2,.bq [.c (.own 0),.c (.p .bool bV)],[(0,(.row 5 bR))],OR,414⟩
instance:Ok RI:=oS [Ib,Yb,MH,D2,OJ]
def asV:a8:=.cA 5 F5 [bR] 1<|.cA 414 OR [U0,U1,U2,U3,U4,U5,U6,U7,U8,U9,bA,bD,bJ,bH,bV,bW] 2<|.join (.no bX<|.ite cu (.j [.b true]) (.bI .eql bW (.i 0)<|.j [cq])) (.ite cu (.j [.b false,.i 0,.i 0,.b false,.r0]) (.op (.call 363 BW [b9] 6 [5])<|.join (.bI .neq cv (.i 0)<|.ite dJ (.j [.b true]) (.bI .neq cq bW<|.ite dI (.j [.b true]) (.ite cK (.j [.b true]) (.op (.bi .neq .u64 cX bM)<|.ite eo (.j [.b true]) (.op (.bi .neq .u32 cG bL)<|.ite fm (.j [.b true]) (.ln c9<|.bI .neq e_ bR<|.j [eH])))))) (.ite dJ (.j [.b false,.i 0,.i 0,.b false,.r0]) (.j [.b true,cX,cG,cK,c9]))))
def lR:=Fo asV
def Sg:bB:=⟨108,[.agg (de 0 4++[.p (.int .u32) U4,.p (.int .u32) U5,.p (.int .u32) U6,.p (.int .u32) U7,.p (.int .u32) U8,.p (.int .u32) U9,ps 10]),cs 11,cs 12,cs 13,.agg [.p (.int .u64) bM,.p (.int .u32) bL,pi 16,pi 17]],[],18,5,.bq [.agg [.p (.int .u64) bX,.p (.int .u32) b9,.p .bool cu,.own 0],.c (.p .bool bW)],[(0,(.row 5 cq))],lR,415⟩
instance:Ok Sg:=oS [RI,NR,s5]
def zO:List L->Option (List L):=wm rH tg vh lR
def NH:bB:=Gg rH tg vh lR 2040
theorem akg:NH.ok Tryz.prog:=aiv (F105:=rH) (t105:=409) (F106:=tg) (t106:=330) (F107:=vh) (t107:=329) (F108:=lR) (t108:=415) (Ok.j Ib) (Ok.j VF) (Ok.j LY) (Ok.j Sg) 2040
instance:Ok NH:=⟨akg⟩
def alZ:a8:=.bI .eql U1 (.i 0)<|.ite U9 (.j [.i 13,.i 0,.i 0,.b false,.r0]) (.cA 337 FE [.i 4,U3,U4] 1<|.cA 379 ud [U0,U1,U2,bA] 2<|.op (.call 405 Mh [bJ] 12 [11])<|.join (.no bD<|.ite cG (.j [.b true]) (.bI .neq bH (.i 0)<|.j [cK])) (.ite cG (.j [.i 11,.i 0,.i 0,.b false,.r0]) (.op (.f_ (.i 6) [(.sl,.r0)] 24)<|.op (.f_ (.i 6) [(.bool,(.b false))] 1)<|.join (.ln cK<|.loop [.i 0,cK,c9] (.bI .lss dI dJ<|.ite e_ (.cA 336 DQ [.i 5,U3,U4,dI,.b false] 2<|.cA 379 ud [U0,U1,U2,eH] 2<|.rw eo dI 1<|.op (.set eo dI 0 [(.sl,mb)])<|.rw fm dI 1<|.op (.set fm dI 0 [(.bool,fv)])<|.bI .add dI (.i 1)<|.j [ou,lx,nH]) (.br (.jump 1 [eo,fm])))) (.op (.call 2040 zO [bM,bL,bV,bR,bW,bX,b9,cu,cq,cv,cX,dJ,dI,U5,U6,U7,U8] 5 [4])<|.j [eH,eo,fm,e_,gG]))))
def E7:=Fo alZ
def RM:bB:=⟨26,[.agg [pi 0,pi 1,ps 2],ci 3,ci 4,.agg [.p (.int .u64) U5,.p (.int .u32) U6,pi 7,pi 8]],[],9,5,.bq [.agg [.p (.int .u64) bA,.p (.int .u32) bD,.p .bool bJ,.own 0],ci 9],[(0,(.row 5 bH))],E7,416⟩
instance:Ok RM:=oS [NH,TB,TP,Mc,JX]
def anf:a8:=.cA 361 OE [bR,U3,U4,U5,U6,U7,U8,U9] 1<|.join (.bI .lss bW (.i 0)<|.ite bX (.j [.b true]) (.rw bR bW 14<|.cl b9 1 (.int .i64)<|.bI .neq cu U5<|.ite cq (.j [.b true]) (.rw bR bW 14<|.cl cv 2 (.int .i64)<|.bI .eql cX (.i 3)<|.ite cG (.bI .neq U4 (.i 3)<|.j [cK]) (.j [.b false])))) (.ite bX (.bI .add bA (.i 1)<|.j [.i 0,b9,.r0]) (.join (.rw bR bW 14<|.cl b9 2 (.int .i64)<|.bI .eql cu (.i 3)<|.ite cq (.cA 416 E7 [bD,bJ,bH,bM,U3,U6,U7,U8,U9] 5<|.bI .eql cv (.i 0)<|.ite dJ (.j [cX,cG,cK,.i 0,c9]) (.j [.i 0,.i 0,.b false,.i 11,.r0])) (.cA 378 KT [bD,bJ,bH,bM,U3,U6,U7,U8,U9] 5<|.ite cv (.j [cX,cG,cK,.i 0,c9]) (.j [.i 0,.i 0,.b false,.i 11,.r0]))) (.op (.lit [[((.int .u64),b9),((.int .u32),cu),(.bool,cq),(.sl,cX),((.int .i64),cv)]])<|.j [U2,bA,cG])))
def Iv:=Fo anf
def Um:bB:=⟨42,[.agg ([.p (.int .u64) U0,.p (.int .u32) U1]++de 2 4++[.p (.int .u64) U6,.p (.int .u32) U7,pi 8,pi 9,pi 10]),.agg [pi 11,pi 12,ps 13],.agg [pi 14,pi 15,.p .bool bV,ps 17]],[],18,3,.bq [.agg [.p (.int .u64) U0,.p (.int .u32) U1,pi 18,pi 3,pi 4,pi 5,.p (.int .u64) U6,.p (.int .u32) U7,pi 8,pi 9,pi 19],.c (.own 0)],[(0,(.row 75 b9))],Iv,1200⟩
instance:Ok Um:=oS [RM,Qr,aai]
def He:=mS [] 266 [cs 0,.c (.p (.int .u64) U1)] [] 2 1 (.v (ci 2)) [] 157
def azm:=He.F
instance:Ok He:=oM
def OK:=mS [He] 229 [cs 0,.c (.p (.int .u64) U1)] [] 2 1 (.v (.c (.p .bool U2))) [] 160
def azA:=OK.F
instance:Ok OK:=oM
def Ft:=mS [OK] 228 [.agg [.p (.int .u64) U0,.p (.int .u32) U1,pi 2,pi 3],.c (.ptr 0 0)] [.box [ps 4]] 5 1 (.v (.c (.p .bool U5))) [(0,(.box [ps 4]))] 161
def abB:=Ft.F
instance:Ok Ft:=oM
def Tm:a8:=.join (.ln U0<|.loop [.i 0] (.bI .lss U2 U1<|.ite U3 (.rw U0 U2 4<|.op (.rc U0 U2 0 (.int .u64))<|.op (.rc U0 U2 1 (.int .u32))<|.op (.rc U0 U2 2 (.int .i64))<|.op (.rc U0 U2 3 (.int .i64))<|.cA 161 abB [U5,U6,U7,U8,.r0] 1<|.ite U9 (.br (.jump 2 [U2])) (.bI .add U2 (.i 1)<|.j [bA])) (.br (.jump 1 [])))) (.j [.i (-1)])
def Ja:=Fo Tm
def XN:bB:=⟨208,[.c (.own 0),.c (.fn 228 [1])],[.row 25 U0,.box [.nil]],1,1,.v (ci 1),[(1,(.box [.p .sl .r0])),(0,(.row 25 U0))],Ja,162⟩
instance:Ok XN:=oS [Ft]
def OG:a8:=.cA 162 Ja [U0] 1<|.bI .eql U1 (.i (-1))<|.ite U2 (.j []) (.join (.bI .add U1 (.i 1)<|.loop [U1,U3,U0] (.ln U6<|.bI .lss U5 U7<|.ite U8 (.join (.rw U6 U5 4<|.op (.rc U6 U5 0 (.int .u64))<|.op (.rc U6 U5 1 (.int .u32))<|.op (.rc U6 U5 2 (.int .i64))<|.op (.rc U6 U5 3 (.int .i64))<|.cA 161 abB [bA,bD,bJ,bH,.r0] 1<|.no bM<|.ite bL (.rw U6 U4 4<|.op (.set U6 U4 0 [((.int .u64),bA),((.int .u32),bD),((.int .i64),bJ),((.int .i64),bH)])<|.bI .add U4 (.i 1)<|.j [bW,bR]) (.j [U4,U6])) (.bI .add U5 (.i 1)<|.j [U9,bD,bA])) (.br (.jump 1 [U4,U6])))) (.ln U4<|.op (.cut U4 U3 U5 4)<|.op (.ed (.i 0) 0)<|.j []))
def Hf:=Fo OG
def Y6:bB:=⟨227,[.c (.own 0),.c (.fn 228 [1])],[.row 25 U0,.box [.nil]],1,0,.v (.c (.own 0)),[(0,(.row 25 U0)),(1,(.box [.p .sl .r0]))],Hf,163⟩
instance:Ok Y6:=oT aop [XN,Ft] (OG)
def W7:a8:=.cA 123 wy [.r0] 1<|.cA 163 Hf [U1] 0<|.op (.call 123 wy [U0] 1 [0])<|.op (.app U1 U2 4 32)<|.op (.call 123 wy [U3] 1 [0])<|.j [U4]
def Oh:=Fo W7
def Hu:bB:=⟨192,[.c .nil,.c (.own 0),.c .nil],[.row 25 U0],1,1,.v (.c (.own 1)),[(1,(.row 25 U1)),(0,(.row 25 U0))],Oh,166⟩
instance:Ok Hu:=oS [Y6,Im]
def Al:=mS [Hu,vA,Lm] 143 [.agg [.nil,.nil,.nil,.nil,.nil,.nil,.nil,.nil,pi 0,pi 1]] [] 2 1 (.v (.c (.own 0))) [(0,(.row 25 U2))] 167
def azo:=Al.F
instance:Ok Al:=oM
def yB:=mS [Al,vA,LC] 84 [.agg (de 0 4++[.nil,.nil,.nil,.nil,.nil,.nil,.nil,.nil,pi 4,pi 5])] [] 6 1 (.v (.c (.p .bool U6))) [] 188
def azy:=yB.F
instance:Ok yB:=oM
def ZV:a8:=.cA 92 xU [U0,U1,U2,U3,U4,U5,U6,U7,U8,U9] 1<|.no bA<|.ite bD (.j [.r0]) (.op (.lit [[(.sl,U0)],[(.sl,U1)],[(.sl,U2)],[(.sl,U3)],[(.sl,U4)],[(.sl,U5)],[(.sl,U6)],[(.sl,U7)]])<|.cA 64 Ox [bJ] 1<|.cA 166 Oh [bH] 1<|.j [bM])
def B5:=Fo ZV
def KE:bB:=⟨143,[.agg (eT 0 8++[pi 8,pi 9])],[],10,1,.v (.c (.own 0)),[(0,(.row 25 bA))],B5,168⟩
instance:Ok KE:=oS [Hu,vA,Lm]
def L7:=mS [yB,y8] 71 [ci 0] [] 1 4 (.bq [.agg [pi 2,.p (.int .i64) (.i 0),pi 3,pi 4,.nil,.nil,.nil,.nil,.nil,.nil,.nil,.nil,.p (.int .i64) (.i 0),.p (.int .i64) (.i 0)],ci 1]) [] 189
def azx:=L7.F
instance:Ok L7:=oM
def abq:a8:=.join (.bI .lss U0 (.i 1)<|.ite bM (.j [.b true]) (.bI .gtr U0 (.i 8)<|.ite bL (.j [.b true]) (.bI .lss U1 (.i 0)<|.ite bV (.j [.b true]) (.bI .gtr U1 (.i 4294967295)<|.ite bR (.j [.b true]) (.bI .lss U2 (.i 1)<|.ite bW (.j [.b true]) (.bI .gtr U2 (.i 3)<|.j [bX])))))) (.ite bM (.j [.b false]) (.join (.bI .lss U3 (.i 16)<|.ite bL (.j [.b true]) (.bI .gtr U3 (.i 1048576)<|.ite bV (.j [.b true]) (.bI .rem U3 (.i 8)<|.bI .neq bR (.i 0)<|.ite bW (.j [.b true]) (.cA 92 xU [U4,U5,U6,U7,U8,U9,bA,bD,bJ,bH] 1<|.no bX<|.j [b9])))) (.ite bL (.j [.b false]) (.join (.cA 168 B5 [U4,U5,U6,U7,U8,U9,bA,bD,bJ,bH] 1<|.cA 186 Kv [bV,U3] 2<|.ite bR (.bI .add (.i 16) bJ<|.bI .add bX bH<|.bI .eql U3 b9<|.j [cu]) (.j [.b false])) (.j [bV])))))
def No:=Fo abq
def LB:bB:=⟨84,[.agg (de 0 4++eT 4 8++[pi 12,pi 13])],[],14,1,.v (.c (.p .bool bM)),[],No,187⟩
instance:Ok LB:=oS [KE,Al,vA,LC]
def WC:a8:=.cA 168 B5 [U0,U1,U2,U3,U4,U5,U6,U7,U8,U9] 1<|.ln bA<|.j [bD]
def Hq:=Fo WC
def Oa:bB:=⟨85,[.agg (eT 0 8++[pi 8,pi 9])],[],10,1,.v (ci 10),[],Hq,171⟩
instance:Ok Oa:=oS [KE,Al]
end
end
end Go.Proofs.YtndegphojkiblaaGreatDoor
