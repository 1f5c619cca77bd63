/- A part. -/
import Derived.Test.YtndegphojkiblaaGreatDoorG22
import Derived.Test.YtndegphojkiblaaGreatDoorG25
import Derived.Test.YtndegphojkiblaaGreatDoorG28
import Derived.Test.YtndegphojkiblaaGreatDoorG29
set_option linter.all false
set_option maxHeartbeats 4000000
set_option maxRecDepth 100000
namespace Go.Proofs.YtndegphojkiblaaGreatDoor
noncomputable section
section
open Go.RowKit Pl AI
attribute [local irreducible] a8.wp
def zU(l:List It)(size:Int)(i:Nat):Prop:=∀h:i<l.length,ends l[i]<=size/\∀(k:Nat)(a:k<l.length),k≠i->¬(l[i].off<=l[k].off/\l[k].off<ends l[i])
theorem arK(l)(size):(l.Pairwise Clear/\∀x∈l,ends x<=size)↔∀i,i<l.length->zU l size i:=by
 constructor
 .rintro⟨e,m⟩ i a o;refine⟨m _ (cT a),λk g b=>?_⟩;rcases Nat.lt_or_gt_of_ne b with h|h
  .exact(mU.1 e k i g a h).2
  .exact(mU.1 e i k a g h).1
 .intro h;refine⟨mU.2 λi j a c p=>⟨(h i a a).2 j c om,(h j c c).2 i a om⟩,λx q=>?_⟩;obtain⟨i,a,rfl⟩:=iE q;exact(h i a a).1
theorem SA{l:List It}(a:∀x∈l,fe x=true){i}(b:i<l.length):16<=l[i].off/\l[i].off<=1048576/\24<=cJ l[i].size/\cJ l[i].size<=4120:=by
 have h:=a _ (cT b);have c:=Eb h;have e:=B3 l[i].size;simp only[fe,cd,dj]at h;omega
theorem aoQ(l:List It)(hl:l.length<=1000000)(dm:∀x∈l,fe x=true){size b}(hb:b=true↔(l.Pairwise Clear/\∀x∈l,ends x<=size)):BU [.r (l.map bw),.i size]=some [.b b]:=by
 rw[arK]at hb;refine bN ?_;refine bE (λxs=>xs=[]/\∀i,i<l.length->zU l size i) ?_ (by rintro _ ⟨rfl,h⟩;exact a7 (CT hb h));refine wp_loop (I:=λa=>∃i:Nat,a=[.i i]/\i<=l.length/\∀j,j<i->zU l size j) (mu:=λa=>match a with|[.i i]=>l.length-i.toNat|_=>0) ⟨0,rfl,om,λj hj=>by omega⟩ ?_;rintro a ⟨i,rfl,e1,e2⟩;refine uR ?_;rw[bC];refine bG rfl (λhc=>?_) (λhc=>a7 ⟨rfl,λj hj=>e2 j om⟩);have hi:i<l.length:=om;obtain⟨h1,h2,h3,h4⟩:=SA dm hi;have no:¬zU l size i->[L.b false]=[L.b b]:=λh=>kl hb λhv=>h (hv i hi)
 refine bE (λxs=>xs=[]/\zU l size i) ?_ ?_;rotate_left
 .rintro _ ⟨rfl,h⟩;refine nW ?_;refine cm (i:=i) rfl om (nW ?_);refine a7 ⟨⟨i+1,rfl,om,λj hj=>?_⟩,?_⟩
  .by_cases e:j=i
   .subst e;exact h
   .exact e2 j om
  .show l.length- ((i+1:Nat):Int).toNat<l.length-i;omega
 refine bU (f:=bw) (l:=l) (j:=i) rfl rfl hi rfl (uR ?_);refine bU (f:=bw) (l:=l) (j:=i) rfl rfl hi rfl (uR ?_);refine bu (pH l[i].size) rfl rfl (nW ?_);refine c_ (n:=ends l[i]) rfl (by unfold ends;omega) (by unfold ends;omega) (uR ?_);refine bG rfl (λhq=>a7 (no λh=>by have:=(h hi).1;omega)) (λhq=>?_);refine wp_loop (I:=λa=>∃k:Nat,a=[.i k]/\k<=l.length/\∀(j:Nat)(hj:j<l.length),j<k->j≠i->¬(l[i].off<=l[j].off/\l[j].off<ends l[i])) (mu:=λa=>match a with|[.i i]=>l.length-i.toNat|_=>0) ⟨0,rfl,om,λj hj h=>by omega⟩ ?_;rintro a ⟨k,rfl,f1,f2⟩;refine uR ?_;rw[bC];refine bG rfl (λhk=>?_) (λhk=>a7 ⟨rfl,λ_=>⟨om,λj hj kG=>f2 j hj om kG⟩⟩);have hk:k<l.length:=om;refine bE (cI (k≠i/\l[i].off<=l[k].off/\l[k].off<ends l[i])) ?_ ?_
 .refine uR ?_;refine bG rfl (λg1=>?_) (λg1=>a7 (d_ om));refine bU (f:=bw) (l:=l) (j:=k) rfl rfl hk rfl (uR ?_);refine bU (f:=bw) (l:=l) (j:=i) rfl rfl hi rfl (uR ?_);refine bG rfl (λg2=>?_) (λg2=>a7 (d_ om));refine bU (f:=bw) (l:=l) (j:=k) rfl rfl hk rfl (uR ?_);exact a7 (d' om)
 .rintro _ ⟨t,rfl,ht⟩;refine nW ?_;refine ik rfl ht (λg=>a7 (no λh=>(h hi).2 k hk g.1 g.2)) λg=>?_
  refine cm (i:=k) rfl om (nW ?_);refine a7 ⟨⟨k+1,rfl,om,λj hj hlt kG=>?_⟩,?_⟩
  .by_cases e:j=k
   .subst e;exactλh=>g ⟨kG,h⟩
   .exact f2 j hj om kG
  .show l.length- ((k+1:Nat):Int).toNat<l.length-k;omega
abbrev rA(g:Gn):List L:=[.i g.num,.i g.rev,.i g.mode,.i g.size,.r ((g.map.st 0).map bw),.r ((g.map.st 1).map bw),.r ((g.map.st 2).map bw),.r ((g.map.st 3).map bw),.r ((g.map.st 4).map bw),.r ((g.map.st 5).map bw),.r ((g.map.st 6).map bw),.r ((g.map.st 7).map bw),.i g.map.live,.i g.map.lz]
def da(g:Gn):List PV:=[.sc (.int .i64 g.num),.sc (.int .i64 g.rev),.sc (.int .i64 g.mode),.sc (.int .i64 g.size),.sl ((g.map.st 0).map bw),.sl ((g.map.st 1).map bw),.sl ((g.map.st 2).map bw),.sl ((g.map.st 3).map bw),.sl ((g.map.st 4).map bw),.sl ((g.map.st 5).map bw),.sl ((g.map.st 6).map bw),.sl ((g.map.st 7).map bw),.sc (.int .i64 g.map.live),.sc (.int .i64 g.map.lz)]
theorem ng{P}(h:P):true=true↔P:=⟨λ_=>h,λ_=>rfl⟩
theorem zC{P}(h:¬P):false=true↔P:=⟨λa=>(by cases a),λa=>absurd a h⟩
def xe(g:Gn):Prop:=1<=g.num/\g.num<=8/\0<=g.rev/\g.rev<4294967296/\1<=g.mode/\g.mode<=3
def zj(g:Gn):Prop:=(16<=g.size/\g.size<=1048576/\g.size%8=0)/\MV g.map
def ze(g:Gn):Prop:=(items g.map).Pairwise Clear/\∀x∈items g.map,ends x<=g.size
theorem SN{m}(h:WM m)(a:MV m):0<=m.live/\m.live<=263680:=by
 have b:=vo (cat m);have c:=yd h;have e:=a.2.1;omega
theorem awe{g}(h:WM g.map){b}(m:b=true↔GV g):EZ (rA g)=some [.b b]:=by
 refine bN ?_;refine bE (cI (¬xe g)) (by unfold xe;exact cB) ?_;rintro _ ⟨t,rfl,o⟩;refine nW ?_;refine ik rfl o (λi=>a7 (kl m λa=>i a.1)) λi=>?_
 have i:xe g:=lu i;refine bE (cI (¬(zj g/\ze g))) ?_ ?_
 .refine uR ?_;refine bG rfl (λc=>a7 (cC λa=>by have:=a.1.1;omega)) λc=>?_
  refine uR ?_;refine bG rfl (λp=>a7 (cC λa=>by have:=a.1.1;omega)) λp=>?_
  refine cP (l:=.i (g.size%8)) (by
   show(if(8:Int)≠0 then some (L.i (g.size.tmod 8))else none)=_;rw[bF dc,Bx om]) (uR ?_)
  refine bG rfl (λq=>a7 (cC λa=>by have:=a.1.1;omega)) λq=>?_
  obtain⟨v,a⟩:=dC (MV g.map);refine bu (T3 h a) rfl rfl (uR ?_);refine tU rfl a (λj=>a7 (cC λa=>j a.1.2)) λj=>?_
  refine bu (Oj h j) rfl rfl (nW ?_);obtain⟨r,e⟩:=dC (ze g);refine bu (aoQ (items g.map) (by have:=Ae h;omega) (Xz j.1) e) rfl rfl (uR ?_);refine a7 ?_;refine⟨!r,rfl,?_⟩;have:zj g:=⟨⟨om,om,om⟩,j⟩
  cases r with
  |true=>exact zC λh=>h ⟨this,e.1 rfl⟩
  |false=>exact ng λh=>by have:=e.2 h.2;cases this
 rintro _ ⟨t,rfl,o⟩;refine nW ?_;refine ik rfl o (λc=>a7 (kl m λa=>c ⟨⟨a.2.1,a.2.2.1⟩,a.2.2.2.1⟩)) λc=>?_
 have c:zj g/\ze g:=lu c;have p:=SN h c.1.2;have q:=c.1.1;refine dk (n:=g.size-16) rfl om om (nW ?_);refine dk (n:=g.size-16-g.map.live) rfl om om (uR ?_);refine a7 ?_;by_cases s:g.size-16-g.map.live=g.map.lz
 .exact(dT s).trans (CT m ⟨i,c.1.1,c.1.2,c.2,om⟩)
 .exact(dF s).trans (kl m λa=>by have:=a.2.2.2.2;omega)
def sL(limit:Int)(gens:List Gn)(i:Nat):Prop:=∀h:i<gens.length,GV gens[i]/\(gens[i].mode=1↔i=gens.length-1)/\(∀a:0<i,(gens[i-1]'om).num<gens[i].num)/\gens[i].size<=2*limit
def uH(id limit:Int)(gens:List Gn):Prop:=(0<=id/\id<4)/\(4136<=limit/\limit<=262144)/\(1<=gens.length/\gens.length<=8)
def kK(id limit:Int)(gens:List Gn):Prop:=uH id limit gens/\(∀i,i<gens.length->sL limit gens i)/\∀h:gens.length-1<gens.length,gens[gens.length-1].size+24*(items gens[gens.length-1].map).length<=2*limit
theorem uc{id limit ro gens}(hw:∀g∈gens,WM g.map)(hn:gens.length<=1000000){b}(hb:b=true↔kK id limit gens):zM [.i id,.i limit,ro,.r (gens.map da)]=some [.b b]:=by
 refine bN ?_;refine uR ?_;rw[bC];refine bE (cI (¬uH id limit gens)) ?_ ?_
 .unfold uH;refine uR ?_;refine bG rfl (λh2=>a7 (cC om)) λh2=>?_
  refine uR ?_;refine bG rfl (λh2=>a7 (cC om)) λh2=>?_
  refine bu (pH 4096) rfl rfl (nW ?_);refine c_ (n:=4136) rfl om om (nW ?_);exact cB
 rintro _ ⟨t,rfl,ht⟩;refine nW ?_;refine ik rfl ht (λh1=>a7 (kl hb λhv=>h1 hv.1)) λh1=>?_
 have h1:uH id limit gens:=lu h1;have Gy:=h1;unfold uH at Gy;have gz:gens.length-1<gens.length:=om;refine bE (λxs=>xs=[]/\∀i,i<gens.length->sL limit gens i) ?_ ?_;rotate_left
 .rintro _ ⟨rfl,hall⟩;have hg:=hw _ (cT gz);have q1:=(hall _ gz gz).1;have q2:=q1.2.1;have q3:=Ae hg;refine nW ?_;refine dk (n:=((gens.length-1:Nat):Int)) (by show(gens.length:Int) -1=_;omega) om om (nW ?_);refine bU (f:=da) (l:=gens) (j:=gens.length-1) rfl rfl gz rfl (uR ?_);refine bu (pH 0) rfl rfl (nW ?_);refine bu (apR hg q1.2.2.1) rfl rfl (nW ?_);refine fZ (n:=24*(items gens[gens.length-1].map).length) rfl om om (nW ?_);refine c_ (n:=gens[gens.length-1].size+24*(items gens[gens.length-1].map).length) rfl om om (nW ?_);refine fZ (n:=2*limit) rfl om om (uR ?_);refine a7 ?_;by_cases hq:gens[gens.length-1].size+24*(items gens[gens.length-1].map).length<=2*limit
  .exact(dT hq).trans (CT hb ⟨h1,hall,λ_=>hq⟩)
  .exact(dF hq).trans (kl hb λhv=>hq (hv.2.2 gz))
 refine wp_loop (I:=λa=>∃i:Nat,a=[.i i]/\i<=gens.length/\∀j,j<i->sL limit gens j) (mu:=λa=>match a with|[.i i]=>gens.length-i.toNat|_=>0) ⟨0,rfl,om,λj hj=>by omega⟩ ?_;rintro a ⟨i,rfl,e1,e2⟩;refine uR ?_;refine bG rfl (λhc=>?_) (λhc=>a7 ⟨rfl,λj hj=>e2 j om⟩);have hi:i<gens.length:=om;have hg:=hw _ (cT hi);refine bU (f:=da) (l:=gens) (j:=i) rfl rfl hi rfl (uR ?_);refine bE (cI (¬sL limit gens i)) ?_ ?_
 .obtain⟨v,hv⟩:=dC (GV gens[i]);refine bu (awe hg hv) rfl rfl (uR ?_);refine tU rfl hv (λh2=>a7 (cC λh=>h2 (h hi).1)) λh2=>?_
  refine uR ?_;refine dk (n:=((gens.length-1:Nat):Int)) (by show(gens.length:Int) -1=_;omega) om om (uR ?_);have hm:(decide (gens[i].mode=1) !=decide ((i:Int)=((gens.length-1:Nat):Int)))=true↔¬(gens[i].mode=1↔i=gens.length-1):=by
   rw[bne_iff_ne,ne_eq,decide_eq_decide,Qm]
  refine ik rfl hm (λh3=>a7 (cC λh=>h3 (h hi).2.1)) λh3=>?_
  have h3:=eM.1 h3;refine uR ?_;refine bG rfl (λh4=>?_) λh4=>?_
  .have iv:i-1<gens.length:=om;refine dk (n:=((i-1:Nat):Int)) (by show(i:Int) -1=_;omega) om om (nW ?_);refine bU (f:=da) (l:=gens) (j:=i-1) rfl rfl iv rfl (uR ?_);refine bG rfl (λh5=>a7 (cC λh=>by have:=(h hi).2.2.1 om;omega)) λh5=>?_
   refine fZ (n:=2*limit) rfl om om (uR ?_);refine a7 (d' ⟨λh6 h=>by have:=(h hi).2.2.2;omega,λh=>lu λh6=>h λ_=>⟨h2,h3,λ_=>om,om⟩⟩)
  .refine fZ (n:=2*limit) rfl om om (uR ?_);refine a7 (d' ⟨λh6 h=>by have:=(h hi).2.2.2;omega,λh=>lu λh6=>h λ_=>⟨h2,h3,λ_=>om,om⟩⟩)
 .rintro _ ⟨t,rfl,ht⟩;refine nW ?_;refine ik rfl ht (λg=>a7 (kl hb λhv=>g (hv.2.1 i hi))) λg=>?_
  refine cm (i:=i) rfl om (nW ?_);refine a7 ⟨⟨i+1,rfl,om,λj hj=>?_⟩,?_⟩
  .by_cases e:j=i
   .subst e;exact eM.1 g
   .exact e2 j om
  .show gens.length- ((i+1:Nat):Int).toNat<gens.length-i;omega
def iU(gens:List Gn)(k:Int):Nat->Option (Gn×It)
 |0=>none
 |i+1=>match gens[i]? with
  |some g=>match fE (items g.map) k with
   |some x=>some (g,x)
   |none=>iU gens k i
  |none=>none
def Fw:Option (Gn×It)->List L
 |some (g,x)=>[.b true,.i g.num,.i g.mode,.i g.rev,.i x.key,.i x.cookie,.i x.off,.i x.size]
 |none=>[.b false,.i 0,.i 0,.i 0,.i 0,.i 0,.i 0,.i 0]
theorem YQ{gens:List Gn}{k:Int}{j:Nat}(a:j<gens.length):iU gens k (j+1)=match fE (items gens[j].map) k with
 |some x=>some (gens[j],x)
 |none=>iU gens k j:=by
 rw[iU,cW a]
theorem Y'{id limit ro gens}(hw:∀g∈gens,WM g.map)(hv:kK id limit gens)(key):v_ [.i id,.i limit,ro,.r (gens.map da),.i key]=some (Fw (iU gens key gens.length)):=by
 have hn:=hv.1.2.2;refine bN ?_;refine bE (λxs=>xs=[]/\iU gens key gens.length=none) ?_ (by
  rintro _ ⟨rfl,h⟩;refine a7 ?_;rw[h];rfl)
 refine uR ?_;rw[bC];refine dk (n:=(gens.length:Int) -1) rfl om om (nW ?_);refine wp_loop (I:=λa=>∃i:Nat,a=[.i ((i:Int) -1)]/\i<=gens.length/\iU gens key gens.length=iU gens key i) (mu:=λa=>match a with|[.i i]=>(i+1).toNat|_=>0) ⟨gens.length,rfl,om,rfl⟩ ?_;rintro a ⟨i,rfl,e1,e2⟩;refine bE (cI (0<i)) ?_ ?_
 .refine uR ?_;refine bG rfl (λh2=>?_) λh2=>a7 (d_ om)
  exact bu (uc hw om (ng hv)) rfl rfl (a7 (cC om))
 rintro _ ⟨t,rfl,ht⟩;refine nW ?_;refine ik rfl ht (λhc=>?_) λhc=>?_
 rotate_left
 .obtain rfl:i=0:=om;exact a7 ⟨rfl,e2⟩
 obtain⟨j,rfl⟩:∃j,i=j+1:=⟨i-1,om⟩
 have hj:j<gens.length:=om;have ej:((j+1:Nat):Int) -1=j:=om;rw[ej];have hg:=hw _ (cT hj);have hgv:=(hv.2.1 j hj hj).1;rw[YQ hj]at e2;refine bU (f:=da) (l:=gens) (j:=j) rfl rfl hj rfl (uR ?_);have jc:=ahv hg hgv.2.2.1 key
 cases hf:fE (items gens[j].map) key with
 |none=>
  rw[hf]at e2 jc;refine bu jc rfl rfl (nW ?_);refine cZ rfl ?_;refine dk (n:=(j:Int) -1) rfl om om (nW ?_);refine a7 ⟨⟨j,rfl,om,e2⟩,?_⟩;show((j:Int) -1+1).toNat< ((j:Int)+1).toNat;omega
 |some x=>
  rw[hf]at e2 jc;refine bu jc rfl rfl (nW ?_);refine eL rfl ?_;refine bU (f:=da) (l:=gens) (j:=j) rfl rfl hj rfl (uR ?_);refine bU (f:=da) (l:=gens) (j:=j) rfl rfl hj rfl (uR ?_);refine bU (f:=da) (l:=gens) (j:=j) rfl rfl hj rfl (uR ?_);refine a7 ?_;rw[e2];rfl
theorem anb{id limit ro lk gens}(hw:∀g∈gens,WM g.map)(hn:gens.length<=1000000)(hv:¬kK id limit gens):v_ [.i id,.i limit,ro,.r (gens.map da),lk]=some (Fw none):=by
 refine bN ?_;refine bE (λxs=>xs=[]) ?_ (by rintro _ rfl;exact a7 rfl);refine uR ?_;rw[bC];refine dk (n:=(gens.length:Int) -1) rfl om om (nW ?_);refine wp_loop (I:=λa=>∃i:Int,a=[.i i]) (mu:=λ_=>0) ⟨_,rfl⟩ ?_;rintro a ⟨i,rfl⟩;refine bE (cI False) ?_ (by
  rintro _ ⟨t,rfl,ht⟩;exact nW (ik rfl ht (λh=>h.elim) λ_=>a7 rfl))
 refine uR ?_;refine bG rfl (λh2=>?_) λh2=>a7 (d_ λh=>h)
 exact bu (uc hw hn (zC hv)) rfl rfl (a7 (d_ λh=>h))
theorem Zd(k):Oc [.i k]=some [.i (ix k)]:=by rw[<-XQ k];rfl
theorem asM(x:It):Iw [.i x.key,.i x.cookie,.i x.off,.i x.size]=some [.i (cJ x.size)]:=by
 refine bN ?_;exact bu (qQ x.size) rfl rfl (a7 rfl)
theorem Ow{m}(h:WM m){b}(hb:b=true↔MV m):xU (oW m)=some [.b b]:=by
 have no:∀s,s<8->¬zY m s->[L.b false]=[L.b b]:=λs hs hk=>kl hb λhv=>hk (hv.1 s hs)
 refine bN ?_;refine bE (λxs=>oc m/\xs=[.i (eS (cat m))]) ?_ ?_;rotate_left
 .rintro _ ⟨hS,rfl⟩;refine nW ?_;exact bE (cI (m.live=eS (cat m)/\0<=m.lz/\m.lz<=1099511627776)) cB (rB (hb.trans ⟨λh=>h.2,λh=>⟨hS,h⟩⟩))
 refine wp_loop (I:=λa=>∃s:Nat,a=[.i (eS (fY m s)),.i s]/\s<=8/\∀t,t<s->zY m t) (mu:=λa=>match a with|[_,.i i]=>8-i.toNat|_=>0) ⟨0,rfl,om,λt ht=>by omega⟩ ?_;rintro a ⟨s,rfl,e1,e2⟩;refine uR ?_;refine bG rfl (λhc=>?_) (λhc=>?_);rotate_left
 .obtain rfl:s=8:=om;exact a7 ⟨λt ht=>e2 t ht,rfl⟩
 have hs:s<8:=om;have hlen:=h.hn s;refine bE (λxs=>zY m s/\xs=[.i (eS (fY m (s+1)))]) ?_ ?_;rotate_left
 .rintro _ ⟨h1,rfl⟩;refine nW ?_;refine cm (i:=s) rfl om (nW ?_);refine a7 ⟨⟨s+1,rfl,om,λt ht=>?_⟩,?_⟩
  .by_cases e:t=s
   .subst e;exact h1
   .exact e2 t om
  .show 8- ((s+1:Nat):Int).toNat<8-s;omega
 refine lD ⟨by show(0:Int)<=s;omega,by show(s:Int)< (8:Nat);omega⟩ (nW ?_);refine th (m:=m) hs rfl rfl (nW ?_);obtain⟨v,hv⟩:=dC (VL (m.st s));refine bu (aan (m.st s) om hv) rfl rfl (uR ?_);refine tU rfl hv (λhx=>a7 (no s hs λh=>hx h.1)) λhx=>?_
 refine uR ?_;rw[bC];have g2:=sI h s;refine wp_loop (I:=λa=>∃j:Nat,a=[.i (eS (fY m s++(m.st s).take j)),.i j]/\j<=(m.st s).length/\∀(t:Nat)(ht:t< (m.st s).length),t<j->ix (m.st s)[t].key=s) (mu:=λa=>match a with|[_,.i i]=>(m.st s).length-i.toNat|_=>0)
  ⟨0,by rw[List.take_zero,ju];rfl,om,λt ht h=>by omega⟩ ?_
 rintro a ⟨j,rfl,f1,f2⟩;refine uR ?_;refine bG rfl (λhc=>?_) (λhc=>?_);rotate_left
 .refine a7 ⟨⟨hx,λx hx=>?_⟩,?_⟩
  .obtain⟨t,ht,rfl⟩:=iE hx;exact f2 t ht om
  .rw[pK,gX om];rfl
 have hj:j< (m.st s).length:=om;refine bU (f:=bw) (l:=m.st s) (j:=j) rfl rfl hj rfl (uR ?_);refine bu (Zd _) rfl rfl (uR ?_);refine bG rfl (λhq=>a7 (no s hs λh=>hq (h.2 _ (cT hj)))) λhq=>?_
 refine bu (asM (m.st s)[j]) rfl rfl (nW ?_);have g3:=vo (fY m s++(m.st s).take j);have g4:(fY m s++(m.st s).take j).length<=72:=by rw[ez,eA];omega
 have g5:=B3 (m.st s)[j].size;have g6:eS (fY m s++(m.st s).take j)+cJ (m.st s)[j].size=eS (fY m s++(m.st s).take (j+1)):=by
  rw[gW hj,<-eU,yU (fY m s++(m.st s).take j)];simp[eS]
 refine c_ (n:=eS (fY m s++(m.st s).take (j+1))) g6 om om (nW ?_);refine cm (i:=j) rfl om (nW ?_);refine a7 ⟨⟨j+1,rfl,om,λt ht hlt=>?_⟩,?_⟩
 .by_cases e:t=j
  .subst e;omega
  .exact f2 t ht om
 .show(m.st s).length- ((j+1:Nat):Int).toNat< (m.st s).length-j;omega
theorem atD(n:Nat)(c:n<=1000):zA [.i n]=some []:=by
 have:∃o,Fo Lp [.i (n:Int)]=some o/\∃x:L,o=[x]:=by
  refine gi ?_;refine bE (λxs=>xs=[]) ?_ ?_
  .refine uR ?_;exact db rfl om (a7 rfl)
  rintro _ rfl;refine nW ?_;refine bE (λxs=>∃x:L,xs=[x]) ?_ (by rintro _ ⟨x,rfl⟩;exact a7 ⟨x,rfl⟩);refine dk (n:=(n:Int)) (by show(n:Int) -0=n;omega) om om (uR ?_);refine bG rfl (λa=>?_) (λa=>a7 ⟨_,rfl⟩);refine na ⟨by show(0:Int)<=0;omega,om,gk _,rfl⟩ (nW ?_);refine nu (r:=(List.replicate n (⟨0,0,0,0⟩:It)).map bw) ⟨by show(0:Int)<=n;omega,by show(n:Int)<=_;omega,by show 32*((n:Int)).toNat<=_;omega⟩ (by rw[u_];rfl) (nW ?_);refine bU (f:=bw) (l:=List.replicate n (⟨0,0,0,0⟩:It)) (j:=0) rfl rfl (by rw[mT];omega) rfl (nW ?_);refine fa (r:=(List.replicate n (⟨0,0,0,0⟩:It)).map bw) rfl (jw _) (by show(0:Nat)<=_;omega) (by show((List.replicate n (⟨0,0,0,0⟩:It)).map bw).length<=_;rw[bC,mT];omega) om rfl (uR ?_);refine na ⟨by show(0:Int)<=0;omega,om,gk _,lG (jw _)⟩ (nW ?_);exact a7 ⟨_,rfl⟩
 obtain⟨o,b,x,rfl⟩:=this;have h:pA.F [.i (n:Int)]=some [x]:=b;unfold zA;simp only[h];rfl
def Ym(m:Mp):List (List PV):=(List.range 8).map λs=>[.sl ((m.st s).map bw)]
theorem auy{m}(h:WM m):Ox [.r (Ym m)]=some [.r ((cat m).map bw)]:=by
 refine bN ?_;have hl8:(Ym m).length=8:=rfl;have acF:(List.range 8).length=8:=rfl;refine bE (λxs=>xs=[.i (cat m).length]) ?_ ?_
 .refine uR ?_;refine wp_loop (I:=λa=>∃s:Nat,a=[.i (fY m s).length,.i s]/\s<=8) (mu:=λa=>match a with|[_,.i i]=>8-i.toNat|_=>0) ⟨0,rfl,om⟩ ?_;rintro a ⟨s,rfl,e1⟩;have g2:=sI h s;have g3:=h.hn s;refine uR ?_;refine bG rfl (λhc=>?_) (λhc=>?_);rotate_left
  .obtain rfl:s=8:=om;exact a7 rfl
  have hs:s<8:=om;refine bE (λxs=>xs=[.i (fY m (s+1)).length]) ?_ ?_
  .refine bU (f:=λs=>[PV.sl ((m.st s).map bw)]) (l:=List.range 8) (j:=s) rfl rfl (by rw[acF];exact hs) rfl (uR ?_);rw[List.getElem_range,bC];refine c_ (n:=((fY m (s+1)).length:Nat)) (by rw[pK,ez];rfl) om (by rw[pK,ez];omega) (uR ?_);exact db rfl om (a7 rfl)
  .rintro _ rfl;refine nW ?_;refine cm (i:=s) rfl om (nW ?_);refine a7 ⟨⟨s+1,rfl,om⟩,?_⟩;show 8- ((s+1:Nat):Int).toNat<8-s;omega
 .rintro _ rfl;have g4:=yd h;refine nW ?_;refine bu (atD (cat m).length om) rfl rfl (nW ?_);refine bE (λxs=>xs=[.r ((cat m).map bw)]) ?_ (by rintro _ rfl;exact a7 rfl);refine uR ?_;refine wp_loop (I:=λa=>∃s:Nat,a=[.i s,.r ((fY m s).map bw)]/\s<=8) (mu:=λa=>match a with|[.i i,_]=>8-i.toNat|_=>0) ⟨0,rfl,om⟩ ?_;rintro a ⟨s,rfl,e1⟩;have g2:=sI h s;have g3:=h.hn s;refine uR ?_;refine bG rfl (λhc=>?_) (λhc=>?_);rotate_left
  .obtain rfl:s=8:=om;exact a7 rfl
  have hs:s<8:=om;refine bU (f:=λs=>[PV.sl ((m.st s).map bw)]) (l:=List.range 8) (j:=s) rfl rfl (by rw[acF];exact hs) rfl (uR ?_);rw[List.getElem_range];refine fa (r:=(fY m (s+1)).map bw) (jw _) (jw _) (by show((fY m s).map bw).length<=_;rw[bC];omega) (by show((m.st s).map bw).length<=_;rw[bC];omega) om (by rw[pK,eB];rfl) (nW ?_);refine cm (i:=s) rfl om (nW ?_);refine a7 ⟨⟨s+1,rfl,om⟩,?_⟩;show 8- ((s+1:Nat):Int).toNat<8-s;omega
theorem Sc{m}(h:WM m)(a:MV m):B5 (oW m)=some [.r ((items m).map bw)]:=by
 refine bN ?_;refine bu (Ow h (ng a)) rfl rfl (uR ?_);refine cZ rfl (uR ?_);refine bu (auy h) rfl rfl (nW ?_);exact bu (apq (cat m) (aca a.1) (yd h)) rfl rfl (a7 rfl)
theorem agY{m}(h:WM m)(a:MV m):Hq (oW m)=some [.i (items m).length]:=by
 refine bN ?_;refine bu (Sc h a) rfl rfl (uR ?_);rw[bC];exact a7 rfl
def i4(x:It):I4:=(x.key,x.cookie,x.off,x.size)
def tI(x:I4):It:=⟨x.1,x.2.1,x.2.2.1,x.2.2.2⟩
theorem Xx:∀l:List It,wM (l.map bw)=some (l.map i4)
 |[]=>rfl
 |x::l=>by
  show(match Ei (bw x),wM (l.map bw)with
   |some x,some xs=>some (x::xs)
   |_,_=>none)=_
  rw[Xx l];rfl
theorem anS(l)(h:l.length<=1048576):∃d:List It,qx [.r (l.map bw)]=some [.r (d.map bw)]/\d.Perm l/\d.Pairwise λa b=>a.off<=b.off:=by
 obtain⟨m,o⟩:=U_ (l.map i4);refine⟨(mj (l.map i4)).map tI,?_,?_,?_⟩
 .unfold qx;simp only[Xx];rw[bF (by rw[bC];exact h),h_];rfl
 .have:=m.map tI;rw[h_,show tI∘i4=id from rfl,List.map_id]at this;exact this
 .refine mU.2 λi j e g c=>?_
  rw[bC]at e g;rw[List.getElem_map,List.getElem_map];exact o i j _ _ c (cW e) (cW g)
theorem awL(l:List It)(hl:l.length<=1000)(dm:∀x∈l,fe x=true){size}(PB:16<=size){b}(hb:b=true↔(l.Pairwise Clear/\∀x∈l,ends x<=size)):∃y,Kv [.r (l.map bw),.i size]=some [.b b,y]:=by
 obtain⟨d,h1,hp,hso⟩:=anS l om;rw[<-akS dm hp hso size PB]at hb;have jU:=hp.length_eq;have dm:∀x∈d,fe x=true:=λx hx=>dm x (hp.mem_iff.1 hx)
 refine⟨.r (d.map bw),bN ?_⟩;refine bu h1 rfl rfl (nW ?_);refine bE (λxs=>∃e:Int,xs=[.i e]/\ly 16 d=some e) ?_ ?_;rotate_left
 .rintro _ ⟨e,rfl,he⟩;refine uR ?_;refine a7 ?_;show[L.b (decide (e<=size)),L.r (d.map bw)]=_;by_cases hq:e<=size
  .rw[decide_eq_true hq,hb.2 ⟨e,he,hq⟩]
  .rw[decide_eq_false hq,ft hb λ⟨r,h1,h2⟩=>by rw[he]at h1;cases h1;exact hq h2]
 refine uR ?_;rw[bC];refine wp_loop (I:=λa=>∃(i:Nat)(e:Int),a=[.i e,.i i]/\i<=d.length/\0<=e/\e<=2000000/\ly 16 d=ly e (d.drop i)) (mu:=λa=>match a with|[_,.i i]=>d.length-i.toNat|_=>0) ⟨0,16,rfl,om,om,om,rfl⟩ ?_;rintro a ⟨i,e,rfl,e1,e2,e3,e4⟩;refine uR ?_;refine bG rfl (λhc=>?_) (λhc=>?_);rotate_left
 .rw[qv om]at e4;exact a7 ⟨e,rfl,e4⟩
 have hi:i<d.length:=om;obtain⟨k1,k2,k3,k4⟩:=SA dm hi;rw[sA hi]at e4;simp only[ly]at e4;refine iF (l:=d) (j:=i) rfl rfl hi (uR ?_);refine bG rfl (λhq=>?_) (λhq=>?_)
 .rw[bF hq]at e4;refine a7 ?_;show[L.b false,L.r (d.map bw)]=_;rw[ft hb λ⟨r,h1,h2⟩=>by rw[e4]at h1;cases h1]
 .rw[bO hq]at e4;refine bu (qQ d[i].size) rfl rfl (nW ?_);refine c_ (n:=ends d[i]) rfl (by unfold ends;omega) (by unfold ends;omega) (nW ?_);refine cm (i:=i) rfl om (nW ?_);refine a7 ⟨⟨i+1,ends d[i],rfl,om,by unfold ends;omega,by unfold ends;omega,e4⟩,?_⟩;show d.length- ((i+1:Nat):Int).toNat<d.length-i;omega
theorem ape{g}(h:WM g.map){b}(i:b=true↔GV g):No (rA g)=some [.b b]:=by
 refine bN ?_;refine bE (cI (¬xe g)) (by unfold xe;exact cB) ?_;rintro _ ⟨t,rfl,j⟩;refine nW ?_;refine ik rfl j (λe=>a7 (kl i λa=>e a.1)) λe=>?_
 have e:xe g:=lu e;refine bE (cI (¬zj g)) ?_ ?_
 .refine uR ?_;refine bG rfl (λc=>a7 (cC λa=>by have:=a.1;omega)) λc=>?_
  refine uR ?_;refine bG rfl (λp=>a7 (cC λa=>by have:=a.1;omega)) λp=>?_
  refine cP (l:=.i (g.size%8)) (by
   show(if(8:Int)≠0 then some (L.i (g.size.tmod 8))else none)=_;rw[bF dc,Bx om]) (uR ?_)
  refine bG rfl (λm=>a7 (cC λa=>by have:=a.1;omega)) λm=>?_
  obtain⟨v,a⟩:=dC (MV g.map);refine bu (Ow h a) rfl rfl (uR ?_);refine a7 ?_;refine⟨!v,rfl,?_⟩
  cases v with
  |true=>exact zC λh=>h ⟨⟨om,om,om⟩,a.1 rfl⟩
  |false=>exact ng λh=>by have:=a.2 h.2;cases this
 rintro _ ⟨t,rfl,j⟩;refine nW ?_;refine ik rfl j (λc=>a7 (kl i λa=>c ⟨a.2.1,a.2.2.1⟩)) λc=>?_
 have c:zj g:=lu c;have p:=SN h c.2;have m:=c.1;have r:=c.2.2;refine bE (cI (ze g/\g.size=16+g.map.live+g.map.lz)) ?_ (rB (i.trans ⟨λa=>a.2.2.2,λa=>⟨e,c.1,c.2,a⟩⟩));obtain⟨v,a⟩:=dC (ze g);obtain⟨y,q⟩:=awL (items g.map) (by have:=Ae h;omega) (Xz c.2.1) m.1 a;refine bu (Sc h c.2) rfl rfl (nW ?_);refine bu q rfl rfl (nW ?_);refine ik rfl a (λo=>?_) λo=>a7 (d_ λh=>o h.1)
 refine c_ (n:=16+g.map.live) rfl om om (nW ?_);refine c_ (n:=16+g.map.live+g.map.lz) rfl om om (uR ?_);refine a7 (d' ⟨λh=>⟨o,h⟩,λh=>h.2⟩)
theorem WK{id limit ro gens}(hw:∀g∈gens,WM g.map)(hn:gens.length<=1000000){b}(hb:b=true↔kK id limit gens):wi [.i id,.i limit,ro,.r (gens.map da)]=some [.b b]:=by
 refine bN ?_;refine bE (cI (¬((0<=id/\id<4)/\(4136<=limit/\limit<=262144)))) ?_ ?_
 .refine uR ?_;refine bG rfl (λh2=>a7 (cC om)) λh2=>?_
  refine uR ?_;refine bG rfl (λh2=>a7 (cC om)) λh2=>?_
  refine bu (qQ 4096) rfl rfl (nW ?_);refine c_ (n:=4136) rfl om om (nW ?_);exact cB
 rintro _ ⟨t,rfl,ht⟩;refine nW ?_;refine ik rfl ht (λh1=>a7 (kl hb λhv=>h1 ⟨hv.1.1,hv.1.2.1⟩)) λh1=>?_
 refine bE (cI (¬(1<=gens.length/\gens.length<=8))) ?_ ?_
 .refine uR ?_;rw[bC];refine bG rfl (λh2=>a7 (cC om)) λh2=>uR ?_
  rw[bC];exact a7 (d' om)
 rintro _ ⟨t,rfl,ht⟩;refine nW ?_;refine ik rfl ht (λh2=>a7 (kl hb λhv=>h2 hv.1.2.2)) λh2=>?_
 have h1:uH id limit gens:=by unfold uH;omega
 have gz:gens.length-1<gens.length:=om;refine bE (λxs=>xs=[]/\∀i,i<gens.length->sL limit gens i) ?_ ?_;rotate_left
 .rintro _ ⟨rfl,hall⟩;have hg:=hw _ (cT gz);have q1:=(hall _ gz gz).1;have q2:=q1.2.1;have q3:=Ae hg;refine uR ?_;rw[bC];refine dk (n:=((gens.length-1:Nat):Int)) (by show(gens.length:Int) -1=_;omega) om om (nW ?_);refine bU (f:=da) (l:=gens) (j:=gens.length-1) rfl rfl gz rfl (uR ?_);refine bu (agY hg q1.2.2.1) rfl rfl (nW ?_);refine bu (qQ 0) rfl rfl (nW ?_);refine fZ (n:=(items gens[gens.length-1].map).length*24) rfl om om (nW ?_);refine c_ (n:=gens[gens.length-1].size+(items gens[gens.length-1].map).length*24) rfl om om (nW ?_);refine fZ (n:=2*limit) rfl om om (uR ?_);refine a7 ?_;by_cases hq:gens[gens.length-1].size+(items gens[gens.length-1].map).length*24<=2*limit
  .exact(dT hq).trans (CT hb ⟨h1,hall,λ_=>om⟩)
  .exact(dF hq).trans (kl hb λhv=>hq (by have:=hv.2.2 gz;omega))
 refine uR ?_;rw[bC];refine wp_loop (I:=λa=>∃i:Nat,a=[.i i]/\i<=gens.length/\∀j,j<i->sL limit gens j) (mu:=λa=>match a with|[.i i]=>gens.length-i.toNat|_=>0) ⟨0,rfl,om,λj hj=>by omega⟩ ?_;rintro a ⟨i,rfl,e1,e2⟩;refine uR ?_;refine bG rfl (λhc=>?_) (λhc=>a7 ⟨rfl,λj hj=>e2 j om⟩);have hi:i<gens.length:=om;have hg:=hw _ (cT hi);refine bU (f:=da) (l:=gens) (j:=i) rfl rfl hi rfl (uR ?_);rw[bC];refine dk (n:=((gens.length-1:Nat):Int)) (by show(gens.length:Int) -1=_;omega) om om (uR ?_);refine bE (cI (¬sL limit gens i)) ?_ ?_
 .obtain⟨v,hv⟩:=dC (GV gens[i]);refine bu (ape hg hv) rfl rfl (uR ?_);refine tU rfl hv (λh2=>a7 (cC λh=>h2 (h hi).1)) λh2=>?_
  have hm:(decide (gens[i].mode=1) !=decide ((i:Int)=((gens.length-1:Nat):Int)))=true↔¬(gens[i].mode=1↔i=gens.length-1):=by
   rw[bne_iff_ne,ne_eq,decide_eq_decide,Qm]
  refine uR ?_;refine bG rfl (λh4=>?_) λh4=>?_
  .have iv:i-1<gens.length:=om;refine dk (n:=((i-1:Nat):Int)) (by show(i:Int) -1=_;omega) om om (nW ?_);refine bU (f:=da) (l:=gens) (j:=i-1) rfl rfl iv rfl (uR ?_);refine bG rfl (λh5=>a7 (cC λh=>by have:=(h hi).2.2.1 om;omega)) λh5=>uR ?_
   refine ik rfl hm (λh3=>a7 (cC λh=>h3 (h hi).2.1)) λh3=>?_
   refine fZ (n:=2*limit) rfl om om (uR ?_);refine a7 (d' ⟨λh6 h=>by have:=(h hi).2.2.2;omega,λh=>lu λh6=>h λ_=>⟨h2,eM.1 h3,λ_=>om,om⟩⟩)
  .refine uR ?_;refine ik rfl hm (λh3=>a7 (cC λh=>h3 (h hi).2.1)) λh3=>?_
   refine fZ (n:=2*limit) rfl om om (uR ?_);refine a7 (d' ⟨λh6 h=>by have:=(h hi).2.2.2;omega,λh=>lu λh6=>h λ_=>⟨h2,eM.1 h3,λ_=>om,om⟩⟩)
 .rintro _ ⟨t,rfl,ht⟩;refine nW ?_;refine ik rfl ht (λg=>a7 (kl hb λhv=>g (hv.2.1 i hi))) λg=>?_
  refine cm (i:=i) rfl om (nW ?_);refine a7 ⟨⟨i+1,rfl,om,λj hj=>?_⟩,?_⟩
  .by_cases e:j=i
   .subst e;exact eM.1 g
   .exact e2 j om
  .show gens.length- ((i+1:Nat):Int).toNat<gens.length-i;omega
theorem aoL(l)(hn:l.length<=1000)(ha:gd l)(key):∃(i:Nat)(b:Bool),LX [.r (l.map bw),.i key]=some [.i i,.b b]/\(b=true->∃h,l[i].key=key)/\(b=false->∀x∈l,x.key≠key):=by
 have mono:∀(p q:Nat)(hp:p<l.length)(hq:q<l.length),p<=q->l[p].key<=l[q].key:=λp q hp hq hpq=>by
  rcases Nat.eq_or_lt_of_le hpq with h|h
  .subst h;omega
  .have:=mU.1 ha p q hp hq h;omega
 have h88:∃o,Fo Nc [.i l.length,.r (l.map bw),.i key]=some o/\∃i:Nat,o=[.i i]/\i<=l.length/\(∀(j:Nat)(hj:j<l.length),j<i->l[j].key<key)/\∀(j:Nat)(hj:j<l.length),i<=j->key<=l[j].key:=by
  refine gi ?_;refine bE (λxs=>∃i:Nat,xs=[.i i]/\i<=l.length/\(∀(j:Nat)(hj:j<l.length),j<i->l[j].key<key)/\∀(j:Nat)(hj:j<l.length),i<=j->key<=l[j].key) ?_ (by rintro _ ⟨i,rfl,h⟩;exact a7 ⟨i,rfl,h⟩);refine wp_loop (I:=λa=>∃lo hi:Nat,a=[.i lo,.i hi]/\lo<=hi/\hi<=l.length/\(∀(j:Nat)(hj:j<l.length),j<lo->l[j].key<key)/\∀(j:Nat)(hj:j<l.length),hi<=j->key<=l[j].key) (mu:=λa=>match a with|[.i lo,.i hi]=>(hi-lo).toNat|_=>0) ⟨0,l.length,rfl,om,om,λj hj h=>by omega,λj hj h=>by omega⟩ ?_;rintro a ⟨lo,hi,rfl,e1,e2,e3,e4⟩;refine uR ?_;refine bG rfl (λhc=>?_) (λhc=>?_);rotate_left
  .exact a7 ⟨lo,rfl,om,e3,λj hj h=>e4 j hj om⟩
  have hm:(lo+hi) /2<l.length:=om;refine xK (i:=lo) (j:=hi) rfl rfl rfl om (nW ?_);have h83:NZ [.i ((lo+hi) /2:Nat),.r (l.map bw),.i key]=some [.b (decide (key<=l[(lo+hi) /2].key))]:=by
   refine bN ?_;refine bU (f:=bw) (l:=l) (j:=(lo+hi) /2) rfl rfl hm rfl (uR ?_);exact a7 rfl
  refine bu h83 rfl rfl (uR ?_);refine tU rfl decide_eq_true_iff (λhk=>?_) λhk=>?_
  .refine cm (i:=(lo+hi) /2) rfl om (nW ?_);refine a7 ⟨⟨(lo+hi) /2+1,hi,rfl,om,e2,λj hj h=>?_,e4⟩,?_⟩
   .have:=mono j ((lo+hi) /2) hj hm om;omega
   .show((hi:Int) - (((lo+hi) /2+1:Nat):Int)).toNat< ((hi:Int) - (lo:Int)).toNat;omega
  .refine a7 ⟨⟨lo,(lo+hi) /2,rfl,om,om,e3,λj hj h=>?_⟩,?_⟩
   .have:=mono ((lo+hi) /2) j hm hj h;omega
   .show((((lo+hi) /2:Nat):Int) - (lo:Int)).toNat< ((hi:Int) - (lo:Int)).toNat;omega
 obtain⟨o,h1,i,rfl,h2,h3,h4⟩:=h88
 suffices h:∃o,Fo K9 [.r (l.map bw),.i key]=some o/\∃(i:Nat)(b:Bool),o=[.i i,.b b]/\(b=true->∃h:i<l.length,l[i].key=key)/\(b=false->∀x∈l,x.key≠key)by
  obtain⟨o,h1,i,b,rfl,h2⟩:=h;exact⟨i,b,h1,h2⟩
 refine gi ?_;refine uR ?_;rw[bC];refine bu (F:=La) h1 rfl rfl (nW ?_);refine bE (λxs=>∃b:Bool,xs=[.b b]/\(b=true->∃h:i<l.length,l[i].key=key)/\(b=false->∀x∈l,x.key≠key)) (uR ?_) (by rintro _ ⟨b,rfl,h⟩;exact a7 ⟨i,b,rfl,h⟩);rw[bC];refine bG rfl (λhc=>?_) (λhc=>?_)
 .have hi:i<l.length:=om;refine bU (f:=bw) (l:=l) (j:=i) rfl rfl hi rfl (uR ?_);refine a7 ⟨decide (l[i].key=key),rfl,λh=>⟨hi,dZ h⟩,λh x hx=>?_⟩;have hk:=eR h;obtain⟨j,hj,rfl⟩:=iE hx;intro e;by_cases kG:j<i
  .have:=h3 j hj kG;omega
  .have h5:=h4 i hi (dx i);rcases Nat.eq_or_lt_of_le (Nat.le_of_not_lt kG)with h6|h6
   .subst h6;exact hk e
   .have:=mU.1 ha i j hi hj h6;omega
 .refine a7 ⟨false,rfl,λh=>(by cases h),λ_ x hx=>?_⟩;obtain⟨j,hj,rfl⟩:=iE hx;have:=h3 j hj om;omega
theorem aju(l)(g:l.length<=64)(a:gd l)(key):Mu [.r (l.map bw),.i key]=some (yi (fE l key)):=by
 obtain⟨i,b,h,m,o⟩:=aoL l om a key;have c:=F_ l a.apart g;rw[LA a]at c;refine bN ?_;refine bu c rfl rfl (nW ?_);refine bu h rfl rfl (uR ?_)
 cases b with
 |false=>
  refine eL rfl (a7 ?_);rw[R' (o rfl)];rfl
 |true=>
  obtain⟨e,p⟩:=m rfl;refine cZ rfl ?_;refine iF (l:=l) (j:=i) rfl rfl e (nW ?_);refine a7 ?_;rw[<-p,L8 a.apart (cT e)];rfl
theorem avQ(o):(yi o).length=5:=by cases o<;>rfl
theorem agD{m}(h:WM m)(a:MV m)(key):oh (oW m++[.i key])=some (yi (fE (items m) key)):=by
 have b:=Lb key;have c:(ix key).toNat<8:=om;have g:=h.hn (ix key).toNat;have e:=aju (m.st (ix key).toNat) om (a.1 _ c).1.1 key;rw[<-aen a.1]at e;refine bN ?_;refine bu (Ow h (ng a)) rfl rfl (uR ?_);refine cZ rfl ?_;refine bu (Zd key) rfl rfl (nW ?_);refine lD ⟨b.1,b.2⟩ (nW ?_);refine th (m:=m) c (by show ix key=_;omega) rfl (nW ?_);refine bu e (avQ _) rfl (a7 ?_);cases fE (items m) key<;>rfl
structure Pc where
 g:Gn
 x:It
 i:Nat
def lU(p:Pc):List PV:=[.sc (.int .i64 p.g.num),.sc (.int .i64 p.g.mode),.sc (.int .i64 p.g.rev),.sc (.int .u64 p.x.key),.sc (.int .u32 p.x.cookie),.sc (.int .i64 p.x.off),.sc (.int .i64 p.x.size),.sc (.int .i64 p.i)]
def abh(d:List Pc)(g:Gn)(i:Nat):Option It->List Pc
 |some x=>d++[⟨g,x,i⟩]
 |none=>d
theorem atM(l:List Pc):cf 8 (l.map lU)=true:=by unfold cf;simp[lU]
theorem agp{g}(j:WM g.map)(p:MV g.map){n r m gs ok nok key}(d)(t:d.length<=1000)(i):
 tx oh 125 [n,r,m,gs,.i key,ok,nok] (d.map lU) i (da g)=some ((abh d g i (fE (items g.map) key)).map lU):=by
 have e:(r_ oh 125).wp ([n,r,m,gs,.i key,ok,nok,.r (d.map lU),.i i]++rA g) (λo=>∃a,o.1=.jump 0 [a]/\(a.ev o.2).bm=(abh d g i (fE (items g.map) key)).map lU):=by
  have b:=agD j p key
  cases h:fE (items g.map) key with
  |none=>
   rw[h]at b;refine bu b rfl rfl (nW ?_);exact cZ rfl (a7 ⟨_,rfl,rfl⟩)
  |some x=>
   rw[h]at b;refine bu b rfl rfl (nW ?_);refine eL rfl (uR ?_);refine fa (r:=(d++[(⟨g,x,i⟩:Pc)]).map lU) (atM d) rfl (by show(d.map lU).length<=_;rw[bC];omega) (by show(1:Nat)<=_;omega) om (by rw[eB];rfl) (nW ?_);exact a7 ⟨_,rfl,rfl⟩
 obtain⟨⟨u,ρ'⟩,c,a,q,s⟩:=(by unfold a8.wp at e;exact e:∃r,_=some r/\_)
 cases q;unfold tx;rw[show AM (da g)=some (rA g)from rfl];have c:(r_ oh 125).a6 (n::r::m::gs:: .i key::ok::nok:: .r (d.map lU):: .i (i:Int)::rA g)=_:=c;dsimp only[List.cons_append,List.nil_append];rw[c];exact cO some s
theorem Sx{gens}(i:∀g∈gens,WM g.map)(o:∀g∈gens,MV g.map)(s:gens.length<=1000){n r m gs ok nok key}:
 ∀k,k<=gens.length->∃d,d.length<=k/\ku oh 125 [n,r,m,gs,.i key,ok,nok] (gens.map da) k=some (d.map lU)/\
  ((d=[]/\iU gens key gens.length=iU gens key (gens.length-k))\/∃p t,d=p::t/\iU gens key gens.length=some (p.g,p.x))
 |0,_=>⟨[],dx 0,rfl,.inl ⟨rfl,rfl⟩⟩
 |k +1,w=>by
  obtain⟨d,y,e2,e3⟩:=Sx i o s k om (n:=n) (r:=r) (m:=m) (gs:=gs) (ok:=ok) (nok:=nok) (key:=key);obtain⟨j,h⟩:∃j,gens.length-1-k=j:=⟨_,rfl⟩
  have c:j<gens.length:=om;have u:(gens.map da)[j]?=some (da gens[j]):=by rw[cN,cW c];rfl
  have v:=agp (i _ (cT c)) (o _ (cT c)) (n:=n) (r:=r) (m:=m) (gs:=gs) (ok:=ok) (nok:=nok) (key:=key) d om j;have e:=YQ (k:=key) c;rw[show gens.length-k=j+1 by omega]at e3;rw[show gens.length- (k+1)=j by omega,ku,e2,bC,h,u];simp only;rw[v]
  cases q:fE (items gens[j].map) key with
  |none=>
   rw[q]at e;refine⟨d,om,rfl,?_⟩;rcases e3 with⟨a,b⟩|f
   .exact .inl ⟨a,b.trans e⟩
   .exact .inr f
  |some x=>
   rw[q]at e;refine⟨_,?_,rfl,.inr ?_⟩
   .show(d++[_]).length<=k+1;simp;omega
   rcases e3 with⟨a,b⟩| ⟨p,t,a,b⟩
   .subst a;exact⟨_,[],rfl,b.trans e⟩
   .subst a;exact⟨p,_,rfl,b⟩
theorem adE{id limit ro gens}(c:∀g∈gens,WM g.map)(a:kK id limit gens)(key):
 Oi [.i id,.i limit,ro,.r (gens.map da),.i key]=some (Fw (iU gens key gens.length)):=by
 have u:=a.1.2.2;have h:∀g∈gens,MV g.map:=λg o=>by
  obtain⟨i,e,rfl⟩:=iE o;exact(a.2.1 i e e).1.2.2.1
 obtain⟨d,v,e2,e3⟩:=Sx c h om (n:=.i id) (r:=.i limit) (m:=ro) (gs:=.r (gens.map da)) (ok:=.b true) (nok:=.b (!(L.b true).ck)) (key:=key) gens.length (dx _);have hall:CD [.i id,.i limit,ro,.r (gens.map da),.i key]=some [.r (d.map lU)]:=by
  have q:=WK (ro:=ro) c om (ng a);have s:F4 [.r (gens.map da)]=some []:=by
   refine bN ?_;exact a7 rfl
  unfold CD sO;simp only[q,s];rw[bF (show(L.b true).ck=true from rfl),bF (by rw[bC];omega),bC,e2];rfl
 refine bN ?_;refine bu hall rfl rfl (uR ?_);rw[bC];rcases e3 with⟨rfl,b⟩| ⟨p,t,rfl,b⟩
 .refine fD rfl rfl (a7 ?_);rw[b,Bm];rfl
 .refine db rfl (by rw[kH];omega) ?_;refine bU (f:=lU) (l:=p::t) (j:=0) rfl rfl (by simp) rfl (nW ?_)
  repeat refine eb (f:=lU) (l:=p::t) (j:=0) rfl rfl (by simp) rfl rfl (nW ?_)
  refine a7 ?_;rw[b];rfl
end
section
open Go.RowKit AI
attribute [local irreducible] a8.wp
def gF(c:Nat->Nat)(d:Nat->List Nat)(z:List Nat):Nat->List Nat
 |0=>z
 |k+1=>eP (c k) (gF c d z k) (d k)
def iL(E:List Nat)(ds:List (List Nat))(m j:Nat):List Nat:=gF (λk=>E.getD (j*4+k) 0) (λk=>ds.getD k []) (List.replicate m 0) 4
def hW(E:List Nat)(ds:List (List Nat))(m nr:Nat):List (List Nat):=(List.range nr).map (iL E ds m)
theorem Tj(m):B8 (List.replicate m 0):=λx a=>by rw[G0 a];decide
theorem zf{c:Nat->Nat}{d:Nat->List Nat}{m n:Nat}(a:∀k,k<n->(d k).length=m):∀k,k<=n->(gF c d (List.replicate m 0) k).length=m/\B8 (gF c d (List.replicate m 0) k)
 |0,_=>⟨mT,Tj m⟩
 |k+1,h=>by
  have b:=zf (c:=c) a k om;have e:=a k om;unfold gF;exact⟨by rw[Ao om];exact e,ahq b.2⟩
theorem eK{α:Type}{d}{l:List α}{i}(h):l.getD i d=l[i]:=by rw[sE,cW h];rfl
def oz(ds:List (List Nat))(m:Nat):Prop:=∀d∈ds,B8 d/\d.length=m
theorem oz.at{ds m}(h:oz ds m){k}(a:k<ds.length):B8 ds[k]/\ds[k].length=m:=h _ (cT a)
theorem H5{E ds m}(a:ds.length=4)(h:oz ds m)(j):(iL E ds m j).length=m/\B8 (iL E ds m j):=
 zf (n:=4) (λk b=>by rw[eK om];exact(h.at om).2) 4 om
theorem sX(E)(ds)(m nr):(hW E ds m nr).length=nr:=by simp[hW]
theorem xf{E ds m nr i}(h):(hW E ds m nr)[i]=iL E ds m i:=by simp[hW]
theorem Ug{E ds m nr}(a:ds.length=4)(h:oz ds m):oz (hW E ds m nr) m:=λd b=>by
 obtain⟨j,_,rfl⟩:=eV.1 b;exact⟨(H5 a h j).2,(H5 a h j).1⟩
section
variable{α:Type}{d:α}{l:List α}{n:Nat}
def fG(d:α)(l:List α)(n i:Nat):List α:=l.take i++List.replicate (n-i) d
theorem Cs(h:l.length=n){i}(a:i<=n):(fG d l n i).length=n:=by simp only[fG,ez,eA,mT];omega
theorem B7(h:l.length=n){i}(b:i<n){v}(a:v=l[i]'om):(fG d l n i).set i v=fG d l n (i+1):=by
 unfold fG;rw[List.set_append_right _ _ (by rw[eA];omega),gW om,eU,eA];rw[show i-min i l.length=0 by omega,show n-i=(n- (i+1))+1 by omega,List.replicate_succ,ado,a];rfl
theorem E_(h:l.length=n):fG d l n n=l:=by unfold fG;rw[gX om,Bm];simp
end
theorem AH(l:List (List Nat)):cf 1 (l.map fR)=true:=by
 unfold cf;rw[cj];intro x a;obtain⟨y,_,rfl⟩:=eV.1 a;rfl
theorem aiq{E:List Nat}{nr i k:Nat}(a:i<=16)(b:k<4)(h:i*4+k<E.length):tZ [.i nr,.i 4,.r (E.map b1),.i i,.i k]=some [.i (E.getD (i*4+k) 0:Nat)]:=by
 refine bN ?_;refine fZ (n:=((i*4:Nat):Int)) oO om om (nW ?_);refine c_ (n:=((i*4+k:Nat):Int)) oO om om (nW ?_);refine bU (f:=b1) (j:=i*4+k) rfl rfl h rfl (uR ?_);refine a7 ?_;rw[eK h];rfl
theorem auZ:pB [.i 6]=some [.b true]:=wJ.h [.i 6] _ kr
theorem awi:pB [.i 4]=some [.b true]:=wJ.h [.i 4] _ kr
theorem afE{E:List Nat}(a:E.length=24):tm [.i 6,.i 4,.r (E.map b1)]=some [.b true]:=by
 refine bN ?_;refine bE (λxs=>xs=[.b true]) ?_ ?_
 .refine bu auZ rfl rfl (nW ?_);refine eL rfl ?_;refine bu awi rfl rfl (nW ?_);refine eL rfl (uR ?_);refine fZ (n:=24) rfl om om (uR ?_);refine a7 ?_;exact dT (by rw[bC,a];rfl)
 rintro _ rfl;refine nW ?_;exact a7 rfl
theorem apB{E}(hE:E.length=24)(hc:∀x∈E,x<256/\(x=0\/uk x=true)){ds}(h4:ds.length=4){m}(hm:m<=4294967296)(hd:oz ds m):Iu [.i 6,.i 4,.r (E.map b1),.r (ds.map fR)]=some [.i 0,.r ((hW E ds m 6).map fR)]:=by
 refine bN ?_;refine bE (λxs=>xs=[.b false]) ?_ ?_
 .refine bu (afE hE) rfl rfl (uR ?_);refine cZ rfl (uR ?_);refine a7 ?_;exact dF (by rw[bC,h4];decide)
 rintro _ rfl;refine nW ?_;refine cZ rfl ?_;have eI:=hd.at (show 0<ds.length by omega);refine bE (λxs=>xs=[]) ?_ ?_
 .refine uR ?_;refine wp_loop (I:=λx=>∃i:Nat,x=[.i i]/\i<=4) (mu:=λx=>match x with|[.i i]=>4-i.toNat|_=>0) ⟨0,rfl,om⟩ ?_;rintro x ⟨i,rfl,e1⟩;refine uR ?_;refine bG rfl (λhx=>?_) (λhx=>?_);rotate_left
  .exact a7 rfl
  rw[bC,h4]at hx;have hi:i<ds.length:=om;refine bU (f:=fR) (j:=i) rfl rfl hi rfl (uR ?_);refine bU (f:=fR) (j:=0) rfl rfl (show 0<ds.length by omega) rfl (uR ?_);refine db rfl (by rw[bC,bC,(hd.at hi).2,eI.2];exactλh=>h rfl) ?_;refine cm (i:=i) rfl om (nW ?_);refine a7 ⟨⟨i+1,rfl,om⟩,?_⟩;show 4- ((i+1:Nat):Int).toNat<4-i;omega
 rintro _ rfl;refine nW ?_;refine nu (r:=(List.replicate 6 ([]:List Nat)).map fR) (by try dsimp only[At.ev,d1,d2,d3,d4,d5,d6,d7,d8,d9,e0,List.map,cH,Kd.pv];exact⟨dc,dc,dc⟩) rfl (nW ?_);obtain⟨oL,ho⟩:∃oL,hW E ds m 6=oL:=⟨_,rfl⟩
 have sg:oL.length=6:=by rw[<-ho,sX]
 have qm:∀i(h:i<oL.length),oL[i]=iL E ds m i:=by subst ho;exactλi h=>xf h
 rw[ho];refine bE (λxs=>xs=[.r (oL.map fR)]) ?_ ?_;rotate_left
 .rintro _ rfl;refine nW ?_;exact a7 rfl
 refine uR ?_;refine wp_loop (I:=λx=>∃i:Nat,x=[.i i,.r ((fG [] oL 6 i).map fR)]/\i<=6) (mu:=λx=>match x with|[.i i,_]=>6-i.toNat|_=>0) ⟨0,rfl,om⟩ ?_;rintro x ⟨i,rfl,e1⟩;have uU:=Cs (d:=([]:List Nat)) sg e1;refine uR ?_;refine bG rfl (λhx=>?_) (λhx=>?_);rotate_left
 .have hx:¬(i:Int)<6:=hx;obtain rfl:i=6:=om;refine a7 ?_;show[L.r ((fG [] oL 6 6).map fR)]=_;rw[E_ sg]
 have hx:(i:Int)<6:=hx;have hi:i<6:=om;have hst:=B7 (d:=([]:List Nat)) sg hi (v:=iL E ds m i) (qm i om).symm;obtain⟨F,hF⟩:∃F,fG [] oL 6 i=F:=⟨_,rfl⟩
 rw[hF]at uU hst⊢;refine bE (λxs=>xs=[.r ((fG [] oL 6 (i+1)).map fR)]) ?_ ?_
 .refine bU (f:=fR) (j:=0) rfl rfl (show 0<ds.length by omega) rfl (uR ?_);refine nu (r:=(List.replicate m 0).map b1) (by
   show 0<=(((ds[0].map b1).length:Nat):Int)/\(((ds[0].map b1).length:Nat):Int)<=9223372036854775807/\1*(((ds[0].map b1).length:Nat):Int).toNat<=281474976710656;rw[bC,eI.2];omega) (by
   show List.replicate (((ds[0].map b1).length:Nat):Int).toNat [PV.sc (.int .u8 0)]=_;rw[fM,bC,eI.2,u_];rfl) ?_
  refine nW ?_;refine bU (f:=fR) (j:=i) rfl rfl (show i<F.length by omega) rfl (nW ?_);refine lS (f:=fR) (j:=i) (v:=List.replicate m 0) rfl rfl (show i<F.length by omega) rfl rfl (uR ?_);have hlk:=zf (c:=λk=>E.getD (i*4+k) 0) (d:=λk=>ds.getD k []) (m:=m) (n:=4) (λk hk=>by rw[eK om];exact(hd.at om).2);refine wp_loop (I:=λx=>∃k:Nat,x=[.i k,.r ((F.set i (gF (λk=>E.getD (i*4+k) 0) (λk=>ds.getD k []) (List.replicate m 0) k)).map fR)]/\k<=4) (mu:=λx=>match x with|[.i k,_]=>4-k.toNat|_=>0) ⟨0,rfl,om⟩ ?_;rintro x ⟨k,rfl,e2⟩;have sj:=hlk k e2;have e7:gF (λk=>E.getD (i*4+k) 0) (λk=>ds.getD k []) (List.replicate m 0) (k+1)=eP (E.getD (i*4+k) 0) (gF (λk=>E.getD (i*4+k) 0) (λk=>ds.getD k []) (List.replicate m 0) k) (ds.getD k []):=rfl;refine uR ?_;refine bG rfl (λhy=>?_) (λhy=>?_);rotate_left
  .rw[bC,h4]at hy;obtain rfl:k=4:=om;refine a7 ?_;show[L.r ((F.set i (iL E ds m i)).map fR)]=_;rw[hst]
  rw[bC,h4]at hy;have hk:k<ds.length:=om;have Bd:=hd.at hk;obtain⟨u,hu⟩:∃u,gF (λk=>E.getD (i*4+k) 0) (λk=>ds.getD k []) (List.replicate m 0) k=u:=⟨_,rfl⟩
  obtain⟨v,hv⟩:∃v,gF (λk=>E.getD (i*4+k) 0) (λk=>ds.getD k []) (List.replicate m 0) (k+1)=v:=⟨_,rfl⟩
  rw[hu,hv,eK hk]at e7;rw[hu]at sj⊢;have se:(F.set i u).length=6:=by rw[G2];exact uU
  have hat:(F.set i u)[i]'om=u:=List.getElem_set_self _;refine bU (f:=fR) (j:=k) rfl rfl hk rfl (uR ?_);refine bU (f:=fR) (j:=i) rfl rfl (show i< (F.set i u).length by omega) rfl (nW ?_);refine eb (f:=fR) (j:=i) rfl rfl (show i< (F.set i u).length by omega) rfl rfl ?_;rw[hat];refine nW ?_;have lY:i*4+k<E.length:=om;refine bu (aiq om om lY) rfl rfl (nW ?_);have hcx:=hc _ (cT lY);refine bu (afS (c:=E.getD (i*4+k) 0) (by rw[eK lY];exact hcx.1) (by rw[eK lY];exact hcx.2) u ds[k] sj.2 Bd.1 om om) rfl rfl (nW ?_);refine bU (f:=fR) (j:=i) rfl rfl (show i< (F.set i u).length by omega) rfl (nW ?_);refine lS (f:=fR) (j:=i) (v:=v) rfl rfl (show i< (F.set i u).length by omega) rfl (by rw[e7];rfl) ?_;rw[Qp];refine nW ?_;refine cm (i:=k) rfl om (nW ?_);refine a7 ⟨⟨k+1,by rw[hv];rfl,om⟩,?_⟩;show 4- ((k+1:Nat):Int).toNat<4-k;omega
 rintro _ rfl;refine nW ?_;refine cm (i:=i) rfl om (nW ?_);refine a7 ⟨⟨i+1,rfl,om⟩,?_⟩;show 6- ((i+1:Nat):Int).toNat<6-i;omega
theorem asF:nh [.i 6,.i 4]=some [.b true]:=tq.h [.i 6,.i 4] _ kr
theorem arc:nh [.i 4,.i 4]=some [.b true]:=tq.h [.i 4,.i 4] _ kr
theorem Qw{nr:Nat}(c:nr<=16)(a:nh [.i nr,.i 4]=some [.b true]){E:List Nat}(b:E.length=nr*4):nM [.i nr,.i 4,.r (E.map b1)]=some [.b true]:=by
 refine bN ?_;refine bE (λxs=>xs=[.b true]) ?_ ?_
 .refine bu a rfl rfl (nW ?_);refine eL rfl (uR ?_);refine fZ (n:=((nr*4:Nat):Int)) oO om om (uR ?_);refine a7 ?_;exact dT (by rw[bC,b])
 rintro _ rfl;refine nW ?_;exact a7 rfl
theorem adw{α:Type}{f:α->List PV}(a:∀x,(f x).all PV.bare=true)(l:List α):(l.map f).all (·.all PV.bare)=true:=by
 rw[cj];intro x b;obtain⟨y,_,rfl⟩:=eV.1 b;exact a y
section
variable{ρ:List L}{Q:Lf×List L->Prop}{k:a8}{α:Type}{f:α->List PV}
theorem mv{t F args n j l}{m:List α}(a:∀x,(f x).all PV.bare=true)(h:F (args.map (At.ev ρ))=some l)(b:l.length=n)(c:l[j]?=some (.r (m.map f)))(e:k.wp (ρ++l) Q):(a8.op (.call t F args n [j]) k).wp ρ Q:=
 bu h b (by simp only[P',List.all_nil,Bool.and_true,c,gS];exact adw a m) e
theorem Cp{l:List α}{x e ln i:At}{n j c:Nat}(g:(x.ev ρ).bm=l.map f)(a:(e.ev ρ).a_=0)(b:(ln.ev ρ).a_=c)(h:(i.ev ρ).a_=j)(m)(o:j<c)(p:(f l[j]).length=n)(q:k.wp (ρ++[.i (j:Nat)]) Q):(a8.op (.gh x e ln i n) k).wp ρ Q:=
 kS (ls:=[.i (j:Nat)]) (by
  simp only[Nd.ev];rw[g,a,b,h,bF om,fM,xG,mQ,cN,cW m];exact bF ⟨p,by exact o⟩) q
theorem YC{l:List α}{x e ln:At}{c:Nat}(g:(x.ev ρ).bm=l.map f)(a:(e.ev ρ).a_=0)(b:(ln.ev ρ).a_=c)(h:k.wp (ρ++[.r ((l.take c).map f)]) Q):(a8.op (.vw x e ln) k).wp ρ Q:=
 Yg (by rw[g,a,b,fM,xG,Bu,<-mW];exact h)
end
theorem aek{E}(hE:E.length=6*4)(hc:∀x∈E,x<256){ds}(h4:ds.length=4){m}(hm:m<=4294967296)(hd:oz ds m):xd [.i 6,.i 4,.r (E.map b1),.r (ds.map fR)]=some [.i 0,.r ((hW E ds m 6).map fR)]:=by
 refine bN ?_;refine bE (λxs=>xs=[.b false]) ?_ ?_
 .refine bu (Qw (nr:=6) dc asF hE) rfl rfl (nW ?_);refine sT rfl ?_;refine nW ?_;refine cZ rfl (uR ?_);refine a7 ?_;exact dF (by rw[bC,h4];decide)
 rintro _ rfl;refine nW ?_;refine cZ rfl ?_;have eI:=hd.at (show 0<ds.length by omega);refine bE (λxs=>xs=[]) ?_ ?_
 .refine wp_loop (I:=λx=>∃i:Nat,x=[.i i]/\i<=4) (mu:=λx=>match x with|[.i i]=>4-i.toNat|_=>0) ⟨0,rfl,om⟩ ?_;rintro x ⟨i,rfl,e1⟩;refine uR ?_;refine bG rfl (λhx=>?_) (λhx=>?_);rotate_left
  .exact a7 rfl
  rw[bC,h4]at hx;have hi:i<ds.length:=om;refine bU (f:=fR) (j:=i) rfl rfl (show i<ds.length by omega) rfl (nW ?_);refine eb (f:=fR) (j:=i) rfl rfl (show i<ds.length by omega) rfl rfl (uR ?_);refine bU (f:=fR) (j:=0) rfl rfl (show 0<ds.length by omega) rfl (nW ?_);refine eb (f:=fR) (j:=0) rfl rfl (show 0<ds.length by omega) rfl rfl (uR ?_);refine db rfl (by rw[bC,bC,(hd.at hi).2,eI.2];exactλh=>h rfl) ?_;refine cm (i:=i) rfl om (nW ?_);refine a7 ⟨⟨i+1,rfl,om⟩,?_⟩;show 4- ((i+1:Nat):Int).toNat<4-i;omega
 rintro _ rfl;refine nW ?_;obtain⟨oL,ho⟩:∃oL,hW E ds m 6=oL:=⟨_,rfl⟩
 have sg:oL.length=6:=by rw[<-ho,sX]
 have qm:∀i(h:i<oL.length),oL[i]=iL E ds m i:=by subst ho;exactλi h=>xf h
 rw[ho];refine bE (λxs=>xs=[.r (oL.map fR)]) ?_ ?_;rotate_left
 .rintro _ rfl;refine nW ?_;exact a7 rfl
 refine wp_loop (I:=λx=>∃i:Nat,x=[.i i,.r ((oL.take i).map fR)]/\i<=6) (mu:=λx=>match x with|[.i i,_]=>6-i.toNat|_=>0) ⟨0,rfl,om⟩ ?_;rintro x ⟨i,rfl,e1⟩;refine uR ?_;refine bG rfl (λhx=>?_) (λhx=>?_);rotate_left
 .refine a7 ?_;show[L.r ((oL.take i).map fR)]=_;rw[gX om]
 have hi:i<oL.length:=om;refine bU (f:=fR) (j:=0) rfl rfl (show 0<ds.length by omega) rfl (nW ?_);refine eb (f:=fR) (j:=0) rfl rfl (show 0<ds.length by omega) rfl rfl (uR ?_);refine nu (r:=(List.replicate m 0).map b1) (by
  show 0<=(((ds[0].map b1).length:Nat):Int)/\(((ds[0].map b1).length:Nat):Int)<=9223372036854775807/\1*(((ds[0].map b1).length:Nat):Int).toNat<=281474976710656;rw[bC,eI.2];omega) (by
  show List.replicate (((ds[0].map b1).length:Nat):Int).toNat [PV.sc (.int .u8 0)]=_;rw[fM,bC,eI.2,u_];rfl) ?_
 refine nW ?_;refine bE (λxs=>xs=[.r ((iL E ds m i).map b1)]) ?_ ?_
 .have hlk:=zf (c:=λk=>E.getD (i*4+k) 0) (d:=λk=>ds.getD k []) (m:=m) (n:=4) (λk hk=>by rw[eK om];exact(hd.at om).2);refine wp_loop (I:=λx=>∃k:Nat,x=[.i k,.r ((gF (λk=>E.getD (i*4+k) 0) (λk=>ds.getD k []) (List.replicate m 0) k).map b1)]/\k<=4) (mu:=λx=>match x with|[.i k,_]=>4-k.toNat|_=>0) ⟨0,rfl,om⟩ ?_;rintro x ⟨k,rfl,e2⟩;have sj:=hlk k e2;have e7:gF (λk=>E.getD (i*4+k) 0) (λk=>ds.getD k []) (List.replicate m 0) (k+1)=eP (E.getD (i*4+k) 0) (gF (λk=>E.getD (i*4+k) 0) (λk=>ds.getD k []) (List.replicate m 0) k) (ds.getD k []):=rfl;refine uR ?_;refine bG rfl (λhy=>?_) (λhy=>?_);rotate_left
  .obtain rfl:k=4:=om;exact a7 rfl
  have hk:k<ds.length:=om;have Bd:=hd.at hk;obtain⟨u,hu⟩:∃u,gF (λk=>E.getD (i*4+k) 0) (λk=>ds.getD k []) (List.replicate m 0) k=u:=⟨_,rfl⟩
  obtain⟨v,hv⟩:∃v,gF (λk=>E.getD (i*4+k) 0) (λk=>ds.getD k []) (List.replicate m 0) (k+1)=v:=⟨_,rfl⟩
  rw[hu,hv,eK hk]at e7;rw[hu]at sj⊢;refine bU (f:=fR) (j:=k) rfl rfl (show k<ds.length by omega) rfl (nW ?_);refine eb (f:=fR) (j:=k) rfl rfl (show k<ds.length by omega) rfl rfl (nW ?_);refine fZ (n:=((i*4:Nat):Int)) oO om om (nW ?_);refine c_ (n:=((i*4+k:Nat):Int)) oO om om (nW ?_);have lY:i*4+k<E.length:=om;refine bU (f:=b1) (j:=i*4+k) rfl rfl lY rfl (uR ?_);rw[eK lY]at e7;refine mv (f:=b1) (m:=eP E[i*4+k] u ds[k]) (λ_=>rfl) (X1 (hc _ (cT lY)) u ds[k] sj.2 Bd.1 om om) rfl rfl ?_;rw[<-e7];refine nW ?_;refine cm (i:=k) rfl om (nW ?_);refine a7 ⟨⟨k+1,by rw[hv];rfl,om⟩,?_⟩;show 4- ((k+1:Nat):Int).toNat<4-k;omega
 rintro _ rfl;refine uR ?_;refine fa (r:=(oL.take (i+1)).map fR) (AH _) rfl oO oO dc (by rw[gW hi,eB,qm i hi];rfl) (nW ?_);refine cm (i:=i) rfl om (nW ?_);refine a7 ⟨⟨i+1,rfl,om⟩,?_⟩;show 6- ((i+1:Nat):Int).toNat<6-i;omega
theorem ajq{E}(hE:E.length=4*4)(hc:∀x∈E,x<256){ds ss:List (List Nat)}(h4:ds.length=4){m}(hm:m<=4294967296)(hd:oz ds m)(hs4:4<=ss.length)(he:ss.take 4=ds):M7 [.i 4,.i 4,.r (E.map b1),.r (ss.map fR),.i 0,.i 4]=some [.i 0,.r ((hW E ds m 4).map fR)]:=by
 refine bN ?_;have GJ:∀i(h:i<4),ss[i]'om=ds[i]'om:=λi h=>by subst he;rw[List.getElem_take]
 refine bE (λxs=>xs=[.b false]) ?_ ?_
 .refine bu (Qw (nr:=4) dc arc hE) rfl rfl (nW ?_);refine sT rfl ?_;refine nW ?_;refine cZ rfl ?_;refine YC (f:=fR) (l:=ss) (c:=4) rfl rfl rfl ?_;rw[he];refine uR ?_;refine a7 ?_;exact dF (by rw[bC,h4];decide)
 rintro _ rfl;refine nW ?_;refine cZ rfl ?_;have eI:=hd.at (show 0<ds.length by omega);refine bE (λxs=>xs=[]) ?_ ?_
 .refine wp_loop (I:=λx=>∃i:Nat,x=[.i i]/\i<=4) (mu:=λx=>match x with|[.i i]=>4-i.toNat|_=>0) ⟨0,rfl,om⟩ ?_;rintro x ⟨i,rfl,e1⟩;refine nW ?_;refine YC (f:=fR) (l:=ss) (c:=4) rfl rfl rfl ?_;rw[he];refine uR ?_;refine bG rfl (λhx=>?_) (λhx=>?_);rotate_left
  .exact a7 rfl
  rw[bC,h4]at hx;have hi:i<ds.length:=om;refine Cp (f:=fR) (l:=ss) (j:=i) (c:=4) rfl rfl rfl rfl om om rfl (nW ?_);refine eb (f:=fR) (l:=ss) (j:=i) rfl rfl om rfl rfl ?_;rw[GJ i om];refine uR ?_;refine Cp (f:=fR) (l:=ss) (j:=0) (c:=4) rfl rfl rfl rfl om om rfl (nW ?_);refine eb (f:=fR) (l:=ss) (j:=0) rfl rfl om rfl rfl ?_;rw[GJ 0 om];refine uR ?_;refine db rfl (by rw[bC,bC,(hd.at hi).2,eI.2];exactλh=>h rfl) ?_;refine cm (i:=i) rfl om (nW ?_);refine a7 ⟨⟨i+1,rfl,om⟩,?_⟩;show 4- ((i+1:Nat):Int).toNat<4-i;omega
 rintro _ rfl;refine nW ?_;obtain⟨oL,ho⟩:∃oL,hW E ds m 4=oL:=⟨_,rfl⟩
 have sg:oL.length=4:=by rw[<-ho,sX]
 have qm:∀i(h:i<oL.length),oL[i]=iL E ds m i:=by subst ho;exactλi h=>xf h
 rw[ho];refine bE (λxs=>xs=[.r (oL.map fR)]) ?_ ?_;rotate_left
 .rintro _ rfl;refine nW ?_;exact a7 rfl
 refine wp_loop (I:=λx=>∃i:Nat,x=[.i i,.r ((oL.take i).map fR)]/\i<=4) (mu:=λx=>match x with|[.i i,_]=>4-i.toNat|_=>0) ⟨0,rfl,om⟩ ?_;rintro x ⟨i,rfl,e1⟩;refine uR ?_;refine bG rfl (λhx=>?_) (λhx=>?_);rotate_left
 .refine a7 ?_;show[L.r ((oL.take i).map fR)]=_;rw[gX om]
 have hi:i<oL.length:=om;refine Cp (f:=fR) (l:=ss) (j:=0) (c:=4) rfl rfl rfl rfl om om rfl (nW ?_);refine eb (f:=fR) (l:=ss) (j:=0) rfl rfl om rfl rfl ?_;rw[GJ 0 om];refine uR ?_;refine nu (r:=(List.replicate m 0).map b1) (by
  show 0<=(((ds[0].map b1).length:Nat):Int)/\(((ds[0].map b1).length:Nat):Int)<=9223372036854775807/\1*(((ds[0].map b1).length:Nat):Int).toNat<=281474976710656;rw[bC,eI.2];omega) (by
  show List.replicate (((ds[0].map b1).length:Nat):Int).toNat [PV.sc (.int .u8 0)]=_;rw[fM,bC,eI.2,u_];rfl) ?_
 refine nW ?_;refine bE (λxs=>xs=[.r ((iL E ds m i).map b1)]) ?_ ?_
 .have hlk:=zf (c:=λk=>E.getD (i*4+k) 0) (d:=λk=>ds.getD k []) (m:=m) (n:=4) (λk hk=>by rw[eK om];exact(hd.at om).2);refine wp_loop (I:=λx=>∃k:Nat,x=[.i k,.r ((gF (λk=>E.getD (i*4+k) 0) (λk=>ds.getD k []) (List.replicate m 0) k).map b1)]/\k<=4) (mu:=λx=>match x with|[.i k,_]=>4-k.toNat|_=>0) ⟨0,rfl,om⟩ ?_;rintro x ⟨k,rfl,e2⟩;have sj:=hlk k e2;have e7:gF (λk=>E.getD (i*4+k) 0) (λk=>ds.getD k []) (List.replicate m 0) (k+1)=eP (E.getD (i*4+k) 0) (gF (λk=>E.getD (i*4+k) 0) (λk=>ds.getD k []) (List.replicate m 0) k) (ds.getD k []):=rfl;refine uR ?_;refine bG rfl (λhy=>?_) (λhy=>?_);rotate_left
  .obtain rfl:k=4:=om;exact a7 rfl
  have hk:k<ds.length:=om;have Bd:=hd.at hk;obtain⟨u,hu⟩:∃u,gF (λk=>E.getD (i*4+k) 0) (λk=>ds.getD k []) (List.replicate m 0) k=u:=⟨_,rfl⟩
  obtain⟨v,hv⟩:∃v,gF (λk=>E.getD (i*4+k) 0) (λk=>ds.getD k []) (List.replicate m 0) (k+1)=v:=⟨_,rfl⟩
  rw[hu,hv,eK hk]at e7;rw[hu]at sj⊢;refine Cp (f:=fR) (l:=ss) (j:=k) (c:=4) rfl rfl rfl rfl om om rfl (nW ?_);refine eb (f:=fR) (l:=ss) (j:=k) rfl rfl om rfl rfl ?_;rw[GJ k om];refine nW ?_;refine fZ (n:=((i*4:Nat):Int)) oO om om (nW ?_);refine c_ (n:=((i*4+k:Nat):Int)) oO om om (nW ?_);have lY:i*4+k<E.length:=om;refine bU (f:=b1) (j:=i*4+k) rfl rfl lY rfl (nW ?_);refine eb (f:=b1) (j:=i*4+k) rfl rfl lY rfl rfl (nW ?_);rw[eK lY]at e7;refine mv (f:=b1) (m:=eP E[i*4+k] u ds[k]) (λ_=>rfl) (X1 (hc _ (cT lY)) u ds[k] sj.2 Bd.1 om om) rfl rfl ?_;rw[<-e7];refine nW ?_;refine cm (i:=k) rfl om (nW ?_);refine a7 ⟨⟨k+1,by rw[hv];rfl,om⟩,?_⟩;show 4- ((k+1:Nat):Int).toNat<4-k;omega
 rintro _ rfl;refine uR ?_;refine fa (r:=(oL.take (i+1)).map fR) (AH _) rfl oO oO dc (by rw[gW hi,eB,qm i hi];rfl) (nW ?_);refine cm (i:=i) rfl om (nW ?_);refine a7 ⟨⟨i+1,rfl,om⟩,?_⟩;show 4- ((i+1:Nat):Int).toNat<4-i;omega
end
end
end Go.Proofs.YtndegphojkiblaaGreatDoor
