/- A part. -/
import Derived.Test.YtiikkkhcolcebaaGreatDoorG31
import Derived.Test.YtiikkkhcolcebaaGreatDoorG32
import Derived.Test.YtiikkkhcolcebaaGreatDoorG33
set_option linter.all false
set_option maxHeartbeats 4000000
set_option maxRecDepth 100000
namespace Go.Proofs.YtiikkkhcolcebaaGreatDoor
noncomputable section
section
open Go.RowKit AI
attribute [local irreducible] bl.wp
theorem w8{d}(hd:kc d){b}(hb:b=true↔iw d):Ek [.i d.cap,.i d.left,.r (d.files.map bJ)]=some [.b b]:=by
 refine bF ?_;refine bz (c8 (¬(0<=d.cap∧-1<=d.left/\d.files.length<=256))) ?_ ?_
 .refine uR ?_;refine cJ (λhx=>?_) (λhx=>?_)
  .have hx:d.cap<0:=eE hx;exact bk (dQ om)
  have hx:¬d.cap<0:=fv hx;refine uR ?_;refine cJ (λhy=>?_) (λhy=>?_)
  .have hy:d.left< -1:=eE hy;exact bk (dQ om)
  have hy:¬d.left< -1:=fv hy;refine uR ?_;exact bk (e_ (show(256:Int)< (d.files.map bJ).length↔_ by rw[bD];omega))
 rintro _ ⟨t,rfl,ht⟩;refine nW ?_;refine cJ (λhx=>?_) (λhx=>?_)
 .refine bk ?_;show[L.b false]=[.b b]
  rw[gF hb λh=>ht.1 hx h.1]
 have F4:0<=d.cap∧-1<=d.left/\d.files.length<=256:=js.1 λh=>by rw[ht.2 h]at hx;cases hx
 refine bz (λxs=>xs=[]/\b=true) ?_ ?_;rotate_left
 .rintro _ ⟨rfl,h⟩;refine nW ?_;refine bk ?_;show[L.b true]=[.b b]
  rw[h]
 refine uR ?_;refine wp_loop (I:=λa=>∃i:Nat,a=[.i i]/\i<=d.files.length/\∀j,j<i->wg d j) (mu:=λa=>match a with|[.i i]=>d.files.length-i.toNat|_=>0) ⟨0,rfl,om,λj hj=>by omega⟩ ?_;rintro a ⟨i,rfl,e1,e2⟩;refine uR ?_;refine cJ (λhc=>?_) (λhc=>?_);rotate_left
 .have hi:i=d.files.length:=by
   have:¬(i:Int)< (d.files.map bJ).length:=fv hc;rw[bD]at this;omega
  exact bk ⟨rfl,hb.2 ⟨F4,λj hj=>e2 j om hj⟩⟩
 have hi:i<d.files.length:=by
  have:(i:Int)< (d.files.map bJ).length:=eE hc;rw[bD]at this;omega
 have mf:=hd.2 _ (cQ hi);refine bS (f:=bJ) (j:=i) rfl rfl hi rfl (uR ?_);refine bz (c8 (¬wg d i)) ?_ ?_;rotate_left
 .rintro _ ⟨u,rfl,hu⟩;refine nW ?_;refine cJ (λhy=>?_) (λhy=>?_)
  .refine bk ?_;show[L.b false]=[.b b]
   rw[gF hb λh=>hu.1 hy (h.2 i)]
  have hg:wg d i:=js.1 λh=>by rw[hu.2 h]at hy;cases hy
  refine b8 (i:=i) rfl om (nW ?_);refine bk ⟨⟨i+1,?_,om,λj hj=>?_⟩,?_⟩
  .rfl
  .by_cases he:j=i
   .subst he;exact hg
   .exact e2 j om
  .show d.files.length- (((i+1:Nat):Int)).toNat<d.files.length-i;omega
 obtain⟨bn,u5⟩:=fH (fP d.files[i].name);obtain⟨bf,u6⟩:=fH (okF d.files[i].base d.files[i].bM);refine bm (vH _ mf.2 u5) rfl rfl (uR ?_);refine cJ (λhy=>?_) (λhy=>?_)
 .exact bk (dQ λh=>by rw[u5.2 (h hi).1.1]at hy;cases hy)
 have hy:(!bn)=false:=hy;have hn:=u5.1 (by simpa using hy);refine bm (UL mf.1 u6) rfl rfl (uR ?_);refine cJ (λhu=>?_) (λhu=>?_)
 .exact bk (dQ λh=>by rw[u6.2 (h hi).1.2]at hu;cases hu)
 have hu:(!bf)=false:=hu;have dB:=u6.1 (by simpa using hu);refine uR ?_;refine cJ (λhz=>?_) (λhz=>?_)
 .have h0:0<i:=by have:(0:Int)<i:=eE hz;omega
  refine di (n:=((i-1:Nat):Int)) oO om om (nW ?_);refine bS (f:=bJ) (j:=i-1) rfl rfl om rfl (uR ?_);refine mq rfl (nW ?_);refine bk ⟨pD d.files[i].name (d.files[i-1]'om).name,rfl,?_⟩;constructor
  .intro h k;have:=(k hi).2 h0;rw[h]at this;cases this
  .intro h;rcases ZU (pD d.files[i].name (d.files[i-1]'om).name)with q|q
   .exact q
   .exact absurd (λ_=>⟨⟨hn,dB⟩,λ_=>q⟩) h
 .have h0:¬0<i:=by have:¬(0:Int)<i:=fv hz;omega
  exact bk (e7 λh=>h λ_=>⟨⟨hn,dB⟩,λk=>absurd k h0⟩)
theorem tF:∀(x y),Op.bytesLess x y=true↔x<y
 |[],[]=>by simp[Op.bytesLess]
 |_::_,[]=>by simp[Op.bytesLess]
 |[],_::_=>by simp[Op.bytesLess]
 |a::x,b::y=>by
  have ih:=tF x y;rw[Op.bytesLess];simp only[List.cons_lt_cons_iff,<-ih];by_cases c:a<b<;>by_cases d:a=b<;>simp[c,d]
theorem apw{a b}(h:pD a b=false):b.toList<a.toList:=by
 unfold pD at h;rw[Bool.or_eq_false_iff]at h;have c:¬a.toList<b.toList:=λk=>by rw[(tF _ _).2 k]at h;cases h.1
 have d:a.toList≠b.toList:=λk=>by rw[k]at h;simp at h
 rcases List.le_iff_lt_or_eq.1 (List.not_lt.1 c)with k|k
 .exact k
 .exact absurd k.symm d
theorem Ma{d}(b:iw d){i j}(c:i<j)(e:j<d.files.length):(d.files[i]'om).name.toList<d.files[j].name.toList:=by
 induction j with
 |zero=>omega
 |succ j ih=>
  have a:=apw ((b.2 (j+1) e).2 om);by_cases f:i=j
  .subst f;exact a
  .exact yh (ih om om) a
theorem Pe{n s}{b p:By}:∃c,E8 [.s n,.r b,.r p,.s s]=some [.i c]/\(c<0↔n.toList<s.toList)/\(c=0↔n.toList=s.toList):=by
 have a:∀x:fu,De [.s x]=some [.b false]:=λx=>by
  refine bF ?_;refine mq rfl (nW ?_);refine bk ?_;show[L.b (!(x.toList==x.toList))]=_;simp
 have g:Nc [.s n,.s s]=some [.i (if Op.bytesLess n.toList s.toList=true then-1 else if(Op.bytesLess n.toList s.toList||n.toList==s.toList)=true then 0 else 1)]:=by
  refine bF ?_;refine bm (a n) rfl rfl (nW ?_);refine bm (a s) rfl rfl (nW ?_);refine cn rfl ?_;refine cn rfl ?_;refine mq rfl (nW ?_);refine cJ (λf=>?_) (λf=>?_)
  .have f:Op.bytesLess n.toList s.toList=true:=f;refine bk ?_;show[L.i (-1)]=_;rw[bA f]
  refine mq rfl (nW ?_);refine cJ (λd=>?_) (λd=>?_)
  .have d:(!(Op.bytesLess n.toList s.toList||n.toList==s.toList))=true:=d;refine bk ?_;show[L.i 1]=_;rw[bH (by rw[show Op.bytesLess n.toList s.toList=false from f];decide),bH (by rw[oV]at d;rw[d];decide)]
  .have d:(!(Op.bytesLess n.toList s.toList||n.toList==s.toList))=false:=d;refine bk ?_;show[L.i 0]=_;rw[bH (by rw[show Op.bytesLess n.toList s.toList=false from f];decide),bA (by rwa [Bool.not_eq_false']at d)]
 have j:=tF n.toList s.toList;have i:n.toList<s.toList->n.toList≠s.toList:=λh e=>by rw[e]at h;exact lq _ h
 have k:(n.toList==s.toList)=true↔n.toList=s.toList:=beq_iff_eq;refine⟨if Op.bytesLess n.toList s.toList=true then-1 else if(Op.bytesLess n.toList s.toList||n.toList==s.toList)=true then 0 else 1,?_,?_,?_⟩
 .refine bF ?_;refine bm (l:=[]) ?_ rfl rfl ?_
  .refine bF ?_;exact bk rfl
  refine nW ?_;refine bm g rfl rfl (nW ?_);exact bk rfl
 .rw[<-j]
  cases Op.bytesLess n.toList s.toList with
  |true=>simp
  |false=>
   simp only[pS,if_false,Bool.false_or,iff_false];split<;>omega
 .rw[<-k]
  cases m:Op.bytesLess n.toList s.toList with
  |true=>
   have:=i (j.1 m);simp[this]
  |false=>
   cases n.toList==s.toList<;>simp
def Tl(d:Dk)(s:fu)(lo:Nat)(b:Bool):Prop:=lo<=d.files.length/\(∀(j:Nat)(h:j<d.files.length),j<lo->d.files[j].name.toList<s.toList)/\(∀(j:Nat)(h:j<d.files.length),lo<=j->¬d.files[j].name.toList<s.toList)/\(b=true↔∃h:lo<d.files.length,d.files[lo].name.toList=s.toList)
theorem Vw{d}(hd:iw d){s}:∃(lo:Nat)(b:Bool),xt [.r (d.files.map bJ),.s s]=some [.i lo,.b b]/\Tl d s lo b:=by
 have hlen:=hd.1.2.2;have hle:∀{j m:Nat}(F_:j<=m)(hm:m<d.files.length),d.files[m].name.toList<s.toList->(d.files[j]'om).name.toList<s.toList:=λ{j m}F_ hm h=>by
  by_cases e:j=m
  .subst e;exact h
  .exact yh (Ma hd om hm) h
 have run:bl.wp Ye [.r (d.files.map bJ),.s s] (mT λx=>∃(lo:Nat)(b:Bool),x=[.i lo,.b b]/\Tl d s lo b):=by
  refine uR ?_;refine bz (λxs=>∃lo:Nat,xs=[.i lo]/\lo<=d.files.length/\(∀(j:Nat)(h:j<d.files.length),j<lo->d.files[j].name.toList<s.toList)/\(∀(j:Nat)(h:j<d.files.length),lo<=j->¬d.files[j].name.toList<s.toList)) ?_ ?_
  .refine wp_loop (I:=λa=>∃lo hi:Nat,a=[.i lo,.i hi]/\lo<=hi/\hi<=d.files.length/\(∀(j:Nat)(h:j<d.files.length),j<lo->d.files[j].name.toList<s.toList)/\(∀(j:Nat)(h:j<d.files.length),hi<=j->¬d.files[j].name.toList<s.toList)) (mu:=λa=>match a with|[.i lo,.i hi]=>(hi-lo).toNat|_=>0) ⟨0,d.files.length,by show[L.i ((0:Nat):Int),L.i (d.files.map bJ).length]=_;rw[bD],om,om,λj _ hj=>by omega,λj hj h=>absurd hj om⟩ ?_;rintro a ⟨lo,hi,rfl,e1,e2,p1,p2⟩;refine uR ?_;refine cJ (λhc=>?_) (λhc=>?_);rotate_left
   .have hc:¬(lo:Int)<hi:=fv hc;obtain rfl:lo=hi:=om;exact bk ⟨lo,rfl,e2,p1,p2⟩
   have hc:(lo:Int)<hi:=eE hc;obtain⟨m,hm⟩:∃m,m=(lo+hi) /2:=⟨_,rfl⟩
   refine dp (n:=((lo+hi:Nat):Int)) oO om om (nW ?_);refine gE (n:=((lo+hi:Nat):Int)) (by rfl) om om (nW ?_);refine dn (l:=.i m) (by
    show some (L.i (((lo+hi:Nat):Int).fdiv (2^min (Int.toNat 1) IntKind.u64.bits)))=_;rw[show(2:Int) ^min (Int.toNat 1) IntKind.u64.bits=2 by decide,GD _ om];congr 2;omega) ?_
   refine nW ?_;refine pL (n:=(m:Int)) (by rfl) om om (nW ?_);have u9:m<d.files.length:=om;refine bS (f:=bJ) (j:=m) rfl rfl u9 rfl (uR ?_);obtain⟨c,NV,hc1,hc2⟩:=Pe (n:=d.files[m].name) (s:=s) (b:=d.files[m].base) (p:=d.files[m].bM.map df);refine bm NV rfl rfl (uR ?_);refine cJ (λhx=>?_) (λhx=>?_)
   .have hx:c<0:=eE hx;refine b8 (i:=m) rfl om (nW ?_);refine bk ⟨⟨m+1,hi,?_,om,e2,λj hj F_=>hle om u9 (hc1.1 hx),p2⟩,?_⟩
    .rfl
    .show((hi:Int) - ((m+1:Nat):Int)).toNat< ((hi:Int) -lo).toNat;omega
   .have hx:¬c<0:=fv hx;refine bk ⟨⟨lo,m,rfl,om,om,p1,λj hj F_ h=>hx (hc1.2 (hle F_ hj h))⟩,?_⟩;show((m:Int) -lo).toNat< ((hi:Int) -lo).toNat;omega
  .rintro _ ⟨lo,rfl,e1,p1,p2⟩;refine nW ?_;refine bz (c8 (∃h:lo<d.files.length,d.files[lo].name.toList=s.toList)) ?_ ?_
   .refine uR ?_;refine cJ (λhx=>?_) (λhx=>?_)
    .have hx:lo<d.files.length:=by
      have:(lo:Int)< (d.files.map bJ).length:=eE hx;rw[bD]at this;omega
     refine bS (f:=bJ) (j:=lo) rfl rfl hx rfl (uR ?_);obtain⟨c,NV,hc1,hc2⟩:=Pe (n:=d.files[lo].name) (s:=s) (b:=d.files[lo].base) (p:=d.files[lo].bM.map df);refine bm NV rfl rfl (uR ?_);exact bk (e_ (show c=0↔_ from⟨λh=>⟨hx,hc2.1 h⟩,λ⟨_,h⟩=>hc2.2 h⟩))
    .have hx:¬lo<d.files.length:=by
      have:¬(lo:Int)< (d.files.map bJ).length:=fv hx;rw[bD]at this;omega
     exact bk (e7 λ⟨h,_⟩=>hx h)
   .rintro _ ⟨b,rfl,hb⟩;refine nW ?_;exact bk ⟨lo,b,rfl,e1,p1,p2,hb⟩
 obtain⟨o,h1,lo,b,rfl,h2⟩:=jR run;exact⟨lo,b,h1,h2⟩
theorem aqU{d}(f:iw d){s}:(∀i,kx d s i->xt [.r (d.files.map bJ),.s s]=some [.i i,.b true])/\(nX d s->∃i,xt [.r (d.files.map bJ),.s s]=some [.i i,.b false]):=by
 obtain⟨lo,b,g,p,m,n,l⟩:=Vw f (s:=s);constructor
 .rintro j ⟨c,a,_⟩;have a:d.files[j].name.toList=s.toList:=beq_iff_eq.1 a;have e:lo=j:=by
   rcases Bf lo j with h|h|h
   .exact absurd (a▸Ma f h c) (n lo om (de _))
   .exact h
   .exact absurd (m j c h) (by rw[a];exact lq _)
  subst e;rw[g,l.2 ⟨c,a⟩]
 .intro o;refine⟨lo,?_⟩;rw[g,gF l];rintro⟨h,k⟩;have:=o lo h;rw[beq_iff_eq.2 k]at this;cases this
theorem Hu{d}(e:iw d){s x y}:(∀i,kx d s i->qx [x,y,.r (d.files.map bJ),.s s]=some [.i i,.b true])/\(nX d s->∃i,qx [x,y,.r (d.files.map bJ),.s s]=some [.i i,.b false]):=by
 have w:∀i b,xt [.r (d.files.map bJ),.s s]=some [.i i,.b b]->qx [x,y,.r (d.files.map bJ),.s s]=some [.i i,.b b]:=λi b h=>by
  have a:E9 [.r (d.files.map bJ),.s s]=some [.i i,.b b]:=by
   refine bF ?_;refine bm h rfl rfl (nW ?_);exact bk rfl
  refine bF ?_;refine bm a rfl rfl (nW ?_);exact bk rfl
 obtain⟨f,a⟩:=aqU e (s:=s);exact⟨λi c=>w _ _ (f i c),λg=>by obtain⟨i,c⟩:=a g;exact⟨i,w _ _ c⟩⟩
theorem Xv{d}(m:kc d){s}(n:s.size<=4611686018427387904):
 (∀i,Rd d s->kx d s i->p0 [.i d.cap,.i d.left,.r (d.files.map bJ),.s s]=some [.i i,.i 0])/\(¬(Rd d s/\∃i,kx d s i)->∃e,e≠0/\p0 [.i d.cap,.i d.left,.r (d.files.map bJ),.s s]=some [.i 0,.i e]):=by
 obtain⟨bd,a⟩:=fH (iw d);obtain⟨t,b⟩:=fH (fP s);constructor
 .rintro i ⟨c,f,g⟩ q;have j:=w8 m a;have k:=vH s n b;rw[a.2 c]at j;rw[b.2 f]at k;refine bF ?_;refine bz (λxs=>xs=[.b false]) ?_ ?_
  .refine bm j rfl rfl (uR ?_);refine cn rfl ?_;refine bm k rfl rfl (uR ?_);exact bk rfl
  rintro _ rfl;refine nW ?_;refine cn rfl (uR ?_);refine bR rfl g ?_;refine bm ((Hu c).1 i q) rfl rfl (uR ?_);refine cn rfl ?_;exact bk rfl
 .intro o;by_cases c:iw d;rotate_left
  .refine⟨1,dc,?_⟩;refine bF ?_;refine bz (λxs=>xs=[.b true]) ?_ ?_
   .refine bm (w8 m a) rfl rfl ?_;rw[gF a c];refine uR ?_;refine fT rfl ?_;exact bk rfl
   rintro _ rfl;refine nW ?_;refine fT rfl ?_;exact bk rfl
  by_cases f:fP s;rotate_left
  .refine⟨1,dc,?_⟩;refine bF ?_;refine bz (λxs=>xs=[.b true]) ?_ ?_
   .refine bm (w8 m a) rfl rfl ?_;rw[a.2 c];refine uR ?_;refine cn rfl ?_;refine bm (vH s n b) rfl rfl ?_;rw[gF b f];refine uR ?_;exact bk rfl
   rintro _ rfl;refine nW ?_;refine fT rfl ?_;exact bk rfl
  have j:=w8 m a;have k:=vH s n b;rw[a.2 c]at j;rw[b.2 f]at k;have l:∀{Q:Lf×List L->Prop},bl.wp _ ([.i d.cap,.i d.left,.r (d.files.map bJ),.s s]++[.b false]) Q->bl.wp O1 [.i d.cap,.i d.left,.r (d.files.map bJ),.s s] Q:=λ{Q}h=>by
   refine bz (λxs=>xs=[.b false]) ?_ ?_
   .refine bm j rfl rfl (uR ?_);refine cn rfl ?_;refine bm k rfl rfl (uR ?_);exact bk rfl
   rintro _ rfl;exact h
  by_cases g:d.left=0
  .refine⟨13,dc,?_⟩;refine bF (l ?_);refine nW ?_;refine cn rfl (uR ?_);refine cP rfl g ?_;exact bk rfl
  .have p:nX d s:=(Hy d s).resolve_right λh=>o ⟨⟨c,f,g⟩,h⟩
   obtain⟨i,r⟩:=(Hu c (x:=.i d.cap) (y:=.i d.left)).2 p;refine⟨6,dc,?_⟩;refine bF (l ?_);refine nW ?_;refine cn rfl (uR ?_);refine bR rfl g ?_;refine bm r rfl rfl (uR ?_);refine fT rfl ?_;exact bk rfl
theorem ajY{d}(A:kc d){s}(D:s.size<=4611686018427387904):
 (∀c,Wh d s c->∀off n:Int,(kv c off n->r_ [.i d.cap,.i d.left,.r (d.files.map bJ),.s s,.i off,.i n]=some [.i 2,.r []])/\(¬kv c off n->r_ [.i d.cap,.i d.left,.r (d.files.map bJ),.s s,.i off,.i n]=some [.i 0,.r ((c.take (off+n).toNat).drop off.toNat)]))/\((∀c,¬Wh d s c)->∃e,e≠0/\∀off n:Int,r_ [.i d.cap,.i d.left,.r (d.files.map bJ),.s s,.i off,.i n]=some [.i e,.r []]):=by
 obtain⟨y,no⟩:=Xv A D;constructor
 .rintro c ⟨B,E,F,i,w,rfl⟩ off n;have k:=y i ⟨B,E,F⟩ w;have l:=w.1;have m:=A.2 _ (cQ l);have p:=(B.2 i l).1.2;have G:=WA m.1 p;have hlen:=qJ p.1 (qu.1 p.2) (de _);rw[jY]at hlen;have a:=tn m.1.1 m.1.2.2.2;have u:∀{o:List L},(∀x:Bool,(x=true↔kv (dm d.files[i].base d.files[i].bM) off n)->(x=true->o=[.i 2,.r []])/\(x=false->o=[.i 0,.r (((dm d.files[i].base d.files[i].bM).take (off+n).toNat).drop off.toNat)]))->r_ [.i d.cap,.i d.left,.r (d.files.map bJ),.s s,.i off,.i n]=some o:=λ{o}z=>by
   refine bF ?_;refine bm k rfl rfl (uR ?_);refine cn rfl ?_;refine bS (f:=bJ) (j:=i) rfl rfl l rfl (uR ?_);refine bm G rfl rfl (nW ?_);generalize dm d.files[i].base d.files[i].bM=g at hlen a z;refine uR ?_;refine bz (c8 (kv g off n)) ?_ ?_
   .unfold kv;refine uR ?_;refine bO rfl (λH=>bk (dQ om)) λH=>uR ?_
    refine bO rfl (λI=>bk (dQ om)) λI=>uR ?_
    refine bO rfl (λJ=>bk (dQ om)) λJ=>?_
    refine di (n:=(g.length:Int) -off) rfl om om (uR ?_);exact bk (e_ om)
   .rintro _ ⟨x,rfl,q⟩;refine nW ?_;refine cJ (λv=>?_) (λv=>?_)
    .rw[(z x q).1 v];exact bk rfl
    have t:¬kv g off n:=λh=>by rw[q.2 h]at v;cases v
    unfold kv at t;rw[(z x q).2 v];refine dp (n:=off+n) rfl om om (uR ?_);refine xy (r:=(g.take (off+n).toNat).drop off.toNat) ⟨by show 0<=off;omega,by show off<=off+n;omega,by show(off+n).toNat<=g.length;omega,a⟩ rfl (nW ?_);refine bm (qe (Tq (C4 a)) (by rw[mh,dz];omega)) rfl rfl (nW ?_);exact bk rfl
  exact⟨λh=>u λx q=>⟨λ_=>rfl,λb=>by rw[q.2 h]at b;cases b⟩,λh=>u λx q=>⟨λb=>absurd (q.1 b) h,λ_=>rfl⟩⟩
 .intro t;obtain⟨e,C,k⟩:=no (λ⟨h,i,w⟩=>t _ ⟨h.1,h.2.1,h.2.2,i,w,rfl⟩);refine⟨e,C,λoff n=>bF ?_⟩;refine bm k rfl rfl (uR ?_);refine cP rfl C ?_;exact bk rfl
end
section
section
open Go.RowKit
theorem cK{ρ Q k}{α:Type}{f}{l:List α}{x i:At}{j c:Nat}{a q y}(b:(x.ev ρ).bC=l.map f)(d:(i.ev ρ).br=j)(e)(g:(f l[j])[c]?=some q)(h:a.of q=some y)(m:k.wp (ρ++[y]) Q):(bl.op (.rc x i c a) k).wp ρ Q:=
 qG (by rw[b,d,ey,cX,cY e];rfl) g h m
theorem zw{a}{x k:Nat}(h:k<=a.bits):dV .shr a (x:Int) (k:Int)=some (.i ((x>>>k:Nat):Int)):=by
 show(if 0<=(k:Int)then some (L.i ((x:Int).fdiv (2^ (min (k:Int).toNat a.bits))))else none)=_;rw[bA om,ey,nQ h,GD _ (OC dc),OD,show(2:Int) ^k=((2^k:Nat):Int)by rfl,<-Int.natCast_ediv]
end
def cR(a m b p:Nat):Nat:=if a<=p/\p<a+(b-m)then p+m-a else if a+(b-m)<=p/\p<b then p+m-b else p
def kV(a b n p:Nat):Nat:=if a<=p/\p<a+n then p+b-a else if b<=p/\p<b+n then p+a-b else p
theorem RE{a m p}:cR a m m p=p:=by unfold cR; (repeat' split)<;>omega
theorem XD{m b p}(h:m<=b):cR m m b p=p:=by unfold cR; (repeat' split)<;>omega
theorem aft{m i j p}(a:i<=m)(b:j<i):kV (m-i) m j (cR (m- (i-j)) m (m+j) p)=cR (m-i) m (m+j) p:=by unfold kV cR; (repeat' split)<;>omega
theorem aeE{m i j p}(a:i<=m)(b:i<j):kV (m-i) (m+j-i) i (cR (m-i) m (m+(j-i)) p)=cR (m-i) m (m+j) p:=by unfold kV cR; (repeat' split)<;>omega
theorem ayg{m i p}(a:i<=m):kV (m-i) m i p=cR (m-i) m (m+i) p:=by unfold kV cR; (repeat' split)<;>omega
def d'(g:Nat->Int)(a b:Nat):Prop:=∀p q,a<=p->p<q->q<b->g p<=g q
theorem d'.le{g a b p q}(h:d' g a b)(d:a<=p)(m:p<=q)(k:q<b):g p<=g q:=by
 by_cases e:p=q
 .subst e;exact Int.le_refl _
 .exact h p q d om k
theorem alN{g a b i}(d:d' g (a+1) b)(n:a+1<=i)(o:i<=b)(k1:i=a+1\/g (i-1)<=g a)(k2:i=b\/g a<=g i):d' (λp=>g (cR a (a+1) i p)) a b:=by
 intro p q hp f h;have lo:∀x,a+1<=x->x<i->g x<=g a:=λx c j=>by
  rcases k1 with k1|k1
  .omega
  .exact sV (d.le c om om) k1
 have k:∀x,i<=x->x<b->g a<=g x:=λx c j=>by
  rcases k2 with k2|k2
  .omega
  .exact sV k2 (d.le om c j)
 have l:∀x,a<=x->x<i-1->cR a (a+1) i x=x+1:=λx c j=>by unfold cR; (repeat' split)<;>omega
 have m:cR a (a+1) i (i-1)=a:=by unfold cR; (repeat' split)<;>omega
 have e:∀x,i<=x->cR a (a+1) i x=x:=λx c=>by unfold cR; (repeat' split)<;>omega
 show g (cR a (a+1) i p)<=g (cR a (a+1) i q);by_cases c1:p<i-1
 .rw[l p hp c1];by_cases c2:q<i-1
  .rw[l q om c2];exact d _ _ om om om
  .by_cases c3:q=i-1
   .rw[c3,m];exact lo _ om om
   .rw[e q om];exact sV (lo _ om om) (k _ om h)
 .by_cases c2:p=i-1
  .rw[c2,m,e q om];exact k _ om h
  .rw[e p om,e q om];exact d _ _ om f h
theorem arE{g a m i}(b:d' g a m)(l:a<=i)(n:i<=m)(k1:i=a\/g (i-1)<=g m)(k2:i=m\/g m<=g i):d' (λp=>g (cR i m (m+1) p)) a (m+1):=by
 intro p q hp e o;have lo:∀x,a<=x->x<i->g x<=g m:=λx c f=>by
  rcases k1 with k1|k1
  .omega
  .exact sV (b.le c om om) k1
 have k:∀x,i<=x->x<m->g m<=g x:=λx c f=>by
  rcases k2 with k2|k2
  .omega
  .exact sV k2 (b.le om c f)
 have h:∀x,x<i->cR i m (m+1) x=x:=λx c=>by unfold cR; (repeat' split)<;>omega
 have j:cR i m (m+1) i=m:=by unfold cR; (repeat' split)<;>omega
 have d:∀x,i<x->x<=m->cR i m (m+1) x=x-1:=λx c f=>by unfold cR; (repeat' split)<;>omega
 show g (cR i m (m+1) p)<=g (cR i m (m+1) q);by_cases c1:p<i
 .rw[h p c1];by_cases c2:q<i
  .rw[h q c2];exact b _ _ hp e om
  .by_cases c3:q=i
   .rw[c3,j];exact lo _ hp c1
   .rw[d q om om];exact b _ _ hp om om
 .by_cases c2:p=i
  .rw[c2,j,d q om om];exact k _ om om
  .rw[d p om om,d q om om];exact b _ _ om om om
theorem asQ{g a m b s e}(h:d' g a m)(i:d' g m b)(w:a<=s)(z:s<=m)(A:m<=e)(B:e<=b)
 (k1:s=a\/e=b\/g (s-1)<=g e) (k2:s=m\/e=m\/g (e-1)<=g s):
 d' (λp=>g (cR s m e p)) a s/\d' (λp=>g (cR s m e p)) s (s+(e-m))/\d' (λp=>g (cR s m e p)) (s+(e-m)) e/\d' (λp=>g (cR s m e p)) e b/\
  ∀p q,a<=p->p<s+(e-m)->s+(e-m)<=q->q<b->g (cR s m e p)<=g (cR s m e q):=by
 have o:∀x,x<s->cR s m e x=x:=λx f=>by unfold cR; (repeat' split)<;>omega
 have r:∀x,s<=x->x<s+(e-m)->cR s m e x=x+m-s:=λx f t=>by unfold cR; (repeat' split)<;>omega
 have l:∀x,s+(e-m)<=x->x<e->cR s m e x=x+m-e:=λx f t=>by unfold cR; (repeat' split)<;>omega
 have n:∀x,e<=x->cR s m e x=x:=λx f=>by unfold cR; (repeat' split)<;>omega
 have c1:∀x y,a<=x->x<s->e<=y->y<b->g x<=g y:=λx y f t u v=>by
  rcases k1 with k|k|k
  .omega
  .omega
  .exact sV (h.le f om om) (sV k (i.le om u v))
 have c2:∀x y,m<=x->x<e->s<=y->y<m->g x<=g y:=λx y f t u v=>by
  rcases k2 with k|k|k
  .omega
  .omega
  .exact sV (i.le f om om) (sV k (h.le w u v))
 refine⟨λp q hp c d=>?_,λp q hp c d=>?_,λp q hp c d=>?_,λp q hp c d=>?_,λp q hp c d j=>?_⟩
 .show g (cR s m e p)<=g (cR s m e q);rw[o p om,o q d];exact h _ _ hp c om
 .show g (cR s m e p)<=g (cR s m e q);rw[r p hp om,r q om d];exact i _ _ om om om
 .show g (cR s m e p)<=g (cR s m e q);rw[l p hp om,l q om d];exact h _ _ om om om
 .show g (cR s m e p)<=g (cR s m e q);rw[n p hp,n q om];exact i _ _ om c d
 .by_cases d1:p<s
  .rw[o p d1];by_cases d2:q<e
   .rw[l q d d2];exact h.le hp om om
   .rw[n q om];exact c1 _ _ hp d1 om j
  .rw[r p om c];by_cases d2:q<e
   .rw[l q d d2];exact c2 _ _ om om om om
   .rw[n q om];exact i.le om om j
structure eu{α:Type}(a b:Nat)(l d:List α):Prop where
 perm:d.Perm l
 out:∀p,p<a\/b<=p->d[p]?=l[p]?
 yQ:∀p,a<=p->p<b->∃q,a<=q/\q<b/\d[p]?=l[q]?
theorem eu.refl{α a b}(l:List α):eu a b l l:=⟨Gx _,λ_ _=>rfl,λp d h=>⟨p,d,h,rfl⟩⟩
theorem eu.trans{α a b}{l d e:List α}(h:eu a b l d)(k:eu a b d e):eu a b l e:=
 ⟨k.perm.trans h.perm,λp hp=>(k.out p hp).trans (h.out p hp),λp m t=>by
  obtain⟨q,q1,q2,q3⟩:=k.yQ p m t;obtain⟨r,u,x,y⟩:=h.yQ q q1 q2;exact⟨r,u,x,q3.trans y⟩⟩
theorem eu.mono{α a b a' k}{l d:List α}(h:eu a b l d)(x:a'<=a)(y:b<=k):eu a' k l d:=
 ⟨h.perm,λp hp=>h.out p om,λp t u=>by
  by_cases m:a<=p/\p<b
  .obtain⟨q,q1,q2,q3⟩:=h.yQ p m.1 m.2;exact⟨q,om,om,q3⟩
  .exact⟨p,t,u,h.out p om⟩⟩
theorem eu.swap{α a b i j}{l:List α}(d)(h)(q:a<=i)(t:i<b)(u:a<=j)(x:j<b):eu a b l ((l.set i l[j]).set j l[i]):=by
 refine⟨List.set_set_perm d h,λp hp=>?_,λp k m=>?_⟩
 .rw[yi om,yi om]
 .by_cases y:p=j
  .subst y;refine⟨i,q,t,?_⟩;rw[OE (by simpa using h),cY d]
  .rw[yi om];by_cases z:p=i
   .subst z;exact⟨j,u,x,by rw[OE d,cY h]⟩
   .exact⟨p,k,m,yi om⟩
def pg{α:Type}(f:α->Int)(l:List α)(p:Nat):Int:=match l[p]? with
 |some x=>f x
 |none=>0
theorem ahj{α f}{l:List α}{p}(h):pg f l p=f l[p]:=by unfold pg;rw[cY h]
theorem mG{α f}{l d:List α}{p q}(h:d[p]?=l[q]?):pg f d p=pg f l q:=by unfold pg;rw[h]
theorem d'.congr{g h a b}(m:d' g a b)(e:∀p,a<=p->p<b->h p=g p):d' h a b:=λp q d t k=>by
 rw[e p d om,e q om k];exact m p q d t k
theorem d'.join{g a m b}(t:d' g a m)(u:d' g m b)(h:∀p q,a<=p->p<m->m<=q->q<b->g p<=g q):d' g a b:=λp q hp d k=>by
 by_cases c1:q<m
 .exact t p q hp d c1
 .by_cases c2:p<m
  .exact h p q hp c2 om k
  .exact u p q om d k
theorem axW{α f a m b}{l d e:List α}(h:∀p q,a<=p->p<m->m<=q->q<b->pg f l p<=pg f l q)(i:eu a m l d)(j:eu m b d e):∀p q,a<=p->p<m->m<=q->q<b->pg f e p<=pg f e q:=λp q hp c n g=>by
 obtain⟨o,k1,k2,r⟩:=i.yQ p hp c;obtain⟨k,s,t,u⟩:=j.yQ q n g;rw[mG (j.out p om),mG r,mG u,mG (i.out k om)];exact h o k k1 k2 s t
end
section
open Go.RowKit Pl AI
attribute [local irreducible] bl.wp
theorem ajr{ρ xs a}:(At.v ρ.length).ev (ρ++a::xs)=a:=by simp[At.ev]
theorem Vv{ρ xs a n}(h:n=ρ.length):(At.v n).ev (ρ++a::xs)=a:=by subst h;exact ajr
theorem ju{ρ Q k}{x i:At}{l:List It}{j:Nat}(a:(x.ev ρ).bC=l.map bt)(b:(i.ev ρ).br=j)(c)
 (e:k.wp (ρ++[.c (bt l[j]),.i l[j].key,.i l[j].cookie,.i l[j].off,.i l[j].size]) Q)
 (ex:∀ys,x.ev (ρ++ys)=x.ev ρ:=by intro ys;rfl) (d:∀ys,i.ev (ρ++ys)=i.ev ρ:=by intro ys;rfl):
 (bl.op (.row x i 4) (.op (.rc x i 0 (.int .u64)) (.op (.rc x i 1 (.int .u32)) (.op (.rc x i 2 (.int .i64)) (.op (.rc x i 3 (.int .i64)) k))))).wp ρ Q:=by
 refine bS a b c rfl ?_;refine cK (f:=bt) (j:=j) (by rw[ex];exact a) (by rw[d];exact b) c rfl rfl ?_;rw[dI];refine cK (f:=bt) (j:=j) (by rw[ex];exact a) (by rw[d];exact b) c rfl rfl ?_;rw[dI];refine cK (f:=bt) (j:=j) (by rw[ex];exact a) (by rw[d];exact b) c rfl rfl ?_;rw[dI];refine cK (f:=bt) (j:=j) (by rw[ex];exact a) (by rw[d];exact b) c rfl rfl ?_;rw[dI];exact e
theorem rX{ρ Q k}{x i:At}{l:List It}{j:Nat}{ps z}(a:(x.ev ρ).bC=l.map bt)(b:(i.ev ρ).br=j)(c)
 (g:db (ρ++[.c (bt l[j])]) ps=bt z) (d:ps.length=4)
 (h:k.wp (ρ++[.c (bt l[j]),.r ((l.set j z).map bt)]) Q)
 (ex:∀ys,x.ev (ρ++ys)=x.ev ρ:=by intro ys;rfl) (f:∀ys,i.ev (ρ++ys)=i.ev ρ:=by intro ys;rfl):
 (bl.op (.row x i 4) (.op (.set x i 0 ps) k)).wp ρ Q:=by
 refine bS a b c rfl ?_;have m:(x.ev (ρ++[.c (bt l[j])])).bC[(i.ev (ρ++[.c (bt l[j])])).br.toNat]?=some (bt l[j]):=by
  rw[ex,f,a,b,ey,cX,cY c];rfl
 refine yB m (by rw[d];exact de 4) ?_;rw[ex,f,a,b,g,d,dI];have e:(l.map bt).set ((j:Int)).toNat ((bt l[j]).take 0++bt z++(bt l[j]).drop (0+4))=(l.set j z).map bt:=by
  simp[bt]
 rw[e];exact h
theorem BS{ρ Q k}{x y:At}{i j n:Nat}(a:n=ρ.length)(c:(x.ev ρ).br=i)(d:(y.ev ρ).br=j)(h:i+j<=4611686018427387904)
 (b:k.wp (ρ++[.i ((i+j:Nat):Int),.i ((i+j:Nat):Int),.i (((i+j) /2:Nat):Int),.i (((i+j) /2:Nat):Int)]) Q):
 (bl.op (.bi .add .i64 x y) (.op (.conv .u64 (.v n)) (.op (.bi .shr .u64 (.v (n+1)) (.i 1)) (.op (.conv .i64 (.v (n+2))) k)))).wp ρ Q:=by
 refine dp (n:=((i+j:Nat):Int)) om om om ?_;refine gE (n:=((i+j:Nat):Int)) (by rw[Vv a];rfl) om om ?_;rw[dI];refine dn (l:=.i (((i+j) /2:Nat):Int)) ?_ ?_
 .have e:(At.v (n+1)).ev (ρ++([L.i ((i+j:Nat):Int)]++[.i ((i+j:Nat):Int)]))=.i ((i+j:Nat):Int):=by subst a;simp[At.ev]
  rw[e];exact(zw (x:=i+j) (k:=1) dc).trans (by rw[OD])
 rw[dI];refine pL (n:=(((i+j) /2:Nat):Int)) ?_ om om ?_
 .have e:(At.v (n+2)).ev (ρ++([L.i ((i+j:Nat):Int),.i ((i+j:Nat):Int)]++[.i (((i+j) /2:Nat):Int)]))=.i (((i+j) /2:Nat):Int):=by subst a;simp[At.ev]
  exact cO L.br e
 rw[dI];exact b
theorem Ew{α:Type}{l:List α}{i j p}(c)(d):((l.set i l[j]).set j l[i])[p]?=if p=j then l[i]? else if p=i then l[j]? else l[p]?:=by
 by_cases a:p=j
 .subst a;rw[OE (by simpa using d),bA rfl,cY c]
 .rw[yi (λh=>a h.symm),bH a];by_cases b:p=i
  .subst b;rw[OE c,bA rfl,cY d]
  .rw[yi (λh=>b h.symm),bH b]
theorem acA{a b n i p}(c:a+n<=b)(d:i<n):(if p=b+i then kV a b i (a+i)else if p=a+i then kV a b i (b+i)else kV a b i p)=kV a b (i+1) p:=by
 unfold kV; (repeat' split)<;>omega
theorem LG(l)(hl:l.length<=1000000){a b n:Nat}(hab:a+n<=b)(hb:b+n<=l.length):
 ∃d,yI [.r (l.map bt),.i a,.i b,.i n]=some [.r (d.map bt)]/\eu a (b+n) l d/\∀p,d[p]?=l[kV a b n p]?:=by
 suffices h:∃o,Fo Xr [.r (l.map bt),.i a,.i b,.i n]=some o/\∃d:List It,o=[.r (d.map bt)]/\eu a (b+n) l d/\∀p,d[p]?=l[kV a b n p]? by
  obtain⟨o,h1,d,rfl,h2⟩:=h;exact⟨d,h1,h2⟩
 refine jR ?_;refine wp_loop (I:=λs=>∃(i:Nat)(d:List It),s=[.i i,.r (d.map bt)]/\i<=n/\eu a (b+n) l d/\∀p,d[p]?=l[kV a b i p]?) (mu:=λs=>match s with|[.i i,_]=>n-i.toNat|_=>0)
  ⟨0,l,rfl,om,.refl l,λp=>by congr 1;unfold kV; (repeat' split)<;>omega⟩ ?_
 rintro s ⟨i,d,rfl,hi,hs,hd⟩;have jE:=hs.perm.length_eq;refine uR ?_;refine bO rfl (λhc=>?_) (λhc=>?_);rotate_left
 .obtain rfl:i=n:=om;exact bk ⟨d,rfl,hs,hd⟩
 have pP:i<n:=om;have ha:a+i<d.length:=om;have hb':b+i<d.length:=om;refine dp (n:=((a+i:Nat):Int)) (by rfl) om om (nW ?_);refine dp (n:=((b+i:Nat):Int)) (by rfl) om om (nW ?_);refine dp (n:=((b+i:Nat):Int)) (by rfl) om om (nW ?_);refine ju (l:=d) (j:=b+i) rfl rfl hb' (nW ?_);refine dp (n:=((a+i:Nat):Int)) (by rfl) om om (nW ?_);refine ju (l:=d) (j:=a+i) rfl rfl ha (nW ?_);refine rX (l:=d) (j:=a+i) (z:=d[b+i]) rfl rfl ha rfl rfl (nW ?_);refine rX (l:=d.set (a+i) d[b+i]) (j:=b+i) (z:=d[a+i]) rfl rfl (by simpa using hb') rfl rfl (nW ?_);refine b8 (i:=i) rfl om (nW ?_);refine bk ⟨⟨i+1,_,rfl,om,hs.trans (.swap ha hb' om om om om),λp=>?_⟩,?_⟩
 .rw[Ew ha hb',<-acA hab pP]
  (repeat' split)<;>exact hd _
 .show n- ((i+1:Nat):Int).toNat<n-i;omega
theorem alm(l)(hl:l.length<=1000000){a m b:Nat}(h1:a<m)(h2:m<b)(hb:b<=l.length):
 ∃d,IK [.r (l.map bt),.i a,.i m,.i b]=some [.r (d.map bt)]/\eu a b l d/\∀p,d[p]?=l[cR a m b p]?:=by
 suffices h:∃o,Fo Pg [.r (l.map bt),.i a,.i m,.i b]=some o/\∃d:List It,o=[.r (d.map bt)]/\eu a b l d/\∀p,d[p]?=l[cR a m b p]? by
  obtain⟨o,h1,d,rfl,h2⟩:=h;exact⟨d,h1,h2⟩
 refine jR ?_;refine di (n:=((m-a:Nat):Int)) (by show(m:Int) -a=_;omega) om om (nW ?_);refine di (n:=((b-m:Nat):Int)) (by show(b:Int) -m=_;omega) om om (nW ?_);refine bz (λxs=>∃(i:Nat)(d:List It),xs=[.i i,.r (d.map bt)]/\0<i/\i<=m-a/\i<=b-m/\eu a b l d/\∀p,d[cR (m-i) m (m+i) p]?=l[cR a m b p]?) ?_ ?_
 .refine wp_loop (I:=λs=>∃(i j:Nat)(d:List It),s=[.i i,.i j,.r (d.map bt)]/\0<i/\i<=m-a/\0<j/\j<=b-m/\eu a b l d/\∀p,d[cR (m-i) m (m+j) p]?=l[cR a m b p]?)
   (mu:=λs=>match s with|[.i i,.i j,_]=>i.toNat+j.toNat|_=>0) ⟨m-a,b-m,l,rfl,om,om,om,om,.refl l,λp=>by rw[Nat.sub_sub_self om,Nat.add_sub_cancel' om]⟩ ?_
  rintro s ⟨i,j,d,rfl,i0,i1,j0,j1,hs,hd⟩;have jE:=hs.perm.length_eq;refine uR ?_;refine bO rfl (λhc=>?_) (λhc=>?_);rotate_left
  .obtain rfl:i=j:=om;exact bk ⟨i,d,rfl,i0,i1,j1,hs,hd⟩
  refine uR ?_;refine bO rfl (λhg=>?_) (λhg=>?_)
  .have u7:j<i:=om;obtain⟨e,he,ig,hge⟩:=LG d om (a:=m-i) (b:=m) (n:=j) om om;refine di (n:=((m-i:Nat):Int)) (by show(m:Int) -i=_;omega) om om (nW ?_);refine bm he rfl rfl (nW ?_);refine di (n:=((i-j:Nat):Int)) (by show(i:Int) -j=_;omega) om om (nW ?_);refine bk ⟨⟨i-j,j,e,rfl,om,om,j0,j1,hs.trans (ig.mono om om),λp=>?_⟩,?_⟩
   .rw[hge,aft om u7];exact hd p
   .show((i-j:Nat):Int).toNat+j<i+j;omega
  .have NR:i<j:=om;obtain⟨e,he,ig,hge⟩:=LG d om (a:=m-i) (b:=m+j-i) (n:=i) om om;refine di (n:=((m-i:Nat):Int)) (by show(m:Int) -i=_;omega) om om (nW ?_);refine dp (n:=((m+j:Nat):Int)) (by rfl) om om (nW ?_);refine di (n:=((m+j-i:Nat):Int)) (by show((m+j:Nat):Int) -i=_;omega) om om (nW ?_);refine bm he rfl rfl (nW ?_);refine di (n:=((j-i:Nat):Int)) (by show(j:Int) -i=_;omega) om om (nW ?_);refine bk ⟨⟨i,j-i,e,rfl,i0,i1,om,om,hs.trans (ig.mono om om),λp=>?_⟩,?_⟩
   .rw[hge,aeE om NR];exact hd p
   .show i+((j-i:Nat):Int).toNat<i+j;omega
 .rintro _ ⟨i,d,rfl,i0,i1,i2,hs,hd⟩;have jE:=hs.perm.length_eq;refine nW ?_;obtain⟨e,he,ig,hge⟩:=LG d om (a:=m-i) (b:=m) (n:=i) om om;refine di (n:=((m-i:Nat):Int)) (by show(m:Int) -i=_;omega) om om (nW ?_);refine bm he rfl rfl (nW ?_);refine bk ⟨e,rfl,hs.trans (ig.mono om om),λp=>?_⟩;rw[hge,ayg om];exact hd p
def cV(l:List It):Nat->Int:=pg (·.key) l
theorem o_{l p}(h):cV l p=l[p].key:=ahj h
theorem S6(a):F0 [a]=some [.b false]:=by
 refine bF ?_;refine uR ?_;refine bk ?_;show[L.b (decide (a.br≠a.br))]=_;simp
theorem azM(a b):∃c,F1 [a,b]=some [.i c]/\(c<0↔a.br<b.br):=by
 suffices h:∃o,Fo Vq [a,b]=some o/\∃c:Int,o=[.i c]/\(c<0↔a.br<b.br)by
  obtain⟨o,e,c,rfl,f⟩:=h;exact⟨c,e,f⟩
 refine jR ?_;refine bm (S6 a) rfl rfl (nW ?_);refine bm (S6 b) rfl rfl (nW ?_);refine cn rfl (cn rfl ?_);refine uR ?_;refine bO rfl (λg=>?_) (λg=>?_)
 .exact bk ⟨-1,rfl,om⟩
 refine uR ?_;refine bO rfl (λd=>?_) (λd=>?_)
 .exact bk ⟨1,rfl,om⟩
 .exact bk ⟨0,rfl,om⟩
theorem E6(x y:It):∃c,F6 [.i x.key,.i x.cookie,.i x.off,.i x.size,.i y.key,.i y.cookie,.i y.off,.i y.size]=some [.i c]/\(c<0↔x.key<y.key):=by
 obtain⟨c,a,b⟩:=azM (.i x.key) (.i y.key);refine⟨c,bF ?_,b⟩;exact bm a rfl rfl (bk rfl)
def Cc(F:List L->Option (List L))(n:Nat):Prop:=∀(l:List It)(a m b:Nat),l.length<=1000000->a<m->m<b->b<=l.length->b-a<=n->d' (cV l) a m->d' (cV l) m b->
 ∃d,F [.r (l.map bt),.i a,.i m,.i b]=some [.r (d.map bt)]/\eu a b l d/\d' (cV d) a b
theorem xw{t F n N}(hF:Cc F n)(hN:N<=2*n\/N<=3):Cc (Fo (kS t F)) N:=by
 intro l a m b hl h1 h2 hb hs ha hm
 suffices h:∃o,Fo (kS t F) [.r (l.map bt),.i a,.i m,.i b]=some o/\∃d:List It,o=[.r (d.map bt)]/\eu a b l d/\d' (cV d) a b by
  obtain⟨o,h1,d,rfl,h2⟩:=h;exact⟨d,h1,h2⟩
 refine jR ?_;unfold kS;have F':a<l.length:=om;have u9:m<l.length:=om;refine di (n:=((m-a:Nat):Int)) (by show(m:Int) -a=_;omega) om om (nW ?_);refine uR ?_;refine bO rfl (λhc=>?_) (λhc=>?_)
 ·
  obtain rfl:m=a+1:=om;refine bz (λxs=>∃i:Nat,xs=[.i i]/\a+1<=i/\i<=b/\(i=a+1\/cV l (i-1)<=cV l a)/\(i=b\/cV l a<=cV l i)) ?_ ?_
  .refine wp_loop (I:=λs=>∃i j:Nat,s=[.i i,.i j]/\a+1<=i/\i<=j/\j<=b/\(i=a+1\/cV l (i-1)<=cV l a)/\(j=b\/cV l a<=cV l j)) (mu:=λs=>match s with|[.i i,.i j]=>j.toNat-i.toNat|_=>0)
    ⟨a+1,b,rfl,om,om,om,.inl rfl,.inl rfl⟩ ?_
   rintro s ⟨i,j,rfl,i0,ij,j1,k1,k2⟩;refine uR ?_;refine bO rfl (λhc=>?_) (λhc=>?_);rotate_left
   .obtain rfl:i=j:=om;exact bk ⟨i,rfl,i0,j1,k1,k2⟩
   have hh:(i+j) /2<l.length:=om;refine BS (i:=i) (j:=j) rfl rfl rfl om (nW ?_);refine ju (l:=l) (j:=(i+j) /2) rfl rfl hh (nW ?_);refine ju (l:=l) (j:=a) rfl rfl F' (nW ?_);obtain⟨c,u_,ic⟩:=E6 l[(i+j) /2] l[a];refine bm u_ rfl rfl (uR ?_);rw[<-o_ hh,<-o_ F']at ic;refine bO rfl (λhz=>?_) (λhz=>?_)
   .refine b8 (i:=(i+j) /2) rfl om (nW ?_);refine bk ⟨⟨(i+j) /2+1,j,rfl,om,om,j1,.inr (by rw[Gt];omega),k2⟩,?_⟩;show j- (((i+j) /2+1:Nat):Int).toNat<j-i;omega
   .refine bk ⟨⟨i,(i+j) /2,rfl,i0,om,om,k1,.inr om⟩,?_⟩;show(((i+j) /2:Nat):Int).toNat-i<j-i;omega
  .rintro _ ⟨i,rfl,i0,i1,k1,k2⟩;refine nW ?_;refine bz (λxs=>∃d:List It,xs=[.r (d.map bt)]/\eu a b l d/\d' (cV d) a b) ?_ ?_;rotate_left
   .rintro _ ⟨d,rfl,hd⟩;exact nW (bk ⟨d,rfl,hd⟩)
   refine wp_loop (I:=λs=>∃(k:Nat)(d:List It),s=[.i k,.r (d.map bt)]/\a<=k/\k<=i-1/\eu a b l d/\∀p,d[p]?=l[cR a (a+1) (k+1) p]?) (mu:=λs=>match s with|[.i k,_]=>i-k.toNat|_=>0)
    ⟨a,l,rfl,om,om,.refl l,λp=>by rw[RE]⟩ ?_
   rintro s ⟨k,d,rfl,k0,ki,hs,hd⟩;have jE:=hs.perm.length_eq;refine di (n:=((i-1:Nat):Int)) (by show(i:Int) -1=_;omega) om om (uR ?_);refine bO rfl (λhc=>?_) (λhc=>?_);rotate_left
   .obtain rfl:k=i-1:=om;have e:i-1+1=i:=om;rw[e]at hd;exact bk ⟨d,rfl,hs,(alN hm i0 i1 k1 k2).congr λp _ _=>mG (hd p)⟩
   have oP:k+1<d.length:=om;have hk:k<d.length:=om;refine b8 (i:=k) rfl om (nW ?_);refine b8 (i:=k) rfl om (nW ?_);refine ju (l:=d) (j:=k+1) rfl rfl oP (nW ?_);refine ju (l:=d) (j:=k) rfl rfl hk (nW ?_);refine rX (l:=d) (j:=k) (z:=d[k+1]) rfl rfl hk rfl rfl (nW ?_);refine rX (l:=d.set k d[k+1]) (j:=k+1) (z:=d[k]) rfl rfl (by simpa using oP) rfl rfl (nW ?_);refine b8 (i:=k) rfl om (nW ?_);refine bk ⟨⟨k+1,_,rfl,om,om,hs.trans (.swap hk oP om om om om),λp=>?_⟩,?_⟩
   .rw[Ew hk oP];have e:(if p=k+1 then cR a (a+1) (k+1) k else if p=k then cR a (a+1) (k+1) (k+1)else cR a (a+1) (k+1) p)=cR a (a+1) (k+1+1) p:=by unfold cR; (repeat' split)<;>omega
    rw[<-e]
    (repeat' split)<;>exact hd _
   .show i- ((k+1:Nat):Int).toNat<i-k;omega
 refine di (n:=((b-m:Nat):Int)) (by show(b:Int) -m=_;omega) om om (nW ?_);refine uR ?_;refine bO rfl (λhc2=>?_) (λhc2=>?_)
 ·
  obtain rfl:b=m+1:=om;refine bz (λxs=>∃i:Nat,xs=[.i i]/\a<=i/\i<=m/\(i=a\/cV l (i-1)<=cV l m)/\(i=m\/cV l m<=cV l i)) ?_ ?_
  .refine wp_loop (I:=λs=>∃i j:Nat,s=[.i i,.i j]/\a<=i/\i<=j/\j<=m/\(i=a\/cV l (i-1)<=cV l m)/\(j=m\/cV l m<=cV l j)) (mu:=λs=>match s with|[.i i,.i j]=>j.toNat-i.toNat|_=>0)
    ⟨a,m,rfl,om,om,om,.inl rfl,.inl rfl⟩ ?_
   rintro s ⟨i,j,rfl,i0,ij,j1,k1,k2⟩;refine uR ?_;refine bO rfl (λhc=>?_) (λhc=>?_);rotate_left
   .obtain rfl:i=j:=om;exact bk ⟨i,rfl,i0,j1,k1,k2⟩
   have hh:(i+j) /2<l.length:=om;refine BS (i:=i) (j:=j) rfl rfl rfl om (nW ?_);refine ju (l:=l) (j:=m) rfl rfl u9 (nW ?_);refine ju (l:=l) (j:=(i+j) /2) rfl rfl hh (nW ?_);obtain⟨c,u_,ic⟩:=E6 l[m] l[(i+j) /2];refine bm u_ rfl rfl (uR ?_);rw[<-o_ hh,<-o_ u9]at ic;refine cJ (λhz=>?_) (λhz=>?_)
   .have hz:(!decide (c<0))=true:=hz;have hz:¬c<0:=by simpa using hz
    refine b8 (i:=(i+j) /2) rfl om (nW ?_);refine bk ⟨⟨(i+j) /2+1,j,rfl,om,om,j1,.inr (by rw[Gt];omega),k2⟩,?_⟩;show j- (((i+j) /2+1:Nat):Int).toNat<j-i;omega
   .have hz:(!decide (c<0))=false:=hz;have hz:c<0:=by simpa using hz
    refine bk ⟨⟨i,(i+j) /2,rfl,i0,om,om,k1,.inr om⟩,?_⟩;show(((i+j) /2:Nat):Int).toNat-i<j-i;omega
  .rintro _ ⟨i,rfl,i0,i1,k1,k2⟩;refine nW ?_;refine bz (λxs=>∃d:List It,xs=[.r (d.map bt)]/\eu a (m+1) l d/\d' (cV d) a (m+1)) ?_ ?_;rotate_left
   .rintro _ ⟨d,rfl,hd⟩;exact nW (bk ⟨d,rfl,hd⟩)
   refine wp_loop (I:=λs=>∃(k:Nat)(d:List It),s=[.i k,.r (d.map bt)]/\i<=k/\k<=m/\eu a (m+1) l d/\∀p,d[p]?=l[cR k m (m+1) p]?) (mu:=λs=>match s with|[.i k,_]=>k.toNat|_=>0)
    ⟨m,l,rfl,om,om,.refl l,λp=>by rw[XD om]⟩ ?_
   rintro s ⟨k,d,rfl,k0,ki,hs,hd⟩;have jE:=hs.perm.length_eq;refine uR ?_;refine bO rfl (λhc=>?_) (λhc=>?_);rotate_left
   .obtain rfl:k=i:=om;exact bk ⟨d,rfl,hs,(arE ha i0 i1 k1 k2).congr λp _ _=>mG (hd p)⟩
   have oP:k-1<d.length:=om;have hk:k<d.length:=om;refine di (n:=((k-1:Nat):Int)) (by show(k:Int) -1=_;omega) om om (nW ?_);refine di (n:=((k-1:Nat):Int)) (by show(k:Int) -1=_;omega) om om (nW ?_);refine ju (l:=d) (j:=k-1) rfl rfl oP (nW ?_);refine ju (l:=d) (j:=k) rfl rfl hk (nW ?_);refine rX (l:=d) (j:=k) (z:=d[k-1]) rfl rfl hk rfl rfl (nW ?_);refine rX (l:=d.set k d[k-1]) (j:=k-1) (z:=d[k]) rfl rfl (by simpa using oP) rfl rfl (nW ?_);refine di (n:=((k-1:Nat):Int)) (by show(k:Int) -1=_;omega) om om (nW ?_);refine bk ⟨⟨k-1,_,rfl,om,om,hs.trans (.swap hk oP om om om om),λp=>?_⟩,?_⟩
   .rw[Ew hk oP];have e:(if p=k-1 then cR k m (m+1) k else if p=k then cR k m (m+1) (k-1)else cR k m (m+1) p)=cR (k-1) m (m+1) p:=by unfold cR; (repeat' split)<;>omega
    rw[<-e]
    (repeat' split)<;>exact hd _
   .show((k-1:Nat):Int).toNat<k;omega
 have hmb:b-a<=2*n:=om;refine BS (i:=a) (j:=b) rfl rfl rfl om (nW ?_);refine dp (n:=(((a+b) /2+m:Nat):Int)) (by rfl) om om (nW ?_);generalize aCZ:(a+b) /2=mid;have q1:2*mid<=a+b:=om;have q2:a+b<=2*mid+1:=om;refine bz (λxs=>∃lo r:Nat,xs=[.i lo,.i r]/\a<=lo/\lo<=r/\r<=m/\r<=mid/\mid+m<=b+lo/\(lo=a\/mid+m=b+lo)/\(r=m\/r=mid)) ?_ ?_
 .refine uR ?_;refine bO rfl (λhg=>?_) (λhg=>?_)
  .refine di (n:=((mid+m-b:Nat):Int)) (by show((mid+m:Nat):Int) -b=_;omega) om om (nW ?_);exact bk ⟨mid+m-b,mid,rfl,om,om,om,om,om,.inr om,.inr rfl⟩
  .exact bk ⟨a,m,rfl,om,om,om,om,om,.inl rfl,.inl rfl⟩
 rintro _ ⟨lo,r,rfl,b1,b2,b3,b4,b5,b6,b7⟩;refine nW ?_;refine di (n:=((mid+m-1:Nat):Int)) (by show((mid+m:Nat):Int) -1=_;omega) om om (nW ?_);refine bz (λxs=>∃s:Nat,xs=[.i s]/\lo<=s/\s<=r/\(s=lo\/cV l (s-1)<=cV l (mid+m-s))/\(s=r\/cV l (mid+m-1-s)<=cV l s)) ?_ ?_
 .refine wp_loop (I:=λx=>∃i j:Nat,x=[.i i,.i j]/\lo<=i/\i<=j/\j<=r/\(i=lo\/cV l (i-1)<=cV l (mid+m-i))/\(j=r\/cV l (mid+m-1-j)<=cV l j)) (mu:=λs=>match s with|[.i i,.i j]=>j.toNat-i.toNat|_=>0)
   ⟨lo,r,rfl,om,om,om,.inl rfl,.inl rfl⟩ ?_
  rintro x ⟨i,j,rfl,i0,ij,j1,k1,k2⟩;refine uR ?_;refine bO rfl (λhc=>?_) (λhc=>?_);rotate_left
  .obtain rfl:i=j:=om;exact bk ⟨i,rfl,i0,j1,k1,k2⟩
  have hh:(i+j) /2<l.length:=om;have hp:mid+m-1- (i+j) /2<l.length:=om;refine BS (i:=i) (j:=j) rfl rfl rfl om (nW ?_);refine di (n:=((mid+m-1- (i+j) /2:Nat):Int)) (by show((mid+m-1:Nat):Int) - (((i+j) /2:Nat):Int)=_;omega) om om (nW ?_);refine ju (l:=l) (j:=mid+m-1- (i+j) /2) rfl rfl hp (nW ?_);refine ju (l:=l) (j:=(i+j) /2) rfl rfl hh (nW ?_);obtain⟨c,u_,ic⟩:=E6 l[mid+m-1- (i+j) /2] l[(i+j) /2];refine bm u_ rfl rfl (uR ?_);rw[<-o_ hh,<-o_ hp]at ic;refine cJ (λhz=>?_) (λhz=>?_)
  .have hz:(!decide (c<0))=true:=hz;have hz:¬c<0:=by simpa using hz
   refine b8 (i:=(i+j) /2) rfl om (nW ?_);refine bk ⟨⟨(i+j) /2+1,j,rfl,om,om,j1,.inr (by rw[Gt,show mid+m- ((i+j) /2+1)=mid+m-1- (i+j) /2 by omega];omega),k2⟩,?_⟩;show j- (((i+j) /2+1:Nat):Int).toNat<j-i;omega
  .have hz:(!decide (c<0))=false:=hz;have hz:c<0:=by simpa using hz
   refine bk ⟨⟨i,(i+j) /2,rfl,i0,om,om,k1,.inr om⟩,?_⟩;show(((i+j) /2:Nat):Int).toNat-i<j-i;omega
 rintro _ ⟨s,rfl,s0,s1,k1,k2⟩;refine nW ?_;obtain⟨e,he⟩:∃e,e=mid+m-s:=⟨_,rfl⟩
 refine di (n:=(e:Int)) (by show((mid+m:Nat):Int) -s=_;omega) om om (nW ?_);have aBB:s+(e-m)=mid:=om;obtain ⟨z1,z2,z3,z4,z5⟩:=asQ ha hm (show a<=s by omega) (show s<=m by omega) (show m<=e by omega) (show e<=b by omega)
  (by
   rcases k1 with k|k
   .rcases b6 with k'|k'
    .exact .inl om
    .exact .inr (.inl om)
   .exact .inr (.inr (by rw[he];exact k)))
  (by
   rcases k2 with k|k
   .rcases b7 with k'|k'
    .exact .inl om
    .exact .inr (.inl om)
   .exact .inr (.inr (by rw[he,show mid+m-s-1=mid+m-1-s by omega];exact k)))
 rw[aBB]at z2 z3 z5;refine bz (λxs=>∃d:List It,xs=[.r (d.map bt)]/\eu a b l d/\∀p,d[p]?=l[cR s m e p]?) ?_ ?_
 .refine bz (c8 (s<m/\m<e)) ?_ ?_
  .refine uR ?_;refine bO rfl (λg1=>?_) (λg1=>?_)
   .refine uR (bk ?_);exact e_ om
   .exact bk (e7 om)
  .rintro _ ⟨t1,rfl,ht⟩;refine nW ?_;refine cJ (λg1=>?_) (λg1=>?_)
   .have g1:=ht.1 g1;obtain⟨d,hd,Gb,hgd⟩:=alm l hl g1.1 g1.2 (show e<=l.length by omega);refine bm hd rfl rfl (nW ?_);exact bk ⟨d,rfl,Gb.mono om om,hgd⟩
   .have g1:¬(s<m/\m<e):=λh=>by rw[ht.2 h]at g1;cases g1
    refine bk ⟨l,rfl,.refl l,λp=>?_⟩;by_cases c1:s=m
    .rw[c1,XD om]
    .rw[show e=m by omega,RE]
 rintro _ ⟨d,rfl,Gb,hgd⟩;refine nW ?_;have jE:=Gb.perm.length_eq;have hv:∀p,cV d p=cV l (cR s m e p):=λp=>mG (hgd p)
 have y1:d' (cV d) a s:=z1.congr λp _ _=>hv p
 have y2:d' (cV d) s mid:=z2.congr λp _ _=>hv p
 have y3:d' (cV d) mid e:=z3.congr λp _ _=>hv p
 have y4:d' (cV d) e b:=z4.congr λp _ _=>hv p
 have y5:∀p q,a<=p->p<mid->mid<=q->q<b->cV d p<=cV d q:=λp q h1 h2 h3 h4=>by rw[hv,hv];exact z5 p q h1 h2 h3 h4
 refine bz (λxs=>∃d2:List It,xs=[.r (d2.map bt)]/\eu a mid d d2/\d' (cV d2) a mid) ?_ ?_
 .refine bz (c8 (a<s/\s<mid)) ?_ ?_
  .refine uR ?_;refine bO rfl (λg1=>?_) (λg1=>?_)
   .refine uR (bk ?_);exact e_ om
   .exact bk (e7 om)
  .rintro _ ⟨t1,rfl,ht⟩;refine nW ?_;refine cJ (λg1=>?_) (λg1=>?_)
   .have g1:=ht.1 g1;obtain⟨d2,xS,aBC,aBD⟩:=hF d a s mid om g1.1 g1.2 om om y1 y2;refine bm xS rfl rfl (nW ?_);exact bk ⟨d2,rfl,aBC,aBD⟩
   .have g1:¬(a<s/\s<mid):=λh=>by rw[ht.2 h]at g1;cases g1
    refine bk ⟨d,rfl,.refl d,?_⟩;by_cases c1:a=s
    .rw[c1];exact y2
    .rw[show mid=s by omega];exact y1
 rintro _ ⟨d2,rfl,hs2,hg2⟩;refine nW ?_;have aDa:=hs2.perm.length_eq;have hv2:∀p,mid<=p->cV d2 p=cV d p:=λp hp=>mG (hs2.out p (.inr hp))
 have x3:d' (cV d2) mid e:=y3.congr λp h1 _=>hv2 p h1
 have x4:d' (cV d2) e b:=y4.congr λp h1 _=>hv2 p om
 have fin:∀d3:List It,eu mid b d2 d3->d' (cV d3) mid b->eu a b l d3/\d' (cV d3) a b:=λd3 h3 h4=>
  ⟨Gb.trans ((hs2.mono om om).trans (h3.mono om om)),d'.join (hg2.congr λp _ h2=>mG (h3.out p (.inl h2))) h4 (axW y5 hs2 h3)⟩
 refine bz (c8 (mid<e/\e<b)) ?_ ?_
 .refine uR ?_;refine bO rfl (λg1=>?_) (λg1=>?_)
  .have g1:(mid:Int)<e:=g1;refine uR (bk ?_);show c8 _ [L.b (decide ((e:Int)<b))];exact e_ om
  .have g1:¬(mid:Int)<e:=g1;exact bk (e7 om)
 .rintro _ ⟨t1,rfl,ht⟩;refine nW ?_;refine cJ (λg1=>?_) (λg1=>?_)
  .have g1:=ht.1 g1;obtain⟨d3,F2,aBE,aBF⟩:=hF d2 mid e b om g1.1 g1.2 om om x3 x4;refine bm F2 rfl rfl (nW ?_);exact bk ⟨d3,rfl,fin d3 aBE aBF⟩
  .have g1:¬(mid<e/\e<b):=λh=>by rw[ht.2 h]at g1;cases g1
   refine bk ⟨d2,rfl,fin d2 (.refl d2) ?_⟩;by_cases c1:mid=e
   .rw[c1];exact x4
   .rw[show b=e by omega];exact x3
theorem alA:Cc Bp 0:=λl a m b _ c d _ e _ _=>om
theorem YJ:Cc Fb 96:=xw (n:=48) (xw (n:=24) (xw (n:=12) (xw (n:=6) (xw (n:=3) (xw (n:=0) alA (.inr om)) (.inl om)) (.inl om)) (.inl om)) (.inl om)) (.inl om)
end
end
end Go.Proofs.YtiikkkhcolcebaaGreatDoor
