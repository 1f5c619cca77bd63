/- A part. -/
import Derived.Test.YtiikkkhcolcebaaGreatDoorG5
import Derived.Test.YtiikkkhcolcebaaGreatDoorG6
import Derived.Test.YtiikkkhcolcebaaGreatDoorG13
import Derived.Test.YtiikkkhcolcebaaGreatDoorG15
import Derived.Test.YtiikkkhcolcebaaGreatDoorG16
import Derived.Test.YtiikkkhcolcebaaGreatDoorG19
import Derived.Test.YtiikkkhcolcebaaGreatDoorG21
import Derived.WalkKit
set_option linter.all false
set_option maxHeartbeats 4000000
set_option maxRecDepth 100000
namespace Go.Proofs.YtiikkkhcolcebaaGreatDoor
noncomputable section
section
open Go.RowKit
def oO{P:Prop}(h:P:=by(try dsimp only[At.ev,d1,d2,d3,d4,d5,d6,d7,d8,d9,e0,List.map,cZ,Kd.pv]); (first|done|omega| (simp only[cw,dH,qW,jW,w8,bA]<;>omega))):P:=h
def nW{f:bp}{ρ dI Q}(h:f.wp dI Q)(e:ρ=dI:=by(try dsimp only[At.ev,d1,d2,d3,d4,d5,d6,d7,d8,d9,e0,List.map,cZ,Kd.pv])<;>rfl):f.wp ρ Q:=e▸h
section
variable{ρ:List L}{Q:Lf×List L->Prop}{k:bp}
def kh{nd ls}(h:nd.ev ρ=some ls)(hk:k.wp (ρ++ls) Q):(bp.op nd k).wp ρ Q:=by rw[iT];exact⟨ls,h,hk⟩
def Ml{x y n}(h:min (x.ev ρ).br (y.ev ρ).br=n)(c:k.wp (ρ++[.i n]) Q):(bp.op (.mn x y) k).wp ρ Q:=kh (by simp only[Nd.ev];congr 3;split<;>omega) c
def Ln{x y n}(h:max (x.ev ρ).br (y.ev ρ).br=n)(c:k.wp (ρ++[.i n]) Q):(bp.op (.mx x y) k).wp ρ Q:=kh (by simp only[Nd.ev];congr 3;split<;>omega) c
def GF{x}(c:k.wp (ρ++[.i (x.ev ρ).gJ.size]) Q):(bp.op (.nG x) k).wp ρ Q:=kh rfl c
def y6{x lo c n r}(h:0<=(lo.ev ρ).br/\(lo.ev ρ).br<=(c.ev ρ).br/\(c.ev ρ).br.toNat<=(x.ev ρ).bE.length/\cC n (x.ev ρ).bE=true)(d:((x.ev ρ).bE.take (c.ev ρ).br.toNat).drop (lo.ev ρ).br.toNat=r)(e:k.wp (ρ++[.r r]) Q):(bp.op (.part x lo c n) k).wp ρ Q:=kh (by simp only[Nd.ev];rw[bB h,d]) e
def tE{m ps b r}(h:0<=(m.ev ρ).br/\(m.ev ρ).br<=9223372036854775807/\b*(m.ev ρ).br.toNat<=281474976710656)(c:List.replicate (m.ev ρ).br.toNat (cZ ρ ps)=r)(d:k.wp (ρ++[.r r]) Q):(bp.op (.jY m ps b) k).wp ρ Q:=kh (by simp only[Nd.ev];rw[bB h,c]) d
def UW{x lo ln y n ls}(h:cC n (y.ev ρ).bE=true/\(lo.ev ρ).br.toNat+(ln.ev ρ).br.toNat<=(x.ev ρ).bE.length)
 (c:[L.r ((x.ev ρ).bE.take (lo.ev ρ).br.toNat++(y.ev ρ).bE.take (min (y.ev ρ).bE.length (ln.ev ρ).br.toNat)++(x.ev ρ).bE.drop ((lo.ev ρ).br.toNat+min (y.ev ρ).bE.length (ln.ev ρ).br.toNat)),.i ((min (y.ev ρ).bE.length (ln.ev ρ).br.toNat:Nat):Int)]=ls) (d:k.wp (ρ++ls) Q):(bp.op (.px x lo ln y n) k).wp ρ Q:=kh (by simp only[Nd.ev];rw[bB h,c]) d
def aAe{x i b}(c:0<=(i.ev ρ).br)(d:(x.ev ρ).gJ[(i.ev ρ).br.toNat]?=some b)(e:k.wp (ρ++[.i b.toNat]) Q):(bp.op (.A5 x i) k).wp ρ Q:=kh (by simp only[Nd.ev];rw[bB c,d]) e
def tc{c x n}(h:c.wrap (x.ev ρ).br=n)(d:k.wp (ρ++[.i n]) Q):(bp.op (.conv c x) k).wp ρ Q:=ju (by rw[h];exact d)
def iU{x y n}(h:(x.ev ρ).br+(y.ev ρ).br=n)(c: -9223372036854775808<=n)(d:n<=9223372036854775807)(e:k.wp (ρ++[.i n]) Q):(bp.op (.bi .add .i64 x y) k).wp ρ Q:=dw (by show some (L.i _)=_;rw[h,AI.wrap64 c d]) e
def nM{x y n}(h:(x.ev ρ).br- (y.ev ρ).br=n)(c: -9223372036854775808<=n)(d:n<=9223372036854775807)(e:k.wp (ρ++[.i n]) Q):(bp.op (.bi .sub .i64 x y) k).wp ρ Q:=dw (by show some (L.i _)=_;rw[h,AI.wrap64 c d]) e
def rU{x y n}(h:(x.ev ρ).br*(y.ev ρ).br=n)(c: -9223372036854775808<=n)(d:n<=9223372036854775807)(e:k.wp (ρ++[.i n]) Q):(bp.op (.bi .mul .i64 x y) k).wp ρ Q:=dw (by show some (L.i _)=_;rw[h,AI.wrap64 c d]) e
def dV{α:Type}{f}{l:List α}{x i:At}{n j:Nat}(c:(x.ev ρ).bE=l.map f)(d:(i.ev ρ).br=j)(e)(g:(f l[j]).length=n)(h:k.wp (ρ++[.c (f l[j])]) Q):(bp.op (.row x i n) k).wp ρ Q:=
 jy (by omega) (by rw[c,d,eO,cY,db e];rfl) g h
def eI{x y n b r}(c:cC n (x.ev ρ).bE=true)(d:cC n (y.ev ρ).bE=true)(h:(x.ev ρ).bE.length<=17179869184)(i:(y.ev ρ).bE.length<=17179869184)(e:b<=64)(f:(x.ev ρ).bE++(y.ev ρ).bE=r)(g:k.wp (ρ++[.r r]) Q):(bp.op (.app x y n b) k).wp ρ Q:=
 X3 ⟨by omega,by
  have:((x.ev ρ).bE.length+(y.ev ρ).bE.length)*b<=34359738368*64:=QB om e;omega,c,d⟩ (by rw[f];exact g)
def Nd.Ph(ρ:List L):Nd->Option L
 |.bi op d x y=>if nJ op=true then eC op d (x.ev ρ).br (y.ev ρ).br else none
 |.conv _ _=>none
 |nd=>nd.JU ρ
def sT{c l}(h:c.Ph ρ=some l)(d:k.wp (ρ++[l]) Q):(bp.op c k).wp ρ Q:=by
 refine sN ?_ d
 cases c with
 |bi op e x y=>
  simp only[Nd.Ph]at h;split at h
  .exact h
  .cases h
 |conv=>cases h
 |_=>exact h
def uT{c l dI}(h:c.Ph ρ=some l)(d:k.wp dI Q)(e:ρ++[l]=dI:=by(try dsimp only[At.ev,d1,d2,d3,d4,d5,d6,d7,d8,d9,e0,List.map,cZ,Kd.pv])<;>rfl):(bp.op c k).wp ρ Q:=sT h (e▸d)
def uR{f c:bp}{ρ dI Q}(h:c.wp dI Q)(e:c.wp dI Q->f.wp ρ Q:=by(intro h;refine nW ?_;repeat refine uT rfl ?_);exact h):f.wp ρ Q:=e h
def ri{x:At}{i:Nat}(h:(x.ev ρ).br=i)(d:i<=4611686018427387904)(c:k.wp (ρ++[.i ((i+1:Nat):Int)]) Q):(bp.op (.bi .add .i64 x (.i 1)) k).wp ρ Q:=iU (by rw[h];rfl) om om c
def Y6{n}(c:0<=n)(d:n<=18446744073709551615):IntKind.wrap .u64 n=n:=AI.yZ .u64 (by simp[IntKind.min,IntKind.signed];omega) (by simp[IntKind.max,IntKind.signed,IntKind.bits];omega)
def YC{x n}(h:(x.ev ρ).br=n)(c:0<=n)(d:n<=18446744073709551615)(e:k.wp (ρ++[.i n]) Q):(bp.op (.conv .u64 x) k).wp ρ Q:=tc (by rw[h,Y6 c d]) e
def pH{x n}(h:(x.ev ρ).br=n)(c: -9223372036854775808<=n)(d:n<=9223372036854775807)(e:k.wp (ρ++[.i n]) Q):(bp.op (.conv .i64 x) k).wp ρ Q:=tc (by rw[h,AI.wrap64 c d]) e
def cD{c a b P inst}(d:c.ev ρ=.b (@decide P inst))(e:P->a.wp ρ Q)(f:¬P->b.wp ρ Q):(bp.ite c a b).wp ρ Q:=
 dn (λh=>e (by rw[d]at h;exact fc h)) (λh=>f (by rw[d]at h;exact gi h))
def c9{c a b P inst}(d:c.ev ρ=.b (@decide P inst))(h:P)(e:a.wp ρ Q):(bp.ite c a b).wp ρ Q:=cD d (λ_=>e) λk=>absurd h k
def bT{c a b P inst}(d:c.ev ρ=.b (@decide P inst))(h:¬P)(e:b.wp ρ Q):(bp.ite c a b).wp ρ Q:=cD d (λk=>absurd k h) λ_=>e
def dF{P inst}(h:¬P):[L.b (@decide P inst)]=[.b false]:=by rw[decide_eq_false h]
def dT{P inst}(h:P):[L.b (@decide P inst)]=[.b true]:=by rw[decide_eq_true h]
def jQ(K:List L->Prop)(Q:Lf×List L->Prop)(r:Lf×List L):Prop:=match r with
 |(.jump 0 args,dI)=>K (args.map (At.ev dI))
 |(.jump (k+1) args,dI)=>Q (.jump k args,dI)
 |r=>Q r
def bO{a b}(K)(d:a.wp ρ (jQ K Q))(h:∀xs,K xs->b.wp (ρ++xs) Q):(bp.join a b).wp ρ Q:=by
 refine En (bp.wp.mono d λr c=>?_);obtain⟨e,dI⟩:=r
 cases e with
 |st=>exact c
 |jump k args=>cases k with
  |zero=>exact h _ c
  |succ k=>exact c
def dp(P:Prop)(xs:List L):Prop:=∃t:Bool,xs=[.b t]/\(t=true↔P)
def er{P}(h:P):dp P [.b true]:=⟨true,rfl,λ_=>h,λ_=>rfl⟩
def fF{P}(h:¬P):dp P [.b false]:=⟨false,rfl,λh=>(by cases h),λc=>absurd c h⟩
def fK{P R}[Decidable R](h:R↔P):dp P [.b (decide R)]:=⟨_,rfl,by rw[e_];exact h⟩
def qt{P R}[Decidable R](h:¬R↔P):dp P [.b (!decide R)]:=⟨_,rfl,by rw[pV,zF];exact h⟩
end
section
variable{ρ dI:List L}{Q:Lf×List L->Prop}{k k':bp}
def bz{t F args n us l}(h:F (args.map (At.ev ρ))=some l)(c:k.wp dI Q)(d:l.length=n:=by exact rfl)(f:(us.all λi=>((l[i]?).getD (.b false)).bE.all (·.all PV.bare))=true:=by exact rfl)(e:ρ++l=dI:=by(try dsimp only[At.ev,d1,d2,d3,d4,d5,d6,d7,d8,d9,e0,List.map,cZ,Kd.pv])<;>rfl):(bp.op (.call t F args n us) k).wp ρ Q:=du h d f (e▸c)
def bR{t F args n us l}(h:F (args.map (At.ev ρ))=some l)(c:k'.wp dI Q)(d:l.length=n:=by exact rfl)(f:(us.all λi=>((l[i]?).getD (.b false)).bE.all (·.all PV.bare))=true:=by exact rfl)(e:k'.wp dI Q->k.wp (ρ++l) Q:=by(intro h;refine nW ?_;repeat refine uT rfl ?_);exact h):(bp.op (.call t F args n us) k).wp ρ Q:=du h d f (e c)
def cj{x:At}(i:Nat)(c:k.wp dI Q)(h:(x.ev ρ).br=i:=by exact rfl)(d:i<=4611686018427387904:=by omega)(e:ρ++[.i ((i+1:Nat):Int)]=dI:=by(try dsimp only[At.ev,d1,d2,d3,d4,d5,d6,d7,d8,d9,e0,List.map,cZ,Kd.pv])<;>rfl):(bp.op (.bi .add .i64 x (.i 1)) k).wp ρ Q:=ri h d (e▸c)
def Ck{x:At}(i:Nat)(c:k'.wp dI Q)(h:(x.ev ρ).br=i:=by exact rfl)(d:i<=4611686018427387904:=by omega)(e:k'.wp dI Q->k.wp (ρ++[.i ((i+1:Nat):Int)]) Q:=by(intro h;refine nW ?_;repeat refine uT rfl ?_);exact h):(bp.op (.bi .add .i64 x (.i 1)) k).wp ρ Q:=ri h d (e c)
def eR{α:Type}(f)(j:Nat){l:List α}{x i:At}{n}(c)(d:k.wp dI Q)(g:(x.ev ρ).bE=l.map f:=by exact rfl)(h:(i.ev ρ).br=j:=by exact rfl)(m:(f (l[j]'c)).length=n:=by exact rfl)(e:ρ++[.c (f (l[j]'c))]=dI:=by(try dsimp only[At.ev,d1,d2,d3,d4,d5,d6,d7,d8,d9,e0,List.map,cZ,Kd.pv])<;>rfl):(bp.op (.row x i n) k).wp ρ Q:=dV g h c m (e▸d)
def dx{α:Type}(f)(j:Nat){l:List α}{x i:At}{n}(c)(d:k'.wp dI Q)(g:(x.ev ρ).bE=l.map f:=by exact rfl)(m:(i.ev ρ).br=j:=by exact rfl)(o:(f (l[j]'c)).length=n:=by exact rfl)(e:k'.wp dI Q->k.wp (ρ++[.c (f (l[j]'c))]) Q:=by(intro h;refine nW ?_;repeat refine uT rfl ?_);exact h):(bp.op (.row x i n) k).wp ρ Q:=dV g m c o (e d)
def gp{f:bp}{ls:List L}{o:List L}(h:k'.wp dI (lS λx=>x=o))(e:k'.wp dI (lS λx=>x=o)->f.wp ls (lS λx=>x=o):=by(intro h;refine nW ?_;repeat refine uT rfl ?_);exact h):Fo f ls=some o:=bJ (e h)
def cz{c}{a b f:bp}{P inst}(d:P->a.wp dI Q)(g:¬P->b.wp dI Q)(e:(bp.ite c a b).wp dI Q->f.wp ρ Q:=by(intro h;refine nW ?_;repeat refine uT rfl ?_);exact h)(i:c.ev dI=.b (@decide P inst):=by exact rfl):f.wp ρ Q:=e (cD i d g)
def iq{c}{a b f:bp}(d:(c.ev dI).eF=true->a.wp dI Q)(g:(c.ev dI).eF=false->b.wp dI Q)(e:(bp.ite c a b).wp dI Q->f.wp ρ Q:=by(intro h;refine nW ?_;repeat refine uT rfl ?_);exact h):f.wp ρ Q:=e (dn d g)
def ew(ys:List L){a:bp}{x:Lf}(c:a.wp ρ (jQ (λxs=>xs=ys) Q))(d:Q (x,ρ++ys):=by exact rfl):(bp.join a (.bq x)).wp ρ Q:=bO (λxs=>xs=ys) c λxs e=>by subst e;exact bm d
def dC(ys:List L){a b:bp}(c:a.wp ρ (jQ (λxs=>xs=ys) Q))(h:b.wp dI Q)(e:ρ++ys=dI:=by(try dsimp only[At.ev,d1,d2,d3,d4,d5,d6,d7,d8,d9,e0,List.map,cZ,Kd.pv])<;>rfl):(bp.join a b).wp ρ Q:=bO (λxs=>xs=ys) c λxs d=>by subst d;exact e▸h
end
section
variable{ρ dI:List L}{Q:Lf×List L->Prop}{k a b:bp}
def cu{c}(d:b.wp ρ Q)(e:(c.ev ρ).eF=false:=by exact rfl):(bp.ite c a b).wp ρ Q:=qo e d
def gY{c}(d:a.wp ρ Q)(e:(c.ev ρ).eF=true:=by exact rfl):(bp.ite c a b).wp ρ Q:=y7 e d
def fg{x y}(n:Int)(h:(x.ev ρ).br+(y.ev ρ).br=n)(c:k.wp dI Q)(d: -9223372036854775808<=n:=by omega)(f:n<=9223372036854775807:=by omega)(e:ρ++[.i n]=dI:=by(try dsimp only[At.ev,d1,d2,d3,d4,d5,d6,d7,d8,d9,e0,List.map,cZ,Kd.pv])<;>rfl):(bp.op (.bi .add .i64 x y) k).wp ρ Q:=iU h d f (e▸c)
def eb{x y}(n:Int)(h:(x.ev ρ).br- (y.ev ρ).br=n)(c:k.wp dI Q)(d: -9223372036854775808<=n:=by omega)(f:n<=9223372036854775807:=by omega)(e:ρ++[.i n]=dI:=by(try dsimp only[At.ev,d1,d2,d3,d4,d5,d6,d7,d8,d9,e0,List.map,cZ,Kd.pv])<;>rfl):(bp.op (.bi .sub .i64 x y) k).wp ρ Q:=nM h d f (e▸c)
def mR{x y}(n:Int)(h:(x.ev ρ).br*(y.ev ρ).br=n)(c:k.wp dI Q)(d: -9223372036854775808<=n:=by omega)(f:n<=9223372036854775807:=by omega)(e:ρ++[.i n]=dI:=by(try dsimp only[At.ev,d1,d2,d3,d4,d5,d6,d7,d8,d9,e0,List.map,cZ,Kd.pv])<;>rfl):(bp.op (.bi .mul .i64 x y) k).wp ρ Q:=rU h d f (e▸c)
def iw{x:At}(n:Int)(h:(x.ev ρ).br=n)(c:k.wp dI Q)(d:0<=n:=by omega)(f:n<=18446744073709551615:=by omega)(e:ρ++[.i n]=dI:=by(try dsimp only[At.ev,d1,d2,d3,d4,d5,d6,d7,d8,d9,e0,List.map,cZ,Kd.pv])<;>rfl):(bp.op (.conv .u64 x) k).wp ρ Q:=YC h d f (e▸c)
end
end
section
namespace Pl
structure It where
 key:Int
 cookie:Int
 off:Int
 size:Int
deriving DecidableEq,Inhabited
def dq(n:Int):Int:=if n<0\/4096<n then 0 else(n+31) /8*8
def ff(x:It):Bool:=decide (16<=x.off)&&decide (x.off<=1048576)&&decide (x.off%8=0)&&decide (0<=x.size)&&decide (x.size<=4096)
def fL(l:List It):Prop:=l.Pairwise λa b=>a.key<b.key
def VL(l:List It):Prop:=fL l/\∀x∈l,ff x=true
def ends(x:It):Int:=x.off+dq x.size
def Ez{x}(h:ff x=true):24<=dq x.size:=by
 simp only[ff,cF,e_]at h;unfold dq;omega
def Clear(a b:It):Prop:=¬(a.off<=b.off/\b.off<ends a)/\¬(b.off<=a.off/\a.off<ends b)
def Clear.symm{a b}(h:Clear a b):Clear b a:=⟨h.2,h.1⟩
def nZ:Int->List It->Option Int
 |e,[]=>some e
 |e,x::l=>if x.off<e then none else nZ (ends x) l
def amm(l:List It)(d:∀x∈l,ff x=true)(q:l.Pairwise λa b=>a.off<=b.off)(size:Int):∀e:Int,(∀x∈l,e<=x.off)->e<=size->
 ((∃r,nZ e l=some r/\r<=size)↔(l.Pairwise Clear/\∀x∈l,ends x<=size)):=by
 induction l with
 |nil=>intro e _ h;simp[nZ,h]
 |cons a l ih=>
  intro e s t;have u:=Ez (d a (by simp));have i:=iE.1 q;have m:¬a.off<e:=by have:=s a (by simp);omega
  simp only[nZ,bG m];by_cases j:ends a<=size
  .by_cases hall:∀x∈l,ends a<=x.off
   .rw [ih (λx c=>d x (by simp[c])) i.2 (ends a) hall j];rw[iE];constructor
    .rintro⟨f,g⟩;refine⟨⟨λb n=>⟨λh=>?_,λh=>?_⟩,f⟩,λx c=>?_⟩
     .have:=hall b n;omega
     .have:=hall b n;unfold ends at*;omega
     .rcases fh.1 c with rfl|c
      .exact j
      .exact g x c
    .rintro⟨⟨_,f⟩,g⟩;exact⟨f,λx c=>g x (by simp[c])⟩
   .constructor
    .rintro⟨r,f,_⟩;exfalso;apply hall;intro x c
     match l,c,f with
     |b ::v,c,f=>
      simp only[nZ]at f;split at f
      .cases f
      .rcases fh.1 c with rfl|o
       .omega
       .have:=(iE.1 i.2).1 x o;omega
    .rintro⟨f,_⟩;exfalso;apply hall;intro x c;have g:=(iE.1 f).1 x c;have w:=i.1 x c;have:=g.1;omega
  .constructor
   .rintro⟨r,f,g⟩;have key:∀(l:List It)(e r:Int),(∀x∈l,ff x=true)->nZ e l=some r->e<=r:=by
     intro l
     induction l with
     |nil=>intro e r _ h;simp[nZ]at h;omega
     |cons b l p=>
      intro e r d h;simp only[nZ]at h;split at h
      .cases h
      .have:=p _ _ (λx c=>d x (by simp[c])) h;have n:=Ez (d b (by simp));unfold ends at this;omega
    have:=key l _ _ (λx c=>d x (by simp[c])) f;omega
   .rintro⟨_,g⟩;exact absurd (g a (by simp)) j
def agC{l e}(f:∀x∈l,ff x=true)(hp:e.Perm l)(m:e.Pairwise λa b=>a.off<=b.off)(size)(g:16<=size):
 (∃r,nZ 16 e=some r/\r<=size)↔(l.Pairwise Clear/\∀x∈l,ends x<=size):=by
 have c:∀x∈e,ff x=true:=λx d=>f x (hp.mem_iff.1 d)
 rw[amm e c m size 16 (λx d=>by have:=c x d;simp only[ff,cF,e_]at this;omega) g];rw[hp.pairwise_iff (λh=>Clear.symm h)];constructor
 .rintro⟨i,j⟩;exact⟨i,λx d=>j x (hp.mem_iff.2 d)⟩
 .rintro⟨i,j⟩;exact⟨i,λx d=>j x (hp.mem_iff.1 d)⟩
def ins(x:It):List It->List It
 |[]=>[x]
 |a::l=>if a.key<x.key then a::ins x l else if a.key=x.key then x::l else x::a::l
def iN(l:List It):List It:=l.foldl (λc x=>ins x c) []
def vq{x y:It}:∀{l:List It},y∈ins x l->y=x\/y∈l
 |[],h=>by simp[ins]at h;exact .inl h
 |a::l,h=>by
  unfold ins at h;split at h
  .rcases fh.1 h with rfl|h
   .exact .inr (by simp)
   .rcases vq h with h|h
    .exact .inl h
    .exact .inr (by simp[h])
  .split at h
   .rcases fh.1 h with rfl|h
    .exact .inl rfl
    .exact .inr (by simp[h])
   .rcases fh.1 h with rfl|h
    .exact .inl rfl
    .exact .inr h
def AK(x):∀{l},fL l->fL (ins x l)
 |[],_=>by simp[ins,fL]
 |a::l,h=>by
  have d:=iE.1 h;unfold ins;split
  .rename_i e;refine iE.2 ⟨λy c=>?_,AK x d.2⟩;rcases vq c with rfl|c
   .exact e
   .exact d.1 y c
  .split
   .rename_i _ f;exact iE.2 ⟨λy c=>by rw[<-f];exact d.1 y c,d.2⟩
   .refine iE.2 ⟨λy c=>?_,h⟩;rcases fh.1 c with rfl|c
    .omega
    .have:=d.1 y c;omega
def Up:∀(l c:List It),fL c->fL (l.foldl (λc x=>ins x c) c)
 |[],_,h=>h
 |x::l,c,h=>Up l (ins x c) (AK x h)
def K4(l):fL (iN l):=Up l [] (by simp[fL])
def na(l:List It):Prop:=l.Pairwise λa b=>a.key≠b.key
def fL.apart{l}(h:fL l):na l:=h.imp λh e=>om
def aai{x}:∀{l},(∀y∈l,y.key≠x.key)->(ins x l).Perm (x::l)
 |[],_=>by simp[ins]
 |a::l,h=>by
  have d:¬a.key=x.key:=h a (by simp);unfold ins;split
  .exact((aai λy c=>h y (by simp[c])).cons a).trans (List.Perm.swap x a l)
  .exact IA _
def Uy:∀(l c),na l->(∀x∈l,∀y∈c,y.key≠x.key)->(l.foldl (λc x=>ins x c) c).Perm (l++c)
 |[],_,_,_=>IA _
 |x::l,c,h,f=>by
  have d:=iE.1 h;refine(Uy l (ins x c) d.2 λz g y e=>?_).trans ?_
  .rcases vq e with rfl|e
   .exact d.1 z g
   .exact f z (by simp[g]) y e
  .exact((aai (f x (by simp))).append_left l).trans List.perm_middle
def Zg{l}(h:na l):(iN l).Perm l:=by
 have:=Uy l [] h (λ_ _ _ c=>by cases c)
 rwa [gd]at this
def Yp:∀{l c},fL l->fL c->l.Perm c->l=c
 |[],c,_,_,hp=>by simpa using hp.symm.eq_nil
 |a::l,[],_,_,hp=>by simpa using hp.eq_nil
 |a ::l,b::c,h,m,hp=>by
  have i:=iE.1 h;have j:=iE.1 m;have d:a=b:=by
   have f:a∈b::c:=hp.mem_iff.1 (by simp);have g:b∈a::l:=hp.mem_iff.2 (by simp);rcases fh.1 f with e|f
   .exact e
   .rcases fh.1 g with e|g
    .exact e.symm
    .have:=i.1 b g;have:=j.1 a f;omega
  subst d;rw[Yp i.2 j.2 ((List.perm_cons a).1 hp)]
def L6{l c}(d:fL c)(hp:c.Perm l)(e:na l):iN l=c:=
 Yp (K4 l) d ((Zg e).trans hp.symm)
def Kq{l}(h:fL l):iN l=l:=L6 h (IA _) h.apart
def dB(l:List It)(k:Int):Option It:=l.reverse.find? λx=>decide (x.key=k)
def uG{l}(h:na l){x}(e:x∈l):dB l x.key=some x:=by
 unfold dB;have c:x∈l.reverse:=by simpa using e
 have d:na l.reverse:=List.pairwise_reverse.2 (h.imp λh=>Ne.symm h);generalize l.reverse=r at*
 induction r with
 |nil=>cases c
 |cons a r ih=>
  rw[QC];rcases fh.1 c with rfl|e
  .simp
  .have:=(iE.1 d).1 x e;rw[show decide (a.key=x.key)=false by simpa using this];exact ih e (iE.1 d).2
def EE{l k}(h:∀x∈l,x.key≠k):dB l k=none:=by
 unfold dB;rw[QD];intro x c;simpa using h x (by simpa using c)
def DN{l k x}(h:dB l k=some x):x∈l/\x.key=k:=by
 have c:=acA h;have d:=acz h;exact⟨by simpa using c,by simpa using d⟩
end Pl
end
section
open Go.RowKit
def bu(x:Pl.It):List PV:=[.sc (.int .u64 x.key),.sc (.int .u32 x.cookie),.sc (.int .i64 x.off),.sc (.int .i64 x.size)]
abbrev By:=List (List PV)
def jv:List PV:=[.sc (.int .u8 0)]
structure Wr where
 off:Int
 data:By
 cut:Bool
structure Fl where
 name:gh
 base:By
 bS:List Wr
structure Dk where
 cap:Int
 left:Int
 files:List Fl
def dD(w:Wr):List PV:=[.sc (.int .i64 w.off),.sl w.data,.sc (.bool w.cut)]
def bK(f:Fl):List PV:=[.sc (.string f.name),.sl f.base,.sl (f.bS.map dD)]
def iG(b:By)(w:Wr):By:=if w.cut=true then b.take w.off.toNat else(b++List.replicate (w.off.toNat-b.length) jv).take w.off.toNat++w.data++b.drop (w.off.toNat+w.data.length)
def tH(n:Int)(w:Wr):Int:=if w.cut=true then min n w.off else max n (w.off+w.data.length)
def okW(w:Wr):Prop:=0<=w.off/\w.off<=1048576/\¬(w.cut=true/\0<w.data.length)
instance (w:Wr):Decidable (okW w):=inferInstanceAs (Decidable (_/\_/\_))
def Dn:By->List Wr->Prop
 |_,[]=>True
 |b,w::c=>okW w/\(iG b w).length<=1048576/\Dn (iG b w) c
def okF(b:By)(c:List Wr):Prop:=b.length<=1048576/\Dn b c
def dJ(b:By)(c:List Wr):By:=c.foldl iG b
def N8{b w}(h:0<=w.off):((iG b w).length:Int)=tH b.length w:=by
 unfold iG tH;split
 .simp only[dH];omega
 .simp only[cw,dH,qW,jE];omega
def xl(w:Wr):Prop:=cC 1 w.data=true/\w.data.length<=4294967296
def jU(f:Fl):Prop:=cC 1 f.base=true/\f.base.length<=4294967296/\f.bS.length<=4294967296/\∀w∈f.bS,xl w
def BA{n a b}(c:cC n a=true)(d:cC n b=true):cC n (a++b)=true:=by
 unfold cC at*;simp[List.all_append,c,d]
def EP{n m a}(h:cC n a=true):cC n (a.take m)=true:=by
 unfold cC at*;rw[cI]at*;exactλx c=>h x (ob c)
def VF{n m a}(h:cC n a=true):cC n (a.drop m)=true:=by
 unfold cC at*;rw[cI]at*;exactλx c=>h x (oZ c)
def F'{n m r}(h:r.length=n):cC n (List.replicate m r)=true:=by
 unfold cC;rw[cI];exactλx c=>by rw[List.eq_of_mem_replicate c];simpa using h
def ajJ{b:By}{w}(c:cC 1 b=true)(d:xl w):cC 1 (iG b w)=true:=by
 unfold iG;split
 .exact EP c
 .exact BA (BA (EP (BA c (F' rfl))) d.1) (VF c)
def uO{c}:∀{b:By},cC 1 b=true->(∀w∈c,xl w)->cC 1 (dJ b c)=true:=by
 induction c with
 |nil=>exactλh _=>h
 |cons w c ih=>exactλh d=>ih (ajJ h (d w jg)) λx e=>d x (je _ e)
def vX{b}{c:List Wr}{k}(h):dJ b (c.take (k+1))=iG (dJ b (c.take k)) c[k]:=by
 unfold dJ;rw[fT h,zN];rfl
def wE(b:By)(c:List Wr)(k:Nat):Prop:=∀(j:Nat)(h:j<c.length),j<k->okW c[j]/\(dJ b (c.take (j+1))).length<=1048576
def rR{c:List Wr}:∀{b:By},Dn b c↔wE b c c.length:=by
 induction c with
 |nil=>exactλ{b}=>⟨λ_ j h=>absurd h (sK _),λ_=>trivial⟩
 |cons w c ih=>
  intro b;unfold Dn;rw[ih];constructor
  .rintro⟨e,f,g⟩ j d i
   cases j with
   |zero=>exact⟨e,by simpa[dJ]using f⟩
   |succ j=>
    have:=g j (by simpa using d) (by simpa using d);simpa[dJ]using this
  .intro h;refine⟨(h 0 ch ch).1,by simpa[dJ]using(h 0 ch ch).2,λj d i=>?_⟩;have:=h (j+1) (by simpa using d) (by simpa using d);simpa[dJ]using this
def Rs{b c}:wE b c 0:=λ_ _ h=>absurd h (sK _)
def UI{b c k}(h)(d:wE b c k)(f:okW c[k])(g:(dJ b (c.take (k+1))).length<=1048576):wE b c (k+1):=λj i l=>by
 by_cases e:j=k
 .subst e;exact⟨f,g⟩
 .exact d j i om
def r8{b c k}(d:b.length<=1048576)(h:wE b c k)(e:k<=c.length):(dJ b (c.take k)).length<=1048576:=by
 cases k with
 |zero=>simpa[dJ]using d
 |succ k=>exact(h k om om).2
def lA(c:Nat):Prop:=(97<=c/\c<=122)\/(48<=c/\c<=57)\/c=46\/c=45
def gG(s:gh):Prop:=(∀(i:Nat)(b:UInt8),s[i]?=some b->lA b.toNat)/\1<=s.size/\s.size<=40
def qF(a b:gh):Bool:=Op.bytesLess a.toList b.toList||a.toList==b.toList
def jm(d:Dk):Prop:=(0<=d.cap∧-1<=d.left/\d.files.length<=256)/\∀(i:Nat)(h:i<d.files.length),(gG d.files[i].name/\okF d.files[i].base d.files[i].bS)/\∀c:0<i,qF d.files[i].name (d.files[i-1]'om).name=false
def la(d:Dk):Prop:=d.files.length<=4294967296/\∀f∈d.files,jU f/\f.name.size<=4611686018427387904
def lF(d:Dk)(s:gh)(i:Nat):Prop:=∃h:i<d.files.length,(d.files[i].name.toList==s.toList)=true/\∀(j:Nat)(c:j<i),((d.files[j]'om).name.toList==s.toList)=false
def og(d:Dk)(s:gh):Prop:=∀(j:Nat)(h:j<d.files.length),(d.files[j].name.toList==s.toList)=false
def Wh(d:Dk)(s:gh)(c:By):Prop:=jm d/\gG s/\d.left≠0/\∃i,∃h:lF d s i,c=dJ (d.files[i]'h.1).base (d.files[i]'h.1).bS
def lE(c:By)(off n:Int):Prop:=off<0\/n<0\/(c.length:Int)<off\/(c.length:Int) -off<n
def fA(P):∃b,(b=true↔P):=by
 by_cases h:P
 .exact⟨true,⟨λ_=>h,λ_=>rfl⟩⟩
 .exact⟨false,⟨λh=>(by cases h),λc=>absurd c h⟩⟩
end
section
open Go.RowKit AI
attribute [local irreducible] bp.wp
def Yj{b:By}{w}(hb:cC 1 b=true)(hw:xl w)(h0:0<=w.off)(h1:w.off<=1048576)(hl:b.length<=4294967296):FW [.r b,.i w.off,.r w.data,.b w.cut]=some [.r (iG b w)]:=by
 have hd:=hw.2;refine gp ?_;refine eI rfl hb oO oO om rfl (nW ?_);refine dn (λhc=>?_) (λhc=>?_)
 .have hc:w.cut=true:=hc;refine uR ?_;refine Ml rfl (uR ?_);refine lK ⟨by exact oO,by exact oO,by exact oO,kQ hb⟩ (uR ?_);refine bm ?_;show[L.r _]=_;unfold iG;rw[bB hc];congr 2;rw[show(((min (b.length:Int) w.off).toNat-Int.toNat 0:Nat):Int).toNat=min b.length w.off.toNat by omega,List.take_eq_take_iff];omega
 have hc:¬w.cut=true:=by rw[show w.cut=false from hc];decide
 refine En ?_;refine wp_loop (I:=λa=>∃m:Nat,a=[.r (b++List.replicate m jv)]/\m<=w.off.toNat-b.length) (mu:=λa=>match a with|[.r r]=>w.off.toNat-r.length|_=>0) ⟨0,by show[L.r b]=_;simp,om⟩ ?_;rintro a ⟨m,rfl,e1⟩;have hl2:(b++List.replicate m jv).length=b.length+m:=by simp
 have hR:cC 1 (b++List.replicate m jv)=true:=BA hb (F' rfl);refine iq (λhc=>?_) (λhc=>?_)
 .have hlt:((b++List.replicate m jv).length:Int)<w.off:=fc hc;refine uR ?_;refine eI hR rfl oO oO om rfl (nW ?_);refine bm ⟨⟨m+1,?_,om⟩,?_⟩
  .rw[List.replicate_succ',<-dr];rfl
  .show w.off.toNat- ((b++List.replicate m jv)++_).length<w.off.toNat- (b++List.replicate m jv).length;rw[cw];show w.off.toNat- ((b++List.replicate m jv).length+1)<_;omega
 have hge:¬((b++List.replicate m jv).length:Int)<w.off:=gi hc;have hm:m=w.off.toNat-b.length:=om;refine bm ?_;obtain⟨g,hg⟩:∃g,b++List.replicate m jv=g:=⟨_,rfl⟩
 have abN:iG b w=g.take w.off.toNat++w.data++b.drop (w.off.toNat+w.data.length):=by
  unfold iG;rw[bG (by assumption),<-hm,hg]
 have iV:g.drop (w.off.toNat+w.data.length)=b.drop (w.off.toNat+w.data.length):=by
  rw[<-hg,Qy];rw[show(List.replicate m jv).drop (w.off.toNat+w.data.length-b.length)=[]from sJ (by simp;omega),gd]
 rw[hg]at hl2 hR hge;rw[hg];refine uR ?_;refine iU (n:=w.off+w.data.length) (by rfl) om om (uR ?_);refine dn (λhc=>?_) (λhc=>?_)
 .have nk:(g.length:Int)<w.off+w.data.length:=fc hc;refine uR ?_;refine lK ⟨by exact oO,h0,by exact oO,kQ hR⟩ (uR ?_);refine eI (r:=g.take w.off.toNat++w.data) (EP hR) hw.1 oO oO om ?_ ?_
  .try dsimp only[At.ev,d1,d2,d3,d4,d5,d6,d7,d8,d9,e0,List.map,cZ,Kd.pv]
   rw[show((w.off.toNat-Int.toNat 0:Nat):Int).toNat=w.off.toNat by omega]
  refine nW ?_;refine bm ?_;show[L.r _]=_;rw[abN,<-iV,sJ om,gd]
 .have hle:¬(g.length:Int)<w.off+w.data.length:=gi hc;refine uR ?_;refine lK ⟨h0,by exact oO,by exact oO,kQ hR⟩ (nW ?_);refine UW ⟨hw.1,by exact oO⟩ rfl (nW ?_);refine bm ?_;show[L.r _]=_;rw[abN,<-iV];have e:min w.data.length (((w.off+(w.data.length:Int)).toNat-w.off.toNat:Nat):Int).toNat=w.data.length:=om;rw[e,jX]
def axq{s:gh}{i}(h:i<s.size):∃b,s[i]?=some b:=⟨s[i],getElem?_pos s i h⟩
def TG{s:gh}{i b}(h:s[i]?=some b):i<s.size:=by
 rcases nw i s.size with c|c
 .exact c
 .rw[getElem?_neg s i (by simpa using c)]at h;cases h
def Zh(s)(hs:s.size<=4611686018427387904){b}(hb:b=true↔gG s):Dj [.s s]=some [.b b]:=by
 refine bJ ?_;refine En ?_;refine wp_loop (I:=λa=>∃i:Nat,a=[.i i]/\i<=s.size/\∀(j:Nat)(c:UInt8),j<i->s[j]?=some c->lA c.toNat) (mu:=cN s.size) ⟨0,rfl,om,λj c hj=>by omega⟩ ?_;rintro a ⟨i,rfl,e1,e2⟩;refine nW ?_;refine GF (uR ?_);refine dn (λhc=>?_) (λhc=>?_)
 .have hi:i<s.size:=by have:(i:Int)<s.size:=fc hc;omega
  obtain⟨c,hcc⟩:=axq hi;refine aAe (b:=c) oO (by exact hcc) (nW ?_);refine bO (dp (¬lA c.toNat)) ?_ ?_
  .repeat' first
    |(refine cD rfl (λhx=>?_) (λhx=>?_))
    |(refine uT rfl ?_)
   all_goals
    refine bm ?_;show dp (¬lA c.toNat) _
    try dsimp only[At.ev,d1,d2,d3,d4,d5,d6,d7,d8,d9,e0,List.map,cZ,Kd.pv]
    first
     |exact qt (P:=¬lA c.toNat) (by unfold lA;omega)
     |exact fK (P:=¬lA c.toNat) (by unfold lA;omega)
     |exact fF (P:=¬lA c.toNat) (by unfold lA;omega)
  .rintro _ ⟨t,rfl,ht⟩;refine nW ?_;refine dn (λhn=>?_) (λhn=>?_)
   .have aFg:=ht.1 hn;refine bm ?_;show[L.b false]=[.b b]
    rw[gZ hb λh=>aFg (h.1 i c hcc)]
   .have aFh:lA c.toNat:=jr.1 λh=>by
     have:=ht.2 h;rw[show t=false from hn]at this;cases this
    refine cj i ?_;refine bm ⟨⟨i+1,?_,om,λj d hj hd=>?_⟩,?_⟩
    .rfl
    .by_cases he:j=i
     .subst he;rw[hcc]at hd;cases hd;exact aFh
     .exact e2 j d om hd
    .show s.size- (((i+1:Nat):Int)).toNat<s.size-i;omega
 .have hi:¬i<s.size:=by have:¬(i:Int)<s.size:=gi hc;omega
  refine bm ?_;refine bO (dp (gG s)) ?_ ?_
  .refine GF (uR ?_);have hall:∀(j:Nat)(c:UInt8),s[j]?=some c->lA c.toNat:=λj c hj=>e2 j c (by have:=TG hj;omega) hj
   refine dn (λhx=>?_) (λhx=>?_)
   .have hx:(1:Int)<=s.size:=fc hx;refine GF (uR ?_);refine bm ?_;exact fK (show((s.size:Int)<=40)↔gG s from⟨λh=>⟨hall,om,om⟩,λh=>by have:=h.2.2;omega⟩)
   .have hx:¬(1:Int)<=s.size:=gi hx;refine bm (fF λh=>hx (by have:=h.2.1;omega))
  .rintro _ ⟨t,rfl,ht⟩;refine nW ?_;refine bm ?_;show[L.b t]=[.b b]
   rw[kK.2 (ht.trans hb.symm)]
def N5{α:Type}{p}:∀{l:List α},(∀x∈l.dropWhile p,p x=true)->∀x∈l,p x=true
 |[],_,x,c=>by cases c
 |a::l,h,x,c=>by
  rw[List.dropWhile_cons]at h;split at h
  .rename_i d;rcases fh.1 c with rfl|c
   .exact d
   .exact N5 h x c
  .rename_i d;exact absurd (h a jg) d
def X8{α:Type}{p}:∀{l:List α},(∀x∈l,p x=true)->l.dropWhile p=[]
 |[],_=>rfl
 |a::l,h=>by
  rw[List.dropWhile_cons,bB (h a jg)];exact X8 λx c=>h x (je _ c)
def aDe(l cs):Lib.trimS l cs=[]↔∀x∈l,cs.contains x=true:=by
 unfold Lib.trimS Lib.trimLeftS Lib.trimRightS;constructor
 .intro h x d;have e:∀y∈(l.reverse.dropWhile (cs.contains ·)).reverse,cs.contains y=true:=N5 λy c=>by rw[h]at c;cases c
  exact N5 (l:=l.reverse) (λy c=>e y (acF.2 c)) x (acF.2 d)
 .intro h;rw[show l.reverse.dropWhile (cs.contains ·)=[]from X8 λx d=>h x (acF.1 d)];rfl
def Eo:List UInt8:=[97,98,99,100,101,102,103,104,105,106,107,108,109,110,111,112,113,114,115,116,117,118,119,120,121,122,48,49,50,51,52,53,54,55,56,57,46,45]
def avb:∀n:Nat,n<256->(Eo.contains (UInt8.ofNat n)=true↔((97<=n/\n<=122)\/(48<=n/\n<=57)\/n=46\/n=45)):=by decide
def chars(s:gh)(i:Nat):s[i]?=s.data.toList[i]?:=by
 have c:s.data.toList.length=s.size:=Is;rcases nw i s.size with h|h
 .rw[getElem?_pos s i h,db om];simp[ByteArray.getElem_eq_getElem_data]
 .rw[getElem?_neg s i (by simpa using h),nA om]
def xq(s)(q:s.size<=4611686018427387904){b}(o:b=true↔gG s):Ar [.s s]=some [.b b]:=by
 have j:s.data.toList.length=s.size:=Is;have hall:(∀x∈s.data.toList,Eo.contains x=true)↔∀(i:Nat)(c:UInt8),s[i]?=some c->lA c.toNat:=by
  have n:∀x:UInt8,Eo.contains x=true↔lA x.toNat:=λx=>by
   have:=avb x.toNat x.toNat_lt
   rwa [UInt8.ofNat_toNat]at this
  constructor
  .exact λh i c m=>(n c).1 (h c (eN ((chars s i).symm.trans m)))
  .intro h x d;obtain⟨i,m⟩:=List.mem_iff_getElem?.1 d;exact(n x).2 (h i x ((chars s i).trans m))
 have f:∀l:List UInt8,((⟨l.toArray⟩:gh).toList==(⟨#[]⟩:gh).toList)=true↔l=[]:=λl=>by
  rw[beq_iff_eq,Lib.toList_data,Lib.toList_data]
 refine bJ ?_;refine bO (dp (gG s)) ?_ ?_
 .refine mP rfl (nW ?_);have g:((s.toList==(⟨#[]⟩:gh).toList)=true)↔s.size=0:=by
   rw[beq_iff_eq,Lib.toList_data,Lib.toList_data,<-j];exact⟨λh=>by rw[h];rfl,λh=>nu h⟩
  refine dn (λd=>?_) (λd=>?_)
  .have r:1<=s.size:=by
    rcases Nat.eq_zero_or_pos s.size with h|h
    .rw[g.2 h]at d;cases d
    .exact h
   refine GF (uR ?_);refine dn (λe=>?_) (λe=>?_)
   .have e:(s.size:Int)<=40:=fc e;refine du (l:=[.s ⟨(Lib.trimS s.data.toList Eo).toArray⟩]) ?_ rfl rfl ?_
    .exact bB ⟨om,dc,dc⟩
    refine nW ?_;refine mP rfl (nW ?_);refine bm ⟨_,rfl,?_⟩;rw[f,aDe,hall];exact⟨λh=>⟨h,om,om⟩,λh=>h.1⟩
   .have e:¬(s.size:Int)<=40:=gi e;exact bm (fF λh=>e (by have:=h.2.2;omega))
  .exact bm (fF λh=>by
    have d:(!(s.toList==(⟨#[]⟩:gh).toList))=false:=d;rw[Bool.not_eq_false']at d;have:=g.1 d;have:=h.2.1;omega)
 .rintro _ ⟨t,rfl,p⟩;refine nW ?_;refine bm ?_;show[L.b t]=[.b b]
  rw[kK.2 (p.trans o.symm)]
def Wv{b c k}(h)(d:¬(okW c[k]/\(dJ b (c.take (k+1))).length<=1048576)):¬okF b c:=λe=>d (rR.1 e.2 k h h)
def ajn{b w}(h:okW w)(f:1048576<w.data.length):1048576< (iG b w).length:=by
 obtain⟨c,g,d⟩:=h;have e:¬w.cut=true:=λh=>d ⟨h,om⟩
 have:=N8 (b:=b) c;unfold tH at this;rw[bG e]at this;omega
def ZI{f}(hf:jU f)(hs:f.name.size<=4611686018427387904){b}(hb:b=true↔gG f.name/\okF f.base f.bS):Fb [.s f.name,.r f.base,.r (f.bS.map dD)]=some [.b b]:=by
 obtain⟨hr,hl,hp,hw⟩:=hf;obtain⟨bn,wP⟩:=fA (gG f.name);refine bJ ?_;refine bO (dp (¬(gG f.name/\f.base.length<=1048576))) ?_ ?_
 .refine bR (Zh f.name hs wP) ?_;refine dn (λhx=>?_) (λhx=>?_)
  .exact bm (er λh=>by rw[wP.2 h.1]at hx;cases hx)
  .have hx:(!bn)=false:=hx;have hn:gG f.name:=wP.1 (by simpa using hx);refine uR ?_;exact bm (fK (show(1048576:Int)<f.base.length↔_ from⟨λh1 h2=>by omega,λh=>qX λh1=>h ⟨hn,om⟩⟩))
 rintro _ ⟨t,rfl,ht⟩;refine nW ?_;refine dn (λhx=>?_) (λhx=>?_)
 .refine bm ?_;show[L.b false]=[.b b]
  rw[gZ hb λh=>ht.1 hx ⟨h.1,h.2.1⟩]
 have hbase:gG f.name/\f.base.length<=1048576:=jr.1 λh=>by rw[ht.2 h]at hx;cases hx
 refine bO (λxs=>xs=[]/\b=true) ?_ ?_;rotate_left
 .rintro _ ⟨rfl,h⟩;refine nW ?_;refine bm ?_;show[L.b true]=[.b b]
  rw[h]
 refine wp_loop (I:=λa=>∃i:Nat,a=[.r (dJ f.base (f.bS.take i)),.i i]/\i<=f.bS.length/\wE f.base f.bS i) (mu:=gX f.bS.length) ⟨0,rfl,om,Rs⟩ ?_;rintro a ⟨i,rfl,e1,e2⟩;have qT:=r8 hbase.2 e2 e1;have ub:cC 1 (dJ f.base (f.bS.take i))=true:=uO hr λw hx=>hw w (ob hx)
 refine iq (λhc=>?_) (λhc=>?_);rotate_left
 .have hi:i=f.bS.length:=by
   have:¬(i:Int)< (f.bS.map dD).length:=gi hc;rw[bA]at this;omega
  refine bm ⟨rfl,hb.2 ⟨hbase.1,hbase.2,rR.2 (by rw[<-hi];exact e2)⟩⟩
 have hi:i<f.bS.length:=by
  have:(i:Int)< (f.bS.map dD).length:=fc hc;rw[bA]at this;omega
 have pS:=hw _ (cV hi);have hno:=Wv (b:=f.base) hi;have hstep:=UI hi e2;refine dV (f:=dD) (j:=i) rfl rfl hi rfl ?_;rw[vX hi]at hno hstep;have dX:=vX (b:=f.base) hi;generalize f.bS[i]=w at pS hno hstep dX;generalize hg:dJ f.base (f.bS.take i)=g at qT ub hno hstep dX;refine uR ?_;refine bO (dp (¬okW w\/1048576<w.data.length)) ?_ ?_
 .refine iq (λhy=>?_) (λhy=>?_)
  .have hy:w.off<0:=fc hy;exact bm (er (.inl λh=>by have:=h.1;omega))
  have hy:¬w.off<0:=gi hy;refine iq (λhz=>?_) (λhz=>?_)
  .have hz:1048576<w.off:=fc hz;exact bm (er (.inl λh=>by have:=h.2.1;omega))
  have hz:¬1048576<w.off:=gi hz;refine dn (λhu=>?_) (λhu=>?_)
  .refine iq (λhv=>?_) (λhv=>?_)
   .have hv:(0:Int)<w.data.length:=fc hv;exact bm (er (.inl λh=>h.2.2 ⟨hu,om⟩))
   .have hv:¬(0:Int)<w.data.length:=gi hv;refine uR ?_;exact bm (fK (show(1048576:Int)<w.data.length↔_ from⟨λh=>by omega,λh=>by
     rcases h with h|h
     .exact absurd ⟨om,om,λk=>by omega⟩ h
     .omega⟩))
  .have hu:¬w.cut=true:=by rw[show w.cut=false from hu];decide
   refine uR ?_;exact bm (fK (show(1048576:Int)<w.data.length↔_ from⟨λh=>.inr om,λh=>by
    rcases h with h|h
    .exact absurd ⟨om,om,λk=>hu k.1⟩ h
    .omega⟩))
 rintro _ ⟨u,rfl,hu⟩;refine nW ?_;refine dn (λhy=>?_) (λhy=>?_)
 .refine bm ?_;show[L.b false]=[.b b]
  rw [gZ hb λh=>hno (λk=>by
   rcases hu.1 hy with q|q
   .exact q k.1
   .have:=ajn (b:=g) k.1 q;omega) h.2]
 have hy:¬(¬okW w\/1048576<w.data.length):=λh=>by rw[hu.2 h]at hy;cases hy
 have dQ:okW w:=jr.1 λh=>hy (.inl h)
 refine bR (Yj ub pS dQ.1 dQ.2.1 om) ?_;refine dn (λhz=>?_) (λhz=>?_)
 .have hz:(1048576:Int)< (iG g w).length:=fc hz;refine bm ?_;show[L.b false]=[.b b]
  rw[gZ hb λh=>hno (λk=>by omega) h.2]
 .have hz:¬(1048576:Int)< (iG g w).length:=gi hz;refine cj i ?_;refine bm ⟨⟨i+1,?_,om,hstep dQ om⟩,?_⟩
  .show[L.r _,L.i (((i+1:Nat):Int))]=_;rw[dX]
  .show f.bS.length- (((i+1:Nat):Int)).toNat<f.bS.length-i;omega
def awJ:gG ⟨#[120]⟩:=by
 refine⟨λi b h=>?_,dc,dc⟩;have:=TG h;obtain rfl:i=0:=by
  have:i<1:=this;omega
 cases h;exact .inl dc
def BZ{f}(hf:jU f){s}:(okF f.base f.bS->o_ [.s s,.r f.base,.r (f.bS.map dD)]=some [.r (dJ f.base f.bS)])/\(¬okF f.base f.bS->o_ [.s s,.r f.base,.r (f.bS.map dD)]=some [.r []]):=by
 obtain⟨b,hb⟩:=fA (gG ⟨#[120]⟩/\okF f.base f.bS);have hv:=ZI (f:=⟨⟨#[120]⟩,f.base,f.bS⟩) hf (by show ByteArray.size ⟨#[120]⟩<=4611686018427387904;decide) hb;constructor
 .intro ho;refine bJ ?_;refine bz hv ?_;rw[hb.2 ⟨awJ,ho⟩];refine uR ?_;refine cu ?_;obtain⟨hr,hl,hp,hw⟩:=hf;have hk:=rR.1 ho.2;refine bO (λxs=>xs=[.r (dJ f.base f.bS)]) ?_ ?_
  .refine wp_loop (I:=λa=>∃i:Nat,a=[.r (dJ f.base (f.bS.take i)),.i i]/\i<=f.bS.length) (mu:=gX f.bS.length) ⟨0,rfl,om⟩ ?_;rintro a ⟨i,rfl,e1⟩;have qT:=r8 ho.1 (k:=i) (λj hj h=>hk j hj om) e1;have ub:cC 1 (dJ f.base (f.bS.take i))=true:=uO hr λw hx=>hw w (ob hx)
   refine iq (λhc=>?_) (λhc=>?_)
   .have hi:i<f.bS.length:=by
     have:(i:Int)< (f.bS.map dD).length:=fc hc;rw[bA]at this;omega
    have pS:=hw _ (cV hi);have dQ:=(hk i hi hi).1;refine dV (f:=dD) (j:=i) rfl rfl hi rfl ?_;have dX:=vX (b:=f.base) hi;refine uR ?_;refine bz (Yj ub pS dQ.1 dQ.2.1 om) ?_;refine cj i ?_;refine bm ⟨⟨i+1,?_,om⟩,?_⟩
    .show[L.r _,L.i (((i+1:Nat):Int))]=_;rw[dX]
    .show f.bS.length- (((i+1:Nat):Int)).toNat<f.bS.length-i;omega
   .have hi:i=f.bS.length:=by
     have:¬(i:Int)< (f.bS.map dD).length:=gi hc;rw[bA]at this;omega
    refine bm ?_;show[L.r (dJ f.base (f.bS.take i))]=_;rw[hi,jX]
  .rintro _ rfl;have qT:=r8 ho.1 hk (dz _);rw[jX]at qT;have ub:cC 1 (dJ f.base f.bS)=true:=uO hr hw;refine uR ?_;refine eI rfl ub oO oO om rfl (nW ?_);exact bm rfl
 .intro ho;refine bJ ?_;refine bz hv ?_;rw[gZ hb λh=>ho h.2];refine uR ?_;refine gY ?_;exact bm rfl
def xT(d:Dk)(i:Nat):Prop:=∀h:i<d.files.length,(gG d.files[i].name/\okF d.files[i].base d.files[i].bS)/\∀c:0<i,qF d.files[i].name (d.files[i-1]'om).name=false
def alw{d}(hd:la d){b}(hb:b=true↔jm d):Jv [.i d.cap,.i d.left,.r (d.files.map bK)]=some [.b b]:=by
 refine bJ ?_;refine bO (dp (¬(0<=d.cap∧-1<=d.left/\d.files.length<=256))) ?_ ?_
 .refine iq (λhx=>?_) (λhx=>?_)
  .have hx:d.cap<0:=fc hx;exact bm (er om)
  have hx:¬d.cap<0:=gi hx;refine iq (λhy=>?_) (λhy=>?_)
  .have hy:d.left< -1:=fc hy;exact bm (er om)
  have hy:¬d.left< -1:=gi hy;refine uR ?_;exact bm (fK (show(256:Int)< (d.files.map bK).length↔_ by rw[bA];omega))
 rintro _ ⟨t,rfl,ht⟩;refine nW ?_;refine dn (λhx=>?_) (λhx=>?_)
 .refine bm ?_;show[L.b false]=[.b b]
  rw[gZ hb λh=>ht.1 hx h.1]
 have Ic:0<=d.cap∧-1<=d.left/\d.files.length<=256:=jr.1 λh=>by rw[ht.2 h]at hx;cases hx
 refine bO (λxs=>xs=[]/\b=true) ?_ ?_;rotate_left
 .rintro _ ⟨rfl,h⟩;refine nW ?_;refine bm ?_;show[L.b true]=[.b b]
  rw[h]
 refine wp_loop (I:=λa=>∃i:Nat,a=[.i i]/\i<=d.files.length/\∀j,j<i->xT d j) (mu:=cN d.files.length) ⟨0,rfl,om,λj hj=>by omega⟩ ?_;rintro a ⟨i,rfl,e1,e2⟩;refine iq (λhc=>?_) (λhc=>?_);rotate_left
 .have hi:i=d.files.length:=by
   have:¬(i:Int)< (d.files.map bK).length:=gi hc;rw[bA]at this;omega
  exact bm ⟨rfl,hb.2 ⟨Ic,λj hj=>e2 j om hj⟩⟩
 have hi:i<d.files.length:=by
  have:(i:Int)< (d.files.map bK).length:=fc hc;rw[bA]at this;omega
 have nq:=hd.2 _ (cV hi);refine bO (dp (¬xT d i)) ?_ ?_;rotate_left
 .rintro _ ⟨u,rfl,hu⟩;refine nW ?_;refine dn (λhy=>?_) (λhy=>?_)
  .refine bm ?_;show[L.b false]=[.b b]
   rw[gZ hb λh=>hu.1 hy (h.2 i)]
  have hg:xT d i:=jr.1 λh=>by rw[hu.2 h]at hy;cases hy
  refine cj i ?_;refine bm ⟨⟨i+1,?_,om,λj hj=>?_⟩,?_⟩
  .rfl
  .by_cases he:j=i
   .subst he;exact hg
   .exact e2 j om
  .show d.files.length- (((i+1:Nat):Int)).toNat<d.files.length-i;omega
 refine dx bK i hi ?_;obtain⟨bf,wQ⟩:=fA (gG d.files[i].name/\okF d.files[i].base d.files[i].bS);refine bR (ZI nq.1 nq.2 wQ) ?_;refine dn (λhy=>?_) (λhy=>?_)
 .exact bm (er λh=>by rw[wQ.2 (h hi).1]at hy;cases hy)
 have hy:(!bf)=false:=hy;have dQ:=wQ.1 (by simpa using hy);refine iq (λhz=>?_) (λhz=>?_)
 .have h0:0<i:=by have:(0:Int)<i:=fc hz;omega
  refine dx bK i hi ?_;refine eb (((i-1:Nat):Int)) oO ?_;refine dV (f:=bK) (j:=i-1) rfl rfl om rfl (uR ?_);refine mP rfl (nW ?_);refine bm ⟨qF d.files[i].name (d.files[i-1]'om).name,rfl,?_⟩;constructor
  .intro h k;have:=(k hi).2 h0;rw[h]at this;cases this
  .intro h;rcases acG (qF d.files[i].name (d.files[i-1]'om).name)with q|q
   .exact q
   .exact absurd (λ_=>⟨dQ,λ_=>q⟩) h
 .have h0:¬0<i:=by have:¬(0:Int)<i:=gi hz;omega
  exact bm (fF λh=>h λ_=>⟨dQ,λk=>absurd k h0⟩)
def D4{d s}(hl:d.files.length<=4294967296){r:Int}(hr:∀i,lF d s i->r=i)(hn:og d s->r= -1):EJ [.i d.cap,.i d.left,.r (d.files.map bK),.s s]=some [.i r]:=by
 refine bJ ?_;refine bO (λxs=>xs=[]/\og d s) ?_ ?_;rotate_left
 .rintro _ ⟨rfl,h⟩;refine nW ?_;refine bm ?_;show[L.i (-1)]=[.i r]
  rw[hn h]
 refine wp_loop (I:=λa=>∃i:Nat,a=[.i i]/\i<=d.files.length/\∀(j:Nat)(h:j<d.files.length),j<i->(d.files[j].name.toList==s.toList)=false) (mu:=cN d.files.length) ⟨0,rfl,om,λj _ hj=>by omega⟩ ?_;rintro a ⟨i,rfl,e1,e2⟩;refine iq (λhc=>?_) (λhc=>?_);rotate_left
 .have hi:i=d.files.length:=by
   have:¬(i:Int)< (d.files.map bK).length:=gi hc;rw[bA]at this;omega
  exact bm ⟨rfl,λj hj=>e2 j hj om⟩
 have hi:i<d.files.length:=by
  have:(i:Int)< (d.files.map bK).length:=fc hc;rw[bA]at this;omega
 refine dx bK i hi ?_;refine mP rfl (nW ?_);refine dn (λhy=>?_) (λhy=>?_)
 .refine bm ?_;show[L.i i]=[.i r]
  rw[hr i ⟨hi,hy,λj hj=>e2 j om hj⟩]
 .refine cj i ?_;refine bm ⟨⟨i+1,?_,om,λj hj uc=>?_⟩,?_⟩
  .rfl
  .by_cases he:j=i
   .subst he;exact hy
   .exact e2 j hj om
  .show d.files.length- (((i+1:Nat):Int)).toNat<d.files.length-i;omega
def Rd(d:Dk)(s:gh):Prop:=jm d/\gG s/\d.left≠0
def HI{d}(n:la d){s}(o:s.size<=4611686018427387904):∃e,HQ [.i d.cap,.i d.left,.r (d.files.map bK),.s s]=some [.i e]/\(e=0↔Rd d s):=by
 obtain⟨bd,f⟩:=fA (jm d);obtain⟨j,g⟩:=fA (gG s)
 suffices h:Fo Sv [.i d.cap,.i d.left,.r (d.files.map bK),.s s]=some [.i (if bd=false\/j=false then 1 else if d.left=0 then 13 else 0)]by
  refine⟨_,h,?_⟩;unfold Rd;rw[<-f,<-g];cases bd<;>cases j<;>simp
 refine bJ ?_;refine bO (dp (bd=false\/j=false)) ?_ ?_
 .refine bR (alw n f) ?_;refine dn (λc=>?_) (λc=>?_)
  .have c:(!bd)=true:=c;exact bm (er (.inl (by simpa using c)))
  .have c:(!bd)=false:=c;refine bR (Zh s o g) ?_;refine bm ⟨_,rfl,?_⟩;cases bd<;>simp_all
 rintro _ ⟨t,rfl,m⟩;refine nW ?_;refine dn (λc=>?_) (λc=>?_)
 .refine bm ?_;show[L.i 1]=_;rw[bB (m.1 c)]
 have i:¬(bd=false\/j=false):=λh=>by rw[m.2 h]at c;cases c
 refine iq (λl=>?_) (λl=>?_)
 .refine bm ?_;show[L.i 13]=_;rw[bG i,bB (fc l)]
 .refine bm ?_;show[L.i 0]=_;rw[bG i,bG (gi l)]
def Ju(d)(s):og d s\/∃i,lF d s i:=by
 have : ∀n,n<=d.files.length->(∀(j:Nat)(h:j<d.files.length),j<n->(d.files[j].name.toList==s.toList)=false)\/∃i,lF d s i:=λn=>by
  induction n with
  |zero=>exactλ_=>.inl λj _ c=>om
  |succ n ih=>
   intro g;rcases ih om with h|h
   .rcases acG (d.files[n].name.toList==s.toList)with q|q
    .exact .inr ⟨n,om,q,λj c=>h j om c⟩
    .refine .inl λj c e=>?_
     by_cases f:j=n
     .subst f;exact q
     .exact h j c om
   .exact .inr h
 rcases this _ (dz _)with h|h
 .exact .inl λj c=>h j c c
 .exact .inr h
def lF.uniq{d s i j}(t:lF d s i)(u:lF d s j):i=j:=by
 obtain⟨z,m,x⟩:=t;obtain⟨b1,q,y⟩:=u;rcases C1 i j with h|h|h
 .rw[y i h]at m;cases m
 .exact h
 .rw[x j h]at q;cases q
def K3{d}(u:la d){s}(w:s.size<=4611686018427387904):
 (∀i,Rd d s->lF d s i->qy [.i d.cap,.i d.left,.r (d.files.map bK),.s s]=some [.i i,.i 0])/\(¬(Rd d s/\∃i,lF d s i)->∃e,e≠0/\qy [.i d.cap,.i d.left,.r (d.files.map bK),.s s]=some [.i (-1),.i e]):=by
 obtain⟨e,n,m⟩:=HI u w;obtain⟨r,f,g⟩:∃r:Int,(∀i,lF d s i->r=i)/\(og d s->r= -1):=by
  rcases Ju d s with h| ⟨i,h⟩
  .exact⟨-1,⟨λi o=>(by obtain⟨p,l,_⟩:=o;rw[h i p]at l;cases l),λ_=>rfl⟩⟩
  .exact⟨i,⟨λj x=>(by rw[h.uniq x]),λq=>(by obtain⟨p,l,_⟩:=h;rw[q i p]at l;cases l)⟩⟩
 have v:=D4 (s:=s) u.1 f g;constructor
 .intro i c o;refine bJ ?_;refine bR n ?_;refine bT rfl (λh=>h (m.2 c)) ?_;refine bz v ?_;have:=f i o;subst this;refine uR ?_;refine bT rfl oO ?_;refine bm ?_;rfl
 .intro t;by_cases c:Rd d s
  .have q:og d s:=(Ju d s).resolve_right λh=>t ⟨c,h⟩
   refine⟨6,dc,?_⟩;refine bJ ?_;refine bR n ?_;refine bT rfl (λh=>h (m.2 c)) ?_;refine bz v ?_;rw[g q];refine uR ?_;refine gY ?_;exact bm rfl
  .refine⟨e,λh=>c (m.1 h),?_⟩;refine bJ ?_;refine bR n ?_;refine c9 rfl (λh=>c (m.1 h)) ?_;exact bm rfl
def atF{d}(A:la d){s}(D:s.size<=4611686018427387904):
 (∀c,Wh d s c->∀off n:Int,(lE c off n->vf [.i d.cap,.i d.left,.r (d.files.map bK),.s s,.i off,.i n]=some [.r [],.i 2])/\(¬lE c off n->vf [.i d.cap,.i d.left,.r (d.files.map bK),.s s,.i off,.i n]=some [.r ((c.take (off+n).toNat).drop off.toNat),.i 0]))/\((∀c,¬Wh d s c)->∃e,e≠0/\∀off n:Int,vf [.i d.cap,.i d.left,.r (d.files.map bK),.s s,.i off,.i n]=some [.r [],.i e]):=by
 obtain⟨y,no⟩:=K3 A D;constructor
 .rintro c ⟨B,E,F,i,w,rfl⟩ off n;have l:=y i ⟨B,E,F⟩ w;have m:=w.1;have p:=A.2 _ (cV m);have q:=(B.2 i m).1.2;have G:=(BZ p.1 (s:=d.files[i].name)).1 q;have hlen:=r8 q.1 (rR.1 q.2) (dz _);rw[jX]at hlen;have f:=uO p.1.1 p.1.2.2.2;have u:∀{o:List L},(∀x:Bool,(x=true↔lE (dJ d.files[i].base d.files[i].bS) off n)->(x=true->o=[.r [],.i 2])/\(x=false->o=[.r (((dJ d.files[i].base d.files[i].bS).take (off+n).toNat).drop off.toNat),.i 0]))->vf [.i d.cap,.i d.left,.r (d.files.map bK),.s s,.i off,.i n]=some o:=λ{o}z=>by
   refine bJ ?_;refine bR l ?_;refine cu ?_;refine dx bK i m ?_;refine bz G ?_;generalize dJ d.files[i].base d.files[i].bS=g at hlen f z;refine bO (dp (lE g off n)) ?_ ?_
   .unfold lE;refine uR ?_;refine cD rfl (λH=>bm (er om)) λH=>uR ?_
    refine cD rfl (λI=>bm (er om)) λI=>uR ?_
    refine cD rfl (λJ=>bm (er om)) λJ=>uR ?_
    refine nM (n:=(g.length:Int) -off) rfl om om (uR ?_);exact bm (fK om)
   .rintro _ ⟨x,rfl,r⟩;refine nW ?_;refine dn (λv=>?_) (λv=>?_)
    .rw[(z x r).1 v];exact bm rfl
    have t:¬lE g off n:=λh=>by rw[r.2 h]at v;cases v
    unfold lE at t;rw[(z x r).2 v];refine iU (n:=off+n) rfl om om (uR ?_);refine lK ⟨by show 0<=off;omega,by show off<=off+n;omega,by show(off+n).toNat<=g.length;omega,kQ f⟩ (uR ?_);refine bm ?_;show[L.r ((g.drop off.toNat).take ((((off+n).toNat-off.toNat:Nat):Int)).toNat),L.i 0]=_;rw[eO,List.drop_take]
  exact⟨λh=>u λx r=>⟨λ_=>rfl,λj=>by rw[r.2 h]at j;cases j⟩,λh=>u λx r=>⟨λj=>absurd (r.1 j) h,λ_=>rfl⟩⟩
 .intro t;obtain⟨e,C,l⟩:=no (λ⟨h,i,w⟩=>t _ ⟨h.1,h.2.1,h.2.2,i,w,rfl⟩);refine⟨e,C,λoff n=>bJ ?_⟩;refine bR l ?_;refine c9 rfl C ?_;exact bm rfl
def axD{d}(n:la d){s}(v:s.size<=4611686018427387904):
 (∀c,Wh d s c->uX [.i d.cap,.i d.left,.r (d.files.map bK),.s s]=some [.r c,.i 0])/\((∀c,¬Wh d s c)->∃e,e≠0/\uX [.i d.cap,.i d.left,.r (d.files.map bK),.s s]=some [.r [],.i e]):=by
 obtain⟨o,no⟩:=K3 n v;constructor
 .rintro c ⟨p,w,x,i,l,rfl⟩;have g:=o i ⟨p,w,x⟩ l;have j:=l.1;have q:=n.2 _ (cV j);have r:=(p.2 i j).1.2;have y:=(BZ q.1 (s:=d.files[i].name)).1 r;have f:qZ [.i d.cap,.i d.left,.r (d.files.map bK),.s s]=some [.i (dJ d.files[i].base d.files[i].bS).length,.i 0]:=by
   refine bJ ?_;refine bR g ?_;refine cu ?_;refine dx bK i j ?_;refine bR y ?_;exact bm rfl
  have m:vf [.i d.cap,.i d.left,.r (d.files.map bK),.s s,.i 0,.i (dJ d.files[i].base d.files[i].bS).length]=some [.r (dJ d.files[i].base d.files[i].bS),.i 0]:=by
   rw[((atF n v).1 _ ⟨p,w,x,i,l,rfl⟩ 0 _).2 (by unfold lE;omega),Int.zero_add,eO,jX,zK,sI]
  refine bJ ?_;refine bR f ?_;refine cu ?_;refine bz m ?_;exact bm rfl
 .intro t;obtain⟨e,u,g⟩:=no (λ⟨h,i,l⟩=>t _ ⟨h.1,h.2.1,h.2.2,i,l,rfl⟩);refine⟨e,u,?_⟩;have f:qZ [.i d.cap,.i d.left,.r (d.files.map bK),.s s]=some [.i 0,.i e]:=by
   refine bJ ?_;refine bR g ?_;refine c9 rfl u ?_;exact bm rfl
  refine bJ ?_;refine bR f ?_;refine c9 rfl u ?_;exact bm rfl
def Nk{w n}(e: -4611686018427387904<=w.off)(f:w.off<=4611686018427387904)(d:xl w):z8 [.i w.off,.r w.data,.b w.cut,.i n]=some [.i (tH n w)]:=by
 have g:=d.2;refine bJ ?_;refine dn (λc=>?_) (λc=>?_)
 .refine Ml rfl (nW ?_);refine bm ?_;show[L.i (min n w.off)]=_;unfold tH;rw[bB (show w.cut=true from c)]
 .refine uR ?_;refine fg (w.off+w.data.length) (by rfl) ?_;refine Ln rfl (nW ?_);refine bm ?_;show[L.i (max n (w.off+w.data.length))]=_;unfold tH;rw[bG (by rw[show w.cut=false from c];decide)]
def Xb{f}(hf:jU f){b}(hb:b=true↔okF f.base f.bS):Fw [.s f.name,.r f.base,.r (f.bS.map dD)]=some [.b b]:=by
 obtain⟨hr,hl,hp,hw⟩:=hf;refine gp ?_;refine dn (λhx=>?_) (λhx=>?_)
 .have hx:(1048576:Int)<f.base.length:=fc hx;refine bm ?_;show[L.b false]=[.b b]
  rw[gZ hb λh=>by have:=h.1;omega]
 have hx:¬(1048576:Int)<f.base.length:=gi hx;have hbase:f.base.length<=1048576:=om;refine bO (λxs=>xs=[]/\b=true) ?_ ?_;rotate_left
 .rintro _ ⟨rfl,h⟩;refine nW ?_;refine bm ?_;show[L.b true]=[.b b]
  rw[h]
 refine uR ?_;refine wp_loop (I:=λa=>∃i:Nat,a=[.i (dJ f.base (f.bS.take i)).length,.i i]/\i<=f.bS.length/\wE f.base f.bS i) (mu:=gX f.bS.length) ⟨0,rfl,om,Rs⟩ ?_;rintro a ⟨i,rfl,e1,e2⟩;have qT:=r8 hbase e2 e1;refine iq (λhc=>?_) (λhc=>?_);rotate_left
 .have hi:i=f.bS.length:=by
   have:¬(i:Int)< (f.bS.map dD).length:=gi hc;rw[bA]at this;omega
  exact bm ⟨rfl,hb.2 ⟨hbase,rR.2 (by rw[<-hi];exact e2)⟩⟩
 have hi:i<f.bS.length:=by
  have:(i:Int)< (f.bS.map dD).length:=fc hc;rw[bA]at this;omega
 have pS:=hw _ (cV hi);have hno:=Wv (b:=f.base) hi;have hstep:=UI hi e2;refine dV (f:=dD) (j:=i) rfl rfl hi rfl ?_;rw[vX hi]at hno hstep;have dX:=vX (b:=f.base) hi;generalize f.bS[i]=w at pS hno hstep dX;generalize hg:dJ f.base (f.bS.take i)=g at qT hno hstep dX;refine uR ?_;refine bO (dp (¬okW w)) ?_ ?_
 .refine iq (λhy=>?_) (λhy=>?_)
  .have hy:w.off<0:=fc hy;exact bm (er (λh=>by have:=h.1;omega))
  have hy:¬w.off<0:=gi hy;refine iq (λhz=>?_) (λhz=>?_)
  .have hz:1048576<w.off:=fc hz;exact bm (er (λh=>by have:=h.2.1;omega))
  have hz:¬1048576<w.off:=gi hz;refine dn (λhu=>?_) (λhu=>?_)
  .refine uR ?_;exact bm (fK (show(0:Int)<w.data.length↔_ from⟨λh k=>k.2.2 ⟨hu,om⟩,λh=>qX λk=>h ⟨om,om,λq=>k om⟩⟩))
  .have hu:¬w.cut=true:=by rw[show w.cut=false from hu];decide
   exact bm (fF λh=>h ⟨om,om,λk=>hu k.1⟩)
 rintro _ ⟨u,rfl,hu⟩;refine nW ?_;refine dn (λhy=>?_) (λhy=>?_)
 .refine bm ?_;show[L.b false]=[.b b]
  rw[gZ hb λh=>hno (λk=>hu.1 hy k.1) h]
 have dQ:okW w:=jr.1 λh=>by
  rw[hu.2 h]at hy;cases hy
 have hlen:=N8 (b:=g) dQ.1;refine du (Nk (n:=g.length) (by have:=dQ.1;omega) (by have:=dQ.2.1;omega) pS) rfl rfl ?_;rw[<-hlen];refine iq (λhz=>?_) (λhz=>?_)
 .have hz:(1048576:Int)< (iG g w).length:=fc hz;refine bm ?_;show[L.b false]=[.b b]
  rw[gZ hb λh=>hno (λk=>by omega) h]
 .have hz:¬(1048576:Int)< (iG g w).length:=gi hz;refine cj i ?_;refine bm ⟨⟨i+1,?_,om,hstep dQ om⟩,?_⟩
  .show[L.i _,L.i (((i+1:Nat):Int))]=_;rw[dX]
  .show f.bS.length- (((i+1:Nat):Int)).toNat<f.bS.length-i;omega
def aCL{b:By}{w}(j:cC 1 b=true)(l:xl w)(o:okW w)(u:b.length<=1048576):Ku [.i w.off,.r w.data,.b w.cut,.r b]=some [.r (iG b w)]:=by
 obtain⟨s,v,x⟩:=o;have y:=l.2;refine bJ ?_;refine dn (λd=>?_) (λd=>?_)
 .have d:w.cut=true:=d;refine uR ?_;refine Ln (n:=w.off) oO (nW ?_);refine Ml rfl (uR ?_);refine lK ⟨by exact oO,by exact oO,by exact oO,kQ j⟩ (uR ?_);refine bm ?_;show[L.r _]=_;unfold iG;rw[bB d];congr 2;rw[show(((min (b.length:Int) w.off).toNat-Int.toNat 0:Nat):Int).toNat=min b.length w.off.toNat by omega,List.take_eq_take_iff];omega
 have d:¬w.cut=true:=by rw[show w.cut=false from d];decide
 have p:tH b.length w=max (b.length:Int) (w.off+w.data.length):=by unfold tH;rw[bG d]
 refine bO (λxs=>xs=[.r (b++List.replicate (w.off.toNat+w.data.length-b.length) jv)]) ?_ ?_
 .refine uR ?_;refine du (Nk (n:=b.length) om om l) rfl rfl ?_;rw[p];refine iq (λh=>?_) (λh=>?_)
  .have h:(b.length:Int)<max (b.length:Int) (w.off+w.data.length):=fc h;have e:max (b.length:Int) (w.off+w.data.length) -b.length=((w.off.toNat+w.data.length-b.length:Nat):Int):=om;have i:w.off.toNat+w.data.length-b.length<=8589934592:=om;have f:0<w.off.toNat+w.data.length-b.length:=om;refine uR ?_;refine eb (((w.off.toNat+w.data.length-b.length:Nat):Int)) e ?_;generalize w.off.toNat+w.data.length-b.length=m at i f;refine tE (r:=List.replicate m jv) ⟨by exact oO,by exact oO,by exact oO⟩ rfl (nW ?_);refine jy (r:=jv) oO (by simp only[At.ev,d3,d4,d5,d6,d8];rw[zK,Qv,bB f]) rfl ?_;refine nW ?_;refine eI j (F' rfl) oO oO om rfl (nW ?_);exact bm rfl
  .have h:¬(b.length:Int)<max (b.length:Int) (w.off+w.data.length):=gi h;refine bm ?_;show[L.r b]=_;rw[show w.off.toNat+w.data.length-b.length=0 by omega];simp
 rintro _ rfl;obtain⟨m,t⟩:∃m,m=w.off.toNat+w.data.length-b.length:=⟨_,rfl⟩
 rw[<-t];have q:(b++List.replicate m jv).length=b.length+m:=by simp
 have hR:cC 1 (b++List.replicate m jv)=true:=BA j (F' rfl);have c:iG b w=(b++List.replicate m jv).take w.off.toNat++w.data++(b++List.replicate m jv).drop (w.off.toNat+w.data.length):=by
  unfold iG;rw[bG d];congr 1
  .congr 1;rw[List.take_append,List.take_append,List.take_replicate,List.take_replicate];congr 2;omega
  .rw[Qy,show(List.replicate m jv).drop (w.off.toNat+w.data.length-b.length)=[]from sJ (by simp;omega),gd]
 generalize b++List.replicate m jv=g at q hR c;refine uR ?_;refine lK ⟨s,by exact oO,by exact oO,kQ hR⟩ (nW ?_);refine UW ⟨l.1,by exact oO⟩ rfl (nW ?_);refine bm ?_;show[L.r _]=_;rw[c];have e:min w.data.length (((g.length:Int).toNat-w.off.toNat:Nat):Int).toNat=w.data.length:=om;rw[e,jX]
def aeD{b:By}(c:cC 1 b=true)(d:b.length<=4294967296):MI [.r b]=some [.r b]:=by
 refine gp ?_;refine y6 (r:=[]) ⟨by exact oO,by exact oO,by exact oO,c⟩ (by simp only[At.ev,d3,d4,d5,d6,d8];rw[sJ ch]) (nW ?_);refine y6 (r:=b) ⟨by exact oO,by exact oO,by exact oO,c⟩ (by simp only[At.ev,d3,d4,d5,d6,d8];rw[zK,sI,eO,jX]) (nW ?_);exact bm rfl
def ry{b:By}(c:cC 1 b=true)(d:b.length<=4294967296):qp [.r b]=some []:=bB ⟨c,om⟩
def YN{f}(hf:jU f)(ho:okF f.base f.bS):G3 [.s f.name,.r f.base,.r (f.bS.map dD)]=some [.r (dJ f.base f.bS)]:=by
 obtain⟨b,hb⟩:=fA (okF f.base f.bS);have hv:=Xb hf hb;rw[hb.2 ho]at hv;obtain⟨hr,hl,hp,hw⟩:=hf;have hk:=rR.1 ho.2;refine bJ ?_;refine bR hv ?_;refine cu ?_;refine bz (ry hr hl) ?_;refine bO (λxs=>xs=[.r (dJ f.base f.bS)]) ?_ ?_
 .refine uR ?_;refine wp_loop (I:=λa=>∃i:Nat,a=[.i i,.r (dJ f.base (f.bS.take i))]/\i<=f.bS.length) (mu:=cN f.bS.length) ⟨0,rfl,om⟩ ?_;rintro a ⟨i,rfl,e1⟩;have qT:=r8 ho.1 (k:=i) (λj hj h=>hk j hj om) e1;have ub:cC 1 (dJ f.base (f.bS.take i))=true:=uO hr λw hx=>hw w (ob hx)
  refine iq (λhc=>?_) (λhc=>?_)
  .have hi:i<f.bS.length:=by
    have:(i:Int)< (f.bS.map dD).length:=fc hc;rw[bA]at this;omega
   have pS:=hw _ (cV hi);have dQ:=(hk i hi hi).1;refine dV (f:=dD) (j:=i) rfl rfl hi rfl ?_;have dX:=vX (b:=f.base) hi;refine uR ?_;refine bz (aCL ub pS dQ qT) ?_;refine cj i ?_;refine bm ⟨⟨i+1,?_,om⟩,?_⟩
   .show[L.i (((i+1:Nat):Int)),L.r _]=_;rw[dX]
   .show f.bS.length- (((i+1:Nat):Int)).toNat<f.bS.length-i;omega
  .have hi:i=f.bS.length:=by
    have:¬(i:Int)< (f.bS.map dD).length:=gi hc;rw[bA]at this;omega
   refine bm ?_;show[L.r (dJ f.base (f.bS.take i))]=_;rw[hi,jX]
 .rintro _ rfl;have qT:=r8 ho.1 hk (dz _);rw[jX]at qT;refine nW ?_;refine bz (aeD (uO hr hw) om) ?_;exact bm rfl
def Dp{f}(hf:jU f)(ho:okF f.base f.bS):sR [.s f.name,.r f.base,.r (f.bS.map dD)]=some [.i (dJ f.base f.bS).length]:=by
 obtain⟨hr,hl,hp,hw⟩:=hf;have hk:=rR.1 ho.2;refine gp ?_;refine bO (λxs=>xs=[.i (dJ f.base f.bS).length]) ?_ ?_;rotate_left
 .rintro _ rfl;refine nW ?_;exact bm rfl
 refine uR ?_;refine wp_loop (I:=λa=>∃i:Nat,a=[.i (dJ f.base (f.bS.take i)).length,.i i]/\i<=f.bS.length) (mu:=gX f.bS.length) ⟨0,rfl,om⟩ ?_;rintro a ⟨i,rfl,e1⟩;refine iq (λhc=>?_) (λhc=>?_)
 .have hi:i<f.bS.length:=by
   have:(i:Int)< (f.bS.map dD).length:=fc hc;rw[bA]at this;omega
  have pS:=hw _ (cV hi);have dQ:=(hk i hi hi).1;refine dV (f:=dD) (j:=i) rfl rfl hi rfl ?_;have dX:=vX (b:=f.base) hi;generalize dJ f.base (f.bS.take i)=g at dX;have hlen:=N8 (b:=g) dQ.1;refine uR ?_;refine du (Nk (n:=g.length) (by have:=dQ.1;omega) (by have:=dQ.2.1;omega) pS) rfl rfl ?_;rw[<-hlen];refine nW ?_;refine cj i ?_;refine bm ⟨⟨i+1,?_,om⟩,?_⟩
  .show[L.i _,L.i (((i+1:Nat):Int))]=_;rw[dX]
  .show f.bS.length- (((i+1:Nat):Int)).toNat<f.bS.length-i;omega
 .have hi:i=f.bS.length:=by
   have:¬(i:Int)< (f.bS.map dD).length:=gi hc;rw[bA]at this;omega
  refine bm ?_;show[L.i (dJ f.base (f.bS.take i)).length]=_;rw[hi,jX]
def yA{d}(hd:la d){b}(hb:b=true↔jm d):Gx [.i d.cap,.i d.left,.r (d.files.map bK)]=some [.b b]:=by
 refine bJ ?_;refine bO (dp (¬(0<=d.cap∧-1<=d.left/\d.files.length<=256))) ?_ ?_
 .refine iq (λhx=>?_) (λhx=>?_)
  .have hx:d.cap<0:=fc hx;exact bm (er om)
  have hx:¬d.cap<0:=gi hx;refine iq (λhy=>?_) (λhy=>?_)
  .have hy:d.left< -1:=fc hy;exact bm (er om)
  have hy:¬d.left< -1:=gi hy;refine uR ?_;exact bm (fK (show(256:Int)< (d.files.map bK).length↔_ by rw[bA];omega))
 rintro _ ⟨t,rfl,ht⟩;refine nW ?_;refine dn (λhx=>?_) (λhx=>?_)
 .refine bm ?_;show[L.b false]=[.b b]
  rw[gZ hb λh=>ht.1 hx h.1]
 have Ic:0<=d.cap∧-1<=d.left/\d.files.length<=256:=jr.1 λh=>by rw[ht.2 h]at hx;cases hx
 refine bO (λxs=>xs=[]/\b=true) ?_ ?_;rotate_left
 .rintro _ ⟨rfl,h⟩;refine nW ?_;refine bm ?_;show[L.b true]=[.b b]
  rw[h]
 refine uR ?_;refine wp_loop (I:=λa=>∃i:Nat,a=[.i i]/\i<=d.files.length/\∀j,j<i->xT d j) (mu:=cN d.files.length) ⟨0,rfl,om,λj hj=>by omega⟩ ?_;rintro a ⟨i,rfl,e1,e2⟩;refine iq (λhc=>?_) (λhc=>?_);rotate_left
 .have hi:i=d.files.length:=by
   have:¬(i:Int)< (d.files.map bK).length:=gi hc;rw[bA]at this;omega
  exact bm ⟨rfl,hb.2 ⟨Ic,λj hj=>e2 j om hj⟩⟩
 have hi:i<d.files.length:=by
  have:(i:Int)< (d.files.map bK).length:=fc hc;rw[bA]at this;omega
 have nq:=hd.2 _ (cV hi);refine dx bK i hi ?_;refine bO (dp (¬xT d i)) ?_ ?_;rotate_left
 .rintro _ ⟨u,rfl,hu⟩;refine nW ?_;refine dn (λhy=>?_) (λhy=>?_)
  .refine bm ?_;show[L.b false]=[.b b]
   rw[gZ hb λh=>hu.1 hy (h.2 i)]
  have hg:xT d i:=jr.1 λh=>by rw[hu.2 h]at hy;cases hy
  refine cj i ?_;refine bm ⟨⟨i+1,?_,om,λj hj=>?_⟩,?_⟩
  .rfl
  .by_cases he:j=i
   .subst he;exact hg
   .exact e2 j om
  .show d.files.length- (((i+1:Nat):Int)).toNat<d.files.length-i;omega
 obtain⟨bn,wP⟩:=fA (gG d.files[i].name);obtain⟨bf,wQ⟩:=fA (okF d.files[i].base d.files[i].bS);refine bR (xq _ nq.2 wP) ?_;refine dn (λhy=>?_) (λhy=>?_)
 .exact bm (er λh=>by rw[wP.2 (h hi).1.1]at hy;cases hy)
 have hy:(!bn)=false:=hy;have hn:=wP.1 (by simpa using hy);refine bR (Xb nq.1 wQ) ?_;refine dn (λhu=>?_) (λhu=>?_)
 .exact bm (er λh=>by rw[wQ.2 (h hi).1.2]at hu;cases hu)
 have hu:(!bf)=false:=hu;have dQ:=wQ.1 (by simpa using hu);refine iq (λhz=>?_) (λhz=>?_)
 .have h0:0<i:=by have:(0:Int)<i:=fc hz;omega
  refine eb (((i-1:Nat):Int)) oO ?_;refine dV (f:=bK) (j:=i-1) rfl rfl om rfl (uR ?_);refine mP rfl (nW ?_);refine bm ⟨qF d.files[i].name (d.files[i-1]'om).name,rfl,?_⟩;constructor
  .intro h k;have:=(k hi).2 h0;rw[h]at this;cases this
  .intro h;rcases acG (qF d.files[i].name (d.files[i-1]'om).name)with q|q
   .exact q
   .exact absurd (λ_=>⟨⟨hn,dQ⟩,λ_=>q⟩) h
 .have h0:¬0<i:=by have:¬(0:Int)<i:=gi hz;omega
  exact bm (fF λh=>h λ_=>⟨⟨hn,dQ⟩,λk=>absurd k h0⟩)
def vd:∀(x y),Op.bytesLess x y=true↔x<y
 |[],[]=>by simp[Op.bytesLess]
 |_::_,[]=>by simp[Op.bytesLess]
 |[],_::_=>by simp[Op.bytesLess]
 |a::x,b::y=>by
  have ih:=vd x y;rw[Op.bytesLess];simp only[List.cons_lt_cons_iff,<-ih];by_cases c:a<b<;>by_cases d:a=b<;>simp[c,d]
def asM{a b}(h:qF a b=false):b.toList<a.toList:=by
 unfold qF at h;rw[Bool.or_eq_false_iff]at h;have c:¬a.toList<b.toList:=λk=>by rw[(vd _ _).2 k]at h;cases h.1
 have d:a.toList≠b.toList:=λk=>by rw[k]at h;simp at h
 rcases List.le_iff_lt_or_eq.1 (List.not_lt.1 c)with k|k
 .exact k
 .exact absurd k.symm d
def Oi{d}(e:jm d){i j}(f:i<j)(g:j<d.files.length):(d.files[i]'om).name.toList<d.files[j].name.toList:=by
 induction j with
 |zero=>omega
 |succ j ih=>
  have c:=asM ((e.2 (j+1) g).2 om);by_cases h:i=j
  .subst h;exact c
  .exact zO (ih om om) c
def Ri{n s}{b p:By}:∃c,Hj [.s n,.r b,.r p,.s s]=some [.i c]/\(c<0↔n.toList<s.toList)/\(c=0↔n.toList=s.toList):=by
 have d:∀x:gh,E1 [.s x]=some [.b false]:=λx=>by
  refine bJ ?_;refine mP rfl (nW ?_);refine bm ?_;show[L.b (!(x.toList==x.toList))]=_;simp
 have i:Pm [.s n,.s s]=some [.i (if Op.bytesLess n.toList s.toList=true then-1 else if(Op.bytesLess n.toList s.toList||n.toList==s.toList)=true then 0 else 1)]:=by
  refine bJ ?_;refine bz (d n) ?_;refine bz (d s) ?_;refine cu ?_;refine cu ?_;refine mP rfl (nW ?_);refine dn (λg=>?_) (λg=>?_)
  .have g:Op.bytesLess n.toList s.toList=true:=g;refine bm ?_;show[L.i (-1)]=_;rw[bB g]
  refine mP rfl (nW ?_);refine dn (λf=>?_) (λf=>?_)
  .have f:(!(Op.bytesLess n.toList s.toList||n.toList==s.toList))=true:=f;refine bm ?_;show[L.i 1]=_;rw[bG (by rw[show Op.bytesLess n.toList s.toList=false from g];decide),bG (by rw[pV]at f;rw[f];decide)]
  .have f:(!(Op.bytesLess n.toList s.toList||n.toList==s.toList))=false:=f;refine bm ?_;show[L.i 0]=_;rw[bG (by rw[show Op.bytesLess n.toList s.toList=false from g];decide),bB (by rwa [Bool.not_eq_false']at f)]
 have m:=vd n.toList s.toList;have j:n.toList<s.toList->n.toList≠s.toList:=λh e=>by rw[e]at h;exact mq _ h
 have o:(n.toList==s.toList)=true↔n.toList=s.toList:=beq_iff_eq;refine⟨if Op.bytesLess n.toList s.toList=true then-1 else if(Op.bytesLess n.toList s.toList||n.toList==s.toList)=true then 0 else 1,?_,?_,?_⟩
 .refine bJ ?_;refine du (l:=[]) ?_ rfl rfl ?_
  .refine bJ ?_;exact bm rfl
  refine nW ?_;refine bz i ?_;exact bm rfl
 .rw[<-m]
  cases Op.bytesLess n.toList s.toList with
  |true=>simp
  |false=>
   simp only[pW,if_false,Bool.false_or,iff_false];split<;>omega
 .rw[<-o]
  cases q:Op.bytesLess n.toList s.toList with
  |true=>
   have:=j (m.1 q);simp[this]
  |false=>
   cases n.toList==s.toList<;>simp
def VA(d:Dk)(s:gh)(lo:Nat)(b:Bool):Prop:=lo<=d.files.length/\(∀(j:Nat)(h:j<d.files.length),j<lo->d.files[j].name.toList<s.toList)/\(∀(j:Nat)(h:j<d.files.length),lo<=j->¬d.files[j].name.toList<s.toList)/\(b=true↔∃h:lo<d.files.length,d.files[lo].name.toList=s.toList)
def XN{d}(hd:jm d){s}:∃(lo:Nat)(b:Bool),yU [.r (d.files.map bK),.s s]=some [.i lo,.b b]/\VA d s lo b:=by
 have hlen:=hd.1.2.2;have hle:∀{j m:Nat}(Ie:j<=m)(hm:m<d.files.length),d.files[m].name.toList<s.toList->(d.files[j]'om).name.toList<s.toList:=λ{j m}Ie hm h=>by
  by_cases e:j=m
  .subst e;exact h
  .exact zO (Oi hd om hm) h
 have run:bp.wp aar [.r (d.files.map bK),.s s] (lS λx=>∃(lo:Nat)(b:Bool),x=[.i lo,.b b]/\VA d s lo b):=by
  refine uR ?_;refine bO (λxs=>∃lo:Nat,xs=[.i lo]/\lo<=d.files.length/\(∀(j:Nat)(h:j<d.files.length),j<lo->d.files[j].name.toList<s.toList)/\(∀(j:Nat)(h:j<d.files.length),lo<=j->¬d.files[j].name.toList<s.toList)) ?_ ?_
  .refine wp_loop (I:=λa=>∃lo hi:Nat,a=[.i lo,.i hi]/\lo<=hi/\hi<=d.files.length/\(∀(j:Nat)(h:j<d.files.length),j<lo->d.files[j].name.toList<s.toList)/\(∀(j:Nat)(h:j<d.files.length),hi<=j->¬d.files[j].name.toList<s.toList)) (mu:=λa=>match a with|[.i lo,.i hi]=>(hi-lo).toNat|_=>0) ⟨0,d.files.length,by show[L.i ((0:Nat):Int),L.i (d.files.map bK).length]=_;rw[bA],om,om,λj _ hj=>by omega,λj hj h=>absurd hj om⟩ ?_;rintro a ⟨lo,hi,rfl,e1,e2,p1,p2⟩;refine iq (λhc=>?_) (λhc=>?_);rotate_left
   .have hc:¬(lo:Int)<hi:=gi hc;obtain rfl:lo=hi:=om;exact bm ⟨lo,rfl,e2,p1,p2⟩
   have hc:(lo:Int)<hi:=fc hc;obtain⟨m,hm⟩:∃m,m=(lo+hi) /2:=⟨_,rfl⟩
   refine fg (((lo+hi:Nat):Int)) oO ?_;refine iw (((lo+hi:Nat):Int)) (by rfl) ?_;refine dw (l:=.i m) (by
    show some (L.i (((lo+hi:Nat):Int).fdiv (2^min (Int.toNat 1) IntKind.u64.bits)))=_;rw[show(2:Int) ^min (Int.toNat 1) IntKind.u64.bits=2 by decide,IG _ om];congr 2;omega) ?_
   refine nW ?_;refine pH (n:=(m:Int)) (by rfl) om om (nW ?_);have wR:m<d.files.length:=om;refine dx bK m wR ?_;obtain⟨c,P4,hc1,hc2⟩:=Ri (n:=d.files[m].name) (s:=s) (b:=d.files[m].base) (p:=d.files[m].bS.map dD);refine bR P4 ?_;refine dn (λhx=>?_) (λhx=>?_)
   .have hx:c<0:=fc hx;refine cj m ?_;refine bm ⟨⟨m+1,hi,?_,om,e2,λj hj Ie=>hle om wR (hc1.1 hx),p2⟩,?_⟩
    .rfl
    .show((hi:Int) - ((m+1:Nat):Int)).toNat< ((hi:Int) -lo).toNat;omega
   .have hx:¬c<0:=gi hx;refine bm ⟨⟨lo,m,rfl,om,om,p1,λj hj Ie h=>hx (hc1.2 (hle Ie hj h))⟩,?_⟩;show((m:Int) -lo).toNat< ((hi:Int) -lo).toNat;omega
  .rintro _ ⟨lo,rfl,e1,p1,p2⟩;refine nW ?_;refine bO (dp (∃h:lo<d.files.length,d.files[lo].name.toList=s.toList)) ?_ ?_
   .refine iq (λhx=>?_) (λhx=>?_)
    .have hx:lo<d.files.length:=by
      have:(lo:Int)< (d.files.map bK).length:=fc hx;rw[bA]at this;omega
     refine dx bK lo hx ?_;obtain⟨c,P4,hc1,hc2⟩:=Ri (n:=d.files[lo].name) (s:=s) (b:=d.files[lo].base) (p:=d.files[lo].bS.map dD);refine bR P4 ?_;exact bm (fK (show c=0↔_ from⟨λh=>⟨hx,hc2.1 h⟩,λ⟨_,h⟩=>hc2.2 h⟩))
    .have hx:¬lo<d.files.length:=by
      have:¬(lo:Int)< (d.files.map bK).length:=gi hx;rw[bA]at this;omega
     exact bm (fF λ⟨h,_⟩=>hx h)
   .rintro _ ⟨b,rfl,hb⟩;refine nW ?_;exact bm ⟨lo,b,rfl,e1,p1,p2,hb⟩
 obtain⟨o,h1,lo,b,rfl,h2⟩:=kT run;exact⟨lo,b,h1,h2⟩
def auv{d}(g:jm d){s}:(∀i,lF d s i->yU [.r (d.files.map bK),.s s]=some [.i i,.b true])/\(og d s->∃i,yU [.r (d.files.map bK),.s s]=some [.i i,.b false]):=by
 obtain⟨lo,b,l,q,n,o,m⟩:=XN g (s:=s);constructor
 .rintro j ⟨e,c,_⟩;have c:d.files[j].name.toList=s.toList:=beq_iff_eq.1 c;have f:lo=j:=by
   rcases C1 lo j with h|h|h
   .exact absurd (c▸Oi g h e) (o lo om (dz _))
   .exact h
   .exact absurd (n j e h) (by rw[c];exact mq _)
  subst f;rw[l,m.2 ⟨e,c⟩]
 .intro p;refine⟨lo,?_⟩;rw[l,gZ m];rintro⟨h,k⟩;have:=p lo h;rw[beq_iff_eq.2 k]at this;cases this
def Jr{d}(f:jm d){s x y}:(∀i,lF d s i->rT [x,y,.r (d.files.map bK),.s s]=some [.i i,.b true])/\(og d s->∃i,rT [x,y,.r (d.files.map bK),.s s]=some [.i i,.b false]):=by
 have w:∀i b,yU [.r (d.files.map bK),.s s]=some [.i i,.b b]->rT [x,y,.r (d.files.map bK),.s s]=some [.i i,.b b]:=λi b h=>by
  have c:Hk [.r (d.files.map bK),.s s]=some [.i i,.b b]:=by
   refine bJ ?_;refine bz h ?_;exact bm rfl
  refine bJ ?_;refine bz c ?_;exact bm rfl
 obtain⟨g,c⟩:=auv f (s:=s);exact⟨λi e=>w _ _ (g i e),λj=>by obtain⟨i,e⟩:=c j;exact⟨i,w _ _ e⟩⟩
def ZH{d}(p:la d){s}(q:s.size<=4611686018427387904):
 (∀i,Rd d s->lF d s i->rj [.i d.cap,.i d.left,.r (d.files.map bK),.s s]=some [.i i,.i 0])/\(¬(Rd d s/\∃i,lF d s i)->∃e,e≠0/\rj [.i d.cap,.i d.left,.r (d.files.map bK),.s s]=some [.i 0,.i e]):=by
 obtain⟨bd,c⟩:=fA (jm d);obtain⟨w,f⟩:=fA (gG s);constructor
 .rintro i ⟨g,j,l⟩ u;have m:=yA p c;have n:=xq s q f;rw[c.2 g]at m;rw[f.2 j]at n;refine bJ ?_;refine dC [.b false] ?_ ?_
  .refine bR m ?_;refine cu ?_;refine bR n ?_;exact bm rfl
  refine cu (uR ?_);refine bT rfl l ?_;refine bR ((Jr g).1 i u) ?_;refine cu ?_;exact bm rfl
 .intro r;by_cases g:jm d;rotate_left
  .refine⟨1,dc,?_⟩;refine bJ ?_;refine dC [.b true] ?_ ?_
   .refine du (yA p c) rfl rfl ?_;rw[gZ c g];refine uR ?_;refine gY ?_;exact bm rfl
   refine gY ?_;exact bm rfl
  by_cases j:gG s;rotate_left
  .refine⟨1,dc,?_⟩;refine bJ ?_;refine dC [.b true] ?_ ?_
   .refine du (yA p c) rfl rfl ?_;rw[c.2 g];refine uR ?_;refine cu ?_;refine du (xq s q f) rfl rfl ?_;rw[gZ f j];refine uR ?_;exact bm rfl
   refine gY ?_;exact bm rfl
  have m:=yA p c;have n:=xq s q f;rw[c.2 g]at m;rw[f.2 j]at n;have o:∀{Q:Lf×List L->Prop},bp.wp _ ([.i d.cap,.i d.left,.r (d.files.map bK),.s s]++[.b false]) Q->bp.wp Q3 [.i d.cap,.i d.left,.r (d.files.map bK),.s s] Q:=λ{Q}h=>by
   refine bO (λxs=>xs=[.b false]) ?_ ?_
   .refine bR m ?_;refine cu ?_;refine bR n ?_;exact bm rfl
   rintro _ rfl;exact h
  by_cases l:d.left=0
  .refine⟨13,dc,?_⟩;refine bJ (o ?_);refine nW ?_;refine cu (uR ?_);refine c9 rfl l ?_;exact bm rfl
  .have t:og d s:=(Ju d s).resolve_right λh=>r ⟨⟨g,j,l⟩,h⟩
   obtain⟨i,v⟩:=(Jr g (x:=.i d.cap) (y:=.i d.left)).2 t;refine⟨6,dc,?_⟩;refine bJ (o ?_);refine nW ?_;refine cu (uR ?_);refine bT rfl l ?_;refine bR v ?_;refine gY ?_;exact bm rfl
def anb{d}(B:la d){s}(E:s.size<=4611686018427387904):
 (∀c,Wh d s c->∀off n:Int,(lE c off n->tC [.i d.cap,.i d.left,.r (d.files.map bK),.s s,.i off,.i n]=some [.i 2,.r []])/\(¬lE c off n->tC [.i d.cap,.i d.left,.r (d.files.map bK),.s s,.i off,.i n]=some [.i 0,.r ((c.take (off+n).toNat).drop off.toNat)]))/\((∀c,¬Wh d s c)->∃e,e≠0/\∀off n:Int,tC [.i d.cap,.i d.left,.r (d.files.map bK),.s s,.i off,.i n]=some [.i e,.r []]):=by
 obtain⟨z,no⟩:=ZH B E;constructor
 .rintro c ⟨C,F,G,i,y,rfl⟩ off n;have l:=z i ⟨C,F,G⟩ y;have m:=y.1;have p:=B.2 _ (cV m);have q:=(C.2 i m).1.2;have H:=YN p.1 q;have hlen:=r8 q.1 (rR.1 q.2) (dz _);rw[jX]at hlen;have f:=uO p.1.1 p.1.2.2.2;have v:∀{o:List L},(∀x:Bool,(x=true↔lE (dJ d.files[i].base d.files[i].bS) off n)->(x=true->o=[.i 2,.r []])/\(x=false->o=[.i 0,.r (((dJ d.files[i].base d.files[i].bS).take (off+n).toNat).drop off.toNat)]))->tC [.i d.cap,.i d.left,.r (d.files.map bK),.s s,.i off,.i n]=some o:=λ{o}A=>by
   refine bJ ?_;refine bR l ?_;refine cu ?_;refine dx bK i m ?_;refine bz H ?_;generalize dJ d.files[i].base d.files[i].bS=g at hlen f A;refine uR ?_;refine bO (dp (lE g off n)) ?_ ?_
   .unfold lE;refine uR ?_;refine cD rfl (λI=>bm (er om)) λI=>uR ?_
    refine cD rfl (λJ=>bm (er om)) λJ=>uR ?_
    refine cD rfl (λK=>bm (er om)) λK=>?_
    refine nM (n:=(g.length:Int) -off) rfl om om (uR ?_);exact bm (fK om)
   .rintro _ ⟨x,rfl,t⟩;refine nW ?_;refine dn (λw=>?_) (λw=>?_)
    .rw[(A x t).1 w];exact bm rfl
    have u:¬lE g off n:=λh=>by rw[t.2 h]at w;cases w
    unfold lE at u;rw[(A x t).2 w];refine iU (n:=off+n) rfl om om (uR ?_);refine y6 (r:=(g.take (off+n).toNat).drop off.toNat) ⟨by show 0<=off;omega,by show off<=off+n;omega,by show(off+n).toNat<=g.length;omega,f⟩ rfl (nW ?_);refine bz (ry (VF (EP f)) (by rw[jE,dH];omega)) ?_;exact bm rfl
  exact⟨λh=>v λx t=>⟨λ_=>rfl,λj=>by rw[t.2 h]at j;cases j⟩,λh=>v λx t=>⟨λj=>absurd (t.1 j) h,λ_=>rfl⟩⟩
 .intro u;obtain⟨e,D,l⟩:=no (λ⟨h,i,y⟩=>u _ ⟨h.1,h.2.1,h.2.2,i,y,rfl⟩);refine⟨e,D,λoff n=>bJ ?_⟩;refine bR l ?_;refine c9 rfl D ?_;exact bm rfl
end
section
section
open Go.RowKit
def gy{ρ Q k}{α:Type}{f}{l:List α}{x i:At}{j c:Nat}{d q y}(e:(x.ev ρ).bE=l.map f)(g:(i.ev ρ).br=j)(h)(m:(f l[j])[c]?=some q)(n:d.of q=some y)(o:k.wp (ρ++[y]) Q):(bp.op (.rc x i c d) k).wp ρ Q:=
 r5 (by rw[e,g,eO,cY,db h];rfl) m n o
section
variable{ρ dI:List L}{Q:Lf×List L->Prop}{k k':bp}
def dP{α:Type}(f)(j:Nat){l:List α}{x i:At}{c:Nat}{d q y}(g)(h:k.wp dI Q)(m:(x.ev ρ).bE=l.map f:=by exact rfl)(n:(i.ev ρ).br=j:=by exact rfl)(o:(f (l[j]'g))[c]?=some q:=by exact rfl)(p:d.of q=some y:=by exact rfl)(e:ρ++[y]=dI:=by(try dsimp only[At.ev,d1,d2,d3,d4,d5,d6,d7,d8,d9,e0,List.map,cZ,Kd.pv])<;>rfl):(bp.op (.rc x i c d) k).wp ρ Q:=gy m n g o p (e▸h)
def ya{α:Type}(f)(j:Nat){l:List α}{x i:At}{c:Nat}{d q y}(g)(m:k'.wp dI Q)(n:(x.ev ρ).bE=l.map f:=by exact rfl)(o:(i.ev ρ).br=j:=by exact rfl)(p:(f (l[j]'g))[c]?=some q:=by exact rfl)(r:d.of q=some y:=by exact rfl)(e:k'.wp dI Q->k.wp (ρ++[y]) Q:=by(intro h;refine nW ?_;repeat refine uT rfl ?_);exact h):(bp.op (.rc x i c d) k).wp ρ Q:=gy n o g p r (e m)
end
def A_{c}{x k:Nat}(h:k<=c.bits):eC .shr c (x:Int) (k:Int)=some (.i ((x>>>k:Nat):Int)):=by
 show(if 0<=(k:Int)then some (L.i ((x:Int).fdiv (2^ (min (k:Int).toNat c.bits))))else none)=_;rw[bB om,eO,o0 h,IG _ (QE dc),QF,show(2:Int) ^k=((2^k:Nat):Int)by rfl,<-Int.natCast_ediv]
end
def c_(a m b p:Nat):Nat:=if a<=p/\p<a+(b-m)then p+m-a else if a+(b-m)<=p/\p<b then p+m-b else p
def me(a b n p:Nat):Nat:=if a<=p/\p<a+n then p+b-a else if b<=p/\p<b+n then p+a-b else p
def T4{a m p}:c_ a m m p=p:=by unfold c_; (repeat' split)<;>omega
def ZP{m b p}(h:m<=b):c_ m m b p=p:=by unfold c_; (repeat' split)<;>omega
def aiw{m i j p}(c:i<=m)(d:j<i):me (m-i) m j (c_ (m- (i-j)) m (m+j) p)=c_ (m-i) m (m+j) p:=by unfold me c_; (repeat' split)<;>omega
def ahG{m i j p}(c:i<=m)(d:i<j):me (m-i) (m+j-i) i (c_ (m-i) m (m+(j-i)) p)=c_ (m-i) m (m+j) p:=by unfold me c_; (repeat' split)<;>omega
def aBE{m i p}(c:i<=m):me (m-i) m i p=c_ (m-i) m (m+i) p:=by unfold me c_; (repeat' split)<;>omega
def eK(g:Nat->Int)(a b:Nat):Prop:=∀p q,a<=p->p<q->q<b->g p<=g q
def eK.le{g a b p q}(h:eK g a b)(d:a<=p)(t:p<=q)(m:q<b):g p<=g q:=by
 by_cases e:p=q
 .subst e;exact Int.le_refl _
 .exact h p q d om m
def aoV{g a b i}(d:eK g (a+1) b)(o:a+1<=i)(r:i<=b)(k1:i=a+1\/g (i-1)<=g a)(k2:i=b\/g a<=g i):eK (λp=>g (c_ a (a+1) i p)) a b:=by
 intro p q hp f h;have lo:∀x,a+1<=x->x<i->g x<=g a:=λx c j=>by
  rcases k1 with k1|k1
  .omega
  .exact uo (d.le c om om) k1
 have l:∀x,i<=x->x<b->g a<=g x:=λx c j=>by
  rcases k2 with k2|k2
  .omega
  .exact uo k2 (d.le om c j)
 have m:∀x,a<=x->x<i-1->c_ a (a+1) i x=x+1:=λx c j=>by unfold c_; (repeat' split)<;>omega
 have n:c_ a (a+1) i (i-1)=a:=by unfold c_; (repeat' split)<;>omega
 have e:∀x,i<=x->c_ a (a+1) i x=x:=λx c=>by unfold c_; (repeat' split)<;>omega
 show g (c_ a (a+1) i p)<=g (c_ a (a+1) i q);by_cases c1:p<i-1
 .rw[m p hp c1];by_cases c2:q<i-1
  .rw[m q om c2];exact d _ _ om om om
  .by_cases c3:q=i-1
   .rw[c3,n];exact lo _ om om
   .rw[e q om];exact uo (lo _ om om) (l _ om h)
 .by_cases c2:p=i-1
  .rw[c2,n,e q om];exact l _ om h
  .rw[e p om,e q om];exact d _ _ om f h
def avg{g a m i}(c:eK g a m)(o:a<=i)(r:i<=m)(k1:i=a\/g (i-1)<=g m)(k2:i=m\/g m<=g i):eK (λp=>g (c_ i m (m+1) p)) a (m+1):=by
 intro p q hp f s;have lo:∀x,a<=x->x<i->g x<=g m:=λx d h=>by
  rcases k1 with k1|k1
  .omega
  .exact uo (c.le d om om) k1
 have n:∀x,i<=x->x<m->g m<=g x:=λx d h=>by
  rcases k2 with k2|k2
  .omega
  .exact uo k2 (c.le om d h)
 have j:∀x,x<i->c_ i m (m+1) x=x:=λx d=>by unfold c_; (repeat' split)<;>omega
 have l:c_ i m (m+1) i=m:=by unfold c_; (repeat' split)<;>omega
 have e:∀x,i<x->x<=m->c_ i m (m+1) x=x-1:=λx d h=>by unfold c_; (repeat' split)<;>omega
 show g (c_ i m (m+1) p)<=g (c_ i m (m+1) q);by_cases c1:p<i
 .rw[j p c1];by_cases c2:q<i
  .rw[j q c2];exact c _ _ hp f om
  .by_cases c3:q=i
   .rw[c3,l];exact lo _ hp c1
   .rw[e q om om];exact c _ _ hp om om
 .by_cases c2:p=i
  .rw[c2,l,e q om om];exact n _ om om
  .rw[e p om om,e q om om];exact c _ _ om om om
def awo{g a m b s e}(h:eK g a m)(i:eK g m b)(w:a<=s)(z:s<=m)(A:m<=e)(B:e<=b)
 (k1:s=a\/e=b\/g (s-1)<=g e) (k2:s=m\/e=m\/g (e-1)<=g s):
 eK (λp=>g (c_ s m e p)) a s/\eK (λp=>g (c_ s m e p)) s (s+(e-m))/\eK (λp=>g (c_ s m e p)) (s+(e-m)) e/\eK (λp=>g (c_ s m e p)) e b/\
  ∀p q,a<=p->p<s+(e-m)->s+(e-m)<=q->q<b->g (c_ s m e p)<=g (c_ s m e q):=by
 have o:∀x,x<s->c_ s m e x=x:=λx f=>by unfold c_; (repeat' split)<;>omega
 have r:∀x,s<=x->x<s+(e-m)->c_ s m e x=x+m-s:=λx f t=>by unfold c_; (repeat' split)<;>omega
 have l:∀x,s+(e-m)<=x->x<e->c_ s m e x=x+m-e:=λx f t=>by unfold c_; (repeat' split)<;>omega
 have n:∀x,e<=x->c_ s m e x=x:=λx f=>by unfold c_; (repeat' split)<;>omega
 have c1:∀x y,a<=x->x<s->e<=y->y<b->g x<=g y:=λx y f t u v=>by
  rcases k1 with k|k|k
  .omega
  .omega
  .exact uo (h.le f om om) (uo k (i.le om u v))
 have c2:∀x y,m<=x->x<e->s<=y->y<m->g x<=g y:=λx y f t u v=>by
  rcases k2 with k|k|k
  .omega
  .omega
  .exact uo (i.le f om om) (uo k (h.le w u v))
 refine⟨λp q hp c d=>?_,λp q hp c d=>?_,λp q hp c d=>?_,λp q hp c d=>?_,λp q hp c d j=>?_⟩
 .show g (c_ s m e p)<=g (c_ s m e q);rw[o p om,o q d];exact h _ _ hp c om
 .show g (c_ s m e p)<=g (c_ s m e q);rw[r p hp om,r q om d];exact i _ _ om om om
 .show g (c_ s m e p)<=g (c_ s m e q);rw[l p hp om,l q om d];exact h _ _ om om om
 .show g (c_ s m e p)<=g (c_ s m e q);rw[n p hp,n q om];exact i _ _ om c d
 .by_cases d1:p<s
  .rw[o p d1];by_cases d2:q<e
   .rw[l q d d2];exact h.le hp om om
   .rw[n q om];exact c1 _ _ hp d1 om j
  .rw[r p om c];by_cases d2:q<e
   .rw[l q d d2];exact c2 _ _ om om om om
   .rw[n q om];exact i.le om om j
structure eW{α:Type}(a b:Nat)(l d:List α):Prop where
 perm:d.Perm l
 out:∀p,p<a\/b<=p->d[p]?=l[p]?
 Av:∀p,a<=p->p<b->∃q,a<=q/\q<b/\d[p]?=l[q]?
def eW.refl{α a b}(l:List α):eW a b l l:=⟨IA _,λ_ _=>rfl,λp d h=>⟨p,d,h,rfl⟩⟩
def eW.trans{α a b}{l d e:List α}(h:eW a b l d)(k:eW a b d e):eW a b l e:=
 ⟨k.perm.trans h.perm,λp hp=>(k.out p hp).trans (h.out p hp),λp m t=>by
  obtain⟨q,q1,q2,q3⟩:=k.Av p m t;obtain⟨r,u,x,y⟩:=h.Av q q1 q2;exact⟨r,u,x,q3.trans y⟩⟩
def eW.mono{α a b a' m}{l d:List α}(h:eW a b l d)(y:a'<=a)(z:b<=m):eW a' m l d:=
 ⟨h.perm,λp hp=>h.out p om,λp u x=>by
  by_cases t:a<=p/\p<b
  .obtain⟨q,q1,q2,q3⟩:=h.Av p t.1 t.2;exact⟨q,om,om,q3⟩
  .exact⟨p,u,x,h.out p om⟩⟩
def eW.swap{α a b i j}{l:List α}(d)(h)(t:a<=i)(u:i<b)(x:a<=j)(y:j<b):eW a b l ((l.set i l[j]).set j l[i]):=by
 refine⟨List.set_set_perm d h,λp hp=>?_,λp m q=>?_⟩
 .rw[zP om,zP om]
 .by_cases z:p=j
  .subst z;refine⟨i,t,u,?_⟩;rw[QG (by simpa using h),db d]
  .rw[zP om];by_cases B:p=i
   .subst B;exact⟨j,x,y,by rw[QG d,db h]⟩
   .exact⟨p,m,q,zP om⟩
def qn{α:Type}(f:α->Int)(l:List α)(p:Nat):Int:=match l[p]? with
 |some x=>f x
 |none=>0
def akf{α f}{l:List α}{p}(h):qn f l p=f l[p]:=by unfold qn;rw[db h]
def nV{α f}{l d:List α}{p q}(h:d[p]?=l[q]?):qn f d p=qn f l q:=by unfold qn;rw[h]
def eK.congr{g h a b}(t:eK g a b)(e:∀p,a<=p->p<b->h p=g p):eK h a b:=λp q d u m=>by
 rw[e p d om,e q om m];exact t p q d u m
def eK.join{g a m b}(u:eK g a m)(x:eK g m b)(h:∀p q,a<=p->p<m->m<=q->q<b->g p<=g q):eK g a b:=λp q hp d t=>by
 by_cases c1:q<m
 .exact u p q hp d c1
 .by_cases c2:p<m
  .exact h p q hp c2 om t
  .exact x p q om d t
def aBu{α f a m b}{l d e:List α}(h:∀p q,a<=p->p<m->m<=q->q<b->qn f l p<=qn f l q)(i:eW a m l d)(j:eW m b d e):∀p q,a<=p->p<m->m<=q->q<b->qn f e p<=qn f e q:=λp q hp c o g=>by
 obtain⟨r,k1,k2,s⟩:=i.Av p hp c;obtain⟨n,t,u,v⟩:=j.Av q o g;rw[nV (j.out p om),nV s,nV v,nV (i.out n om)];exact h r n k1 k2 t u
end
section
open Go.RowKit Pl AI
attribute [local irreducible] bp.wp
def amt{ρ xs a}:(At.v ρ.length).ev (ρ++a::xs)=a:=by simp[At.ev]
def XM{ρ xs a n}(h:n=ρ.length):(At.v n).ev (ρ++a::xs)=a:=by subst h;exact amt
def kz{ρ Q k}{x i:At}{l:List It}{j:Nat}(c:(x.ev ρ).bE=l.map bu)(d:(i.ev ρ).br=j)(e)
 (h:k.wp (ρ++[.c (bu l[j]),.i l[j].key,.i l[j].cookie,.i l[j].off,.i l[j].size]) Q)
 (ex:∀ys,x.ev (ρ++ys)=x.ev ρ:=by intro ys;rfl) (g:∀ys,i.ev (ρ++ys)=i.ev ρ:=by intro ys;rfl):
 (bp.op (.row x i 4) (.op (.rc x i 0 (.int .u64)) (.op (.rc x i 1 (.int .u32)) (.op (.rc x i 2 (.int .i64)) (.op (.rc x i 3 (.int .i64)) k))))).wp ρ Q:=by
 refine dV c d e rfl ?_;refine gy (f:=bu) (j:=j) (by rw[ex];exact c) (by rw[g];exact d) e rfl rfl ?_;rw[dr];refine gy (f:=bu) (j:=j) (by rw[ex];exact c) (by rw[g];exact d) e rfl rfl ?_;rw[dr];refine gy (f:=bu) (j:=j) (by rw[ex];exact c) (by rw[g];exact d) e rfl rfl ?_;rw[dr];refine gy (f:=bu) (j:=j) (by rw[ex];exact c) (by rw[g];exact d) e rfl rfl ?_;rw[dr];exact h
def tn{ρ Q k}{x i:At}{l:List It}{j:Nat}{ps z}(c:(x.ev ρ).bE=l.map bu)(d:(i.ev ρ).br=j)(f)
 (m:cZ (ρ++[.c (bu l[j])]) ps=bu z) (g:ps.length=4)
 (n:k.wp (ρ++[.c (bu l[j]),.r ((l.set j z).map bu)]) Q)
 (ex:∀ys,x.ev (ρ++ys)=x.ev ρ:=by intro ys;rfl) (h:∀ys,i.ev (ρ++ys)=i.ev ρ:=by intro ys;rfl):
 (bp.op (.row x i 4) (.op (.set x i 0 ps) k)).wp ρ Q:=by
 refine dV c d f rfl ?_;have o:(x.ev (ρ++[.c (bu l[j])])).bE[(i.ev (ρ++[.c (bu l[j])])).br.toNat]?=some (bu l[j]):=by
  rw[ex,h,c,d,eO,cY,db f];rfl
 refine Ad o (by rw[g];exact dz 4) ?_;rw[ex,h,c,d,m,g,dr];have e:(l.map bu).set ((j:Int)).toNat ((bu l[j]).take 0++bu z++(bu l[j]).drop (0+4))=(l.set j z).map bu:=by
  simp[bu]
 rw[e];exact n
def DA{ρ Q k}{x y:At}{i j n:Nat}(c:n=ρ.length)(f:(x.ev ρ).br=i)(g:(y.ev ρ).br=j)(h:i+j<=4611686018427387904)
 (d:k.wp (ρ++[.i ((i+j:Nat):Int),.i ((i+j:Nat):Int),.i (((i+j) /2:Nat):Int),.i (((i+j) /2:Nat):Int)]) Q):
 (bp.op (.bi .add .i64 x y) (.op (.conv .u64 (.v n)) (.op (.bi .shr .u64 (.v (n+1)) (.i 1)) (.op (.conv .i64 (.v (n+2))) k)))).wp ρ Q:=by
 refine iU (n:=((i+j:Nat):Int)) om om om ?_;refine YC (n:=((i+j:Nat):Int)) (by rw[XM c];rfl) om om ?_;rw[dr];refine dw (l:=.i (((i+j) /2:Nat):Int)) ?_ ?_
 .have e:(At.v (n+1)).ev (ρ++([L.i ((i+j:Nat):Int)]++[.i ((i+j:Nat):Int)]))=.i ((i+j:Nat):Int):=by subst c;simp[At.ev]
  rw[e];exact(A_ (x:=i+j) (k:=1) dc).trans (by rw[QF])
 rw[dr];refine pH (n:=(((i+j) /2:Nat):Int)) ?_ om om ?_
 .have e:(At.v (n+2)).ev (ρ++([L.i ((i+j:Nat):Int),.i ((i+j:Nat):Int)]++[.i (((i+j) /2:Nat):Int)]))=.i (((i+j) /2:Nat):Int):=by subst c;simp[At.ev]
  exact cW L.br e
 rw[dr];exact d
def GL{α:Type}{l:List α}{i j p}(e)(f):((l.set i l[j]).set j l[i])[p]?=if p=j then l[i]? else if p=i then l[j]? else l[p]?:=by
 by_cases c:p=j
 .subst c;rw[QG (by simpa using f),bB rfl,db e]
 .rw[zP (λh=>c h.symm),bG c];by_cases d:p=i
  .subst d;rw[QG e,bB rfl,db f]
  .rw[zP (λh=>d h.symm),bG d]
def afG{a b n i p}(c:a+n<=b)(d:i<n):(if p=b+i then me a b i (a+i)else if p=a+i then me a b i (b+i)else me a b i p)=me a b (i+1) p:=by
 unfold me; (repeat' split)<;>omega
def NO(l)(hl:l.length<=1000000){a b n:Nat}(hab:a+n<=b)(hb:b+n<=l.length):
 ∃d,Ai [.r (l.map bu),.i a,.i b,.i n]=some [.r (d.map bu)]/\eW a (b+n) l d/\∀p,d[p]?=l[me a b n p]?:=by
 suffices h:∃o,Fo ZD [.r (l.map bu),.i a,.i b,.i n]=some o/\∃d:List It,o=[.r (d.map bu)]/\eW a (b+n) l d/\∀p,d[p]?=l[me a b n p]? by
  obtain⟨o,h1,d,rfl,h2⟩:=h;exact⟨d,h1,h2⟩
 refine kT ?_;refine wp_loop (I:=λs=>∃(i:Nat)(d:List It),s=[.i i,.r (d.map bu)]/\i<=n/\eW a (b+n) l d/\∀p,d[p]?=l[me a b i p]?) (mu:=cN n)
  ⟨0,l,rfl,om,.refl l,λp=>by congr 1;unfold me; (repeat' split)<;>omega⟩ ?_
 rintro s ⟨i,d,rfl,hi,hs,hd⟩;have kH:=hs.perm.length_eq;refine cz (λhc=>?_) (λhc=>?_);rotate_left
 .obtain rfl:i=n:=om;exact bm ⟨d,rfl,hs,hd⟩
 have qQ:i<n:=om;have ha:a+i<d.length:=om;have hb':b+i<d.length:=om;refine fg (((a+i:Nat):Int)) (by rfl) ?_;refine fg (((b+i:Nat):Int)) (by rfl) ?_;refine fg (((b+i:Nat):Int)) (by rfl) ?_;refine kz (l:=d) (j:=b+i) rfl rfl hb' (nW ?_);refine fg (((a+i:Nat):Int)) (by rfl) ?_;refine kz (l:=d) (j:=a+i) rfl rfl ha (nW ?_);refine tn (l:=d) (j:=a+i) (z:=d[b+i]) rfl rfl ha rfl rfl (nW ?_);refine tn (l:=d.set (a+i) d[b+i]) (j:=b+i) (z:=d[a+i]) rfl rfl (by simpa using hb') rfl rfl (nW ?_);refine cj i ?_;refine bm ⟨⟨i+1,_,rfl,om,hs.trans (.swap ha hb' om om om om),λp=>?_⟩,?_⟩
 .rw[GL ha hb',<-afG hab qQ]
  (repeat' split)<;>exact hd _
 .show n- ((i+1:Nat):Int).toNat<n-i;omega
def aot(l)(hl:l.length<=1000000){a m b:Nat}(h1:a<m)(h2:m<b)(hb:b<=l.length):
 ∃d,KC [.r (l.map bu),.i a,.i m,.i b]=some [.r (d.map bu)]/\eW a b l d/\∀p,d[p]?=l[c_ a m b p]?:=by
 suffices h:∃o,Fo Rk [.r (l.map bu),.i a,.i m,.i b]=some o/\∃d:List It,o=[.r (d.map bu)]/\eW a b l d/\∀p,d[p]?=l[c_ a m b p]? by
  obtain⟨o,h1,d,rfl,h2⟩:=h;exact⟨d,h1,h2⟩
 refine kT ?_;refine eb (((m-a:Nat):Int)) (by show(m:Int) -a=_;omega) ?_;refine eb (((b-m:Nat):Int)) (by show(b:Int) -m=_;omega) ?_;refine bO (λxs=>∃(i:Nat)(d:List It),xs=[.i i,.r (d.map bu)]/\0<i/\i<=m-a/\i<=b-m/\eW a b l d/\∀p,d[c_ (m-i) m (m+i) p]?=l[c_ a m b p]?) ?_ ?_
 .refine wp_loop (I:=λs=>∃(i j:Nat)(d:List It),s=[.i i,.i j,.r (d.map bu)]/\0<i/\i<=m-a/\0<j/\j<=b-m/\eW a b l d/\∀p,d[c_ (m-i) m (m+j) p]?=l[c_ a m b p]?)
   (mu:=λs=>match s with|[.i i,.i j,_]=>i.toNat+j.toNat|_=>0) ⟨m-a,b-m,l,rfl,om,om,om,om,.refl l,λp=>by rw[Nat.sub_sub_self om,Nat.add_sub_cancel' om]⟩ ?_
  rintro s ⟨i,j,d,rfl,i0,i1,j0,j1,hs,hd⟩;have kH:=hs.perm.length_eq;refine cz (λhc=>?_) (λhc=>?_);rotate_left
  .obtain rfl:i=j:=om;exact bm ⟨i,d,rfl,i0,i1,j1,hs,hd⟩
  refine cz (λhg=>?_) (λhg=>?_)
  .have uc:j<i:=om;obtain⟨e,he,jd,hge⟩:=NO d om (a:=m-i) (b:=m) (n:=j) om om;refine eb (((m-i:Nat):Int)) (by show(m:Int) -i=_;omega) ?_;refine bz he ?_;refine eb (((i-j:Nat):Int)) (by show(i:Int) -j=_;omega) ?_;refine bm ⟨⟨i-j,j,e,rfl,om,om,j0,j1,hs.trans (jd.mono om om),λp=>?_⟩,?_⟩
   .rw[hge,aiw om uc];exact hd p
   .show((i-j:Nat):Int).toNat+j<i+j;omega
  .have PX:i<j:=om;obtain⟨e,he,jd,hge⟩:=NO d om (a:=m-i) (b:=m+j-i) (n:=i) om om;refine eb (((m-i:Nat):Int)) (by show(m:Int) -i=_;omega) ?_;refine fg (((m+j:Nat):Int)) (by rfl) ?_;refine eb (((m+j-i:Nat):Int)) (by show((m+j:Nat):Int) -i=_;omega) ?_;refine bz he ?_;refine eb (((j-i:Nat):Int)) (by show(j:Int) -i=_;omega) ?_;refine bm ⟨⟨i,j-i,e,rfl,i0,i1,om,om,hs.trans (jd.mono om om),λp=>?_⟩,?_⟩
   .rw[hge,ahG om PX];exact hd p
   .show i+((j-i:Nat):Int).toNat<i+j;omega
 .rintro _ ⟨i,d,rfl,i0,i1,i2,hs,hd⟩;have kH:=hs.perm.length_eq;refine nW ?_;obtain⟨e,he,jd,hge⟩:=NO d om (a:=m-i) (b:=m) (n:=i) om om;refine eb (((m-i:Nat):Int)) (by show(m:Int) -i=_;omega) ?_;refine bz he ?_;refine bm ⟨e,rfl,hs.trans (jd.mono om om),λp=>?_⟩;rw[hge,aBE om];exact hd p
def di(l:List It):Nat->Int:=qn (·.key) l
def qg{l p}(h):di l p=l[p].key:=akf h
def Vj(a):F0 [a]=some [.b false]:=by
 refine gp ?_;refine bm ?_;show[L.b (decide (a.br≠a.br))]=_;simp
def aDm(a b):∃c,F1 [a,b]=some [.i c]/\(c<0↔a.br<b.br):=by
 suffices h:∃o,Fo XG [a,b]=some o/\∃c:Int,o=[.i c]/\(c<0↔a.br<b.br)by
  obtain⟨o,e,c,rfl,f⟩:=h;exact⟨c,e,f⟩
 refine kT ?_;refine bz (Vj a) ?_;refine bz (Vj b) ?_;refine qo rfl (qo rfl ?_);refine cz (λg=>?_) (λg=>?_)
 .exact bm ⟨-1,rfl,om⟩
 refine cz (λd=>?_) (λd=>?_)
 .exact bm ⟨1,rfl,om⟩
 .exact bm ⟨0,rfl,om⟩
def Hh(x y:It):∃c,F6 [.i x.key,.i x.cookie,.i x.off,.i x.size,.i y.key,.i y.cookie,.i y.off,.i y.size]=some [.i c]/\(c<0↔x.key<y.key):=by
 obtain⟨c,d,e⟩:=aDm (.i x.key) (.i y.key);refine⟨c,bJ ?_,e⟩;exact du d rfl rfl (bm rfl)
def DW(F:List L->Option (List L))(n:Nat):Prop:=∀(l:List It)(a m b:Nat),l.length<=1000000->a<m->m<b->b<=l.length->b-a<=n->eK (di l) a m->eK (di l) m b->
 ∃d,F [.r (l.map bu),.i a,.i m,.i b]=some [.r (d.map bu)]/\eW a b l d/\eK (di d) a b
def yX{t F n N}(hF:DW F n)(hN:N<=2*n\/N<=3):DW (Fo (l7 t F)) N:=by
 intro l a m b hl h1 h2 hb hs ha hm
 suffices h:∃o,Fo (l7 t F) [.r (l.map bu),.i a,.i m,.i b]=some o/\∃d:List It,o=[.r (d.map bu)]/\eW a b l d/\eK (di d) a b by
  obtain⟨o,h1,d,rfl,h2⟩:=h;exact⟨d,h1,h2⟩
 refine kT ?_;unfold l7;have If:a<l.length:=om;have wR:m<l.length:=om;refine eb (((m-a:Nat):Int)) (by show(m:Int) -a=_;omega) ?_;refine cz (λhc=>?_) (λhc=>?_)
 ·
  obtain rfl:m=a+1:=om;refine bO (λxs=>∃i:Nat,xs=[.i i]/\a+1<=i/\i<=b/\(i=a+1\/di l (i-1)<=di l a)/\(i=b\/di l a<=di l i)) ?_ ?_
  .refine wp_loop (I:=λs=>∃i j:Nat,s=[.i i,.i j]/\a+1<=i/\i<=j/\j<=b/\(i=a+1\/di l (i-1)<=di l a)/\(j=b\/di l a<=di l j)) (mu:=λs=>match s with|[.i i,.i j]=>j.toNat-i.toNat|_=>0)
    ⟨a+1,b,rfl,om,om,om,.inl rfl,.inl rfl⟩ ?_
   rintro s ⟨i,j,rfl,i0,ij,j1,k1,k2⟩;refine cz (λhc=>?_) (λhc=>?_);rotate_left
   .obtain rfl:i=j:=om;exact bm ⟨i,rfl,i0,j1,k1,k2⟩
   have hh:(i+j) /2<l.length:=om;refine DA (i:=i) (j:=j) rfl rfl rfl om (nW ?_);refine kz (l:=l) (j:=(i+j) /2) rfl rfl hh (nW ?_);refine kz (l:=l) (j:=a) rfl rfl If (nW ?_);obtain⟨c,wS,ja⟩:=Hh l[(i+j) /2] l[a];refine bR wS ?_;rw[<-qg hh,<-qg If]at ja;refine cD rfl (λhz=>?_) (λhz=>?_)
   .refine cj ((i+j) /2) ?_;refine bm ⟨⟨(i+j) /2+1,j,rfl,om,om,j1,.inr (by rw[Iw];omega),k2⟩,?_⟩;show j- (((i+j) /2+1:Nat):Int).toNat<j-i;omega
   .refine bm ⟨⟨i,(i+j) /2,rfl,i0,om,om,k1,.inr om⟩,?_⟩;show(((i+j) /2:Nat):Int).toNat-i<j-i;omega
  .rintro _ ⟨i,rfl,i0,i1,k1,k2⟩;refine nW ?_;refine bO (λxs=>∃d:List It,xs=[.r (d.map bu)]/\eW a b l d/\eK (di d) a b) ?_ ?_;rotate_left
   .rintro _ ⟨d,rfl,hd⟩;exact nW (bm ⟨d,rfl,hd⟩)
   refine wp_loop (I:=λs=>∃(k:Nat)(d:List It),s=[.i k,.r (d.map bu)]/\a<=k/\k<=i-1/\eW a b l d/\∀p,d[p]?=l[c_ a (a+1) (k+1) p]?) (mu:=cN i)
    ⟨a,l,rfl,om,om,.refl l,λp=>by rw[T4]⟩ ?_
   rintro s ⟨k,d,rfl,k0,ki,hs,hd⟩;have kH:=hs.perm.length_eq;refine nM (n:=((i-1:Nat):Int)) (by show(i:Int) -1=_;omega) om om (uR ?_);refine cD rfl (λhc=>?_) (λhc=>?_);rotate_left
   .obtain rfl:k=i-1:=om;have e:i-1+1=i:=om;rw[e]at hd;exact bm ⟨d,rfl,hs,(aoV hm i0 i1 k1 k2).congr λp _ _=>nV (hd p)⟩
   have nj:k+1<d.length:=om;have hk:k<d.length:=om;refine cj k ?_;refine cj k ?_;refine kz (l:=d) (j:=k+1) rfl rfl nj (nW ?_);refine kz (l:=d) (j:=k) rfl rfl hk (nW ?_);refine tn (l:=d) (j:=k) (z:=d[k+1]) rfl rfl hk rfl rfl (nW ?_);refine tn (l:=d.set k d[k+1]) (j:=k+1) (z:=d[k]) rfl rfl (by simpa using nj) rfl rfl (nW ?_);refine cj k ?_;refine bm ⟨⟨k+1,_,rfl,om,om,hs.trans (.swap hk nj om om om om),λp=>?_⟩,?_⟩
   .rw[GL hk nj];have e:(if p=k+1 then c_ a (a+1) (k+1) k else if p=k then c_ a (a+1) (k+1) (k+1)else c_ a (a+1) (k+1) p)=c_ a (a+1) (k+1+1) p:=by unfold c_; (repeat' split)<;>omega
    rw[<-e]
    (repeat' split)<;>exact hd _
   .show i- ((k+1:Nat):Int).toNat<i-k;omega
 refine eb (((b-m:Nat):Int)) (by show(b:Int) -m=_;omega) ?_;refine cz (λhc2=>?_) (λhc2=>?_)
 ·
  obtain rfl:b=m+1:=om;refine bO (λxs=>∃i:Nat,xs=[.i i]/\a<=i/\i<=m/\(i=a\/di l (i-1)<=di l m)/\(i=m\/di l m<=di l i)) ?_ ?_
  .refine wp_loop (I:=λs=>∃i j:Nat,s=[.i i,.i j]/\a<=i/\i<=j/\j<=m/\(i=a\/di l (i-1)<=di l m)/\(j=m\/di l m<=di l j)) (mu:=λs=>match s with|[.i i,.i j]=>j.toNat-i.toNat|_=>0)
    ⟨a,m,rfl,om,om,om,.inl rfl,.inl rfl⟩ ?_
   rintro s ⟨i,j,rfl,i0,ij,j1,k1,k2⟩;refine cz (λhc=>?_) (λhc=>?_);rotate_left
   .obtain rfl:i=j:=om;exact bm ⟨i,rfl,i0,j1,k1,k2⟩
   have hh:(i+j) /2<l.length:=om;refine DA (i:=i) (j:=j) rfl rfl rfl om (nW ?_);refine kz (l:=l) (j:=m) rfl rfl wR (nW ?_);refine kz (l:=l) (j:=(i+j) /2) rfl rfl hh (nW ?_);obtain⟨c,wS,ja⟩:=Hh l[m] l[(i+j) /2];refine bR wS ?_;rw[<-qg hh,<-qg wR]at ja;refine dn (λhz=>?_) (λhz=>?_)
   .have hz:(!decide (c<0))=true:=hz;have hz:¬c<0:=by simpa using hz
    refine cj ((i+j) /2) ?_;refine bm ⟨⟨(i+j) /2+1,j,rfl,om,om,j1,.inr (by rw[Iw];omega),k2⟩,?_⟩;show j- (((i+j) /2+1:Nat):Int).toNat<j-i;omega
   .have hz:(!decide (c<0))=false:=hz;have hz:c<0:=by simpa using hz
    refine bm ⟨⟨i,(i+j) /2,rfl,i0,om,om,k1,.inr om⟩,?_⟩;show(((i+j) /2:Nat):Int).toNat-i<j-i;omega
  .rintro _ ⟨i,rfl,i0,i1,k1,k2⟩;refine nW ?_;refine bO (λxs=>∃d:List It,xs=[.r (d.map bu)]/\eW a (m+1) l d/\eK (di d) a (m+1)) ?_ ?_;rotate_left
   .rintro _ ⟨d,rfl,hd⟩;exact nW (bm ⟨d,rfl,hd⟩)
   refine wp_loop (I:=λs=>∃(k:Nat)(d:List It),s=[.i k,.r (d.map bu)]/\i<=k/\k<=m/\eW a (m+1) l d/\∀p,d[p]?=l[c_ k m (m+1) p]?) (mu:=λs=>match s with|[.i k,_]=>k.toNat|_=>0)
    ⟨m,l,rfl,om,om,.refl l,λp=>by rw[ZP om]⟩ ?_
   rintro s ⟨k,d,rfl,k0,ki,hs,hd⟩;have kH:=hs.perm.length_eq;refine cz (λhc=>?_) (λhc=>?_);rotate_left
   .obtain rfl:k=i:=om;exact bm ⟨d,rfl,hs,(avg ha i0 i1 k1 k2).congr λp _ _=>nV (hd p)⟩
   have nj:k-1<d.length:=om;have hk:k<d.length:=om;refine eb (((k-1:Nat):Int)) (by show(k:Int) -1=_;omega) ?_;refine eb (((k-1:Nat):Int)) (by show(k:Int) -1=_;omega) ?_;refine kz (l:=d) (j:=k-1) rfl rfl nj (nW ?_);refine kz (l:=d) (j:=k) rfl rfl hk (nW ?_);refine tn (l:=d) (j:=k) (z:=d[k-1]) rfl rfl hk rfl rfl (nW ?_);refine tn (l:=d.set k d[k-1]) (j:=k-1) (z:=d[k]) rfl rfl (by simpa using nj) rfl rfl (nW ?_);refine eb (((k-1:Nat):Int)) (by show(k:Int) -1=_;omega) ?_;refine bm ⟨⟨k-1,_,rfl,om,om,hs.trans (.swap hk nj om om om om),λp=>?_⟩,?_⟩
   .rw[GL hk nj];have e:(if p=k-1 then c_ k m (m+1) k else if p=k then c_ k m (m+1) (k-1)else c_ k m (m+1) p)=c_ (k-1) m (m+1) p:=by unfold c_; (repeat' split)<;>omega
    rw[<-e]
    (repeat' split)<;>exact hd _
   .show((k-1:Nat):Int).toNat<k;omega
 have hmb:b-a<=2*n:=om;refine DA (i:=a) (j:=b) rfl rfl rfl om (nW ?_);refine fg ((((a+b) /2+m:Nat):Int)) (by rfl) ?_;generalize aGZ:(a+b) /2=mid;have q1:2*mid<=a+b:=om;have q2:a+b<=2*mid+1:=om;refine bO (λxs=>∃lo r:Nat,xs=[.i lo,.i r]/\a<=lo/\lo<=r/\r<=m/\r<=mid/\mid+m<=b+lo/\(lo=a\/mid+m=b+lo)/\(r=m\/r=mid)) ?_ ?_
 .refine cz (λhg=>?_) (λhg=>?_)
  .refine eb (((mid+m-b:Nat):Int)) (by show((mid+m:Nat):Int) -b=_;omega) ?_;exact bm ⟨mid+m-b,mid,rfl,om,om,om,om,om,.inr om,.inr rfl⟩
  .exact bm ⟨a,m,rfl,om,om,om,om,om,.inl rfl,.inl rfl⟩
 rintro _ ⟨lo,r,rfl,b1,b2,b3,b4,b5,b6,b7⟩;refine nW ?_;refine eb (((mid+m-1:Nat):Int)) (by show((mid+m:Nat):Int) -1=_;omega) ?_;refine bO (λxs=>∃s:Nat,xs=[.i s]/\lo<=s/\s<=r/\(s=lo\/di l (s-1)<=di l (mid+m-s))/\(s=r\/di l (mid+m-1-s)<=di l s)) ?_ ?_
 .refine wp_loop (I:=λx=>∃i j:Nat,x=[.i i,.i j]/\lo<=i/\i<=j/\j<=r/\(i=lo\/di l (i-1)<=di l (mid+m-i))/\(j=r\/di l (mid+m-1-j)<=di l j)) (mu:=λs=>match s with|[.i i,.i j]=>j.toNat-i.toNat|_=>0)
   ⟨lo,r,rfl,om,om,om,.inl rfl,.inl rfl⟩ ?_
  rintro x ⟨i,j,rfl,i0,ij,j1,k1,k2⟩;refine cz (λhc=>?_) (λhc=>?_);rotate_left
  .obtain rfl:i=j:=om;exact bm ⟨i,rfl,i0,j1,k1,k2⟩
  have hh:(i+j) /2<l.length:=om;have hp:mid+m-1- (i+j) /2<l.length:=om;refine DA (i:=i) (j:=j) rfl rfl rfl om (nW ?_);refine eb (((mid+m-1- (i+j) /2:Nat):Int)) (by show((mid+m-1:Nat):Int) - (((i+j) /2:Nat):Int)=_;omega) ?_;refine kz (l:=l) (j:=mid+m-1- (i+j) /2) rfl rfl hp (nW ?_);refine kz (l:=l) (j:=(i+j) /2) rfl rfl hh (nW ?_);obtain⟨c,wS,ja⟩:=Hh l[mid+m-1- (i+j) /2] l[(i+j) /2];refine bR wS ?_;rw[<-qg hh,<-qg hp]at ja;refine dn (λhz=>?_) (λhz=>?_)
  .have hz:(!decide (c<0))=true:=hz;have hz:¬c<0:=by simpa using hz
   refine cj ((i+j) /2) ?_;refine bm ⟨⟨(i+j) /2+1,j,rfl,om,om,j1,.inr (by rw[Iw,show mid+m- ((i+j) /2+1)=mid+m-1- (i+j) /2 by omega];omega),k2⟩,?_⟩;show j- (((i+j) /2+1:Nat):Int).toNat<j-i;omega
  .have hz:(!decide (c<0))=false:=hz;have hz:c<0:=by simpa using hz
   refine bm ⟨⟨i,(i+j) /2,rfl,i0,om,om,k1,.inr om⟩,?_⟩;show(((i+j) /2:Nat):Int).toNat-i<j-i;omega
 rintro _ ⟨s,rfl,s0,s1,k1,k2⟩;refine nW ?_;obtain⟨e,he⟩:∃e,e=mid+m-s:=⟨_,rfl⟩
 refine eb ((e:Int)) (by show((mid+m:Nat):Int) -s=_;omega) ?_;have aFi:s+(e-m)=mid:=om;obtain ⟨z1,z2,z3,z4,z5⟩:=awo ha hm (show a<=s by omega) (show s<=m by omega) (show m<=e by omega) (show e<=b by omega)
  (by
   rcases k1 with k|k
   .rcases b6 with k'|k'
    .exact .inl om
    .exact .inr (.inl om)
   .exact .inr (.inr (by rw[he];exact k)))
  (by
   rcases k2 with k|k
   .rcases b7 with k'|k'
    .exact .inl om
    .exact .inr (.inl om)
   .exact .inr (.inr (by rw[he,show mid+m-s-1=mid+m-1-s by omega];exact k)))
 rw[aFi]at z2 z3 z5;refine bO (λxs=>∃d:List It,xs=[.r (d.map bu)]/\eW a b l d/\∀p,d[p]?=l[c_ s m e p]?) ?_ ?_
 .refine bO (dp (s<m/\m<e)) ?_ ?_
  .refine cz (λg1=>?_) (λg1=>?_)
   .refine uR (bm ?_);exact fK om
   .exact bm (fF om)
  .rintro _ ⟨t1,rfl,ht⟩;refine nW ?_;refine dn (λg1=>?_) (λg1=>?_)
   .have g1:=ht.1 g1;obtain⟨d,hd,Ig,hgd⟩:=aot l hl g1.1 g1.2 (show e<=l.length by omega);refine bz hd ?_;exact bm ⟨d,rfl,Ig.mono om om,hgd⟩
   .have g1:¬(s<m/\m<e):=λh=>by rw[ht.2 h]at g1;cases g1
    refine bm ⟨l,rfl,.refl l,λp=>?_⟩;by_cases c1:s=m
    .rw[c1,ZP om]
    .rw[show e=m by omega,T4]
 rintro _ ⟨d,rfl,Ig,hgd⟩;refine nW ?_;have kH:=Ig.perm.length_eq;have hv:∀p,di d p=di l (c_ s m e p):=λp=>nV (hgd p)
 have y1:eK (di d) a s:=z1.congr λp _ _=>hv p
 have y2:eK (di d) s mid:=z2.congr λp _ _=>hv p
 have y3:eK (di d) mid e:=z3.congr λp _ _=>hv p
 have y4:eK (di d) e b:=z4.congr λp _ _=>hv p
 have y5:∀p q,a<=p->p<mid->mid<=q->q<b->di d p<=di d q:=λp q h1 h2 h3 h4=>by rw[hv,hv];exact z5 p q h1 h2 h3 h4
 refine bO (λxs=>∃d2:List It,xs=[.r (d2.map bu)]/\eW a mid d d2/\eK (di d2) a mid) ?_ ?_
 .refine bO (dp (a<s/\s<mid)) ?_ ?_
  .refine cz (λg1=>?_) (λg1=>?_)
   .refine uR (bm ?_);exact fK om
   .exact bm (fF om)
  .rintro _ ⟨t1,rfl,ht⟩;refine nW ?_;refine dn (λg1=>?_) (λg1=>?_)
   .have g1:=ht.1 g1;obtain⟨d2,zt,aFj,aFk⟩:=hF d a s mid om g1.1 g1.2 om om y1 y2;refine bz zt ?_;exact bm ⟨d2,rfl,aFj,aFk⟩
   .have g1:¬(a<s/\s<mid):=λh=>by rw[ht.2 h]at g1;cases g1
    refine bm ⟨d,rfl,.refl d,?_⟩;by_cases c1:a=s
    .rw[c1];exact y2
    .rw[show mid=s by omega];exact y1
 rintro _ ⟨d2,rfl,hs2,hg2⟩;refine nW ?_;have aHa:=hs2.perm.length_eq;have hv2:∀p,mid<=p->di d2 p=di d p:=λp hp=>nV (hs2.out p (.inr hp))
 have x3:eK (di d2) mid e:=y3.congr λp h1 _=>hv2 p h1
 have x4:eK (di d2) e b:=y4.congr λp h1 _=>hv2 p om
 have fin:∀d3:List It,eW mid b d2 d3->eK (di d3) mid b->eW a b l d3/\eK (di d3) a b:=λd3 h3 h4=>
  ⟨Ig.trans ((hs2.mono om om).trans (h3.mono om om)),eK.join (hg2.congr λp _ h2=>nV (h3.out p (.inl h2))) h4 (aBu y5 hs2 h3)⟩
 refine bO (dp (mid<e/\e<b)) ?_ ?_
 .refine cz (λg1=>?_) (λg1=>?_)
  .have g1:(mid:Int)<e:=g1;refine uR (bm ?_);show dp _ [L.b (decide ((e:Int)<b))];exact fK om
  .have g1:¬(mid:Int)<e:=g1;exact bm (fF om)
 .rintro _ ⟨t1,rfl,ht⟩;refine nW ?_;refine dn (λg1=>?_) (λg1=>?_)
  .have g1:=ht.1 g1;obtain⟨d3,H_,aFl,aFm⟩:=hF d2 mid e b om g1.1 g1.2 om om x3 x4;refine bz H_ ?_;exact bm ⟨d3,rfl,fin d3 aFl aFm⟩
  .have g1:¬(mid<e/\e<b):=λh=>by rw[ht.2 h]at g1;cases g1
   refine bm ⟨d2,rfl,fin d2 (.refl d2) ?_⟩;by_cases c1:mid=e
   .rw[c1];exact x4
   .rw[show b=e by omega];exact x3
def aoG:DW C8 0:=λl a m b _ c d _ e _ _=>om
def aaW:DW Ho 96:=yX (n:=48) (yX (n:=24) (yX (n:=12) (yX (n:=6) (yX (n:=3) (yX (n:=0) aoG (.inr om)) (.inl om)) (.inl om)) (.inl om)) (.inl om)) (.inl om)
end
section
open Go.RowKit AI
attribute [local irreducible] bp.wp
def b1(n:Nat):List PV:=[.sc (.int .u8 (n:Int))]
def rI(o:Option L):Int:=match o with|some (.i n)=>n|_=>0
def rl(r:Int):Int:=if rI (eC .and .u32 r 1)=1 then rI (eC .xor .u32 (rI (eC .shr .u32 r 1)) 2197175160)else rI (eC .shr .u32 r 1)
def jF(r:Int):Nat->Int
 |0=>r
 |n+1=>rl (jF r n)
def lz(r:Int)(x:Nat):Int:=jF (rI (eC .xor .u32 r (IntKind.wrap .u32 (x:Int)))) 8
def iQ(r:Int):Int:=rI (Uv .xor .u32 r)
def fo(l:List Nat):Int:=iQ (l.foldl lz (iQ 0))
def auu(r):J4 [.i r]=some [.i (jF r 8)]:=by
 refine bJ ?_;refine bO (λxs=>xs=[.i (jF r 8)]) ?_ ?_;rotate_left
 .rintro _ rfl;refine nW ?_;exact bm rfl
 refine wp_loop (I:=λa=>∃i:Nat,a=[.i (jF r i),.i i]/\i<=8) (mu:=gX 8) ⟨0,rfl,om⟩ ?_;rintro a ⟨i,rfl,e1⟩;refine cz (λhc=>?_) (λhc=>?_)
 .refine bO (λxs=>xs=[.i (jF r (i+1))]) ?_ ?_
  .refine dw (l:=.i (rI (eC .and .u32 (jF r i) 1))) rfl (uR ?_);refine cD rfl (λhx=>?_) (λhx=>?_)
   .refine dw (l:=.i (rI (eC .shr .u32 (jF r i) 1))) rfl (nW ?_);refine dw (l:=.i (rI (eC .xor .u32 (rI (eC .shr .u32 (jF r i) 1)) 2197175160))) rfl (nW ?_);refine bm ?_;show[L.i _]=[L.i (rl (jF r i))]
    unfold rl;rw[bB hx]
   .refine dw (l:=.i (rI (eC .shr .u32 (jF r i) 1))) rfl (nW ?_);refine bm ?_;show[L.i _]=[L.i (rl (jF r i))]
    unfold rl;rw[bG hx]
  .rintro _ rfl;refine nW ?_;refine cj i ?_;exact bm ⟨⟨i+1,rfl,om⟩,dy 8 i⟩
 .obtain rfl:i=8:=om;exact bm rfl
def ayk(c)(l:List Nat)(hl:l.length<=4294967296):Of [.i c,.r (l.map b1)]=some [.i (iQ (l.foldl lz (iQ c)))]:=by
 refine bJ ?_;refine kh (ls:=[.i (iQ c)]) rfl (nW ?_);refine bO (λxs=>xs=[.i (l.foldl lz (iQ c))]) ?_ ?_;rotate_left
 .rintro _ rfl;refine nW ?_;refine kh (ls:=[.i (iQ (l.foldl lz (iQ c)))]) rfl (nW ?_);exact bm rfl
 refine wp_loop (I:=λa=>∃i:Nat,a=[.i ((l.take i).foldl lz (iQ c)),.i i]/\i<=l.length) (mu:=gX l.length) ⟨0,rfl,om⟩ ?_;rintro a ⟨i,rfl,e1⟩;refine cz (λhc=>?_) (λhc=>?_)
 .rw[bA]at hc;have hi:i<l.length:=om;refine dx b1 i hi ?_;refine ju (nW ?_);refine dw (l:=.i (rI (eC .xor .u32 ((l.take i).foldl lz (iQ c)) (IntKind.wrap .u32 (l[i]:Int))))) rfl (nW ?_);refine bz (auu _) ?_;refine cj i ?_;refine bm ⟨⟨i+1,?_,om⟩,?_⟩
  .rw[fT hi,zN];rfl
  .show l.length- ((i+1:Nat):Int).toNat<l.length-i;omega
 .rw[bA]at hc;obtain rfl:i=l.length:=om;refine bm ?_;show[L.i ((l.take l.length).foldl lz (iQ c))]=_;rw[jX]
def Q8(l)(c:l.length<=4294967296):Eu [.r (l.map b1)]=some [.i (fo l)]:=by
 refine bJ ?_;refine bz (ayk 0 l c) ?_;exact bm rfl
def amK(c)(l:List Nat)(hl:l.length<=4294967296):J8 [.i c,.r (l.map b1)]=some [.i (iQ (l.foldl lz (iQ c)))]:=by
 refine bJ ?_;refine kh (ls:=[.i (iQ c)]) rfl (nW ?_);refine bO (λxs=>xs=[.i (l.foldl lz (iQ c))]) ?_ ?_;rotate_left
 .rintro _ rfl;refine nW ?_;refine kh (ls:=[.i (iQ (l.foldl lz (iQ c)))]) rfl (nW ?_);exact bm rfl
 refine uR ?_;refine wp_loop (I:=λa=>∃i:Nat,a=[.i ((l.take i).foldl lz (iQ c)),.i i]/\i<=l.length) (mu:=gX l.length) ⟨0,rfl,om⟩ ?_;rintro a ⟨i,rfl,e1⟩;refine cz (λhc=>?_) (λhc=>?_)
 .rw [bA]at hc;have hi:i<l.length:=om;refine bO (λxs=>xs=[.i ((l.take (i+1)).foldl lz (iQ c))]) ?_ ?_;rotate_left
  .rintro _ rfl;refine nW ?_;refine cj i ?_;exact bm ⟨⟨i+1,rfl,om⟩,dy l.length i⟩
  refine dx b1 i hi ?_;refine ju (nW ?_);refine dw (l:=.i (rI (eC .xor .u32 ((l.take i).foldl lz (iQ c)) (IntKind.wrap .u32 (l[i]:Int))))) rfl ?_;rw[fT hi,zN];generalize (l.take i).foldl lz (iQ c)=r;show bp.wp _ _ (jQ (λxs=>xs=[.i (jF (rI (eC .xor .u32 r (IntKind.wrap .u32 (l[i]:Int)))) 8)]) _);generalize rI (eC .xor .u32 r (IntKind.wrap .u32 (l[i]:Int)))=r';refine nW ?_;refine wp_loop (I:=λa=>∃i:Nat,a=[.i (jF r' i),.i i]/\i<=8) (mu:=gX 8) ⟨0,rfl,om⟩ ?_;rintro a ⟨j,rfl,e1⟩;refine cz (λhc=>?_) (λhc=>?_)
  .refine bO (λxs=>xs=[.i (jF r' (j+1))]) ?_ ?_
   .refine dw (l:=.i (rI (eC .and .u32 (jF r' j) 1))) rfl (nW ?_);refine dw (l:=.i (rI (eC .shr .u32 (jF r' j) 1))) rfl (uR ?_);refine cD rfl (λhx=>?_) (λhx=>?_)
    .refine dw (l:=.i (rI (eC .xor .u32 (rI (eC .shr .u32 (jF r' j) 1)) 2197175160))) rfl (nW ?_);refine bm ?_;show[L.i _]=[L.i (rl (jF r' j))]
     unfold rl;rw[bB hx]
    .refine bm ?_;show[L.i _]=[L.i (rl (jF r' j))]
     unfold rl;rw[bG hx]
   .rintro _ rfl;refine nW ?_;refine cj j ?_;exact bm ⟨⟨j+1,rfl,om⟩,dy 8 j⟩
  .obtain rfl:j=8:=om;exact bm rfl
 .rw[bA]at hc;obtain rfl:i=l.length:=om;refine bm ?_;show[L.i ((l.take l.length).foldl lz (iQ c))]=_;rw[jX]
def Fk(l)(c:l.length<=4294967296):v_ [.r (l.map b1)]=some [.i (fo l)]:=by
 refine bJ ?_;refine bz (amK 0 l c) ?_;exact bm rfl
def ahn(l):0<=fo l/\fo l<=4294967295:=by
 have:=ayg .u32 (((BitVec.ofInt 32 (4294967295:Int) ^^^BitVec.ofInt 32 (l.foldl lz (iQ 0))).toNat:Nat):Int);exact this
def fe(c:Int)(k:Nat):Nat:=(c/2^k%256).toNat
def oA(c)(k):[PV.sc (.int .u8 (IntKind.wrap .u8 (c.fdiv (2^k))))]=b1 (fe c k):=by
 unfold b1 fe;have h:(0:Int)<=c/2^k%256:=Int.emod_nonneg _ dc;rw[IG _ (QE dc),zG h];congr 3
def d_(l:List Nat):List Nat:=[fe (fo l) 0,fe (fo l) 8,fe (fo l) 16,fe (fo l) 24]
def yN(l)(d:l.length<=4294967296):tO [.r (l.map b1)]=some [.r ((d_ l).map b1)]:=by
 refine bJ ?_;refine bz (Q8 l d) ?_;refine ju (nW ?_);refine dw (l:=.i ((fo l).fdiv (2^8))) rfl (nW ?_);refine ju (nW ?_);refine dw (l:=.i ((fo l).fdiv (2^16))) rfl (nW ?_);refine ju (nW ?_);refine dw (l:=.i ((fo l).fdiv (2^24))) rfl (nW ?_);refine ju (uR ?_);refine bm ?_;have c:=oA (fo l) 0;rw[show(fo l).fdiv (2^0)=fo l by simp]at c;show[L.r [[PV.sc _],[PV.sc _],[PV.sc _],[PV.sc _]]]=[L.r [b1 _,b1 _,b1 _,b1 _]]
 rw[<-c,<-oA,<-oA,<-oA]
def Mi(l)(d:l.length<=4294967296):A8 [.r (l.map b1)]=some [.r ((d_ l).map b1)]:=by
 refine bJ ?_;refine bz (Fk l d) ?_;refine ju (nW ?_);refine dw (l:=.i ((fo l).fdiv (2^8))) rfl (nW ?_);refine ju (nW ?_);refine dw (l:=.i ((fo l).fdiv (2^16))) rfl (nW ?_);refine ju (nW ?_);refine dw (l:=.i ((fo l).fdiv (2^24))) rfl (nW ?_);refine ju (uR ?_);refine bm ?_;have c:=oA (fo l) 0;rw[show(fo l).fdiv (2^0)=fo l by simp]at c;show[L.r [[PV.sc _],[PV.sc _],[PV.sc _],[PV.sc _]]]=[L.r [b1 _,b1 _,b1 _,b1 _]]
 rw[<-c,<-oA,<-oA,<-oA]
def YP(l)(c:l.length<=4294967296):DF [.r (l.map b1)]=some [.r ((d_ l).map b1)]:=by
 rw[<-Mi l c];rfl
end
end
end Go.Proofs.YtiikkkhcolcebaaGreatDoor
