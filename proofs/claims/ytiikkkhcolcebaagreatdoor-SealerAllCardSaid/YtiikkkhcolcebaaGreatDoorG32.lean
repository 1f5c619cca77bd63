/- A part. -/
import Derived.Test.YtiikkkhcolcebaaGreatDoorG13
import Derived.Test.YtiikkkhcolcebaaGreatDoorG14
import Derived.Test.YtiikkkhcolcebaaGreatDoorG31
import Derived.WalkKit
set_option linter.all false
set_option maxHeartbeats 4000000
set_option maxRecDepth 100000
namespace Go.Proofs.YtiikkkhcolcebaaGreatDoor
noncomputable section
section
open Go.RowKit
namespace AI
def AS.rs(S:AS):At->Option RS
 |.v i=>match S.env[i]? with
  |some g=>lk S.rw g
  |none=>some none
 |_=>some none
def AS.cs(S:AS):At->Option (List AC)
 |.v i=>match S.env[i]? with
  |some g=>lk S.cl g
  |none=>none
 |_=>none
def AS.bo(S:AS):At->Option BD
 |.v i=>match S.env[i]? with
  |some g=>lk S.bd g
  |none=>none
 |.b t=>some (.n4 t)
 |_=>none
section
variable{S:AS}{τ ρ:List L}(h:Ga S τ ρ)
include h
theorem Ga.rs{x r}(d:S.rs x=some r):wU r (x.ev ρ).bC:=by
 cases x with
 |v i=>
  rw[h.ev];simp only[AS.rs]at d
  cases q:S.env[i]? with
  |none=>rw[q]at d;cases d;rfl
  |some g=>rw[q]at d;exact(h.rw _ (rR d)).2
 |_=>cases d;rfl
theorem Ga.cs{x r}(d:S.cs x=some r):AC.kG r (x.ev ρ).i_:=by
 cases x with
 |v i=>
  rw[h.ev];simp only[AS.cs]at d
  cases q:S.env[i]? with
  |none=>simp_all
  |some g=>rw[q]at d;exact(h.cl _ (rR d)).2
 |_=>cases d
theorem Ga.bo{x b}(d:S.bo x=some b):(x.ev ρ).ez=b.val τ:=by
 cases x with
 |v i=>
  rw[h.ev];simp only[AS.bo]at d
  cases q:S.env[i]? with
  |none=>simp_all
  |some g=>rw[q]at d;exact(h.bd _ (rR d)).2.2
 |b t=>cases d;rfl
 |_=>cases d
end
theorem Ga.ls{S τ ρ}(h:Ga S τ ρ){x y}(d:S.ls x=some y):((x.ev ρ).fU.size:Int)=eZ τ y:=by
 cases x with
 |v i=>
  rw[h.ev];simp only[AS.ls]at d
  cases q:S.env[i]? with
  |none=>rw[q]at d;cases d;rfl
  |some g=>rw[q]at d;cases d;simp only[eZ,aqp];omega
 |s x=>cases d;simp[eZ,vm,At.ev,L.fU]
 |i c=>cases d;rfl
 |b t=>cases d;rfl
 |r0=>cases d;rfl
theorem Ga.aod{S τ ρ}(h:Ga S τ ρ){x y}(d:S.ls x=some y):il τ.length y.1=true:=by
 cases x with
 |v i=>
  simp only[AS.ls]at d
  cases q:S.env[i]? with
  |none=>rw[q]at d;cases d;rfl
  |some g=>
   rw[q]at d;cases d;have:=h.lt g (eb q);simp only[il,h.n,eD];omega
 |_=>cases d;rfl
def AS.at(S:AS)(x i:At):Bool:=o6 S.fs (0,0) (S.li i) 0&&o6 S.fs (S.li i) (S.le x) (-1)
section
variable{S:AS}{τ ρ:List L}(h:Ga S τ ρ)
include h
end
end AI
namespace AI
theorem lV{n rows}(h:ct n rows=true):oC n rows=true:=by
 cases rows with
 |nil=>rfl
 |cons r rows=>
  have:=(jk.1 h) r iA;simp[oC,this]
theorem z0(τ):eZ τ (0,0)=0:=by rfl
section
variable{S:AS}{τ ρ:List L}(h:Ga S τ ρ)
include h
end
end AI
namespace AI
def P7:RS->RS->Bool
 |none,_=>true
 |some a,some b=>AC.zq a b
 |some _,none=>false
theorem awj{x y}(h:P7 x y=true){rows}(d:wU x rows):wU y rows:=by
 cases x with
 |none=>
  have:rows=[]:=d;subst this
  cases y with
  |none=>rfl
  |some c=>intro r d;cases d
 |some a=>cases y with
  |none=>cases h
  |some b=>exactλr e=>AC.IV h (d r e)
section
variable{S:AS}{τ ρ:List L}(h:Ga S τ ρ)
include h
end
def azV.ok(τ:List L):List pc->List L->Prop
 |[],[]=>True
 |N::d,l::ls=>N.ok τ l/\azV.ok (τ++[l]) d ls
 |_,_=>False
def one(x:Option pc):Option (List pc):=x.map λN=>[N]
end AI
namespace AI
def L0(x y:Li)(c:Int):Fa:=⟨x.1,y.1,c+y.2-x.2⟩
theorem Z_{τ x y c}(h:eZ τ x-eZ τ y<=c):(L0 x y c).holds τ:=by
 unfold Fa.holds L0;unfold eZ at h;simp only;omega
def akE(b:List Fa)(x y:Li)(c:Int):Bool:=match Dt b y x with
 |some d=>decide (d+c<0)
 |none=>false
def AS.tr(S:AS)(d:List At)(t:Nat):Option Li:=match t with
 |0=>some (0,0)
 |t+1=>match d[t/3]? with
  |none=>some (0,0)
  |some x=>if t%3=0 then some (S.li x)else if t%3=1 then some (S.le x)else S.ls x
theorem Ga.tr{S τ ρ}(h:Ga S τ ρ){q t x}(d:S.tr q t=some x):eZ τ x=eY (q.map (At.ev ρ)) t/\il τ.length x.1=true:=by
 cases t with
 |zero=>cases d;exact⟨by rfl,rfl⟩
 |succ t=>
  simp only[AS.tr]at d;simp only[eY,cX]
  cases B:q[t/3]? with
  |none=>rw[B]at d;cases d;refine⟨?_,rfl⟩;simp only[eZ,vm,ZS,Option.getD_none,L.br,L.bC,L.fU];simp_all
  |some y=>
   rw[B]at d;simp only[b_,gx]at d⊢;split at d
   .rename_i u;cases d;rw[bA u];exact⟨(h.li y).symm,h.apS y⟩
   .rename_i u;rw[bH u];split at d
    .rename_i z;cases d;rw[bA z];exact⟨(h.le y).symm,h.aws y⟩
    .rename_i z;rw[bH z];exact⟨(h.ls d).symm,h.aod d⟩
structure o4 where
 fs:List Fa:=[]
 rw:List (Nat×RS):=[]
 bs:List (Nat×Bool):=[]
 pr:List (Nat×List Nat):=[]
deriving Inhabited
structure o4.ok(T:o4)(vs:List L):Prop where
 fs:∀f∈T.fs,f.holds vs
 rw:∀x∈T.rw,wU x.2 (at' vs x.1).bC
 bs:∀x∈T.bs,(at' vs x.1).ez=x.2
 pr:∀x∈T.pr,Qq x.1 (x.2.map (at' vs))
def AS.uj(S:AS)(d:List At):List Nat->Option (List Nat)
 |[]=>some []
 |p::ps=>match d[p]? with
  |some (.v i)=>match S.env[i]?,S.uj d ps with
   |some g,some gs=>some (g::gs)
   |_,_=>none
  |_=>none
def CV(id:Nat)(gs:List Nat):List (Nat×List Nat)->Bool
 |[]=>false
 |(i,l)::r=>if i==id&&l==gs then true else CV id gs r
theorem Qu{id:Nat}{gs:List Nat}:∀{l:List (Nat×List Nat)},CV id gs l=true->(id,gs)∈l
 |[],h=>by cases h
 |(i,l)::r,h=>by
  simp only[CV]at h;split at h
  .rename_i b;simp only[cu]at b;rw[eq_of_beq b.1,eq_of_beq b.2];exact iA
  .exact iz _ (Qu h)
theorem Ga.uj{S:AS}{τ ρ:List L}(h:Ga S τ ρ){q:List At}:∀{ps gs:List Nat},S.uj q ps=some gs->ps.map (at' (q.map (At.ev ρ)))=gs.map (at' τ)
 |[],gs,d=>by cases d;rfl
 |p::ps,gs,d=>by
  simp only[AS.uj]at d;split at d
  .rename_i i u;split at d
   .rename_i g x y t;cases d;simp only[dk,h.uj t];simp only[at',cX,u,b_,gx];rw[h.ev,y];rfl
   .cases d
  .cases d
def AS.eH(S:AS)(d:List At)(T:o4):Bool:=
 T.fs.all (λf=>match S.tr d f.a,S.tr d f.b with
  |some x,some y=>o6 S.fs x y f.c
  |_,_=>false)&&
 T.rw.all (λx=>match d[x.1]? with
  |some y=>match S.rs y with
   |some z=>P7 z x.2
   |none=>(match S.bo y with|_=>false)
  |none=>false)&&
 T.bs.all (λx=>match d[x.1]? with
  |some y=>match S.bo y with
   |some (.n4 b)=>b==x.2
   |_=>false
  |none=>false)&&
 T.pr.all (λx=>match S.uj d x.2 with
  |some gs=>CV x.1 gs S.pr
  |none=>false)
theorem HM{b:List At}{ρ p y}(h:b[p]?=some y):at' (b.map (At.ev ρ)) p=y.ev ρ:=by simp[at',h]
theorem Ga.eH{S τ ρ}(h:Ga S τ ρ){q T}(D:S.eH q T=true):T.ok (q.map (At.ev ρ)):=by
 have u:∀f∈S.fs,f.holds τ:=λf u=>h.holds u
 simp only[AS.eH,cu,cz]at D;obtain⟨⟨⟨c1,c2⟩,c3⟩,c4⟩:=D;refine⟨λf d=>?_,λx d=>?_,λx d=>?_,λx d=>?_⟩;rotate_left 3
 .have:=c4 x d;split at this
  .rename_i gs B;rw[h.uj B];exact(h.pr _ (Qu this)).2
  .cases this
 .have:=c1 f d;split at this
  .rename_i x y E t;have:=aAb u this;unfold Fa.holds;rw[<-(h.tr E).1,<-(h.tr t).1];exact this
  .cases this
 .have:=c2 x d;split at this
  .rename_i y t;split at this
   .rename_i z F;rw[HM t];exact awj this (h.rs F)
   .cases this
  .cases this
 .have:=c3 x d;split at this
  .rename_i y t;split at this
   .rename_i b G;rw[HM t,h.bo G];have:=eq_of_beq this;exact this
   .cases this
  .cases this
def AS.ext(S:AS)(d:List At)(m:Nat)(T:o4):Option AS:=
 let k:=d.length
 let tr:=λt=>match t with
  |0=>some ((0,0):Li)
  |t+1=>if t/3<k then S.tr d (t+1)else some (3*(S.n+(t/3-k))+t%3+1,0)
 let fs:=T.fs.mapM λf=>match tr f.a,tr f.b with
  |some x,some y=>some (L0 x y f.c)
  |_,_=>none
 let ps:=λp=>if p<k then match d[p]? with
  |some (.v i)=>S.env[i]?
  |_=>none
  else if p<k+m then some (S.n+(p-k))else none
 let q:=λ(l:List Nat)=>l.mapM ps
 match fs with
 |some fs=>if fs.all (Fa.in (S.n+m))=true then some ⟨S.env++(List.range m).map (S.n+ ·),S.n+m,fs++S.fs,(T.rw.filterMap λx=>(ps x.1).map λg=>(g,x.2))++S.rw,S.cl,(T.bs.filterMap λx=>(ps x.1).map λg=>(g,.n4 x.2))++S.bd,S.al,S.ll,S.sm,(T.pr.filterMap λx=>(q x.2).map λgs=>(x.1,gs))++S.pr⟩else none
 |none=>none
end AI
namespace AI
theorem mapM_mem{α e:Type}{g}:∀{l:List α}{ys}{y:e},l.mapM g=some ys->y∈ys->∃x∈l,g x=some y
 |[],ys,y,h,b=>by simp_all
 |a::l,ys,y,h,b=>by
  cases c:g a with
  |none=>simp[c]at h
  |some z=>
   cases d:l.mapM g with
   |none=>simp[c,d]at h
   |some f=>
    simp[c,d]at h;subst h;rcases eG.1 b with rfl|b
    .simp_all
    simp_all[mapM_mem]
theorem arn{b c d e t}(h:b[d]?=c[e]?)(f:t/3=e):eY b (3*d+t%3+1)=eY c (t+1):=by
 simp only[eY];rw[show(3*d+t%3) /3=d by omega,show(3*d+t%3)%3=t%3 by omega,h,f]
theorem Ga.ext{S S' τ ρ}(h:Ga S τ ρ){d m T}(q:S.ext d m T=some S'){o}(ho:o.length=m)(R:T.ok (d.map (At.ev ρ)++o)):Ga S' (τ++o) (ρ++o):=by
 subst ho;unfold AS.ext at q;simp only at q;split at q
 .rename_i fs U;split at q
  .injection q with q
   subst q;have K:=h.n;have z:∀g,g<S.n->at' (τ++o) g=at' τ g:=λg u=>vS om
   have G:∀j,at' (τ++o) (S.n+j)=at' o j:=λj=>by
    unfold at';rw[kF om];congr 2;omega
   have W:∀p,d.length<=p->at' (d.map (At.ev ρ)++o) p=at' o (p-d.length):=λp hp=>by
    unfold at';rw[kF (by simpa using hp)];simp
   have X:∀p,p<d.length->at' (d.map (At.ev ρ)++o) p=at' (d.map (At.ev ρ)) p:=λp hp=>vS (by simpa using hp)
   have M:∀(t:Nat)(x:Li),(match t with
    |0=>some ((0,0):Li)
    |t+1=>if t/3<d.length then S.tr d (t+1)else some (3*(S.n+(t/3-d.length))+t%3+1,0))=some x->eZ (τ++o) x=eY (d.map (At.ev ρ)++o) t:=λt x N=>by
    cases t with
    |zero=>cases N;rfl
    |succ t=>
     simp only at N;split at N
     .obtain⟨e1,e2⟩:=h.tr N;rw[qN e2,e1,Db];simp only[il,bD,eD];omega
     .cases N;simp only[eZ,GB];refine arn ?_ rfl;rw[kF om,kF (by simp;omega)];congr 1;simp;omega
   have H:∀(p g:Nat),(if p<d.length then match d[p]? with
    |some (.v i)=>S.env[i]?
    |_=>none
    else if p<d.length+o.length then some (S.n+(p-d.length))else none)=some g->g<S.n+o.length/\at' (τ++o) g=at' (d.map (At.ev ρ)++o) p:=λp g hp=>by
    split at hp
    .rename_i Y;split at hp
     .rename_i i hi;have u:=h.lt g (eb hp);refine⟨om,?_⟩;rw[z g u,X p Y,HM hi,h.ev,hp]
     .cases hp
    .split at hp
     .cases hp;exact⟨om,by rw[G,W p om]⟩
     .cases hp
   exact{
    n:=by simp[K]
    env :=by
     rw[h.env,dE];congr 1
     .exact gz λg u=>(z g (h.lt g u)).symm
     .apply sP;intro j;rw[gp,cX];by_cases O:j<o.length
      .rw[vg O,cY O];simp only[b_,Function.comp];rw[G j];simp[at',O]
      simp_all
    lt:=λg u=>by
     rcases gI.1 u with u|u
     .have:=h.lt g u;show g<S.n+o.length;omega
     .obtain⟨j,O,rfl⟩:=fE.1 u;have:=jr.1 O;show S.n+j<S.n+o.length;omega
    fs :=λf P=>by
     rcases gI.1 P with P|P
     .refine⟨by simp_all,?_⟩;obtain⟨f0,Z,E⟩:=mapM_mem U P;split at E
      .rename_i x y q hy;cases E;refine Z_ ?_;rw[M _ _ q,M _ _ hy];exact R.fs f0 Z
      .cases E
     .exact(h.fs f P).append
    rw:=λx q=>by
     rcases gI.1 q with q|q
     .obtain⟨x0,F,E⟩:=sR.1 q;simp only[bY]at E;obtain⟨g,u,rfl⟩:=E;obtain⟨k1,k2⟩:=H _ _ u;exact⟨k1,by rw[k2];exact R.rw x0 F⟩
     .obtain⟨D,B⟩:=h.rw x q;exact⟨by show x.1<S.n+o.length;omega,by rw[z _ D];exact B⟩
    cl:=λx q=>by
     obtain⟨D,B⟩:=h.cl x q;exact⟨by show x.1<S.n+o.length;omega,by rw[z _ D];exact B⟩
    bd:=λx q=>by
     rcases gI.1 q with q|q
     .obtain⟨x0,F,E⟩:=sR.1 q;simp only[bY]at E;obtain⟨g,u,rfl⟩:=E;obtain⟨k1,k2⟩:=H _ _ u;exact⟨k1,rfl,by rw[k2];exact R.bs x0 F⟩
     .obtain⟨D,B,I⟩:=h.bd x q;exact⟨by show x.1<S.n+o.length;omega,BD.Nb B (by simp_all),by rw[z _ D,BD.Ib (by rw[K];exact B)];exact I⟩
    al:=λx q=>by
     obtain⟨D,B,I⟩:=h.al x q;exact⟨by show x.1<S.n+o.length;omega,sy B (by simp_all),by rw[z _ D,qN (by rw[K];exact B)];exact I⟩
    ll:=λx q=>by
     obtain⟨D,B,I⟩:=h.ll x q;exact⟨by show x.1<S.n+o.length;omega,sy B (by simp_all),by rw[z _ D,qN (by rw[K];exact B)];exact I⟩
    sm:=λx q=>by
     obtain⟨D,B,I⟩:=h.sm x q;exact⟨by show x.2<S.n+o.length;omega,IP B (by simp_all),by rw[z _ D,HA (by rw[K];exact B)];exact I⟩
    pr :=λx q=>by
     rcases gI.1 q with q|q
     .obtain⟨x0,F,E⟩:=sR.1 q;simp only[bY]at E;obtain⟨gs,aa,rfl⟩:=E
      have key:∀(l gs:List Nat),l.mapM (λp=>if p<d.length then match d[p]? with
       |some (.v i)=>S.env[i]?
       |_=>none
       else if p<d.length+o.length then some (S.n+(p-d.length))else none)=some gs->(∀g∈gs,g<S.n+o.length)/\gs.map (at' (τ++o))=l.map (at' (d.map (At.ev ρ)++o)):=by
       intro l
       induction l with
       |nil=>simp_all
       |cons p l ih=>
        intro gs u;simp only[rk,Option.bind_eq_bind,iy]at u;obtain⟨g,ab,ac,ad,ae⟩:=u;cases ae;obtain⟨k1,k2⟩:=H _ _ ab;obtain⟨k3,k4⟩:=ih ac ad;exact⟨λg' J=>by rcases eG.1 J with rfl|J;exact k1;exact k3 g' J,by simp only[dk,k2,k4]⟩
      obtain⟨k1,k2⟩:=key _ _ aa;exact⟨k1,by rw[k2];exact R.pr x0 F⟩
     .obtain⟨D,B⟩:=h.pr x q;exact⟨λg u=>(by have:=D g u;show g<S.n+o.length;omega),by rw[gz (g:=at' τ) λg u=>z g (D g u)];exact B⟩}
  simp_all
 simp_all
structure pJ where
 gW:Nat
 jz:Nat
 pre:o4
 cases:List o4
deriving Inhabited
def pJ.ok(F:List L->Option (List L))(s:pJ):Prop:=∀ls,ls.length=s.gW->s.pre.ok ls->∃o,F ls=some o/\o.length=s.jz/\∃T∈s.cases,T.ok (ls++o)
def AC.bare:AC->Bool
 |.int .. =>true
 |.bool=>true
 |.str _=>true
 |.sl d _=>decide (d<=0)
 |.any=>false
def akO(T:o4)(p:Nat):Bool:=match lk T.rw p with
 |some none=>true
 |some (some cs)=>cs.all AC.bare
 |none=>false
def AS.apB(S:AS)(d:List At)(T:o4):Bool:=T.fs.any λf=>decide (f.a<=3*d.length)&&decide (f.b<=3*d.length)&&match S.tr d f.a,S.tr d f.b with
 |some x,some y=>akE S.fs x y f.c
 |_,_=>false
def kH(S:AS)(s:pJ)(args:List At)(n:Nat)(us:List Nat):Option (List AS):=
 if args.length=s.gW/\n=s.jz/\S.eH args s.pre=true/\s.cases.all (λT=>us.all λu=>akO T (s.gW+u))=true then(s.cases.filter λT=> !S.apB args T).mapM λT=>S.ext args n T else none
end AI
namespace AI
structure Inv where
 sp:List Nat
 ts:List o4
 t:Nat
 up:Bool
 b:Nat
 c:Int
deriving Inhabited
inductive wE where
 |e
 |b (x y:wE)
 |j (sp:List Nat) (ts:List o4) (x y:wE)
 |l (i:Inv) (x:wE)
deriving Inhabited
def wE.snd:wE->wE
 |.b _ y=>y
 |.j _ _ _ y=>y
 |_=>.e
structure Lv where
 k:Nat
 S:AS
 xs:List At
deriving Inhabited
def AS.uE(S:AS)(N:pc):Option AS:=(S.push N).map λd=> {d with env:=S.env}
theorem Ga.uE{S d τ ρ}(h:Ga S τ ρ){N l}(hp:S.uE N=some d)(x:N.ok τ l):Ga d (τ++[l]) ρ/\d.env=S.env:=by
 simp only[AS.uE,bY]at hp;obtain⟨t,u,rfl⟩:=hp;have k:=h.push u x;have y:t.n=S.n+1:=by
  unfold AS.push at u;grind
 refine⟨⟨k.n,?_,λg q=>?_,k.fs,k.rw,k.cl,k.bd,k.al,k.ll,k.sm,k.pr⟩,rfl⟩
 .rw[h.env];exact gz λg q=>(vS (by rw[h.n];exact h.lt g q)).symm
 .have:=h.lt g q;show g<t.n;omega
def AS.names(S:AS):List At->Option (List Nat×AS)
 |[]=>some ([],S)
 |x::xs=>match x with
  |.v i=>match S.env[i]? with
   |some g=>(S.names xs).map λy=>(g::y.1,y.2)
   |none=>none
  |.i c=>(S.uE {al:=some (0,c)}).bind λd=>(d.names xs).map λy=>(S.n::y.1,y.2)
  |.b t=>(S.uE {bd:=some (.n4 t)}).bind λd=>(d.names xs).map λy=>(S.n::y.1,y.2)
  |.s x=>(S.uE {fs:=fEq (3*S.n+3) (0,x.size)}).bind λd=>(d.names xs).map λy=>(S.n::y.1,y.2)
  |.r0=>(S.uE {rw:=some none,ll:=some (0,0)}).bind λd=>(d.names xs).map λy=>(S.n::y.1,y.2)
end AI
namespace AI
def AS.start(s:pJ):AS:=⟨List.range s.gW,s.gW,s.pre.fs,s.pre.rw,[],s.pre.bs.map λx=>(x.1,.n4 x.2),[],[],[],s.pre.pr⟩
def pJ.wf(s:pJ):Bool:=s.pre.fs.all (Fa.in s.gW)&&s.pre.rw.all (λx=>decide (x.1<s.gW))&&s.pre.bs.all (λx=>decide (x.1<s.gW))&&s.pre.pr.all (λx=>x.2.all λg=>decide (g<s.gW))
theorem Ga.start{s}(q:s.wf=true){ls}(t:ls.length=s.gW)(hp:s.pre.ok ls):Ga (AS.start s) ls ls:=by
 simp only[pJ.wf,cu,cz,eD]at q;obtain⟨⟨⟨D,E⟩,F⟩,G⟩:=q;refine⟨t,?_,λg H=>jr.1 H,λf u=>⟨by rw[t];exact D f u,hp.fs f u⟩,λx d=>⟨E x d,hp.rw x d⟩,λx d=>(by cases d),λx d=>?_,λx d=>(by cases d),λx d=>(by cases d),λx d=>(by cases d),λx d=>⟨by exact G x d,hp.pr x d⟩⟩
 .apply sP;intro j;simp only[AS.start,cX];by_cases z:j<ls.length
  .rw[vg om,cY z];simp[at',z]
  .rw[o0 om,o0 (by simp;omega)];rfl
 .obtain⟨y,B,rfl⟩:=fE.1 d;exact⟨F y B,rfl,hp.bs y B⟩
end AI
theorem avY{A R f}(I:A->Prop)(Q:R->Prop)(mu:A->Nat)
 (step:∀a,I a->(∃r,f a=some (.inr r)/\Q r)\/(∃a',f a=some (.inl a')/\I a'/\mu a'<mu a)):
 ∀a,I a->∃r,ib f a=some r/\Q r:=by
 have key:∀(n:Nat)(a:A),mu a<=n->I a->∃r,ib f a=some r/\Q r:=by
  intro n
  induction n with
  |zero=>
   intro a e b;rcases step a b with⟨r,c,d⟩| ⟨a',_,_,g⟩
   .exact⟨r,Eu c,d⟩
   .omega
  |succ n ih=>
   intro a e b;rcases step a b with⟨r,c,d⟩| ⟨a',c,d,g⟩
   .exact⟨r,Eu c,d⟩
   .obtain⟨r,i,j⟩:=ih a' om d;exact⟨r,by rw[zL c];exact i,j⟩
 exactλa b=>key _ a (de _) b
def bl.wp(f:bl)(ρ:List L)(Q:Lf×List L->Prop):Prop:=∃r,f.a_ ρ=some r/\Q r
def r7(rest:bl)(ρ:List L)(Q:Lf×List L->Prop)(r:Lf×List L):Prop:=match r with
 |(.jump 0 args,b)=>rest.wp (ρ++args.map (At.ev b)) Q
 |(.jump (k+1) args,b)=>Q (.jump k args,b)
 |r=>Q r
def uD(I:List L->Prop)(mu:List L->Nat)(a:List L)(Q:Lf×List L->Prop)(r:Lf×List L):Prop:=match r with
 |(.jump 0 args,b)=>I (args.map (At.ev b))/\mu (args.map (At.ev b))<mu a
 |(.jump (k+1) args,b)=>Q (.jump k args,b)
 |r=>Q r
def mT(Q:List L->Prop)(r:Lf×List L):Prop:=match r with
 |(.jump 0 args,b)=>Q (args.map (At.ev b))
 |_=>False
section
variable{ρ:List L}{Q:Lf×List L->Prop}
theorem uv{x}:(bl.bp x).wp ρ Q=Q (x,ρ):=by
 apply propext;constructor
 .rintro⟨r,h1,h2⟩;cases h1;exact h2
 .intro h;exact⟨_,rfl,h⟩
theorem apH{nd k}:(bl.op nd k).wp ρ Q=match nd.ev ρ with|some ls=>k.wp (ρ++ls) Q|none=>False:=by
 unfold bl.wp;simp only[bl.a_]
 cases nd.ev ρ with
 |none=>simp
 |some ls=>rfl
theorem qD{c a b}:(bl.ite c a b).wp ρ Q=if(c.ev ρ).ez=true then a.wp ρ Q else b.wp ρ Q:=by
 unfold bl.wp;simp only[bl.a_];split<;>rfl
theorem sx{a b}:(bl.join a b).wp ρ Q=a.wp ρ (r7 b ρ Q):=by
 apply propext;unfold bl.wp;simp only[bl.a_];constructor
 .rintro⟨r,h1,h2⟩;split at h1
  .rename_i args xU ha;exact⟨_,ha,r,h1,h2⟩
  .rename_i k args xU ha;cases h1;exact⟨_,ha,h2⟩
  .rename_i h3 h4;refine⟨r,h1,?_⟩;obtain⟨lf,xU⟩:=r
   cases lf with
   |st=>exact h2
   |jump k args=>cases k with
    |zero=>exact absurd h1 (h3 _ _)
    |succ k=>exact absurd h1 (h4 _ _ _)
 .rintro⟨⟨lf,xU⟩,h1,h2⟩;rw[h1]
  cases lf with
  |st=>exact⟨_,rfl,h2⟩
  |jump k args=>cases k with
   |zero=>exact h2
   |succ k=>exact⟨_,rfl,h2⟩
theorem wp_loop{init body}(I)(mu)(h0:I (init.map (At.ev ρ)))(step:∀a,I a->body.wp (ρ++a) (uD I mu a Q)):(bl.loop init body).wp ρ Q:=by
 refine avY (f:=λa=>nK (body.a_ (ρ++a))) I Q mu (λa ha=>?_) _ h0;obtain⟨⟨lf,xU⟩,h1,h2⟩:=step a ha
 cases lf with
 |st e S=>exact .inl ⟨(.st e S,xU),by rw[h1];rfl,h2⟩
 |jump k args=>cases k with
  |zero=>exact .inr ⟨_,by rw[h1];rfl,h2.1,h2.2⟩
  |succ k=>exact .inl ⟨(.jump k args,xU),by rw[h1];rfl,h2⟩
theorem bl.wp.mono{f:bl}{Q'}(h:f.wp ρ Q)(d:∀r,Q r->Q' r):f.wp ρ Q':=by
 obtain⟨r,q,t⟩:=h;exact⟨r,q,d r t⟩
end
theorem jR{f ls Q}(h:f.wp ls (mT Q)):∃o,Fo f ls=some o/\Q o:=by
 obtain⟨⟨c,d⟩,e,b⟩:=h
 cases c with
 |st=>exact b.elim
 |jump k args=>cases k with
  |zero=>exact⟨_,by unfold Fo;rw[e];rfl,b⟩
  |succ k=>exact b.elim
section
variable{α:Type}{a:α}{l m:List α}{n:Nat}
theorem d1:(a::l)++m=a::(l++m):=rfl
theorem d2:([]:List α)++m=m:=rfl
theorem d3:(a::l)[n+1]?=l[n]?:=rfl
theorem d4:(a::l)[0]?=some a:=rfl
theorem d5{b}:(some a).getD b=a:=rfl
theorem d6{n}:(L.i n).br=n:=rfl
theorem d7{b}:(L.b b).ez=b:=rfl
theorem d8{b}:(L.r b).bC=b:=rfl
theorem d9{b}:(L.c b).i_=b:=rfl
theorem e0{b}:(L.s b).fU=b:=rfl
end
namespace AI
theorem wrap64{n}(b: -9223372036854775808<=n)(c:n<=9223372036854775807):IntKind.wrap .i64 n=n:=Fp .i64 b c
theorem auH(k:eX)(n):k.min<=k.wrap n/\k.wrap n<=k.max:=by
 have:=(avK (k:=some k) (t:=1) (τ:=[.i (k.wrap n)]) (n:=n) rfl)
 have b:=this _ iA;have c:=this _ (iz _ iA);simp[Fa.holds,y7,Am,eY,L.br]at b c;omega
end AI
theorem bF{f ls o}(h:f.wp ls (mT λx=>x=o)):Fo f ls=some o:=by
 obtain⟨x,b,rfl⟩:=jR h;exact b
theorem gF{b P}(c:b=true↔P)(h:¬P):b=false:=by
 cases b with
 |true=>exact absurd (c.1 rfl) h
 |false=>rfl
section
variable{ρ:List L}{Q:Lf×List L->Prop}{k:bl}
theorem hW{nd}:(bl.op nd k).wp ρ Q=∃ls,nd.ev ρ=some ls/\k.wp (ρ++ls) Q:=by
 rw[apH];cases nd.ev ρ<;>simp
theorem yR{o}{P:List L->Prop}:(∃ls,o.map ([·])=some ls/\P ls)=∃l,o=some l/\P [l]:=by
 cases o<;>simp
theorem t_{op kd x y}:(bl.op (.bi op kd x y) k).wp ρ Q=∃l,dV op kd (x.ev ρ).br (y.ev ρ).br=some l/\k.wp (ρ++[l]) Q:=by
 rw[hW];exact yR
theorem uQ{op x y}:(bl.op (.bs op x y) k).wp ρ Q=∃l,wb op (x.ev ρ).fU (y.ev ρ).fU=some l/\k.wp (ρ++[l]) Q:=by
 rw[hW];exact yR
theorem uO{op x y}:(bl.op (.bb op x y) k).wp ρ Q=∃l,mY op (x.ev ρ).ez (y.ev ρ).ez=some l/\k.wp (ρ++[l]) Q:=by
 rw[hW];exact yR
theorem wB{x}:(bl.op (.not x) k).wp ρ Q=k.wp (ρ++[.b (!(x.ev ρ).ez)]) Q:=by rw[hW];simp[Nd.ev]
theorem xB{kd x}:(bl.op (.conv kd x) k).wp ρ Q=k.wp (ρ++[.i (kd.wrap (x.ev ρ).br)]) Q:=by rw[hW];simp[Nd.ev]
theorem vV{x}:(bl.op (.len x) k).wp ρ Q=k.wp (ρ++[.i (x.ev ρ).bC.length]) Q:=by rw[hW];simp[Nd.ev]
theorem uq{x i n}:(bl.op (.row x i n) k).wp ρ Q=(0<=(i.ev ρ).br/\∃r,(x.ev ρ).bC[(i.ev ρ).br.toNat]?=some r/\r.length=n/\k.wp (ρ++[.c r]) Q):=by
 rw[hW];simp only[Nd.ev];by_cases h0:0<=(i.ev ρ).br
 .simp only[h0,if_true,true_and]
  cases(x.ev ρ).bC[(i.ev ρ).br.toNat]? with
  |none=>simp
  |some r=>by_cases hr:r.length=n<;>simp[hr]
 .simp[h0]
theorem tZ{x i j kd}:(bl.op (.rc x i j kd) k).wp ρ Q=∃r,(x.ev ρ).bC[(i.ev ρ).br.toNat]?=some r/\∃q,r[j]?=some q/\∃l,kd.of q=some l/\k.wp (ρ++[l]) Q:=by
 rw[hW];simp only[Nd.ev];apply propext
 cases(x.ev ρ).bC[(i.ev ρ).br.toNat]? with
 |none=>simp
 |some r=>cases hr:r[j]? with
  |none=>simp[hr]
  |some q=>simp only[jq,hr,exists_eq_left'];exact iff_of_eq yR
theorem tK{x j kd}:(bl.op (.cl x j kd) k).wp ρ Q=∃q,(x.ev ρ).i_[j]?=some q/\∃l,kd.of q=some l/\k.wp (ρ++[l]) Q:=by
 rw[hW];simp only[Nd.ev];apply propext
 cases(x.ev ρ).i_[j]? with
 |none=>simp
 |some q=>simp only[jq,exists_eq_left'];exact iff_of_eq yR
theorem zi{α:Type}{c}[Decidable c]{a}{P:α->Prop}:(∃x,(if c then some a else none)=some x/\P x)=(c/\P a):=by
 by_cases h:c<;>simp[h]
theorem te{i c}:(bl.op (.du i c) k).wp ρ Q=((0<=(i.ev ρ).br/\(i.ev ρ).br<c)/\k.wp (ρ++[]) Q):=by rw[hW];exact zi
theorem uy{xs i}:(bl.op (.gk xs i) k).wp ρ Q=∃x,xs[(i.ev ρ).br.toNat]?=some x/\k.wp (ρ++[x.ev ρ]) Q:=by
 rw[hW];simp only[Nd.ev];cases xs[(i.ev ρ).br.toNat]? <;>simp
theorem wa{x i n y}:(bl.op (.ch x i n y) k).wp ρ Q=k.wp (ρ++[if(i.ev ρ).br.toNat=n then y.ev ρ else x.ev ρ]) Q:=by rw[hW];simp[Nd.ev]
theorem vn{x lo hi n}:(bl.op (.part x lo hi n) k).wp ρ Q=((0<=(lo.ev ρ).br/\(lo.ev ρ).br<=(hi.ev ρ).br/\(hi.ev ρ).br.toNat<=(x.ev ρ).bC.length/\ct n (x.ev ρ).bC=true)/\k.wp (ρ++[.r (((x.ev ρ).bC.take (hi.ev ρ).br.toNat).drop (lo.ev ρ).br.toNat)]) Q):=by rw[hW];exact zi
theorem uI{x lo hi n}:(bl.op (.cut x lo hi n) k).wp ρ Q=((0<=(lo.ev ρ).br/\(lo.ev ρ).br<=(hi.ev ρ).br/\(hi.ev ρ).br.toNat<=(x.ev ρ).bC.length/\oC n (x.ev ρ).bC=true)/\k.wp (ρ++[.i (((hi.ev ρ).br.toNat- (lo.ev ρ).br.toNat:Nat):Int)]) Q):=by rw[hW];exact zi
theorem vW{x lo ln}:(bl.op (.vw x lo ln) k).wp ρ Q=k.wp (ρ++[.r (((x.ev ρ).bC.drop (lo.ev ρ).br.toNat).take (ln.ev ρ).br.toNat)]) Q:=by rw[hW];simp[Nd.ev]
theorem vZ{x ln}:(bl.op (.tk x ln) k).wp ρ Q=k.wp (ρ++[.r ((x.ev ρ).bC.take (ln.ev ρ).br.toNat)]) Q:=by rw[hW];simp[Nd.ev]
theorem ux{x y n b}:(bl.op (.app x y n b) k).wp ρ Q=(((x.ev ρ).bC.length+(y.ev ρ).bC.length<=9223372036854775807/\((x.ev ρ).bC.length+(y.ev ρ).bC.length)*b<=140737488355328/\ct n (x.ev ρ).bC=true/\ct n (y.ev ρ).bC=true)/\k.wp (ρ++[.r ((x.ev ρ).bC++(y.ev ρ).bC)]) Q):=by rw[hW];exact zi
theorem uh{x i j ps}:(bl.op (.set x i j ps) k).wp ρ Q=∃r,(x.ev ρ).bC[(i.ev ρ).br.toNat]?=some r/\j+ps.length<=r.length/\k.wp (ρ++[.r ((x.ev ρ).bC.set (i.ev ρ).br.toNat (r.take j++db ρ ps++r.drop (j+ps.length)))]) Q:=by
 rw[hW];simp only[Nd.ev]
 cases(x.ev ρ).bC[(i.ev ρ).br.toNat]? with
 |none=>simp
 |some r=>by_cases hr:j+ps.length<=r.length<;>simp[hr]
theorem xI{rows}:(bl.op (.lit rows) k).wp ρ Q=k.wp (ρ++[.r (rows.map (db ρ))]) Q:=by rw[hW];simp[Nd.ev]
theorem wT{x y}:(bl.op (.mn x y) k).wp ρ Q=k.wp (ρ++[.i (if(y.ev ρ).br< (x.ev ρ).br then(y.ev ρ).br else(x.ev ρ).br)]) Q:=by rw[hW];simp[Nd.ev]
theorem xi{x y}:(bl.op (.mx x y) k).wp ρ Q=k.wp (ρ++[.i (if(y.ev ρ).br> (x.ev ρ).br then(y.ev ρ).br else(x.ev ρ).br)]) Q:=by rw[hW];simp[Nd.ev]
theorem ta{t F args n us}:(bl.op (.call t F args n us) k).wp ρ Q=∃l,F (args.map (At.ev ρ))=some l/\(l.length=n/\(us.all λi=>((l[i]?).getD (.b false)).bC.all (·.all PV.bare))=true)/\k.wp (ρ++l) Q:=by
 rw[hW];simp only[Nd.ev];apply propext
 cases F (args.map (At.ev ρ))with
 |none=>simp
 |some l=>simp only[jq,exists_eq_left'];exact iff_of_eq zi
end
theorem apV{ρ Q c a b}:(bl.ite c a b).wp ρ Q=(((c.ev ρ).ez=true->a.wp ρ Q)/\((c.ev ρ).ez=false->b.wp ρ Q)):=by
 rw[qD];cases(c.ev ρ).ez<;>simp
section
variable{ρ:List L}{Q:Lf×List L->Prop}{k:bl}
theorem dn{op b x y l}(h:dV op b (x.ev ρ).br (y.ev ρ).br=some l)(c:k.wp (ρ++[l]) Q):(bl.op (.bi op b x y) k).wp ρ Q:=by rw[t_];exact⟨l,h,c⟩
theorem mq{op x y l}(h:wb op (x.ev ρ).fU (y.ev ρ).fU=some l)(b:k.wp (ρ++[l]) Q):(bl.op (.bs op x y) k).wp ρ Q:=by rw[uQ];exact⟨l,h,b⟩
theorem anj{op x y l}(h:mY op (x.ev ρ).ez (y.ev ρ).ez=some l)(b:k.wp (ρ++[l]) Q):(bl.op (.bb op x y) k).wp ρ Q:=by rw[uO];exact⟨l,h,b⟩
theorem aqV{x}(b:k.wp (ρ++[.b (!(x.ev ρ).ez)]) Q):(bl.op (.not x) k).wp ρ Q:=by exact b
theorem iP{b x}(c:k.wp (ρ++[.i (b.wrap (x.ev ρ).br)]) Q):(bl.op (.conv b x) k).wp ρ Q:=by exact c
theorem akN{x}(b:k.wp (ρ++[.i (x.ev ρ).bC.length]) Q):(bl.op (.len x) k).wp ρ Q:=by exact b
theorem iG{x i n r}(b:0<=(i.ev ρ).br)(c:(x.ev ρ).bC[(i.ev ρ).br.toNat]?=some r)(d:r.length=n)(e:k.wp (ρ++[.c r]) Q):(bl.op (.row x i n) k).wp ρ Q:=by rw[uq];exact⟨b,r,c,d,e⟩
theorem qG{x i j b r q l}(c:(x.ev ρ).bC[(i.ev ρ).br.toNat]?=some r)(d:r[j]?=some q)(e:b.of q=some l)(f:k.wp (ρ++[l]) Q):(bl.op (.rc x i j b) k).wp ρ Q:=by rw[tZ];exact⟨r,c,q,d,l,e,f⟩
theorem Q5{x j b q l}(c:(x.ev ρ).i_[j]?=some q)(d:b.of q=some l)(e:k.wp (ρ++[l]) Q):(bl.op (.cl x j b) k).wp ρ Q:=by rw[tK];exact⟨q,c,l,d,e⟩
theorem lK{i:At}{c:Nat}(h:0<=(i.ev ρ).br/\(i.ev ρ).br<c)(b:k.wp (ρ++[]) Q):(bl.op (.du i c) k).wp ρ Q:=by rw[te];exact⟨h,b⟩
theorem xd{xs i x}(h:xs[(i.ev ρ).br.toNat]?=some x)(b:k.wp (ρ++[x.ev ρ]) Q):(bl.op (.gk xs i) k).wp ρ Q:=by rw[uy];exact⟨x,h,b⟩
theorem mc{x lo b n}(h:0<=(lo.ev ρ).br/\(lo.ev ρ).br<=(b.ev ρ).br/\(b.ev ρ).br.toNat<=(x.ev ρ).bC.length/\oC n (x.ev ρ).bC=true)(c:k.wp (ρ++[.i (((b.ev ρ).br.toNat- (lo.ev ρ).br.toNat:Nat):Int)]) Q):(bl.op (.cut x lo b n) k).wp ρ Q:=by rw[uI];exact⟨h,c⟩
theorem QU{x lo ln}(b:k.wp (ρ++[.r (((x.ev ρ).bC.drop (lo.ev ρ).br.toNat).take (ln.ev ρ).br.toNat)]) Q):(bl.op (.vw x lo ln) k).wp ρ Q:=by exact b
theorem acE{x ln}(b:k.wp (ρ++[.r ((x.ev ρ).bC.take (ln.ev ρ).br.toNat)]) Q):(bl.op (.tk x ln) k).wp ρ Q:=by exact b
theorem VJ{x y n b}(h:(x.ev ρ).bC.length+(y.ev ρ).bC.length<=9223372036854775807/\((x.ev ρ).bC.length+(y.ev ρ).bC.length)*b<=140737488355328/\ct n (x.ev ρ).bC=true/\ct n (y.ev ρ).bC=true)(c:k.wp (ρ++[.r ((x.ev ρ).bC++(y.ev ρ).bC)]) Q):(bl.op (.app x y n b) k).wp ρ Q:=by rw[ux];exact⟨h,c⟩
theorem yB{x i j ps r}(b:(x.ev ρ).bC[(i.ev ρ).br.toNat]?=some r)(c:j+ps.length<=r.length)(d:k.wp (ρ++[.r ((x.ev ρ).bC.set (i.ev ρ).br.toNat (r.take j++db ρ ps++r.drop (j+ps.length)))]) Q):(bl.op (.set x i j ps) k).wp ρ Q:=by rw[uh];exact⟨r,b,c,d⟩
theorem atF{rows}(b:k.wp (ρ++[.r (rows.map (db ρ))]) Q):(bl.op (.lit rows) k).wp ρ Q:=by exact b
theorem bm{t F args n us l}(h:F (args.map (At.ev ρ))=some l)(b:l.length=n)(c:(us.all λi=>((l[i]?).getD (.b false)).bC.all (·.all PV.bare))=true)(d:k.wp (ρ++l) Q):(bl.op (.call t F args n us) k).wp ρ Q:=by rw[ta];exact⟨l,h,⟨b,c⟩,d⟩
theorem cJ{c a b}(d:(c.ev ρ).ez=true->a.wp ρ Q)(e:(c.ev ρ).ez=false->b.wp ρ Q):(bl.ite c a b).wp ρ Q:=by rw[apV];exact⟨d,e⟩
theorem fT{c a b}(hc:(c.ev ρ).ez=true)(ha:a.wp ρ Q):(bl.ite c a b).wp ρ Q:=by rw[qD,bA hc];exact ha
theorem cn{c a b}(hc:(c.ev ρ).ez=false)(hb:b.wp ρ Q):(bl.ite c a b).wp ρ Q:=by rw[qD,bH (by rw[hc];decide)];exact hb
theorem CF{a b}(h:a.wp ρ (r7 b ρ Q)):(bl.join a b).wp ρ Q:=by rw[sx];exact h
theorem bk{x}(h:Q (x,ρ)):(bl.bp x).wp ρ Q:=by rw[uv];exact h
def Nd.HW(ρ:List L):Nd->Option L
 |.len x=>some (.i (x.ev ρ).bC.length)
 |.bi op d x y=>dV op d (x.ev ρ).br (y.ev ρ).br
 |.cl x j d=>match(x.ev ρ).i_[j]? with
  |some q=>d.of q
  |none=>none
 |.not x=>some (.b (!(x.ev ρ).ez))
 |.conv d x=>some (.i (d.wrap (x.ev ρ).br))
 |.lit rows=>some (.r (rows.map (db ρ)))
 |.vw x lo ln=>some (.r (((x.ev ρ).bC.drop (lo.ev ρ).br.toNat).take (ln.ev ρ).br.toNat))
 |.tk x ln=>some (.r ((x.ev ρ).bC.take (ln.ev ρ).br.toNat))
 |.bb op x y=>mY op (x.ev ρ).ez (y.ev ρ).ez
 |_=>none
theorem sN{c l}(h:c.HW ρ=some l)(b:k.wp (ρ++[l]) Q):(bl.op c k).wp ρ Q:=by
 cases c with
 |len x=>cases h;exact akN b
 |bi op e x y=>exact dn h b
 |cl x j e=>
  unfold Nd.HW at h
  cases d:(x.ev ρ).i_[j]? with
  |none=>simp[d]at h
  |some q=>exact Q5 d (by simpa[d]using h) b
 |not x=>cases h;exact aqV b
 |conv e x=>cases h;exact iP b
 |lit rows=>cases h;exact atF b
 |vw x lo ln=>cases h;exact QU b
 |tk x ln=>cases h;exact acE b
 |bb op x y=>exact anj h b
 |_=>cases h
end
theorem oO{P:Prop}(h:P:=by(try dsimp only[At.ev,d1,d2,d3,d4,d5,d6,d7,d8,d9,e0,List.map,db,Kd.pv]); (first|done|omega| (simp only[cD,dz,pU,jH,GC,bD]<;>omega))):P:=h
theorem nW{f:bl}{ρ b Q}(h:f.wp b Q)(e:ρ=b:=by(try dsimp only[At.ev,d1,d2,d3,d4,d5,d6,d7,d8,d9,e0,List.map,db,Kd.pv])<;>rfl):f.wp ρ Q:=e▸h
section
variable{ρ:List L}{Q:Lf×List L->Prop}{k:bl}
theorem jy{nd ls}(h:nd.ev ρ=some ls)(hk:k.wp (ρ++ls) Q):(bl.op nd k).wp ρ Q:=by rw[hW];exact⟨ls,h,hk⟩
theorem Km{x y n}(h:min (x.ev ρ).br (y.ev ρ).br=n)(b:k.wp (ρ++[.i n]) Q):(bl.op (.mn x y) k).wp ρ Q:=jy (by simp only[Nd.ev];congr 3;split<;>omega) b
theorem Jq{x y n}(h:max (x.ev ρ).br (y.ev ρ).br=n)(b:k.wp (ρ++[.i n]) Q):(bl.op (.mx x y) k).wp ρ Q:=jy (by simp only[Nd.ev];congr 3;split<;>omega) b
theorem Er{x}(b:k.wp (ρ++[.i (x.ev ρ).fU.size]) Q):(bl.op (.mm x) k).wp ρ Q:=jy rfl b
theorem xy{x lo b n r}(h:0<=(lo.ev ρ).br/\(lo.ev ρ).br<=(b.ev ρ).br/\(b.ev ρ).br.toNat<=(x.ev ρ).bC.length/\ct n (x.ev ρ).bC=true)(c:((x.ev ρ).bC.take (b.ev ρ).br.toNat).drop (lo.ev ρ).br.toNat=r)(d:k.wp (ρ++[.r r]) Q):(bl.op (.part x lo b n) k).wp ρ Q:=jy (by simp only[Nd.ev];rw[bA h,c]) d
theorem wV{m ps b r}(h:0<=(m.ev ρ).br/\(m.ev ρ).br<=9223372036854775807/\b*(m.ev ρ).br.toNat<=281474976710656)(c:List.replicate (m.ev ρ).br.toNat (db ρ ps)=r)(d:k.wp (ρ++[.r r]) Q):(bl.op (.jJ m ps b) k).wp ρ Q:=jy (by simp only[Nd.ev];rw[bA h,c]) d
theorem SM{x lo ln y n ls}(h:ct n (y.ev ρ).bC=true/\(lo.ev ρ).br.toNat+(ln.ev ρ).br.toNat<=(x.ev ρ).bC.length)
 (b:[L.r ((x.ev ρ).bC.take (lo.ev ρ).br.toNat++(y.ev ρ).bC.take (min (y.ev ρ).bC.length (ln.ev ρ).br.toNat)++(x.ev ρ).bC.drop ((lo.ev ρ).br.toNat+min (y.ev ρ).bC.length (ln.ev ρ).br.toNat)),.i ((min (y.ev ρ).bC.length (ln.ev ρ).br.toNat:Nat):Int)]=ls) (c:k.wp (ρ++ls) Q):(bl.op (.ox x lo ln y n) k).wp ρ Q:=jy (by simp only[Nd.ev];rw[bA h,b]) c
theorem awI{x i b}(c:0<=(i.ev ρ).br)(d:(x.ev ρ).fU[(i.ev ρ).br.toNat]?=some b)(e:k.wp (ρ++[.i b.toNat]) Q):(bl.op (.zr x i) k).wp ρ Q:=jy (by simp only[Nd.ev];rw[bA c,d]) e
theorem wA{b x n}(h:b.wrap (x.ev ρ).br=n)(c:k.wp (ρ++[.i n]) Q):(bl.op (.conv b x) k).wp ρ Q:=iP (by rw[h];exact c)
theorem dp{x y n}(h:(x.ev ρ).br+(y.ev ρ).br=n)(b: -9223372036854775808<=n)(c:n<=9223372036854775807)(d:k.wp (ρ++[.i n]) Q):(bl.op (.bi .add .i64 x y) k).wp ρ Q:=dn (by show some (L.i _)=_;rw[h,AI.wrap64 b c]) d
theorem di{x y n}(h:(x.ev ρ).br- (y.ev ρ).br=n)(b: -9223372036854775808<=n)(c:n<=9223372036854775807)(d:k.wp (ρ++[.i n]) Q):(bl.op (.bi .sub .i64 x y) k).wp ρ Q:=dn (by show some (L.i _)=_;rw[h,AI.wrap64 b c]) d
theorem iV{x y n}(h:(x.ev ρ).br*(y.ev ρ).br=n)(b: -9223372036854775808<=n)(c:n<=9223372036854775807)(d:k.wp (ρ++[.i n]) Q):(bl.op (.bi .mul .i64 x y) k).wp ρ Q:=dn (by show some (L.i _)=_;rw[h,AI.wrap64 b c]) d
theorem bS{α:Type}{f}{l:List α}{x i:At}{n j:Nat}(b:(x.ev ρ).bC=l.map f)(c:(i.ev ρ).br=j)(d)(e:(f l[j]).length=n)(g:k.wp (ρ++[.c (f l[j])]) Q):(bl.op (.row x i n) k).wp ρ Q:=
 iG (by omega) (by rw[b,c,ey,cX,cY d];rfl) e g
theorem er{x y n b r}(c:ct n (x.ev ρ).bC=true)(d:ct n (y.ev ρ).bC=true)(i:(x.ev ρ).bC.length<=17179869184)(j:(y.ev ρ).bC.length<=17179869184)(e:b<=64)(f:(x.ev ρ).bC++(y.ev ρ).bC=r)(g:k.wp (ρ++[.r r]) Q):(bl.op (.app x y n b) k).wp ρ Q:=
 VJ ⟨by omega,by
  have:((x.ev ρ).bC.length+(y.ev ρ).bC.length)*b<=34359738368*64:=Oz om e;omega,c,d⟩ (by rw[f];exact g)
def Nd.M_(ρ:List L):Nd->Option L
 |.bi op d x y=>if mo op=true then dV op d (x.ev ρ).br (y.ev ρ).br else none
 |.conv _ _=>none
 |nd=>nd.HW ρ
theorem sT{b l}(h:b.M_ ρ=some l)(c:k.wp (ρ++[l]) Q):(bl.op b k).wp ρ Q:=by
 refine sN ?_ c
 cases b with
 |bi op d x y=>
  simp only[Nd.M_]at h;split at h
  .exact h
  .cases h
 |conv=>cases h
 |_=>exact h
theorem uT{c l b}(h:c.M_ ρ=some l)(d:k.wp b Q)(e:ρ++[l]=b:=by(try dsimp only[At.ev,d1,d2,d3,d4,d5,d6,d7,d8,d9,e0,List.map,db,Kd.pv])<;>rfl):(bl.op c k).wp ρ Q:=sT h (e▸d)
theorem uR{f c:bl}{ρ b Q}(h:c.wp b Q)(e:c.wp b Q->f.wp ρ Q:=by(intro h;refine nW ?_;repeat refine uT rfl ?_);exact h):f.wp ρ Q:=e h
theorem b8{x:At}{i:Nat}(h:(x.ev ρ).br=i)(c:i<=4611686018427387904)(b:k.wp (ρ++[.i ((i+1:Nat):Int)]) Q):(bl.op (.bi .add .i64 x (.i 1)) k).wp ρ Q:=dp (by rw[h];rfl) om om b
theorem WS{n}(b:0<=n)(c:n<=18446744073709551615):IntKind.wrap .u64 n=n:=AI.Fp .u64 (by simp[IntKind.min,IntKind.signed];omega) (by simp[IntKind.max,IntKind.signed,IntKind.bits];omega)
theorem gE{x n}(h:(x.ev ρ).br=n)(b:0<=n)(c:n<=18446744073709551615)(d:k.wp (ρ++[.i n]) Q):(bl.op (.conv .u64 x) k).wp ρ Q:=wA (by rw[h,WS b c]) d
theorem pL{x n}(h:(x.ev ρ).br=n)(b: -9223372036854775808<=n)(c:n<=9223372036854775807)(d:k.wp (ρ++[.i n]) Q):(bl.op (.conv .i64 x) k).wp ρ Q:=wA (by rw[h,AI.wrap64 b c]) d
theorem bO{c a b P inst}(d:c.ev ρ=.b (@decide P inst))(e:P->a.wp ρ Q)(f:¬P->b.wp ρ Q):(bl.ite c a b).wp ρ Q:=
 cJ (λh=>e (by rw[d]at h;exact eE h)) (λh=>f (by rw[d]at h;exact fv h))
theorem cP{c a b P inst}(d:c.ev ρ=.b (@decide P inst))(h:P)(e:a.wp ρ Q):(bl.ite c a b).wp ρ Q:=bO d (λ_=>e) λk=>absurd h k
theorem bR{c a b P inst}(d:c.ev ρ=.b (@decide P inst))(h:¬P)(e:b.wp ρ Q):(bl.ite c a b).wp ρ Q:=bO d (λk=>absurd k h) λ_=>e
theorem dF{P inst}(h:¬P):[L.b (@decide P inst)]=[.b false]:=by rw[decide_eq_false h]
theorem dT{P inst}(h:P):[L.b (@decide P inst)]=[.b true]:=by rw[decide_eq_true h]
def jQ(K:List L->Prop)(Q:Lf×List L->Prop)(r:Lf×List L):Prop:=match r with
 |(.jump 0 args,b)=>K (args.map (At.ev b))
 |(.jump (k+1) args,b)=>Q (.jump k args,b)
 |r=>Q r
theorem bz{a b}(K)(d:a.wp ρ (jQ K Q))(h:∀xs,K xs->b.wp (ρ++xs) Q):(bl.join a b).wp ρ Q:=by
 refine CF (bl.wp.mono d λr c=>?_);obtain⟨e,f⟩:=r
 cases e with
 |st=>exact c
 |jump k args=>cases k with
  |zero=>exact h _ c
  |succ k=>exact c
def c8(P:Prop)(xs:List L):Prop:=∃t:Bool,xs=[.b t]/\(t=true↔P)
theorem dQ{P}(h:P):c8 P [.b true]:=⟨true,rfl,λ_=>h,λ_=>rfl⟩
theorem e7{P}(h:¬P):c8 P [.b false]:=⟨false,rfl,λh=>(by cases h),λb=>absurd b h⟩
theorem e_{P R}[Decidable R](h:R↔P):c8 P [.b (decide R)]:=⟨_,rfl,by rw[eD];exact h⟩
theorem qv{P R}[Decidable R](h:¬R↔P):c8 P [.b (!decide R)]:=⟨_,rfl,by rw[oV,x6];exact h⟩
end
end
section
namespace Pl
structure It where
 key:Int
 cookie:Int
 off:Int
 size:Int
deriving DecidableEq,Inhabited
def c7(n:Int):Int:=if n<0\/4096<n then 0 else(n+31) /8*8
def eN(x:It):Bool:=decide (16<=x.off)&&decide (x.off<=1048576)&&decide (x.off%8=0)&&decide (0<=x.size)&&decide (x.size<=4096)
def fg(l:List It):Prop:=l.Pairwise λa b=>a.key<b.key
def VL(l:List It):Prop:=fg l/\∀x∈l,eN x=true
def ends(x:It):Int:=x.off+c7 x.size
theorem CM{x}(h:eN x=true):24<=c7 x.size:=by
 simp only[eN,cu,eD]at h;unfold c7;omega
def Clear(a b:It):Prop:=¬(a.off<=b.off/\b.off<ends a)/\¬(b.off<=a.off/\a.off<ends b)
theorem Clear.symm{a b}(h:Clear a b):Clear b a:=⟨h.2,h.1⟩
def mK:Int->List It->Option Int
 |e,[]=>some e
 |e,x::l=>if x.off<e then none else mK (ends x) l
theorem ajl(l:List It)(d:∀x∈l,eN x=true)(t:l.Pairwise λa b=>a.off<=b.off)(size:Int):∀e:Int,(∀x∈l,e<=x.off)->e<=size->
 ((∃r,mK e l=some r/\r<=size)↔(l.Pairwise Clear/\∀x∈l,ends x<=size)):=by
 induction l with
 |nil=>intro e _ h;simp[mK,h]
 |cons a l ih=>
  intro e u v;have w:=CM (d a (by simp));have i:=gK.1 t;have o:¬a.off<e:=by have:=u a (by simp);omega
  simp only[mK,bH o];by_cases j:ends a<=size
  .by_cases hall:∀x∈l,ends a<=x.off
   .rw [ih (λx c=>d x (by simp[c])) i.2 (ends a) hall j];rw[gK];constructor
    .rintro⟨f,g⟩;refine⟨⟨λb p=>⟨λh=>?_,λh=>?_⟩,f⟩,λx c=>?_⟩
     .have:=hall b p;omega
     .have:=hall b p;unfold ends at*;omega
     .rcases eG.1 c with rfl|c
      .exact j
      .exact g x c
    .rintro⟨⟨_,f⟩,g⟩;exact⟨f,λx c=>g x (by simp[c])⟩
   .constructor
    .rintro⟨r,f,_⟩;exfalso;apply hall;intro x c
     match l,c,f with
     |b ::y,c,f=>
      simp only[mK]at f;split at f
      .cases f
      .rcases eG.1 c with rfl|q
       .omega
       .have:=(gK.1 i.2).1 x q;omega
    .rintro⟨f,_⟩;exfalso;apply hall;intro x c;have g:=(gK.1 f).1 x c;have z:=i.1 x c;have:=g.1;omega
  .constructor
   .rintro⟨r,f,g⟩;have key:∀(l:List It)(e r:Int),(∀x∈l,eN x=true)->mK e l=some r->e<=r:=by
     intro l
     induction l with
     |nil=>intro e r _ h;simp[mK]at h;omega
     |cons b l s=>
      intro e r d h;simp only[mK]at h;split at h
      .cases h
      .have:=s _ _ (λx c=>d x (by simp[c])) h;have p:=CM (d b (by simp));unfold ends at this;omega
    have:=key l _ _ (λx c=>d x (by simp[c])) f;omega
   .rintro⟨_,g⟩;exact absurd (g a (by simp)) j
theorem adx{l e}(f:∀x∈l,eN x=true)(hp:e.Perm l)(o:e.Pairwise λa b=>a.off<=b.off)(size)(g:16<=size):
 (∃r,mK 16 e=some r/\r<=size)↔(l.Pairwise Clear/\∀x∈l,ends x<=size):=by
 have c:∀x∈e,eN x=true:=λx d=>f x (hp.mem_iff.1 d)
 rw[ajl e c o size 16 (λx d=>by have:=c x d;simp only[eN,cu,eD]at this;omega) g];rw[hp.pairwise_iff (λh=>Clear.symm h)];constructor
 .rintro⟨i,j⟩;exact⟨i,λx d=>j x (hp.mem_iff.2 d)⟩
 .rintro⟨i,j⟩;exact⟨i,λx d=>j x (hp.mem_iff.1 d)⟩
def ins(x:It):List It->List It
 |[]=>[x]
 |a::l=>if a.key<x.key then a::ins x l else if a.key=x.key then x::l else x::a::l
def gX(l:List It):List It:=l.foldl (λb x=>ins x b) []
theorem tR{x y:It}:∀{l:List It},y∈ins x l->y=x\/y∈l
 |[],h=>by simp[ins]at h;exact .inl h
 |a::l,h=>by
  unfold ins at h;split at h
  .rcases eG.1 h with rfl|h
   .exact .inr (by simp)
   .rcases tR h with h|h
    .exact .inl h
    .exact .inr (by simp[h])
  .split at h
   .rcases eG.1 h with rfl|h
    .exact .inl rfl
    .exact .inr (by simp[h])
   .rcases eG.1 h with rfl|h
    .exact .inl rfl
    .exact .inr h
theorem y9(x):∀{l},fg l->fg (ins x l)
 |[],_=>by simp[ins,fg]
 |a::l,h=>by
  have c:=gK.1 h;unfold ins;split
  .rename_i d;refine gK.2 ⟨λy b=>?_,y9 x c.2⟩;rcases tR b with rfl|b
   .exact d
   .exact c.1 y b
  .split
   .rename_i _ e;exact gK.2 ⟨λy b=>by rw[<-e];exact c.1 y b,c.2⟩
   .refine gK.2 ⟨λy b=>?_,h⟩;rcases eG.1 b with rfl|b
    .omega
    .have:=c.1 y b;omega
theorem R8:∀(l b:List It),fg b->fg (l.foldl (λb x=>ins x b) b)
 |[],_,h=>h
 |x::l,b,h=>R8 l (ins x b) (y9 x h)
theorem Jb(l):fg (gX l):=R8 l [] (by simp[fg])
def lX(l:List It):Prop:=l.Pairwise λa b=>a.key≠b.key
theorem fg.apart{l}(h:fg l):lX l:=h.imp λh e=>om
theorem X8{x}:∀{l},(∀y∈l,y.key≠x.key)->(ins x l).Perm (x::l)
 |[],_=>by simp[ins]
 |a::l,h=>by
  have c:¬a.key=x.key:=h a (by simp);unfold ins;split
  .exact((X8 λy b=>h y (by simp[b])).cons a).trans (List.Perm.swap x a l)
  .exact Gx _
theorem Sg:∀(l b),lX l->(∀x∈l,∀y∈b,y.key≠x.key)->(l.foldl (λb x=>ins x b) b).Perm (l++b)
 |[],_,_,_=>Gx _
 |x::l,b,g,e=>by
  have c:=gK.1 g;refine(Sg l (ins x b) c.2 λz f y d=>?_).trans ?_
  .rcases tR d with rfl|d
   .exact c.1 z f
   .exact e z (by simp[f]) y d
  .exact((X8 (e x (by simp))).append_left l).trans List.perm_middle
theorem W6{l}(h:lX l):(gX l).Perm l:=by
 have:=Sg l [] h (λ_ _ _ b=>by cases b)
 rwa [fW]at this
theorem Wa:∀{l c},fg l->fg c->l.Perm c->l=c
 |[],c,_,_,hp=>by simpa using hp.symm.eq_nil
 |a::l,[],_,_,hp=>by simpa using hp.eq_nil
 |a ::l,b::c,h,o,hp=>by
  have i:=gK.1 h;have j:=gK.1 o;have d:a=b:=by
   have f:a∈b::c:=hp.mem_iff.1 (by simp);have g:b∈a::l:=hp.mem_iff.2 (by simp);rcases eG.1 f with e|f
   .exact e
   .rcases eG.1 g with e|g
    .exact e.symm
    .have:=i.1 b g;have:=j.1 a f;omega
  subst d;rw[Wa i.2 j.2 ((List.perm_cons a).1 hp)]
theorem J7{l b}(c:fg b)(hp:b.Perm l)(d:lX l):gX l=b:=
 Wa (Jb l) c ((W6 d).trans hp.symm)
theorem Iy{l}(h:fg l):gX l=l:=J7 h (Gx _) h.apart
def c_(l:List It)(k:Int):Option It:=l.reverse.find? λx=>decide (x.key=k)
theorem tf{l}(h:lX l){x}(d:x∈l):c_ l x.key=some x:=by
 unfold c_;have b:x∈l.reverse:=by simpa using d
 have c:lX l.reverse:=List.pairwise_reverse.2 (h.imp λh=>Ne.symm h);generalize l.reverse=r at*
 induction r with
 |nil=>cases b
 |cons a r ih=>
  rw[OA];rcases eG.1 b with rfl|d
  .simp
  .have:=(gK.1 c).1 x d;rw[show decide (a.key=x.key)=false by simpa using this];exact ih d (gK.1 c).2
theorem CT{l k}(h:∀x∈l,x.key≠k):c_ l k=none:=by
 unfold c_;rw[OB];intro x b;simpa using h x (by simpa using b)
theorem B4{l k x}(h:c_ l k=some x):x∈l/\x.key=k:=by
 have b:=ZP h;have c:=ZO h;exact⟨by simpa using b,by simpa using c⟩
end Pl
end
end
end Go.Proofs.YtiikkkhcolcebaaGreatDoor
