/- A part. -/
import Derived.Test.YtiikkkhcolcebaaGreatDoorG1
import Derived.Test.YtiikkkhcolcebaaGreatDoorG12
import Derived.Deep.Slices
import Derived.OpenShut
set_option linter.all false
set_option maxHeartbeats 4000000
set_option maxRecDepth 100000
namespace Go.Proofs.YtiikkkhcolcebaaGreatDoor
noncomputable section
section
open Go.RowKit
open Classical
section
variable{A R:Type}
def gD(f:A->Option (A ⊕ R)):Nat->A->Option R
 |0,_=>none
 |n+1,a=>match f a with
  |some (.inl a')=>gD f n a'
  |some (.inr r)=>some r
  |none=>none
def ib(f:A->Option (A ⊕ R))(a:A):Option R:=if h:∃n r,gD f n a=some r then gD f h.choose a else none
theorem Ka{f:A->Option (A ⊕ R)}:∀{n:Nat}{a:A}{r:R}(m:Nat),gD f n a=some r->gD f (n+m) a=some r
 |0,_,_,_,h=>by cases h
 |n+1,a,r,m,h=>by
  rw[show n+1+m=(n+m)+1 by omega];simp only[gD]at h⊢;split at h
  .exact Ka m h
  .exact h
  .cases h
theorem FL{f n}{a:A}{r:R}(h:gD f n a=some r):ib f a=some r:=by
 have b:∃n r,gD f n a=some r:=⟨n,r,h⟩
 unfold ib;rw[dif_pos b];obtain⟨r',c⟩:=b.choose_spec;have e:=Ka n c;have d:=Ka b.choose h;rw[Nat.add_comm]at d;rw[c,<-e,d]
theorem w9{f}{a:A}{r:R}(h:ib f a=some r):∃n,gD f n a=some r:=by
 unfold ib at h;split at h
 .exact⟨_,h⟩
 .cases h
theorem Lk(f:A->Option (A ⊕ R))(a):ib f a=match f a with
 |some (.inl a')=>ib f a'
 |some (.inr r)=>some r
 |none=>none:=by
 cases c:f a with
 |none=>
  cases h:ib f a with
  |none=>rfl
  |some r=>
   obtain⟨n,b⟩:=w9 h
   cases n with
   |zero=>cases b
   |succ n=>simp only[gD,c]at b;cases b
 |some x=>
  cases x with
  |inr r=>exact FL (n:=1) (by simp only[gD,c])
  |inl a'=>
   simp only
   cases h:ib f a' with
   |some r=>
    obtain⟨n,b⟩:=w9 h;exact FL (n:=n+1) (by simp only[gD,c,b])
   |none=>
    cases d:ib f a with
    |none=>rfl
    |some r=>
     obtain⟨n,b⟩:=w9 d
     cases n with
     |zero=>cases b
     |succ n=>
      simp only[gD,c]at b;rw[FL b]at h;cases h
theorem zL{f:A->Option (A ⊕ R)}{a a'}(h:f a=some (.inl a')):ib f a=ib f a':=by rw[Lk,h]
theorem Eu{f}{a:A}{r:R}(h:f a=some (.inr r)):ib f a=some r:=by rw[Lk,h]
theorem aeb{f g}{h:R->Option R}(l:∀a,(∀r,f a=some (.inr r)->ib f a=some r->g a=(h r).map .inr)->True){G:R->Prop}
 (j:∀a,(∀r,ib f a=some r->G r)->g a=match f a with
  |some (.inl a')=>some (.inl a')
  |some (.inr r)=>(h r).map .inr
  |none=>none) (a:A) (i:∀r,ib f a=some r->G r):ib g a=(ib f a).bind h:=by
 cases e:ib f a with
 |some r=>
  obtain⟨n,c⟩:=w9 e;clear e
  induction n generalizing a with
  |zero=>cases c
  |succ n ih=>
   have b:=j a i;simp only[gD]at c;split at c
   .rename_i a' d;rw[d]at b;rw[zL b];exact ih a' (by rw[<-zL d];exact i) c
   .rename_i r' d;cases c;rw[d]at b;rw[Lk,b];simp only[rj];cases h r<;>rfl
   .cases c
 |none=>
  cases k:ib g a with
  |none=>rfl
  |some r=>
   obtain⟨n,c⟩:=w9 k;clear k
   induction n generalizing a with
   |zero=>cases c
   |succ n ih=>
    have b:=j a i
    cases d:f a with
    |none=>rw[d]at b;simp only[gD,b]at c;cases c
    |some y=>
     cases y with
     |inl a'=>
      rw[d]at b;simp only[gD,b]at c;exact ih a' (by rw[<-zL d];exact i) (by rw[<-zL d];exact e) c
     |inr r'=>rw[Eu d]at e;cases e
end
inductive Ex where
 |normal|exit (id:Nat)|ret
deriving DecidableEq,Repr,Inhabited
def Ex.to:Ex->Exit
 |.normal=>.normal
 |.exit id=>.exit id
 |.ret=>.ret
inductive Lf where
 |st (e:Ex) (S:bq)
 |jump (k:Nat) (args:List At)
deriving Inhabited
inductive bl where
 |bp (x:Lf)
 |op (nd:Nd) (k:bl)
 |ite (c:At) (a b:bl)
 |join (body rest:bl)
 |loop (init:List At) (body:bl)
deriving Inhabited
abbrev Out:=Option (Lf×List L)
def nK(x:Out):Option (List L ⊕ (Lf×List L)):=match x with
 |some (.jump 0 args,ρ)=>some (.inl (args.map (At.ev ρ)))
 |some (.jump (k+1) args,ρ)=>some (.inr (.jump k args,ρ))
 |some (x,ρ)=>some (.inr (x,ρ))
 |none=>none
def bl.a_:bl->List L->Out
 |.bp x,ρ=>some (x,ρ)
 |.op h k,ρ=>match h.ev ρ with
  |some ls=>k.a_ (ρ++ls)
  |none=>none
 |.ite c a b,ρ=>if(c.ev ρ).ez then a.a_ ρ else b.a_ ρ
 |.join body rest,ρ=>match body.a_ ρ with
  |some (.jump 0 args,d)=>rest.a_ (ρ++args.map (At.ev d))
  |some (.jump (k+1) args,d)=>some (.jump k args,d)
  |r=>r
 |.loop init body,ρ=>ib (λa=>nK (body.a_ (ρ++a))) (init.map (At.ev ρ))
def bl.bind(f:Nat->Ex->bq->Option bl):Nat->bl->Option bl
 |d,.bp (.st e S)=>f d e S
 |_,.bp x=>some (.bp x)
 |d,.op h k=>(bl.bind f d k).map (.op h)
 |d,.ite c a b=>match bl.bind f d a,bl.bind f d b with
  |some a,some b=>some (.ite c a b)
  |_,_=>none
 |d,.join body rest=>match bl.bind f (d+1) body,bl.bind f d rest with
  |some a,some b=>some (.join a b)
  |_,_=>none
 |d,.loop init body=>(bl.bind f (d+1) body).map (.loop init)
def lift(d:Nat):Lf×List L->Lf×List L
 |(.jump k args,ρ)=>(.jump (k+d) args,ρ)
 |x=>x
def after(R:Ex->bq->List L->Out)(d:Nat)(o:Out):Out:=match o with
 |some (.st e S,ρ)=>(R e S ρ).map (lift d)
 |r=>r
theorem qK{f:Nat->Ex->bq->Option bl}{R:Ex->bq->List L->Out}:∀{t u:bl}{d:Nat}{ρ:List L},
 (∀e S ρ1,t.a_ ρ=some (.st e S,ρ1)->∀d j,f d e S=some j->j.a_ ρ1=(R e S ρ1).map (lift d))->t.bind f d=some u->u.a_ ρ=after R d (t.a_ ρ)
 |.bp (.st e S),u,d,ρ,H,h=>H e S ρ rfl d u h
 |.bp (.jump k args),u,d,ρ,H,h=>by cases h;rfl
 |.op C k,u,d,ρ,H,h=>by
  simp only[bl.bind,bY]at h;obtain⟨v,q,rfl⟩:=h;simp only[bl.a_]at H⊢
  cases E:C.ev ρ with
  |none=>rfl
  |some ls=>
   rw[E]at H;exact qK H q
 |.ite c a b,u,d,ρ,H,h=>by
  simp only[bl.bind]at h;split at h
  .rename_i j F o s;cases h;simp only[bl.a_]at H⊢;split
   .rename_i z;rw[bA z]at H;exact qK H o
   .rename_i z;rw[bH z]at H;exact qK H s
  .cases h
 |.join body rest,u,d,ρ,H,h=>by
  simp only[bl.bind]at h;split at h
  .rename_i j F o s;cases h;simp only[bl.a_]at H⊢
   cases l:body.a_ ρ with
   |none=>
    have:=qK (R:=R) (t:=body) (ρ:=ρ) (λe S ρ1 i=>by rw[l]at i;cases i) o;rw[this,l];rfl
   |some x=>
    obtain⟨p,ρ1⟩:=x
    cases p with
    |st e S=>
     have:=qK (R:=R) (t:=body) (ρ:=ρ) (λe S ρ1 i=>H e S ρ1 (by rw[i])) o;rw[this,l];simp only[after]
     cases R e S ρ1 with
     |none=>rfl
     |some y=>
      obtain⟨m,B⟩:=y
      cases m with
      |st=>rfl
      |jump k args=>simp only[b_,lift,Nat.add_succ]
    |jump k args=>
     have:=qK (R:=R) (t:=body) (ρ:=ρ) (λe S ρ1 i=>by rw[l]at i;cases i) o;rw[this,l]
     cases k with
     |zero=>
      rw[l]at H;exact qK H s
     |succ k=>rfl
  .cases h
 |.loop init body,u,d,ρ,H,h=>by
  simp only[bl.bind,bY]at h;obtain⟨v,q,rfl⟩:=h;simp only[bl.a_]at H⊢;have key:=aeb (f:=λa=>nK (body.a_ (ρ++a))) (g:=λa=>nK (v.a_ (ρ++a))) (h:=λr=>after R d (some r))
   (G :=λr=>∀e S,r.1=.st e S->∀d j,f d e S=some j->j.a_ r.2=(R e S r.2).map (lift d)) (λ_ _=>trivial) (λa I=>by
    have n:=qK (R:=R) (t:=body) (ρ:=ρ++a) (d:=d+1) (u:=v) (λe S ρ1 i=>by
     have:=I (.st e S,ρ1) (Eu (by simp only[i,nK]));exact this e S rfl) q
    simp only[n]
    cases l:body.a_ (ρ++a)with
    |none=>rfl
    |some x=>
     obtain⟨p,ρ1⟩:=x
     cases p with
     |st e S=>
      simp only[after,nK]
      cases R e S ρ1 with
      |none=>rfl
      |some y=>
       obtain⟨m,B⟩:=y
       cases m with
       |st=>rfl
       |jump k args=>simp only[b_,lift,Nat.add_succ]
     |jump k args=>cases k<;>rfl) (init.map (At.ev ρ)) (λr J e S K=>by
      obtain⟨p,ρ1⟩:=r;subst K;exact H e S ρ1 J)
  rw[key];cases ib (λa=>nK (body.a_ (ρ++a))) (init.map (At.ev ρ))<;>rfl
end
section
open Go.RowKit
namespace AI
def eY(τ:List L)(t:Nat):Int:=match t with
 |0=>0
 |t+1=>let l:=(τ[t/3]?).getD (.b false)
  if t%3=0 then l.br else if t%3=1 then(l.bC.length:Int)else(l.fU.size:Int)
def il(n t:Nat):Bool:=decide (t<=3*n)
theorem vm(τ):eY τ 0=0:=rfl
theorem Db{τ ys t}(h:il τ.length t=true):eY (τ++ys) t=eY τ t:=by
 cases t with
 |zero=>rfl
 |succ t=>
  simp only[il,eD]at h;simp only[eY];rw[oY om]
structure Fa where
 a:Nat
 b:Nat
 c:Int
deriving Inhabited,Repr
def Fa.holds(τ:List L)(f:Fa):Prop:=eY τ f.a-eY τ f.b<=f.c
def Fa.in(n:Nat)(f:Fa):Bool:=il n f.a&&il n f.b
def Fa.ok(τ:List L)(f:Fa):Prop:=f.in τ.length=true/\f.holds τ
theorem Fa.ok.append{τ ys}{f:Fa}(h:f.ok τ):f.ok (τ++ys):=by
 obtain⟨a,d⟩:=h;simp only[Fa.in,cu]at a;refine⟨?_,?_⟩
 .simp only[Fa.in,il,cu,eD,cD]at a⊢;omega
 .unfold Fa.holds at d⊢;rw[Db a.1,Db a.2];exact d
def lD(a b:Int):Bool:=match a,b with
 |.ofNat m,.ofNat n=>Nat.ble m n
 |.negSucc _,.ofNat _=>true
 |.ofNat _,.negSucc _=>false
 |.negSucc m,.negSucc n=>Nat.ble n m
theorem arJ(a b):lD a b=decide (a<=b):=by
 cases a<;>cases b<;>simp only[lD]<;>apply jT.2<;>simp<;>omega
theorem xC{a b}(h:lD a b=true):a<=b:=by rw[arJ]at h;simp_all
def kN:eX->Nat
 |.i8=>0| .i16=>1| .i32=>2| .i64=>3| .u8=>4| .u16=>5| .u32=>6| .u64=>7
def Tw(a b:eX):Bool:=Nat.beq (kN a) (kN b)
theorem azR{a b}(h:Tw a b=true):a=b:=by cases a<;>cases b<;>first|rfl|cases h
theorem yA{a b:Nat}(h:Nat.beq a b=true):a=b:=sU h
def qU:List (Nat×Int)->Nat->Option Int
 |[],_=>none
 |(k,d)::r,t=>cond (Nat.beq k t) (some d) (qU r t)
def xo:List (Nat×Int)->Nat->Int->List (Nat×Int)
 |[],t,d=>[(t,d)]
 |(k,e)::r,t,d=>cond (Nat.beq k t) (cond (lD e d) ((k,e)::r) ((k,d)::r)) ((k,e)::xo r t d)
def tp:List Fa->List (Nat×Int)->List (Nat×Int)
 |[],D=>D
 |f::a,D=>tp a (cond (Nat.beq f.b 0) D (cond (Nat.beq f.a 0) D (match qU D f.a with
  |some d=>xo D f.b (d+f.c)
  |none=>D)))
def pY:List Fa->List (Nat×Int)->List (Nat×Int)
 |[],D=>D
 |f::a,D=>pY a (cond (Nat.beq f.a 0) D (cond (Nat.beq f.b 0) D (match qU D f.b with
  |some d=>xo D f.a (d+f.c)
  |none=>D)))
def z8:Option Int->Int->Option Int
 |some x,y=>cond (lD x y) (some x) (some y)
 |none,y=>some y
def Ay:List Fa->List (Nat×Int)->Option Int->Option Int
 |[],_,r=>r
 |f::a,D,r=>Ay a D (cond (Nat.beq f.b 0) (match qU D f.a with
  |some d=>z8 r (d+f.c)
  |none=>r) r)
def AK:List Fa->List (Nat×Int)->Option Int->Option Int
 |[],_,r=>r
 |f::a,D,r=>AK a D (cond (Nat.beq f.a 0) (match qU D f.b with
  |some d=>z8 r (d+f.c)
  |none=>r) r)
def du(c:List Fa)(a b:Nat):Option Int:=
 cond (Nat.beq a b) (some 0)
 (cond (Nat.beq a 0) (AK c (pY c (pY c [(b,0)])) none)
 (
  let D:=tp c (tp c [(a,0)])
  cond (Nat.beq b 0) (Ay c D none)
  (match Ay c D none,AK c (pY c (pY c [(b,0)])) none with
   |some x,some y=>match qU D b with
    |some d=>z8 (some d) (x+y)
    |none=>some (x+y)
   |_,_=>qU D b)))
def FC(τ:List L)(a:Nat)(D:List (Nat×Int)):Prop:=∀t d,(t,d)∈D->eY τ a-eY τ t<=d
def BO(τ:List L)(b:Nat)(D:List (Nat×Int)):Prop:=∀t d,(t,d)∈D->eY τ t-eY τ b<=d
theorem ue:∀{D:List (Nat×Int)}{t:Nat}{d:Int},qU D t=some d->(t,d)∈D
 |[],_,_,h=>by cases h
 |(k,e)::r,t,d,h=>by
  simp only[qU]at h
  cases a:Nat.beq k t with
  |true=>
   rw[a]at h;cases h;have:=yA a;subst this;exact iA
  |false=>rw[a]at h;exact iz _ (ue h)
theorem LN:∀{D:List (Nat×Int)}{t a:Nat}{d b:Int},(a,b)∈xo D t d->(a,b)=(t,d)\/(a,b)∈D
 |[],t,a,d,b,h=>by simp_all[xo]
 |(k,e)::r,t,a,d,b,h=>by
  simp only[xo]at h
  cases c:Nat.beq k t with
  |true=>
   rw[c]at h;have:=yA c;subst this
   cases f:lD e d with
   |false=>
    rw[f]at h;rcases eG.1 h with h|h
    .exact .inl h
    .exact .inr (iz _ h)
   |true=>rw[f]at h;exact .inr h
  |false=>
   rw[c]at h;rcases eG.1 h with h|h
   .exact .inr (by rw[h];exact iA)
   .rcases LN h with h|h
    .exact .inl h
    .exact .inr (iz _ h)
theorem Nx{τ:List L}{a:Nat}:∀{c:List Fa}{D:List (Nat×Int)},(∀f∈c,f.holds τ)->FC τ a D->FC τ a (tp c D)
 |[],_,_,h=>h
 |f :: c,D,i,h=>by
  simp only[tp];refine Nx (λg j=>i g (iz _ j)) ?_
  cases Nat.beq f.b 0 with
  |true=>exact h
  |false=>cases Nat.beq f.a 0 with
   |true=>exact h
   |false=>
    split
    .rename_i d k;intro t e b;rcases LN b with b|b
     .cases b;have m:=h _ _ (ue k);have l:=i f iA;unfold Fa.holds at l;omega
     .exact h _ _ b
    .exact h
theorem G5{τ:List L}{b:Nat}:∀{c:List Fa}{D:List (Nat×Int)},(∀f∈c,f.holds τ)->BO τ b D->BO τ b (pY c D)
 |[],_,_,h=>h
 |f :: c,D,i,h=>by
  simp only[pY];refine G5 (λg j=>i g (iz _ j)) ?_
  cases Nat.beq f.a 0 with
  |true=>exact h
  |false=>cases Nat.beq f.b 0 with
   |true=>exact h
   |false=>
    split
    .rename_i d k;intro t e a;rcases LN a with a|a
     .cases a;have m:=h _ _ (ue k);have l:=i f iA;unfold Fa.holds at l;omega
     .exact h _ _ a
    .exact h
theorem Hh{r y c}(h:z8 r y=some c):(c=y\/r=some c):=by
 cases r with
 |none=>cases h;exact .inl rfl
 |some x=>
  simp only[z8]at h
  cases a:lD x y with
  |true=>rw[a]at h;exact .inr h
  |false=>rw[a]at h;cases h;exact .inl rfl
theorem XU{τ:List L}{a:Nat}{D:List (Nat×Int)}(m:FC τ a D):∀{l:List Fa}{r:Option Int},(∀f∈l,f.holds τ)->(∀c,r=some c->eY τ a<=c)->∀c,Ay l D r=some c->eY τ a<=c
 |[],_,_,b,c,h=>b c h
 |f ::l,r,n,b,c,h=>by
  simp only[Ay]at h;refine XU m (λg o=>n g (iz _ o)) ?_ c h;intro e i
  cases j:Nat.beq f.b 0 with
  |true=>
   rw[j]at i;have j:=yA j;split at i
   .rename_i d p;rcases Hh i with rfl|k
    .have q:=m _ _ (ue p);have k:=n f iA;unfold Fa.holds at k;rw[j,vm]at k;omega
    .exact b _ k
   .exact b _ i
  |false=>simp_all
theorem VI{τ:List L}{b:Nat}{D:List (Nat×Int)}(m:BO τ b D):∀{l:List Fa}{r:Option Int},(∀f∈l,f.holds τ)->(∀c,r=some c→-eY τ b<=c)->∀c,AK l D r=some c→-eY τ b<=c
 |[],_,_,a,c,h=>a c h
 |f ::l,r,n,a,c,h=>by
  simp only[AK]at h;refine VI m (λg o=>n g (iz _ o)) ?_ c h;intro e i
  cases j:Nat.beq f.a 0 with
  |true=>
   rw[j]at i;have j:=yA j;split at i
   .rename_i d p;rcases Hh i with rfl|k
    .have q:=m _ _ (ue p);have k:=n f iA;unfold Fa.holds at k;rw[j,vm]at k;omega
    .exact a _ k
   .exact a _ i
  |false=>simp_all
theorem aaN{τ e}(g:∀f∈e,f.holds τ){a b c}(h:du e a b=some c):eY τ a-eY τ b<=c:=by
 have j:FC τ a (tp e (tp e [(a,0)])):=Nx g (Nx g λt d k=>by
  simp_all)
 have l:BO τ b (pY e (pY e [(b,0)])):=G5 g (G5 g λt d k=>by
  simp_all)
 have m:=XU j g (r:=none) (λ_ h=>by cases h);have n:=VI l g (r:=none) (λ_ h=>by cases h);unfold du at h
 cases i:Nat.beq a b with
 |true=>
  simp_all
 |false=>
  rw[i]at h
  cases i:Nat.beq a 0 with
  |true=>
   simp_all[vm]
  |false=>
   rw[i]at h
   cases i:Nat.beq b 0 with
   |true=>
    simp_all[vm]
   |false=>
    rw[i]at h;simp only[cond_false]at h;split at h
    .rename_i x y o p;have s:=m _ o;have u:=n _ p;split at h
     .rename_i d q;have v:=j _ _ (ue q);rcases Hh h with rfl|z
      .omega
      simp_all
     .cases h;omega
    .exact j _ _ (ue h)
abbrev Li:=Nat×Int
def eZ(τ:List L)(x:Li):Int:=eY τ x.1+x.2
def Dt(a:List Fa)(x y:Li):Option Int:=(du a x.1 y.1).map (· +(x.2-y.2))
theorem apv{τ a}(b:∀f∈a,f.holds τ){x y c}(h:Dt a x y=some c):eZ τ x-eZ τ y<=c:=by
 simp only[Dt,bY]at h;obtain⟨d,e,rfl⟩:=h;have:=aaN b e;unfold eZ;omega
def o6(a:List Fa)(x y:Li)(c:Int):Bool:=match Dt a x y with
 |some d=>lD d c
 |none=>false
theorem aAb{τ a}(b:∀f∈a,f.holds τ){x y c}(h:o6 a x y c=true):eZ τ x-eZ τ y<=c:=by
 unfold o6 at h;split at h
 .rename_i d e;have:=apv b e;have:=xC h;omega
 .cases h
inductive AC where
 |int (k:eX) (lo hi:Int)
 |bool
 |str (hi:Int)
 |sl (hi:Int) (cs:List AC)
 |any
deriving Inhabited,Repr
mutual
def AC.ok:AC->PV->Prop
 |.int k lo a,q=>∃n,q=.sc (.int k n)/\lo<=n/\n<=a
 |.bool,q=>∃b,q=.sc (.bool b)
 |.str a,q=>∃s:fu,q=.sc (.string s)/\(s.size:Int)<=a
 |.sl a cs,q=>∃rows,q=.sl rows/\(rows.length:Int)<=a/\∀r∈rows,AC.kG cs r
 |.any,_=>True
def AC.kG:List AC->List PV->Prop
 |[],[]=>True
 |c::cs,q::a=>AC.ok c q/\AC.kG cs a
 |_,_=>False
end
def AC.rows(cs:List AC)(rows:List (List PV)):Prop:=∀r∈rows,AC.kG cs r
mutual
def AC.le:AC->AC->Bool
 |.int k lo d,.int q h a=>Tw k q&&lD h lo&&lD d a
 |.bool,.bool=>true
 |.str d,.str a=>lD d a
 |.sl d cs,.sl a m=>lD d a&& (AC.zq cs m||lD d 0)
 |_,.any=>true
 |_,_=>false
def AC.zq:List AC->List AC->Bool
 |[],[]=>true
 |c::cs,d::ds=>AC.le c d&&AC.zq cs ds
 |_,_=>false
end
mutual
theorem AC.abE:∀{x y:AC}{q:PV},AC.le x y=true->AC.ok x q->AC.ok y q
 |.int k lo t,.int J G d,q,h,⟨n,m,B,E⟩=>by
  simp only[AC.le,cu]at h;obtain⟨⟨a,u⟩,F⟩:=h;have a:=azR a;subst a;have u:=xC u;have F:=xC F;exact⟨n,m,om,om⟩
 |.bool,.bool,_,_,h=>h
 |.str t,.str d,q,h,⟨s,m,B⟩=>by
  have h:=xC (show lD t d=true from h);exact⟨s,m,om⟩
 |.sl t cs,.sl d I,q,h,⟨rows,m,B,E⟩=>by
  simp only[AC.le,cu,oX]at h;have u:=xC h.1;refine⟨rows,m,om,λr z=>?_⟩;rcases h.2 with a|a
  .exact AC.IV a (E r z)
  .have a:=xC a;have:rows.length=0:=om;rw[mN this]at z;cases z
 |.any,.any,_,_,_=>trivial
 |.int ..,.any,_,_,_=>trivial
 |.bool,.any,_,_,_=>trivial
 |.str _,.any,_,_,_=>trivial
 |.sl ..,.any,_,_,_=>trivial
 |.int ..,.bool,_,h,_=>by cases h
 |.int ..,.str _,_,h,_=>by cases h
 |.int ..,.sl ..,_,h,_=>by cases h
 |.bool,.int ..,_,h,_=>by cases h
 |.bool,.str _,_,h,_=>by cases h
 |.bool,.sl ..,_,h,_=>by cases h
 |.str _,.int ..,_,h,_=>by cases h
 |.str _,.bool,_,h,_=>by cases h
 |.str _,.sl ..,_,h,_=>by cases h
 |.sl ..,.int ..,_,h,_=>by cases h
 |.sl ..,.bool,_,h,_=>by cases h
 |.sl ..,.str _,_,h,_=>by cases h
 |.any,.int ..,_,h,_=>by cases h
 |.any,.bool,_,h,_=>by cases h
 |.any,.str _,_,h,_=>by cases h
 |.any,.sl ..,_,h,_=>by cases h
theorem AC.IV:∀{xs ys:List AC}{a:List PV},AC.zq xs ys=true->AC.kG xs a->AC.kG ys a
 |[],[],_,_,h=>h
 |c::cs,d::ds,[],_,h=>by cases h
 |c::cs,d::ds,q::a,h,k=>by
  simp only[AC.zq,cu]at h;exact⟨AC.abE h.1 k.1,AC.IV h.2 k.2⟩
 |[],_::_,_,h,_=>by cases h
 |_::_,[],_,h,_=>by cases h
end
mutual
def AC.join:AC->AC->AC
 |.int k lo d,.int q h a=>if k==q then .int k (if lo<=h then lo else h) (if d<=a then a else d)else .any
 |.bool,.bool=>.bool
 |.str d,.str a=>.str (if d<=a then a else d)
 |.sl d cs,.sl a m=>if d<=0 then .sl (if d<=a then a else d) m else if a<=0 then .sl (if d<=a then a else d) cs else .sl (if d<=a then a else d) (AC.TS cs m)
 |_,_=>.any
def AC.TS:List AC->List AC->List AC
 |c::cs,d::ds=>AC.join c d::AC.TS cs ds
 |_,_=>[]
end
end AI
end
section
open Go.RowKit Go.Deep AI
section
variable{H:Type}{enc:cd×b9->H}{P:cC}{w:bX}{base:Nat}{spare:Nat->Bool}{held:Bool}{M:fZ}
def El(enc:cd×b9->H)(P:cC)(w:bX)(base:Nat)(spare:Nat->Bool)(held:Bool)(M:fZ)(e:cd)(c:Nat)(cs:List AC):Prop:=
 ∀fuel cells x,DataW.trod enc P w base spare held fuel e cells=some x->cells.length=c/\∃r:List PV,r.length=c/\AC.kG cs r/\∀(j:Nat)(p:PV)(u:b9),r[j]?=some p->cells[j]?=some u->RP M w p u
def nJ(enc:cd×b9->H)(P:cC)(w:bX)(base:Nat)(spare:Nat->Bool)(held:Bool)(M:fZ)(t:cd)(q:AC):Prop:=
 ∀fuel cells x,DataW.trod enc P w base spare held fuel t cells=some x->∃v p,cells=[v]/\AC.ok q p/\RP M w p v
theorem wW{t k lo a}(b:P.underlying t=some (.int k))(c:∀n,(Lit.int k n).wf=true->lo<=n/\n<=a):nJ enc P w base spare held M t (.int k lo a):=λfuel cells x h=>by
 obtain⟨n,rfl,_,d⟩:=DataW.trod_int b h;obtain⟨e,f⟩:=c n d;exact⟨_,.sc (.int k n),rfl,⟨n,rfl,e,f⟩,.sc rfl⟩
theorem awP{t}(a:P.underlying t=some .bool):nJ enc P w base spare held M t .bool:=λfuel cells x h=>by
 obtain⟨b,rfl,_⟩:=DataW.trod_bool a h;exact⟨_,.sc (.bool b),rfl,⟨b,rfl⟩,.sc rfl⟩
theorem YN{t q}(h:nJ enc P w base spare held M t q):El enc P w base spare held M t 1 [q]:=λfuel cells x a=>by
 obtain⟨v,p,rfl,b,c⟩:=h fuel cells x a;refine⟨rfl,[p],rfl,⟨b,trivial⟩,λj e u hp d=>?_⟩
 match j with
 |0=>cases hp;cases d;exact c
 |j+1=>simp at hp
theorem UK{e a b c d q0 q1 q2 q3}(p:P.underlying e=some (.struct #[a,b,c,d]))(q:P.cellsOf e=4)
 (r:a.offset=0) (s:b.offset=1) (t:c.offset=2) (v:d.offset=3) (c0:P.cellsOf a.type=1) (c1:P.cellsOf b.type=1) (c2:P.cellsOf c.type=1) (c3:P.cellsOf d.type=1)
 (y:nJ enc P w base spare held M a.type q0) (z:nJ enc P w base spare held M b.type q1) (B:nJ enc P w base spare held M c.type q2) (C:nJ enc P w base spare held M d.type q3):
 El enc P w base spare held M e 4 [q0,q1,q2,q3]:=λfuel cells x E=>by
 obtain⟨xs,n,_,_,i,h,f⟩:=DataW.trod_struct p E;rw[q]at i
 match cells,i,xs,h with
 |[v0,v1,v2,v3],_,[y0,y1,y2,y3],_=>
  have k:=f 0 a rfl;have l:=f 1 b rfl;have m:=f 2 c rfl;have o:=f 3 d rfl;rw[r,c0]at k;rw[s,c1]at l;rw[t,c2]at m;rw[v,c3]at o;obtain⟨u0,F,e0,G,r0⟩:=y _ _ _ k;obtain⟨u1,I,J,K,N⟩:=z _ _ _ l;obtain⟨u2,O,Q,T,U⟩:=B _ _ _ m;obtain⟨u3,V,W,X,Y⟩:=C _ _ _ o;cases e0;cases J;cases Q;cases W;refine⟨rfl,[F,I,O,V],rfl,⟨G,K,T,X,trivial⟩,λj p' u hp g=>?_⟩
  match j with
  |0=>cases hp;cases g;exact r0
  |1=>cases hp;cases g;exact N
  |2=>cases hp;cases g;exact U
  |3=>cases hp;cases g;exact Y
  |j+4=>simp at hp
theorem Dq{t e c cs}(G:P.underlying t=some (.slice e))(I:P.cellsOf e=c)(J:0<c)(K:∀g,¬M g)(B:El enc P w base spare held M e c cs):
 nJ enc P w base spare held M t (.sl 9223372036854775807 cs):=λfuel cells x h=>by
 have d:AC.ok (.sl 9223372036854775807 cs) (.sl []):=⟨[],rfl,by simp,λr k=>by cases k⟩
 rcases open_slice G h with⟨rfl,_⟩| ⟨a,len,cap,m,n,D,Pl,rfl,Y,N,O,C,rfl,F⟩
 .exact⟨_,_,rfl,d,.nil⟩
 by_cases T:len=0
 .subst T;exact⟨_,_,rfl,d,.nil⟩
 have U:len<=m:=by rw[C];split<;>omega
 rw[I]at F;obtain⟨Q,l⟩:=choose_lt (α:=List PV×List b9) (n:=len) (p:=λi q=>q.1.length=c/\AC.kG cs q.1/\(∀j,j<c->w.cell? ((a.add (i*c)).add j)=q.2[j]?)/\q.2.length=c/\∀(j:Nat)(p:PV)(u:b9),q.1[j]?=some p->q.2[j]?=some u->RP M w p u) (λi b=>by
  obtain⟨E,k1,k2⟩:=F i om;obtain⟨_,y,s⟩:=World.cells?_some k1;obtain⟨_,r,V,W,X⟩:=B _ _ _ k2;exact⟨(r,E),V,W,s,y,X⟩)
 obtain⟨g,o,spot⟩:=a;have hspot:spot=none:=by
  obtain⟨_,_,s,y,_⟩:=l 0 om;have:=s 0 J;rw[cY om]at this;simpa[Addr.add]using World.cell?_spot this
 subst hspot;have hlen:((List.range len).map λi=>(Q i).1).length=len:=by simp
 refine⟨_,.sl ((List.range len).map λi=>(Q i).1),rfl,⟨_,rfl,?_,λr k=>?_⟩,?_⟩
 .have:maxLen=9223372036854775807:=rfl;omega
 .obtain⟨i,b,rfl⟩:=fE.1 k;exact(l i (jr.1 b)).2.1
 have key:∀(i:Nat)(r:List PV)(j:Nat)(p:PV),((List.range len).map λi=>(Q i).1)[i]?=some r->r[j]?=some p->i<len/\j<c/\r=(Q i).1:=by
  intro i r j p b z;have v:i<len:=by
   have:=(dO.1 b).1
   rwa [hlen]at this
  rw[cX,vg v]at b;cases b;have:=(dO.1 z).1;rw[(l i v).1]at this;exact⟨v,this,rfl⟩
 have k:=RP.row (M:=M) (w:=w) (rows:=(List.range len).map λi=>(Q i).1) (g:=g) (o:=o) (cap:=cap) (sz:=c) (f:=λi j=>((Q i).2[j]?).getD .nilFunc) (by
  intro e;rw[e]at hlen;simp at hlen;omega) (by rw[hlen];exact N) O (λr k=>by
  obtain⟨i,b,rfl⟩:=fE.1 k;exact(l i (jr.1 b)).1) (λi r j p b z=>by
  obtain⟨k1,k2,rfl⟩:=key i r j p b z;have y:=(l i k1).2.2.1 j k2;have s:j< (Q i).2.length:=by rw[(l i k1).2.2.2.1];exact k2
  refine⟨?_,K g⟩;rw[cY s]at y⊢;rw[Go.WideShapes.add_plain,Go.WideShapes.add_plain]at y;exact y) (λi r j p b z=>by
  obtain⟨k1,k2,rfl⟩:=key i r j p b z;have s:j< (Q i).2.length:=by rw[(l i k1).2.2.2.1];exact k2
  rw[cY s];exact(l i k1).2.2.2.2 j p _ z (cY s))
 rw[hlen]at k;exact k
end
end
section
open Go.RowKit
open Classical
def SC.clear(g:List Nat)(c:SC):SC:=if c.names.any (g.contains ·)then .dead else c
def SB.clear(g:List Nat):SB->SB
 |.box cs=>.box (cs.map (SC.clear g))
 |b=>b
def bq.settle(S:bq):bq:=match S.bu with
 |[]=>S
 |g=> {S with tmps:=S.tmps.map (SV.fk (SC.clear g)),heap:=(S.heap.filter λx=> !g.contains x.1).map λx=>(x.1,x.2.clear g),bu:=[]}
theorem SC.CE{ρ g}(c:SC):(c.clear g).a_ ρ=(c.a_ ρ).clear g:=by
 unfold SC.clear C.clear;rw[SC.nO];split<;>rfl
theorem abr{ρ f a}(b:∀c,(f c).a_ ρ=a (c.a_ ρ))(x:SV):(x.fk f).a_ ρ=(x.a_ ρ).on a:=by
 have d:∀x:bK,(x.fk f).a_ ρ=(x.a_ ρ).on a:=by
  intro x
  cases x with
  |c c=>grind[bK.fk,bK.a_,V1.on]
  |agg cs=>simp_all[bK.fk,bK.a_,V1.on]
 cases x with
 |v x=>grind[SV.fk,SV.a_,V.on]
 |bL xs=>simp_all[SV.fk,SV.a_,V.on]
theorem SB.CE{ρ g}(b:SB):(b.clear g).a_ ρ=(b.a_ ρ).on (C.clear g):=by
 cases b with
 |box cs=>simp only[SB.clear,SB.a_,eQ.on,gp];congr 1;apply gz;intro c _;exact SC.CE c
 |row=>rfl
 |map=>rfl
theorem acM{ρ}{S:bq}:(S.settle).a_ ρ=(S.a_ ρ).settle:=by
 unfold bq.settle bx.settle;have a:(S.a_ ρ).bu=S.bu:=rfl;rw[a]
 cases S.bu with
 |nil=>rfl
 |cons t U=>
  simp only[bq.a_,bx.mk.injEq,gp,and_true];refine⟨gz λx _=>abr (λc=>SC.CE c) x,?_⟩;simp only[cU.a_,gp,List.filter_map];refine gz λx _=>?_
  simp only[Function.comp,SB.CE]
theorem abj(S:bq):S.settle.bu=[]:=by
 unfold bq.settle;grind
theorem akv(S:bq):S.settle.nv=S.nv:=by
 unfold bq.settle;split<;>rfl
def SC.in(m:Nat):SC->Bool
 |.p _ x=>x.in m
 |.sub _ a b=>a.in m&&b.in m
 |.ia _ _ _ _ i=>i.in m
 |.dH _ i _=>i.in m
 |.ref x _=>x.in m
 |_=>true
def bK.in(m:Nat):bK->Bool
 |.c x=>x.in m
 |.agg xs=>xs.all (SC.in m)
def SV.in(m:Nat):SV->Bool
 |.v x=>x.in m
 |.bL xs=>xs.all (bK.in m)
def SB.in(m:Nat):SB->Bool
 |.box cs=>cs.all (SC.in m)
 |.row _ x=>x.in m
 |.map x=>x.in m
def bq.in(m:Nat)(S:bq):Bool:=S.tmps.all (SV.in m)&&S.heap.all λx=>x.2.in m
theorem SC.lJ{m ρ ys}{c:SC}(h:c.in m=true)(a:m<=ρ.length):c.a_ (ρ++ys)=c.a_ ρ:=by
 cases c<;>simp only[SC.in,cu]at h<;>simp only[SC.a_]<;>first
  |rfl
  |(rw[At.fm h a];done)
  |(rw[At.fm h.1 a,At.fm h.2 a];done)
theorem bK.lJ{m ρ ys}{x:bK}(h:x.in m=true)(a:m<=ρ.length):x.a_ (ρ++ys)=x.a_ ρ:=by
 cases x with
 |c c=>simp only[bK.a_];rw[SC.lJ h a]
 |agg cs=>
  simp only[bK.in,cz]at h;simp only[bK.a_];congr 1;exact gz λc d=>SC.lJ (h c d) a
theorem SV.lJ{m ρ ys}{x:SV}(h:x.in m=true)(a:m<=ρ.length):x.a_ (ρ++ys)=x.a_ ρ:=by
 cases x with
 |v x=>simp only[SV.a_];rw[bK.lJ h a]
 |bL xs=>
  simp only[SV.in,cz]at h;simp only[SV.a_];congr 1;exact gz λc d=>bK.lJ (h c d) a
theorem SB.lJ{m ρ ys}{b:SB}(h:b.in m=true)(a:m<=ρ.length):b.a_ (ρ++ys)=b.a_ ρ:=by
 cases b with
 |box cs=>
  simp only[SB.in,cz]at h;simp only[SB.a_];congr 1;exact gz λc d=>SC.lJ (h c d) a
 |row e x=>simp only[SB.a_];rw[At.fm h a]
 |map x=>simp only[SB.a_];rw[At.fm h a]
theorem bq.lJ{m ρ ys}{S:bq}(h:S.in m=true)(d:m<=ρ.length):S.a_ (ρ++ys)=S.a_ ρ:=by
 simp only[bq.in,cu,cz]at h;simp only[bq.a_,bx.mk.injEq,and_true];refine⟨gz λc a=>SV.lJ (h.1 c a) d,?_⟩;exact gz λc a=>by rw[SB.lJ (h.2 c a) d]
def RT.uH(f:bq->kf->Option bl):RT->Option bl
 |.bp S ts=>f S ts
 |.ops nds k=>(RT.uH f k).map λk=>nds.foldr .op k
 |.ite a x y=>match RT.uH f x,RT.uH f y with
  |some x,some y=>some (.ite a x y)
  |_,_=>none
 |.stuck=>some (.op (.du (.i 0) 0) (.bp (.jump 0 [])))
theorem B6:∀{nds}{k}{ρ},(nds.foldr bl.op k).a_ ρ=match qh ρ nds with|some a=>k.a_ a|none=>none
 |[],_,_=>rfl
 |nd::nds,k,ρ=>by
  simp only[List.foldr_cons,bl.a_,qh]
  cases nd.ev ρ with
  |none=>rfl
  |some ls=>exact B6
theorem Dr{f:bq->kf->Option bl}:∀{t:RT}{u:bl}{ρ:List L}{o:Lf×List L},t.uH f=some u->u.a_ ρ=some o->∃S ts c v,t.a_ ρ=some ((S,ts),c)/\f S ts=some v/\v.a_ c=some o
 |.bp S ts,u,ρ,o,h,b=>⟨S,ts,ρ,u,rfl,h,b⟩
 |.ops nds k,u,ρ,o,h,b=>by
  simp only[RT.uH,bY]at h;obtain⟨v,g,rfl⟩:=h;rw[B6]at b;split at b
  .rename_i ρ1 j;obtain⟨S,ts,c,w,d,e,l⟩:=Dr g b;grind[RT.a_]
  .cases b
 |.stuck,u,ρ,o,h,b=>by
  cases h;simp[bl.a_,Nd.ev,At.ev,L.br]at b
 |.ite a x y,u,ρ,o,h,b=>by
  simp only[RT.uH]at h;split at h
  .rename_i m n d e;cases h;simp only[bl.a_]at b;split at b
   .obtain⟨S,ts,c,w,k1,k2,i⟩:=Dr d b;grind[RT.a_]
   .obtain⟨S,ts,c,w,k1,k2,i⟩:=Dr e b;grind[RT.a_]
  .cases h
def oe(T:bV)(C:eP)(ops:Array Oper)(draw:Bool)(S:bq):Option bl:=
 if S.in S.nv=true/\S.bu=[]/\(!draw||FE ops)=true then
  (r9 T C S.next ops (4*ops.size+8) ops.toList 0 {S with next:=S.next+8*ops.size} []).bind λt=>RT.uH (λa ts=>
   if(if draw then qf ops ts&&vF S.next ops ts else vP S.next 0 ts)=true then some (.bp (.st .normal a.settle))else none) t
 else none
def Good(P:cC)(k0:Nat)(c:Code)(S:bq)(ρ:List L)(x:Lf)(a:List L):Prop:=
 ∃e b,x=.st e b/\b.nv=a.length/\(∃ys,a=ρ++ys)/\b.bu=[]/\∀X:Fx,X.P=P->X.k0=k0->∀Q:Exit->bx->Prop,Q e.to (b.a_ a)->Aw X c Q (S.a_ ρ)
theorem axq{P T C k0}(j:bV.ok P T)(k:eP.ok P C)(l:P.follows .mixedOrders=true){id ops draw S u ρ a x}
 (h:oe T C ops draw S=some u) (m:ρ.length=S.nv) (n:u.a_ ρ=some (x,a)):Good P k0 (.region id ops draw) S ρ x a:=by
 unfold oe at h;split at h
 .rename_i o;obtain⟨p,G,I⟩:=o;simp only[iy]at h;obtain⟨t,q,h⟩:=h;obtain⟨f,ts,ρ1,v,k1,k2,r⟩:=Dr h n;have b:(if draw then qf ops ts&&vF S.next ops ts else vP S.next 0 ts)=true:=by
   simp_all
  rw[bA b]at k2
  .cases k2;cases r;obtain⟨s,⟨ys,y⟩,rs,z,Sp,c,B⟩:=wX j k q (by exact m) k1;subst B;refine⟨.normal,f.settle,rfl,by rw[akv];exact s,⟨ys,y⟩,abj f,λX d E Q e=>?_⟩;have g:S.a_ a=S.a_ ρ:=by grind[bq.lJ]
   have F:bq.a_ a {S with next:=S.next+8*ops.size}=(S.a_ ρ).bump ops.toList.length:=by
    simp_all[bq.a_,bx.bump]
   rw[F]at c;rw[acM]at e;have i:ops.toList.toArray=ops:=by simp
   subst d
   cases draw with
   |false=>
    have:=kg (X:=X) (Sp:=Sp) (Q:=Q) (id:=id) (ops:=ops.toList) (st:=S.a_ ρ) (rs:=rs) (ts:=ts) (by exact c) b e;omega
   |true=>
    simp only[if_true,cu]at b;have:=aiB (X:=X) (Sp:=Sp) (Q:=Q) l (id:=id) (ops:=ops.toList) (st:=S.a_ ρ) (rs:=rs) (ts:=ts) (by simp_all) (by exact c) (by simp_all) (by exact b.2) e;omega
 .cases h
def At.par(dq:Nat)(as:List At):At->At
 |.v j=>if j<dq then .v j else(as[j-dq]?).getD (.b false)
 |x=>x
theorem At.FN{dq as ρ ys}(a:ρ.length=dq)(x:At):(x.par dq as).ev (ρ++ys)=x.ev (ρ++as.map (At.ev (ρ++ys))):=by
 cases x with
 |v j=>
  simp only[At.par];split
  .simp only[At.ev];grind
  .simp only[At.ev];rw[kF om,a,cX];cases as[j-dq]? <;>rfl
 |_=>rfl
abbrev jm:=List (Nat×At×At×At)
def B_(D:jm)(S:bq)(dq:Nat)(as:List At)(ι:Ren)(Z:List Nat):SC->SC->Bool
 |_,.dead=>true
 |.p k x,.p p y=>decide (k=p)&& (y.par dq as).same x
 |.nil,.p .sl y=>(y.par dq as).same .r0
 |.sub n a b,.p .sl y=> !ι.old.contains n&&D.any λz=>z.1==n&&z.2.1.same a&&z.2.2.1.same b&& (y.par dq as).same z.2.2.2
 |.own n,.p .sl y=>match List.lookup n S.heap with
  |some (.row _ x)=>(y.par dq as).same x&& !ι.old.contains n
  |_=>false
 |.nil,.nil=>true
 |.nil,.own d=>Z.contains d
 |.nil,.sub d (.i 0) (.i 0)=>Z.contains d
 |.own n,.own d=>List.lookup n ι==some d
 |.sub n a b,.sub d a' q=>List.lookup n ι==some d&& (a'.par dq as).same a&& (q.par dq as).same b
 |.ptr n o,.ptr d e=>List.lookup n ι==some d&&o==e
 |.ia n o c m i,.ia d e r s g=>List.lookup n ι==some d&&o==e&&c==r&&m==s&& (g.par dq as).same i
 |.dH n i j,.dH d g h=>List.lookup n ι==some d&& (g.par dq as).same i&&j==h
 |.ref x j,.ref t h=>(t.par dq as).same x&&j==h
 |.fn f u,.fn v l=>f==v&&u.map (λn=>List.lookup n ι)==l.map some
 |.mp n,.mp d=>List.lookup n ι==some d
 |_,_=>false
theorem uu{ι:Ren}{n a}(h:(List.lookup n ι==some a)=true):ι.to n=a/\n∈ι.old:=by
 have b:List.lookup n ι=some a:=by simpa using h
 refine⟨by simp[Ren.to,b],?_⟩;clear h
 induction ι with
 |nil=>cases b
 |cons x ι ih=>
  grind[Ren.old]
section
variable{D:jm}{S:bq}{dq:Nat}{as:List At}{ι:Ren}{Z:List Nat}{ρ ys:List L}
def jm.ok(D:jm)(S:bq)(ρ:List L):Prop:=∀z∈D,(S.a_ ρ).view ((SC.sub z.1 z.2.1 z.2.2.1).a_ ρ)=some (z.2.2.2.ev ρ).bC
theorem To(s:ρ.length=dq)(t:D.ok S (ρ++ys)){c p}(h:B_ D S dq as ι Z c p=true):AL (S.a_ (ρ++ys)) ι Z (c.a_ (ρ++ys)) (p.a_ (ρ++as.map (At.ev (ρ++ys)))):=by
 have same:∀{x y:At},(y.par dq as).same x=true->y.ev (ρ++as.map (At.ev (ρ++ys)))=x.ev (ρ++ys):=λu=>by rw[<-At.FN s,At.mE u]
 unfold B_ at h;split at h
 .cases c<;>trivial
 .simp only[cu,eD]at h;obtain⟨rfl,a⟩:=h;exact .inl (by grind[SC.a_])
 .exact .inr ⟨[],by simp only[Kd.pv,same h];rfl,rfl,λk l=>by simp[SC.a_,C.names]at l⟩
 .simp only[cu,oV,ya,x6,On,beq_iff_eq]at h;obtain⟨g,⟨m,a',B,z⟩,a,⟨⟨b,i⟩,q⟩,v⟩:=h;simp only at b i q v;subst b;have r:=t _ a;simp only[SC.a_,At.mE i,At.mE q]at r;refine .inr ⟨(z.ev (ρ++ys)).bC,by grind[Kd.pv],r,λk l=>?_⟩;simp_all[SC.a_,C.names]
 .split at h
  .rename_i e x E;simp only[cu,oV,ya,x6]at h;refine .inr ⟨(x.ev (ρ++ys)).bC,by grind[Kd.pv],by grind[SC.a_,bx.view,eK,SB.a_],λk l=>?_⟩;simp_all[SC.a_,C.names]
  .cases h
 .exact⟨rfl,by simp[SC.a_,C.names]⟩
 .rename_i o;exact(by simpa using h:o∈Z)
 .rename_i o;exact⟨(by simpa using h:o∈Z),rfl,rfl⟩
 .obtain⟨g,a⟩:=uu h;exact⟨by grind[SC.a_,C.dJ],by grind[SC.a_,C.names]⟩
 .simp only[cu]at h;obtain⟨g,a⟩:=uu h.1.1;exact⟨by grind[SC.a_,C.dJ],by grind[SC.a_,C.names]⟩
 .simp only[cu]at h;obtain⟨g,a⟩:=uu h.1;exact⟨by simp_all[SC.a_,C.dJ],by grind[SC.a_,C.names]⟩
 .simp only[cu]at h;obtain⟨g,a⟩:=uu h.1.1.1.1;have b:=h.1.1.1.2;have i:=h.1.2;simp only[beq_iff_eq]at b i;exact⟨by grind[SC.a_,C.dJ],by grind[SC.a_,C.names]⟩
 .simp only[cu]at h;obtain⟨g,a⟩:=uu h.1.1;have b:=h.2;simp only[beq_iff_eq]at b;exact⟨by grind[SC.a_,C.dJ],by grind[SC.a_,C.names]⟩
 .simp only[cu,beq_iff_eq]at h;exact⟨by grind[SC.a_,C.dJ],by simp[SC.a_,C.names]⟩
 .rename_i f j F d;simp only[cu,beq_iff_eq]at h;obtain⟨rfl,a⟩:=h;have b:d=j.map ι.to/\∀m∈j,m∈ι.old:=by
   induction j generalizing d with
   |nil=>simp_all
   |cons m G ih=>
    cases d with
    |nil=>simp at a
    |cons n j=>
     simp_all[uu]
  exact⟨by simp_all[SC.a_,C.dJ],by simp_all[SC.a_,C.names]⟩
 .obtain⟨g,a⟩:=uu h;exact⟨by grind[SC.a_,C.dJ],by grind[SC.a_,C.names]⟩
 .cases h
def Ac(D:jm)(S:bq)(dq:Nat)(as:List At)(ι:Ren)(Z:List Nat):List SC->List SC->Bool
 |[],[]=>true
 |c::cs,b::a=>B_ D S dq as ι Z c b&&Ac D S dq as ι Z cs a
 |_,_=>false
def Fk(D:jm)(S:bq)(dq:Nat)(as:List At)(ι:Ren)(Z:List Nat):bK->bK->Bool
 |_,.c .dead=>true
 |.c c,.c b=>B_ D S dq as ι Z c b
 |.agg cs,.agg a=>Ac D S dq as ι Z cs a
 |_,_=>false
def E7(D:jm)(S:bq)(dq:Nat)(as:List At)(ι:Ren)(Z:List Nat):List bK->List bK->Bool
 |[],[]=>true
 |c::cs,b::a=>Fk D S dq as ι Z c b&&E7 D S dq as ι Z cs a
 |_,_=>false
def Js(D:jm)(S:bq)(dq:Nat)(as:List At)(ι:Ren)(Z:List Nat):SV->SV->Bool
 |_,.v (.c .dead)=>true
 |.v x,.v b=>Fk D S dq as ι Z x b
 |.bL xs,.bL a=>E7 D S dq as ι Z xs a
 |_,_=>false
def DT(D:jm)(S:bq)(dq:Nat)(as:List At)(ι:Ren)(Z:List Nat):List SV->List SV->Bool
 |[],[]=>true
 |c::cs,b::a=>Js D S dq as ι Z c b&&DT D S dq as ι Z cs a
 |_,_=>false
def C5(D:jm)(S:bq)(dq:Nat)(as:List At)(ι:Ren)(Z:List Nat):SB->SB->Bool
 |.box cs,.box a=>Ac D S dq as ι Z cs a
 |.row e x,.row c b=>e==c&& (b.par dq as).same x
 |.map x,.map b=>(b.par dq as).same x
 |_,_=>false
theorem J4(b:ρ.length=dq)(d:D.ok S (ρ++ys)):∀{cs a:List SC},Ac D S dq as ι Z cs a=true->Aq (S.a_ (ρ++ys)) ι Z (cs.map (SC.a_ (ρ++ys))) (a.map (SC.a_ (ρ++as.map (At.ev (ρ++ys)))))
 |[],[],_=>trivial
 |c::cs,e::a,h=>by
  simp only[Ac,cu]at h;exact⟨To b d h.1,J4 b d h.2⟩
 |[],_::_,h=>by cases h
 |_::_,[],h=>by cases h
theorem Pr(a:ρ.length=dq)(b:D.ok S (ρ++ys)){x d}(h:Fk D S dq as ι Z x d=true):tP (S.a_ (ρ++ys)) ι Z (x.a_ (ρ++ys)) (d.a_ (ρ++as.map (At.ev (ρ++ys)))):=by
 unfold Fk at h;split at h
 .simp_all[bK.a_,SC.a_,tP]
 .rename_i c e _;have:=To (ys:=ys) a b h;simp only[bK.a_];revert this;generalize SC.a_ (ρ++as.map (At.ev (ρ++ys))) e=f;intro this;cases f<;>first|exact this|trivial
 .exact J4 a b h
 .cases h
theorem Pn(b:ρ.length=dq)(d:D.ok S (ρ++ys)):∀{cs a:List bK},E7 D S dq as ι Z cs a=true->Eg (S.a_ (ρ++ys)) ι Z (cs.map (bK.a_ (ρ++ys))) (a.map (bK.a_ (ρ++as.map (At.ev (ρ++ys)))))
 |[],[],_=>trivial
 |c::cs,e::a,h=>by
  simp only[E7,cu]at h;exact⟨Pr b d h.1,Pn b d h.2⟩
 |[],_::_,h=>by cases h
 |_::_,[],h=>by cases h
theorem atu(b:ρ.length=dq)(d:D.ok S (ρ++ys)){x e}(h:Js D S dq as ι Z x e=true):vL (S.a_ (ρ++ys)) ι Z (x.a_ (ρ++ys)) (e.a_ (ρ++as.map (At.ev (ρ++ys)))):=by
 unfold Js at h;split at h
 .simp_all[SV.a_,bK.a_,SC.a_,vL]
 .rename_i y f _;have:=Pr (ys:=ys) b d h;simp only[SV.a_];revert this;generalize bK.a_ (ρ++as.map (At.ev (ρ++ys))) f=a;intro this
  cases a with
  |c a=>cases a<;>first|exact this|trivial
  |agg _=>exact this
 .exact Pn b d h
 .cases h
theorem TV(b:ρ.length=dq)(d:D.ok S (ρ++ys)):∀{cs a:List SV},DT D S dq as ι Z cs a=true->o6 (S.a_ (ρ++ys)) ι Z (cs.map (SV.a_ (ρ++ys))) (a.map (SV.a_ (ρ++as.map (At.ev (ρ++ys)))))
 |[],[],_=>trivial
 |c::cs,e::a,h=>by
  simp only[DT,cu]at h;exact⟨atu b d h.1,TV b d h.2⟩
 |[],_::_,h=>by cases h
 |_::_,[],h=>by cases h
theorem aut(d:ρ.length=dq)(f:D.ok S (ρ++ys)){b a}(h:C5 D S dq as ι Z b a=true):YL (S.a_ (ρ++ys)) ι Z (b.a_ (ρ++ys)) (a.a_ (ρ++as.map (At.ev (ρ++ys)))):=by
 cases b with
 |box cs=>
  cases a with
  |box g=>exact J4 d f h
  |_=>cases h
 |row e x=>
  cases a with
  |row i c=>
   simp only[C5,cu,beq_iff_eq]at h;refine⟨h.1,?_⟩;grind[At.FN,At.mE]
  |_=>cases h
 |map x=>
  cases a with
  |map c=>
   show(x.ev _).bC=(c.ev _).bC;grind[At.FN,At.mE,C5]
  |_=>cases h
end
def ub(D:jm)(T:bV)(k0:Nat)(S a:bq)(dq:Nat)(as:List At)(ι:Ren)(Z:List Nat):Bool:=
 a.bu.isEmpty&&decide ι.old.Nodup&&decide ι.new.Nodup&&decide (k0<=a.next)&&decide (a.nv=dq+as.length)&&
 (Z.all λn=> !ι.new.contains n&&decide (k0<=n)&&decide (n<a.next)&&match List.lookup n a.heap with
  |some (.row e x)=>(x.par dq as).same .r0&&match List.lookup e T with
   |some r=>decide (0<r.size)
   |none=>false
  |_=>false)&&
 (ι.all λx=>decide (x.2<a.next)&& (decide (k0<=x.2)||x.1==x.2))&&
 DT D S dq as ι Z S.tmps a.tmps&&
 a.heap.all λx=>Z.contains x.1||ι.any λy=>y.2==x.1&&match List.lookup y.1 S.heap with
  |some b=>C5 D S dq as ι Z b x.2
  |none=>false
theorem zg{D P T k0}(B:bV.ok P T){S g dq as ι Z ρ ys}(i:ρ.length=dq)(s:D.ok S (ρ++ys))(h:ub D T k0 S g dq as ι Z=true)(C:S.bu=[]):
 g.bu=[]/\g.nv=(ρ++as.map (At.ev (ρ++ys))).length/\∀X:Fx,X.P=P->X.k0=k0->Le X (S.a_ (ρ++ys)) (g.a_ (ρ++as.map (At.ev (ρ++ys)))):=by
 unfold ub at h;simp only[cu,eD,Ou]at h;obtain⟨⟨⟨⟨⟨⟨⟨⟨t,E⟩,F⟩,G⟩,I⟩,u⟩,v⟩,J⟩,z⟩:=h;refine⟨t,by simp[I,i],λX k l=>?_⟩;subst k l;refine kP.le (ι:=ι) (Z:=Z) C ?_;exact {
  bu:=t
  old:=E
  new:=F
  k0:=G
  zs :=λn K=>by
   simp only[cz,cu,oV,ya,x6,eD]at u;obtain⟨⟨⟨a,c⟩,d⟩,j⟩:=u n K;refine⟨a,c,d,?_⟩;split at j
   .rename_i e x o;simp only[cu]at j;obtain⟨b1,p⟩:=j;split at p
    .rename_i r N;have:=B _ _ N;subst this;have O:0< (eW X.P e).size:=by simpa using p
     refine⟨e,?_,O⟩;rw[eK,o];simp only[b_,SB.a_];rw[<-At.FN (ys:=ys) i,At.mE b1];rfl
    .cases p
   .cases j
  lt:=λx o=>by
   simp only[cz,cu,oX,eD,beq_iff_eq]at v;obtain⟨a,c⟩:=v x o;exact⟨a,λQ=>c.resolve_left om⟩
  tmps:=TV i s J
  heap :=λU V f=>by
   rw[eK]at f;simp only[bY]at f;obtain⟨W,q,rfl⟩:=f;simp only[cz,oX,ya,eD,On,cu,beq_iff_eq]at z;rcases z _ (Ar q)with a| ⟨y,a,c,d⟩
   .exact .inl a
   .right;split at d
    .rename_i b f;obtain⟨n,m⟩:=y;subst c;exact⟨n,b.a_ (ρ++ys),a,by rw[eK,f];rfl,aut i s d⟩
    .cases d}
end
end
end Go.Proofs.YtiikkkhcolcebaaGreatDoor
