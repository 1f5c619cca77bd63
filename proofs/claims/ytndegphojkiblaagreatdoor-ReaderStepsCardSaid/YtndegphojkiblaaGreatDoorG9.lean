/- A part. -/
import Derived.Test.YtndegphojkiblaaGreatDoorG1
import Derived.Test.YtndegphojkiblaaGreatDoorG8
import Derived.Deep.Slices
import Derived.OpenShut
import Derived.Laws.Closers25b
import Derived.IntWalk
set_option linter.all false
set_option maxHeartbeats 4000000
set_option maxRecDepth 100000
namespace Go.Proofs.YtndegphojkiblaaGreatDoor
noncomputable section
section
open Go.RowKit
open Classical
section
variable{A R:Type}
def fP(f:A->Option (A ⊕ R)):Nat->A->Option R
 |0,_=>none
 |n+1,a=>match f a with
  |some (.inl b)=>fP f n b
  |some (.inr r)=>some r
  |none=>none
def gx(f:A->Option (A ⊕ R))(a:A):Option R:=if h:∃n r,fP f n a=some r then fP f h.choose a else none
theorem N1{f:A->Option (A ⊕ R)}:∀{n:Nat}{a:A}{r:R}(m:Nat),fP f n a=some r->fP f (n+m) a=some r
 |0,_,_,_,h=>by cases h
 |n+1,a,r,m,h=>by
  rw[show n+1+m=(n+m)+1 by omega];simp only[fP]at h⊢;split at h
  .exact N1 m h
  .exact h
  .cases h
theorem C2{f n}{a:A}{r:R}(h:fP f n a=some r):gx f a=some r:=by
 have b:∃n r,fP f n a=some r:=⟨n,r,h⟩
 unfold gx;rw[dif_pos b];obtain⟨g,c⟩:=b.choose_spec;have e:=N1 n c;have d:=N1 b.choose h;rw[Nat.add_comm]at d;rw[c,<-e,d]
theorem sY{f}{a:A}{r:R}(h:gx f a=some r):∃n,fP f n a=some r:=by
 unfold gx at h;split at h
 .exact⟨_,h⟩
 .cases h
theorem JO(f:A->Option (A ⊕ R))(a):gx f a=match f a with
 |some (.inl d)=>gx f d
 |some (.inr r)=>some r
 |none=>none:=by
 cases c:f a with
 |none=>
  cases h:gx f a with
  |none=>rfl
  |some r=>
   obtain⟨n,b⟩:=sY h
   cases n with
   |zero=>cases b
   |succ n=>simp only[fP,c]at b;cases b
 |some x=>
  cases x with
  |inr r=>exact C2 (n:=1) (by simp only[fP,c])
  |inl d=>
   simp only
   cases h:gx f d with
   |some r=>
    obtain⟨n,b⟩:=sY h;exact C2 (n:=n+1) (by simp only[fP,c,b])
   |none=>
    cases e:gx f a with
    |none=>rfl
    |some r=>
     obtain⟨n,b⟩:=sY e
     cases n with
     |zero=>cases b
     |succ n=>
      simp only[fP,c]at b;rw[C2 b]at h;cases h
theorem vJ{f:A->Option (A ⊕ R)}{a b}(h:f a=some (.inl b)):gx f a=gx f b:=by rw[JO,h]
theorem xi{f}{a:A}{r:R}(h:f a=some (.inr r)):gx f a=some r:=by rw[JO,h]
theorem aiD{f g}{h:R->Option R}(m:∀a,(∀r,f a=some (.inr r)->gx f a=some r->g a=(h r).map .inr)->True){G:R->Prop}
 (k:∀a,(∀r,gx f a=some r->G r)->g a=match f a with
  |some (.inl e)=>some (.inl e)
  |some (.inr r)=>(h r).map .inr
  |none=>none) (a:A) (j:∀r,gx f a=some r->G r):gx g a=(gx f a).bind h:=by
 cases i:gx f a with
 |some r=>
  obtain⟨n,c⟩:=sY i;clear i
  induction n generalizing a with
  |zero=>cases c
  |succ n ih=>
   have b:=k a j;simp only[fP]at c;split at c
   .rename_i e d;rw[d]at b;rw[vJ b];exact ih e (by rw[<-vJ d];exact j) c
   .rename_i o d;cases c;rw[d]at b;rw[JO,b];simp only[GZ];cases h r<;>rfl
   .cases c
 |none=>
  cases l:gx g a with
  |none=>rfl
  |some r=>
   obtain⟨n,c⟩:=sY l;clear l
   induction n generalizing a with
   |zero=>cases c
   |succ n ih=>
    have b:=k a j
    cases d:f a with
    |none=>rw[d]at b;simp only[fP,b]at c;cases c
    |some y=>
     cases y with
     |inl e=>
      rw[d]at b;simp only[fP,b]at c;exact ih e (by rw[<-vJ d];exact j) (by rw[<-vJ d];exact i) c
     |inr o=>rw[xi d]at i;cases i
end
inductive Ex where
 |normal|exit (id:Nat)|ret
deriving DecidableEq,Repr,Inhabited
def Ex.to:Ex->Exit
 |.normal=>.normal
 |.exit id=>.exit id
 |.ret=>.ret
inductive Lf where
 |st (e:Ex) (S:bp)
 |jump (k:Nat) (args:List At)
deriving Inhabited
inductive a8 where
 |br (x:Lf)
 |op (nd:Nd) (k:a8)
 |ite (c:At) (a b:a8)
 |join (body rest:a8)
 |loop (init:List At) (body:a8)
deriving Inhabited
abbrev Out:=Option (Lf×List L)
def jk(x:Out):Option (List L ⊕ (Lf×List L)):=match x with
 |some (.jump 0 args,ρ)=>some (.inl (args.map (At.ev ρ)))
 |some (.jump (k+1) args,ρ)=>some (.inr (.jump k args,ρ))
 |some (x,ρ)=>some (.inr (x,ρ))
 |none=>none
def a8.a6:a8->List L->Out
 |.br x,ρ=>some (x,ρ)
 |.op d k,ρ=>match d.ev ρ with
  |some ls=>k.a6 (ρ++ls)
  |none=>none
 |.ite c a b,ρ=>if(c.ev ρ).ck then a.a6 ρ else b.a6 ρ
 |.join body rest,ρ=>match body.a6 ρ with
  |some (.jump 0 args,ρ')=>rest.a6 (ρ++args.map (At.ev ρ'))
  |some (.jump (k+1) args,ρ')=>some (.jump k args,ρ')
  |r=>r
 |.loop init body,ρ=>gx (λa=>jk (body.a6 (ρ++a))) (init.map (At.ev ρ))
def a8.bind(f:Nat->Ex->bp->Option a8):Nat->a8->Option a8
 |d,.br (.st e S)=>f d e S
 |_,.br x=>some (.br x)
 |d,.op m k=>(a8.bind f d k).map (.op m)
 |d,.ite c a b=>match a8.bind f d a,a8.bind f d b with
  |some a,some b=>some (.ite c a b)
  |_,_=>none
 |d,.join body rest=>match a8.bind f (d+1) body,a8.bind f d rest with
  |some a,some b=>some (.join a b)
  |_,_=>none
 |d,.loop init body=>(a8.bind f (d+1) body).map (.loop init)
def lift(d:Nat):Lf×List L->Lf×List L
 |(.jump k args,ρ)=>(.jump (k+d) args,ρ)
 |x=>x
def after(R:Ex->bp->List L->Out)(d:Nat)(o:Out):Out:=match o with
 |some (.st e S,ρ)=>(R e S ρ).map (lift d)
 |r=>r
theorem pQ{f:Nat->Ex->bp->Option a8}{R:Ex->bp->List L->Out}:∀{t u:a8}{d:Nat}{ρ:List L},
 (∀e S i,t.a6 ρ=some (.st e S,i)->∀d l,f d e S=some l->l.a6 i=(R e S i).map (lift d))->t.bind f d=some u->u.a6 ρ=after R d (t.a6 ρ)
 |.br (.st e S),u,d,ρ,H,h=>H e S ρ rfl d u h
 |.br (.jump k args),u,d,ρ,H,h=>by cases h;rfl
 |.op D k,u,d,ρ,H,h=>by
  simp only[a8.bind,bY]at h;obtain⟨v,s,rfl⟩:=h;simp only[a8.a6]at H⊢
  cases E:D.ev ρ with
  |none=>rfl
  |some ls=>
   rw[E]at H;exact pQ H s
 |.ite c a b,u,d,ρ,H,h=>by
  simp only[a8.bind]at h;split at h
  .rename_i l F p z;cases h;simp only[a8.a6]at H⊢;split
   .rename_i B;rw[bF B]at H;exact pQ H p
   .rename_i B;rw[bO B]at H;exact pQ H z
  .cases h
 |.join body rest,u,d,ρ,H,h=>by
  simp only[a8.bind]at h;split at h
  .rename_i l F p z;cases h;simp only[a8.a6]at H⊢
   cases m:body.a6 ρ with
   |none=>
    have:=pQ (R:=R) (t:=body) (ρ:=ρ) (λe S i j=>by rw[m]at j;cases j) p;rw[this,m];rfl
   |some x=>
    obtain⟨q,i⟩:=x
    cases q with
    |st e S=>
     have:=pQ (R:=R) (t:=body) (ρ:=ρ) (λe S i j=>H e S i (by rw[j])) p;rw[this,m];simp only[after]
     cases R e S i with
     |none=>rfl
     |some y=>
      obtain⟨n,C⟩:=y
      cases n with
      |st=>rfl
      |jump k args=>simp only[bS,lift,Nat.add_succ]
    |jump k args=>
     have:=pQ (R:=R) (t:=body) (ρ:=ρ) (λe S i j=>by rw[m]at j;cases j) p;rw[this,m]
     cases k with
     |zero=>
      rw[m]at H;exact pQ H z
     |succ k=>rfl
  .cases h
 |.loop init body,u,d,ρ,H,h=>by
  simp only[a8.bind,bY]at h;obtain⟨v,s,rfl⟩:=h;simp only[a8.a6]at H⊢;have key:=aiD (f:=λa=>jk (body.a6 (ρ++a))) (g:=λa=>jk (v.a6 (ρ++a))) (h:=λr=>after R d (some r))
   (G :=λr=>∀e S,r.1=.st e S->∀d l,f d e S=some l->l.a6 r.2=(R e S r.2).map (lift d)) (λ_ _=>trivial) (λa I=>by
    have o:=pQ (R:=R) (t:=body) (ρ:=ρ++a) (d:=d+1) (u:=v) (λe S i j=>by
     have:=I (.st e S,i) (xi (by simp only[j,jk]));exact this e S rfl) s
    simp only[o]
    cases m:body.a6 (ρ++a)with
    |none=>rfl
    |some x=>
     obtain⟨q,i⟩:=x
     cases q with
     |st e S=>
      simp only[after,jk]
      cases R e S i with
      |none=>rfl
      |some y=>
       obtain⟨n,C⟩:=y
       cases n with
       |st=>rfl
       |jump k args=>simp only[bS,lift,Nat.add_succ]
     |jump k args=>cases k<;>rfl) (init.map (At.ev ρ)) (λr J e S K=>by
      obtain⟨q,i⟩:=r;subst K;exact H e S i J)
  rw[key];cases gx (λa=>jk (body.a6 (ρ++a))) (init.map (At.ev ρ))<;>rfl
end
section
open Go.RowKit
namespace AI
def cz(τ:List L)(t:Nat):Int:=match t with
 |0=>0
 |t+1=>let l:=(τ[t/3]?).getD (.b false)
  if t%3=0 then l.a_ else if t%3=1 then(l.bm.length:Int)else(l.du.size:Int)
def fS(n t:Nat):Bool:=decide (t<=3*n)
theorem gM(τ):cz τ 0=0:=rfl
theorem vk{τ ys t}(h:fS τ.length t=true):cz (τ++ys) t=cz τ t:=by
 cases t with
 |zero=>rfl
 |succ t=>
  simp only[fS,dj]at h;simp only[cz];rw[sy om]
structure Fa where
 a:Nat
 b:Nat
 c:Int
deriving Inhabited,Repr
def Fa.holds(τ:List L)(f:Fa):Prop:=cz τ f.a-cz τ f.b<=f.c
def Fa.in(n:Nat)(f:Fa):Bool:=fS n f.a&&fS n f.b
def Fa.ok(τ:List L)(f:Fa):Prop:=f.in τ.length=true/\f.holds τ
theorem Fa.ok.append{τ ys}{f:Fa}(h:f.ok τ):f.ok (τ++ys):=by
 obtain⟨a,d⟩:=h;simp only[Fa.in,cd]at a;refine⟨?_,?_⟩
 .simp only[Fa.in,fS,cd,dj,ez]at a⊢;omega
 .unfold Fa.holds at d⊢;rw[vk a.1,vk a.2];exact d
def kW(a b:Int):Bool:=match a,b with
 |.ofNat m,.ofNat n=>Nat.ble m n
 |.negSucc _,.ofNat _=>true
 |.ofNat _,.negSucc _=>false
 |.negSucc m,.negSucc n=>Nat.ble n m
theorem apS(a b):kW a b=decide (a<=b):=by
 cases a<;>cases b<;>simp only[kW]<;>apply hZ.2<;>simp<;>omega
theorem wv{a b}(h:kW a b=true):a<=b:=by rw[apS]at h;simp_all
def kN:dH->Nat
 |.i8=>0| .i16=>1| .i32=>2| .i64=>3| .u8=>4| .u16=>5| .u32=>6| .u64=>7
def ZX(a b:dH):Bool:=Nat.beq (kN a) (kN b)
theorem ali{a b}(h:ZX a b=true):a=b:=by cases a<;>cases b<;>first|rfl|cases h
theorem xI{a b:Nat}(h:Nat.beq a b=true):a=b:=pg h
def pX:List (Nat×Int)->Nat->Option Int
 |[],_=>none
 |(k,d)::r,t=>cond (Nat.beq k t) (some d) (pX r t)
def vP:List (Nat×Int)->Nat->Int->List (Nat×Int)
 |[],t,d=>[(t,d)]
 |(k,e)::r,t,d=>cond (Nat.beq k t) (cond (kW e d) ((k,e)::r) ((k,d)::r)) ((k,e)::vP r t d)
def tA:List Fa->List (Nat×Int)->List (Nat×Int)
 |[],D=>D
 |f::fs,D=>tA fs (cond (Nat.beq f.b 0) D (cond (Nat.beq f.a 0) D (match pX D f.a with
  |some d=>vP D f.b (d+f.c)
  |none=>D)))
def pt:List Fa->List (Nat×Int)->List (Nat×Int)
 |[],D=>D
 |f::fs,D=>pt fs (cond (Nat.beq f.a 0) D (cond (Nat.beq f.b 0) D (match pX D f.b with
  |some d=>vP D f.a (d+f.c)
  |none=>D)))
def Ay:Option Int->Int->Option Int
 |some x,y=>cond (kW x y) (some x) (some y)
 |none,y=>some y
def Ab:List Fa->List (Nat×Int)->Option Int->Option Int
 |[],_,r=>r
 |f::fs,D,r=>Ab fs D (cond (Nat.beq f.b 0) (match pX D f.a with
  |some d=>Ay r (d+f.c)
  |none=>r) r)
def zS:List Fa->List (Nat×Int)->Option Int->Option Int
 |[],_,r=>r
 |f::fs,D,r=>zS fs D (cond (Nat.beq f.a 0) (match pX D f.b with
  |some d=>Ay r (d+f.c)
  |none=>r) r)
def ed(fs:List Fa)(a b:Nat):Option Int:=
 cond (Nat.beq a b) (some 0)
 (cond (Nat.beq a 0) (zS fs (pt fs (pt fs [(b,0)])) none)
 (
  let D:=tA fs (tA fs [(a,0)])
  cond (Nat.beq b 0) (Ab fs D none)
  (match Ab fs D none,zS fs (pt fs (pt fs [(b,0)])) none with
   |some x,some y=>match pX D b with
    |some d=>Ay (some d) (x+y)
    |none=>some (x+y)
   |_,_=>pX D b)))
def DZ(τ:List L)(a:Nat)(D:List (Nat×Int)):Prop:=∀t d,(t,d)∈D->cz τ a-cz τ t<=d
def DI(τ:List L)(b:Nat)(D:List (Nat×Int)):Prop:=∀t d,(t,d)∈D->cz τ t-cz τ b<=d
theorem uv:∀{D:List (Nat×Int)}{t:Nat}{d:Int},pX D t=some d->(t,d)∈D
 |[],_,_,h=>by cases h
 |(k,e)::r,t,d,h=>by
  simp only[pX]at h
  cases a:Nat.beq k t with
  |true=>
   rw[a]at h;cases h;have:=xI a;subst this;exact eJ
  |false=>rw[a]at h;exact fp _ (uv h)
theorem NS:∀{D:List (Nat×Int)}{t a:Nat}{d b:Int},(a,b)∈vP D t d->(a,b)=(t,d)\/(a,b)∈D
 |[],t,a,d,b,h=>by simp_all[vP]
 |(k,e)::r,t,a,d,b,h=>by
  simp only[vP]at h
  cases c:Nat.beq k t with
  |true=>
   rw[c]at h;have:=xI c;subst this
   cases f:kW e d with
   |false=>
    rw[f]at h;rcases dn.1 h with h|h
    .exact .inl h
    .exact .inr (fp _ h)
   |true=>rw[f]at h;exact .inr h
  |false=>
   rw[c]at h;rcases dn.1 h with h|h
   .exact .inr (by rw[h];exact eJ)
   .rcases NS h with h|h
    .exact .inl h
    .exact .inr (fp _ h)
theorem LL{τ:List L}{a:Nat}:∀{fs:List Fa}{D:List (Nat×Int)},(∀f∈fs,f.holds τ)->DZ τ a D->DZ τ a (tA fs D)
 |[],_,_,h=>h
 |f :: fs,D,c,h=>by
  simp only[tA];refine LL (λg i=>c g (fp _ i)) ?_
  cases Nat.beq f.b 0 with
  |true=>exact h
  |false=>cases Nat.beq f.a 0 with
   |true=>exact h
   |false=>
    split
    .rename_i d j;intro t e b;rcases NS b with b|b
     .cases b;have l:=h _ _ (uv j);have k:=c f eJ;unfold Fa.holds at k;omega
     .exact h _ _ b
    .exact h
theorem I'{τ:List L}{b:Nat}:∀{fs:List Fa}{D:List (Nat×Int)},(∀f∈fs,f.holds τ)->DI τ b D->DI τ b (pt fs D)
 |[],_,_,h=>h
 |f :: fs,D,c,h=>by
  simp only[pt];refine I' (λg i=>c g (fp _ i)) ?_
  cases Nat.beq f.a 0 with
  |true=>exact h
  |false=>cases Nat.beq f.b 0 with
   |true=>exact h
   |false=>
    split
    .rename_i d j;intro t e a;rcases NS a with a|a
     .cases a;have l:=h _ _ (uv j);have k:=c f eJ;unfold Fa.holds at k;omega
     .exact h _ _ a
    .exact h
theorem NQ{r y c}(h:Ay r y=some c):(c=y\/r=some c):=by
 cases r with
 |none=>cases h;exact .inl rfl
 |some x=>
  simp only[Ay]at h
  cases a:kW x y with
  |true=>rw[a]at h;exact .inr h
  |false=>rw[a]at h;cases h;exact .inl rfl
theorem ZJ{τ:List L}{a:Nat}{D:List (Nat×Int)}(l:DZ τ a D):∀{fs:List Fa}{r:Option Int},(∀f∈fs,f.holds τ)->(∀c,r=some c->cz τ a<=c)->∀c,Ab fs D r=some c->cz τ a<=c
 |[],_,_,b,c,h=>b c h
 |f ::fs,r,m,b,c,h=>by
  simp only[Ab]at h;refine ZJ l (λg n=>m g (fp _ n)) ?_ c h;intro e i
  cases j:Nat.beq f.b 0 with
  |true=>
   rw[j]at i;have j:=xI j;split at i
   .rename_i d o;rcases NQ i with rfl|k
    .have p:=l _ _ (uv o);have k:=m f eJ;unfold Fa.holds at k;rw[j,gM]at k;omega
    .exact b _ k
   .exact b _ i
  |false=>simp_all
theorem ZF{τ:List L}{b:Nat}{D:List (Nat×Int)}(l:DI τ b D):∀{fs:List Fa}{r:Option Int},(∀f∈fs,f.holds τ)->(∀c,r=some c→-cz τ b<=c)->∀c,zS fs D r=some c→-cz τ b<=c
 |[],_,_,a,c,h=>a c h
 |f ::fs,r,m,a,c,h=>by
  simp only[zS]at h;refine ZF l (λg n=>m g (fp _ n)) ?_ c h;intro e i
  cases j:Nat.beq f.a 0 with
  |true=>
   rw[j]at i;have j:=xI j;split at i
   .rename_i d o;rcases NQ i with rfl|k
    .have p:=l _ _ (uv o);have k:=m f eJ;unfold Fa.holds at k;rw[j,gM]at k;omega
    .exact a _ k
   .exact a _ i
  |false=>simp_all
theorem akc{τ fs}(e:∀f∈fs,f.holds τ){a b c}(h:ed fs a b=some c):cz τ a-cz τ b<=c:=by
 have i:DZ τ a (tA fs (tA fs [(a,0)])):=LL e (LL e λt d j=>by
  simp_all)
 have k:DI τ b (pt fs (pt fs [(b,0)])):=I' e (I' e λt d j=>by
  simp_all)
 have l:=ZJ i e (r:=none) (λ_ h=>by cases h);have m:=ZF k e (r:=none) (λ_ h=>by cases h);unfold ed at h
 cases g:Nat.beq a b with
 |true=>
  simp_all
 |false=>
  rw[g]at h
  cases g:Nat.beq a 0 with
  |true=>
   simp_all[gM]
  |false=>
   rw[g]at h
   cases g:Nat.beq b 0 with
   |true=>
    simp_all[gM]
   |false=>
    rw[g]at h;simp only[cond_false]at h;split at h
    .rename_i x y n o;have q:=l _ n;have s:=m _ o;split at h
     .rename_i d p;have u:=i _ _ (uv p);rcases NQ h with rfl|v
      .omega
      simp_all
     .cases h;omega
    .exact i _ _ (uv h)
abbrev Li:=Nat×Int
def bQ(τ:List L)(x:Li):Int:=cz τ x.1+x.2
def qA(fs:List Fa)(x y:Li):Option Int:=(ed fs x.1 y.1).map (· +(x.2-y.2))
theorem wq{τ fs}(a:∀f∈fs,f.holds τ){x y c}(h:qA fs x y=some c):bQ τ x-bQ τ y<=c:=by
 simp only[qA,bY]at h;obtain⟨d,b,rfl⟩:=h;have:=akc a b;unfold bQ;omega
def dP(fs:List Fa)(x y:Li)(c:Int):Bool:=match qA fs x y with
 |some d=>kW d c
 |none=>false
theorem fL{τ fs}(a:∀f∈fs,f.holds τ){x y c}(h:dP fs x y c=true):bQ τ x-bQ τ y<=c:=by
 unfold dP at h;split at h
 .rename_i d b;have:=wq a b;have:=wv h;omega
 .cases h
def gq(fs:List Fa)(x:Li):Option Int:=qA fs x (0,0)
def iN(fs:List Fa)(x:Li):Option Int:=(qA fs (0,0) x).map (- ·)
theorem gO{τ fs}(a:∀f∈fs,f.holds τ){x c}(h:gq fs x=some c):bQ τ x<=c:=by
 have:=wq a h;simp_all[bQ,gM]
theorem iV{τ fs}(a:∀f∈fs,f.holds τ){x c}(h:iN fs x=some c):c<=bQ τ x:=by
 simp only[iN,bY]at h;obtain⟨d,b,rfl⟩:=h;have:=wq a b;unfold bQ at this⊢;simp only[gM]at this;omega
inductive AC where
 |int (k:dH) (lo hi:Int)
 |bool
 |str (hi:Int)
 |sl (hi:Int) (cs:List AC)
 |any
deriving Inhabited,Repr
mutual
def AC.ok:AC->PV->Prop
 |.int k d a,q=>∃n,q=.sc (.int k n)/\d<=n/\n<=a
 |.bool,q=>∃b,q=.sc (.bool b)
 |.str a,q=>∃s:fy,q=.sc (.string s)/\(s.size:Int)<=a
 |.sl a cs,q=>∃rows,q=.sl rows/\(rows.length:Int)<=a/\∀r∈rows,AC.dS cs r
 |.any,_=>True
def AC.dS:List AC->List PV->Prop
 |[],[]=>True
 |c::cs,q::a=>AC.ok c q/\AC.dS cs a
 |_,_=>False
end
def AC.rows(cs:List AC)(rows:List (List PV)):Prop:=∀r∈rows,AC.dS cs r
mutual
def AC.le:AC->AC->Bool
 |.int k q d,.int t m a=>ZX k t&&kW m q&&kW d a
 |.bool,.bool=>true
 |.str d,.str a=>kW d a
 |.sl d cs,.sl a o=>kW d a&& (AC.n9 cs o||kW d 0)
 |_,.any=>true
 |_,_=>false
def AC.n9:List AC->List AC->Bool
 |[],[]=>true
 |c::cs,d::ds=>AC.le c d&&AC.n9 cs ds
 |_,_=>false
end
mutual
theorem AC.aeX:∀{x y:AC}{q:PV},AC.le x y=true->AC.ok x q->AC.ok y q
 |.int k I o,.int J F d,q,h,⟨n,m,B,D⟩=>by
  simp only[AC.le,cd]at h;obtain⟨⟨a,t⟩,E⟩:=h;have a:=ali a;subst a;have t:=wv t;have E:=wv E;exact⟨n,m,om,om⟩
 |.bool,.bool,_,_,h=>h
 |.str o,.str d,q,h,⟨s,m,B⟩=>by
  have h:=wv (show kW o d=true from h);exact⟨s,m,om⟩
 |.sl o cs,.sl d G,q,h,⟨rows,m,B,D⟩=>by
  simp only[AC.le,cd,qu]at h;have t:=wv h.1;refine⟨rows,m,om,λr u=>?_⟩;rcases h.2 with a|a
  .exact AC.qI a (D r u)
  .have a:=wv a;have:rows.length=0:=om;rw[jX this]at u;cases u
 |.any,.any,_,_,_=>trivial
 |.int ..,.any,_,_,_=>trivial
 |.bool,.any,_,_,_=>trivial
 |.str _,.any,_,_,_=>trivial
 |.sl ..,.any,_,_,_=>trivial
 |.int ..,.bool,_,h,_=>by cases h
 |.int ..,.str _,_,h,_=>by cases h
 |.int ..,.sl ..,_,h,_=>by cases h
 |.bool,.int ..,_,h,_=>by cases h
 |.bool,.str _,_,h,_=>by cases h
 |.bool,.sl ..,_,h,_=>by cases h
 |.str _,.int ..,_,h,_=>by cases h
 |.str _,.bool,_,h,_=>by cases h
 |.str _,.sl ..,_,h,_=>by cases h
 |.sl ..,.int ..,_,h,_=>by cases h
 |.sl ..,.bool,_,h,_=>by cases h
 |.sl ..,.str _,_,h,_=>by cases h
 |.any,.int ..,_,h,_=>by cases h
 |.any,.bool,_,h,_=>by cases h
 |.any,.str _,_,h,_=>by cases h
 |.any,.sl ..,_,h,_=>by cases h
theorem AC.qI:∀{xs ys:List AC}{a:List PV},AC.n9 xs ys=true->AC.dS xs a->AC.dS ys a
 |[],[],_,_,h=>h
 |c::cs,d::ds,[],_,h=>by cases h
 |c::cs,d::ds,q::a,h,k=>by
  simp only[AC.n9,cd]at h;exact⟨AC.aeX h.1 k.1,AC.qI h.2 k.2⟩
 |[],_::_,_,h,_=>by cases h
 |_::_,[],_,h,_=>by cases h
end
theorem AC.tV:∀{cs}{r},AC.dS cs r->r.length=cs.length
 |[],[],_=>rfl
 |_::_,_::_,h=>by simp[AC.tV h.2]
 |[],_::_,h=>by cases h
 |_::_,[],h=>by cases h
theorem AC.KY:∀{cs}{r}{j:Nat}{c},AC.dS cs r->cs[j]?=some c->∃q,r[j]?=some q/\AC.ok c q
 |c::cs,q::r,0,d,h,a=>by cases a;exact⟨q,rfl,h.1⟩
 |c::cs,q::r,j+1,d,h,a=>AC.KY (cs:=cs) (r:=r) (j:=j) h.2 a
 |_::_,[],_,_,h,_=>by cases h
 |[],_,_,_,_,a=>by simp at a
theorem AC.tR{cs rows}(h:AC.rows cs rows):cf cs.length rows=true:=by
 rw[nL];exactλr a=>AC.tV (h r a)
mutual
def AC.join:AC->AC->AC
 |.int k q d,.int t m a=>if k==t then .int k (if q<=m then q else m) (if d<=a then a else d)else .any
 |.bool,.bool=>.bool
 |.str d,.str a=>.str (if d<=a then a else d)
 |.sl d cs,.sl a o=>if d<=0 then .sl (if d<=a then a else d) o else if a<=0 then .sl (if d<=a then a else d) cs else .sl (if d<=a then a else d) (AC.Mv cs o)
 |_,_=>.any
def AC.Mv:List AC->List AC->List AC
 |c::cs,d::ds=>AC.join c d::AC.Mv cs ds
 |_,_=>[]
end
end AI
end
section
open Go.RowKit Go.Deep AI
section
variable{H:Type}{enc:cg×cr->H}{P:cD}{w:cp}{base:Nat}{spare:Nat->Bool}{held:Bool}{M:fJ}
def El(enc:cg×cr->H)(P:cD)(w:cp)(base:Nat)(spare:Nat->Bool)(held:Bool)(M:fJ)(e:cg)(c:Nat)(cs:List AC):Prop:=
 ∀fuel cells x,DataW.trod enc P w base spare held fuel e cells=some x->cells.length=c/\∃r:List PV,r.length=c/\AC.dS cs r/\∀(j:Nat)(p:PV)(u:cr),r[j]?=some p->cells[j]?=some u->RP M w p u
def iB(enc:cg×cr->H)(P:cD)(w:cp)(base:Nat)(spare:Nat->Bool)(held:Bool)(M:fJ)(t:cg)(q:AC):Prop:=
 ∀fuel cells x,DataW.trod enc P w base spare held fuel t cells=some x->∃v p,cells=[v]/\AC.ok q p/\RP M w p v
theorem iO{t k a b}(c:P.underlying t=some (.int k))(d:∀n,(Lit.int k n).wf=true->a<=n/\n<=b):iB enc P w base spare held M t (.int k a b):=λfuel cells x h=>by
 obtain⟨n,rfl,_,e⟩:=DataW.trod_int c h;obtain⟨f,g⟩:=d n e;exact⟨_,.sc (.int k n),rfl,⟨n,rfl,f,g⟩,.sc rfl⟩
theorem Kp{t}(a:P.underlying t=some .bool):iB enc P w base spare held M t .bool:=λfuel cells x h=>by
 obtain⟨b,rfl,_⟩:=DataW.trod_bool a h;exact⟨_,.sc (.bool b),rfl,⟨b,rfl⟩,.sc rfl⟩
theorem tf{t q}(h:iB enc P w base spare held M t q):El enc P w base spare held M t 1 [q]:=λfuel cells x a=>by
 obtain⟨v,p,rfl,b,c⟩:=h fuel cells x a;refine⟨rfl,[p],rfl,⟨b,trivial⟩,λj e u hp d=>?_⟩
 match j with
 |0=>cases hp;cases d;exact c
 |j+1=>simp at hp
theorem Dh{e a b c d q0 q1 q2 q3}(q:P.underlying e=some (.struct #[a,b,c,d]))(r:P.cellsOf e=4)
 (s:a.offset=0) (t:b.offset=1) (v:c.offset=2) (y:d.offset=3) (c0:P.cellsOf a.type=1) (c1:P.cellsOf b.type=1) (c2:P.cellsOf c.type=1) (c3:P.cellsOf d.type=1)
 (z:iB enc P w base spare held M a.type q0) (B:iB enc P w base spare held M b.type q1) (C:iB enc P w base spare held M c.type q2) (D:iB enc P w base spare held M d.type q3):
 El enc P w base spare held M e 4 [q0,q1,q2,q3]:=λfuel cells x E=>by
 obtain⟨xs,n,_,_,k,i,f⟩:=DataW.trod_struct q E;rw[r]at k
 match cells,k,xs,i with
 |[X,Y,Z,v3],_,[y0,y1,y2,y3],_=>
  have l:=f 0 a rfl;have m:=f 1 b rfl;have o:=f 2 c rfl;have p:=f 3 d rfl;rw[s,c0]at l;rw[t,c1]at m;rw[v,c2]at o;rw[y,c3]at p;obtain⟨u0,F,e0,G,r0⟩:=z _ _ _ l;obtain⟨u1,I,J,K,N⟩:=B _ _ _ m;obtain⟨u2,O,e2,Q,T⟩:=C _ _ _ o;obtain⟨u3,U,e3,V,W⟩:=D _ _ _ p;cases e0;cases J;cases e2;cases e3;refine⟨rfl,[F,I,O,U],rfl,⟨G,K,Q,V,trivial⟩,λj p' u hp g=>?_⟩
  match j with
  |0=>cases hp;cases g;exact r0
  |1=>cases hp;cases g;exact N
  |2=>cases hp;cases g;exact T
  |3=>cases hp;cases g;exact W
  |j+4=>simp at hp
theorem ank{t}(a:P.underlying t=some .string):iB enc P w base spare held M t (.str 9223372036854775807):=λfuel cells x h=>by
 obtain⟨s,rfl,_,b⟩:=DataW.trod_string a h;have c:maxLen=9223372036854775807:=rfl;exact⟨_,.sc (.string s),rfl,⟨s,rfl,om⟩,.sc rfl⟩
theorem Nr{e a b c q0 q1 q2}(o:P.underlying e=some (.struct #[a,b,c]))(p:P.cellsOf e=3)
 (q:a.offset=0) (r:b.offset=1) (s:c.offset=2) (c0:P.cellsOf a.type=1) (c1:P.cellsOf b.type=1) (c2:P.cellsOf c.type=1)
 (t:iB enc P w base spare held M a.type q0) (v:iB enc P w base spare held M b.type q1) (y:iB enc P w base spare held M c.type q2):
 El enc P w base spare held M e 3 [q0,q1,q2]:=λfuel cells x z=>by
 obtain⟨xs,n,_,_,i,d,f⟩:=DataW.trod_struct o z;rw[p]at i
 match cells,i,xs,d with
 |[N,O,Q],_,[T,U,V],_=>
  have k:=f 0 a rfl;have l:=f 1 b rfl;have m:=f 2 c rfl;rw[q,c0]at k;rw[r,c1]at l;rw[s,c2]at m;obtain⟨W,B,e0,C,r0⟩:=t _ _ _ k;obtain⟨X,D,E,F,G⟩:=v _ _ _ l;obtain⟨Y,I,e2,J,K⟩:=y _ _ _ m;cases e0;cases E;cases e2;refine⟨rfl,[B,D,I],rfl,⟨C,F,J,trivial⟩,λj Z u hp g=>?_⟩
  match j with
  |0=>cases hp;cases g;exact r0
  |1=>cases hp;cases g;exact G
  |2=>cases hp;cases g;exact K
  |j+3=>simp at hp
theorem ry{t e c cs}(G:P.underlying t=some (.slice e))(I:P.cellsOf e=c)(J:0<c)(K:∀g,¬M g)(B:El enc P w base spare held M e c cs):
 iB enc P w base spare held M t (.sl 9223372036854775807 cs):=λfuel cells x h=>by
 have d:AC.ok (.sl 9223372036854775807 cs) (.sl []):=⟨[],rfl,by simp,λr k=>by cases k⟩
 rcases open_slice G h with⟨rfl,_⟩| ⟨a,len,cap,m,n,D,Pl,rfl,Y,N,O,C,rfl,F⟩
 .exact⟨_,_,rfl,d,.nil⟩
 by_cases T:len=0
 .subst T;exact⟨_,_,rfl,d,.nil⟩
 have U:len<=m:=by rw[C];split<;>omega
 rw[I]at F;obtain⟨Q,l⟩:=choose_lt (α:=List PV×List cr) (n:=len) (p:=λi q=>q.1.length=c/\AC.dS cs q.1/\(∀j,j<c->w.cell? ((a.add (i*c)).add j)=q.2[j]?)/\q.2.length=c/\∀(j:Nat)(p:PV)(u:cr),q.1[j]?=some p->q.2[j]?=some u->RP M w p u) (λi b=>by
  obtain⟨E,k1,k2⟩:=F i om;obtain⟨_,y,s⟩:=World.cells?_some k1;obtain⟨_,r,V,W,X⟩:=B _ _ _ k2;exact⟨(r,E),V,W,s,y,X⟩)
 obtain⟨g,o,spot⟩:=a;have hspot:spot=none:=by
  obtain⟨_,_,s,y,_⟩:=l 0 om;have:=s 0 J;rw[cW om]at this;simpa[Addr.add]using World.cell?_spot this
 subst hspot;have hlen:((List.range len).map λi=>(Q i).1).length=len:=by simp
 refine⟨_,.sl ((List.range len).map λi=>(Q i).1),rfl,⟨_,rfl,?_,λr k=>?_⟩,?_⟩
 .have:maxLen=9223372036854775807:=rfl;omega
 .obtain⟨i,b,rfl⟩:=eV.1 k;exact(l i (jZ.1 b)).2.1
 have key:∀(i:Nat)(r:List PV)(j:Nat)(p:PV),((List.range len).map λi=>(Q i).1)[i]?=some r->r[j]?=some p->i<len/\j<c/\r=(Q i).1:=by
  intro i r j p b z;have v:i<len:=by
   have:=(dW.1 b).1
   rwa [hlen]at this
  rw[cN,u9 v]at b;cases b;have:=(dW.1 z).1;rw[(l i v).1]at this;exact⟨v,this,rfl⟩
 have k:=RP.row (M:=M) (w:=w) (rows:=(List.range len).map λi=>(Q i).1) (g:=g) (o:=o) (cap:=cap) (sz:=c) (f:=λi j=>((Q i).2[j]?).getD .nilFunc) (by
  intro e;rw[e]at hlen;simp at hlen;omega) (by rw[hlen];exact N) O (λr k=>by
  obtain⟨i,b,rfl⟩:=eV.1 k;exact(l i (jZ.1 b)).1) (λi r j p b z=>by
  obtain⟨k1,k2,rfl⟩:=key i r j p b z;have y:=(l i k1).2.2.1 j k2;have s:j< (Q i).2.length:=by rw[(l i k1).2.2.2.1];exact k2
  refine⟨?_,K g⟩;rw[cW s]at y⊢;rw[Go.WideShapes.add_plain,Go.WideShapes.add_plain]at y;exact y) (λi r j p b z=>by
  obtain⟨k1,k2,rfl⟩:=key i r j p b z;have s:j< (Q i).2.length:=by rw[(l i k1).2.2.2.1];exact k2
  rw[cW s];exact(l i k1).2.2.2.2 j p _ z (cW s))
 rw[hlen]at k;exact k
theorem Xu:∀{cs a}{r b},AC.dS cs r->AC.dS a b->AC.dS (cs++a) (r++b)
 |[],_,[],_,_,h=>h
 |[],_,_::_,_,h,_=>by cases h
 |_::_,_,[],_,h,_=>by cases h
 |_::_,_,_::_,_,h,c=>⟨h.1,Xu h.2 c⟩
theorem Lt{cells:List cr}{fuel}:∀(parts:List (cg×Nat×List AC))(off),(∀p∈parts,El enc P w base spare held M p.1 p.2.1 p.2.2)->
 (∀(i)p,parts[i]?=some p->∃x,DataW.trod enc P w base spare held fuel p.1 ((cells.drop (off+((parts.take i).map (·.2.1)).sum)).take p.2.1)=some x)->
 ∃r,r.length=(parts.map (·.2.1)).sum/\AC.dS (parts.flatMap (·.2.2)) r/\∀(j)(p)(u),r[j]?=some p->cells[off+j]?=some u->RP M w p u
 |[],_,_,_=>⟨[],rfl,trivial,λj p u h=>by cases h⟩
 |p::ps,off,b,c=>by
  obtain⟨x,g⟩:=c 0 p rfl;obtain⟨s,r0,d,k,l⟩:=b p eJ _ _ _ g;obtain⟨m,k1,k2,n⟩:=Lt ps (off+p.2.1) (λq a=>b q (fp _ a)) λi q a=>by
   obtain⟨y,e⟩:=c (i+1) q a;refine⟨y,?_⟩;rw[Qa,ct,List.sum_cons,<-Bl]at e;exact e
  refine⟨r0++m,by rw[ez,d,k1,ct,List.sum_cons],by exact Xu k k2,λj q u a f=>?_⟩;by_cases o:j<p.2.1
  .rw[sy om]at a;refine l j q u a ?_;rw[List.getElem?_take_of_lt o,pb];exact f
  .rw[nV om,d]at a;refine n _ q u a ?_;rw[show off+p.2.1+(j-p.2.1)=off+j by omega];exact f
theorem Ck{e fs c}(parts:List (cg×Nat×List AC))(o:P.underlying e=some (.struct fs))(q:P.cellsOf e=c)(b:(parts.map (·.2.1)).sum=c)
 (s:(List.range parts.length).all (λi=>match parts[i]?,fs[i]? with
  |some p,some f=>f.type==p.1&& (f.offset==((parts.take i).map (·.2.1)).sum&&P.cellsOf f.type==p.2.1)
  |_,_=>false)=true)
 (d:∀p∈parts,El enc P w base spare held M p.1 p.2.1 p.2.2):El enc P w base spare held M e c (parts.flatMap (·.2.2)):=λfuel cells x t=>by
 obtain⟨xs,n,_,_,l,g,v⟩:=DataW.trod_struct o t;rw[q]at l;obtain⟨r,y,z,B⟩:=Lt (cells:=cells) (fuel:=n) parts 0 d λi p hp=>by
  have C:i<parts.length:=(dW.1 hp).1;have:=cj.1 s i (jZ.2 C);rw[hp]at this
  cases a:fs[i]? with
  |none=>rw[a]at this;cases this
  |some f=>
   rw[a]at this;simp only[cd,beq_iff_eq]at this;obtain⟨D,E,F⟩:=this;have m:=v i f a;have k:i<xs.length:=by rw[g];exact(fx.1 a).1
   rw[cW k,E,F,D]at m;exact⟨_,by rw[mQ];exact m⟩
 refine⟨l,r,y.trans b,z,λj p u hp G=>B j p u hp (by rw[mQ];exact G)⟩
theorem aiB{e t n k cs}(d:P.underlying e=some (.array n t))(f:P.cellsOf e=n*k)(g:P.cellsOf t=k)(h:El enc P w base spare held M t k cs):El enc P w base spare held M e (n*k) ((List.replicate n (t,k,cs)).flatMap (·.2.2)):=λfuel cells x l=>by
 obtain⟨xs,m,_,_,b,o,q⟩:=DataW.trod_array d l;rw[f]at b;obtain⟨r,s,v,y⟩:=Lt (enc:=enc) (P:=P) (w:=w) (base:=base) (spare:=spare) (held:=held) (M:=M) (cells:=cells) (fuel:=m) (List.replicate n (t,k,cs)) 0 (λp hp=>by rw[G0 hp];exact h) λi p hp=>by
  have z:i<n:=by have:=(dW.1 hp).1;rwa [mT]at this
  have a:p=(t,k,cs):=G0 (dB hp);subst a;have c:=q i z;rw[cW om,g]at c;refine⟨xs[i],?_⟩;rw[mQ,ade,u_,List.sum_replicate_nat,u7 om];exact c
 refine⟨b,r,?_,v,λj p u hp B=>y j p u hp (by rw[mQ];exact B)⟩;rw[s,u_,List.sum_replicate_nat]
end
end
section
open Go.RowKit
namespace AI
theorem rn(k:dH){n}(a:k.min<=n)(b:n<=k.max):k.wrap n=n:=by
 cases k<;>simp[IntKind.min,IntKind.max,IntKind.bits,IntKind.signed]at a b<;>simp[IntKind.wrap,IntKind.bits,IntKind.signed]<;> (try split)<;>omega
def rX(op:BinOp)(a b:Int):Bool:=match op with
 |.eql=>decide (a=b)
 |.neq=>decide (a≠b)
 |.lss=>decide (a<b)
 |.leq=>decide (a<=b)
 |.gtr=>decide (b<a)
 |.geq=>decide (b<=a)
 |_=>false
inductive BD where
 |cmp (op:BinOp) (x y:Li) (p:Bool)
 |iH (b:Bool)
deriving Inhabited
def BD.val(τ:List L):BD->Bool
 |.cmp op x y p=>rX op (bQ τ x) (bQ τ y)==p
 |.iH b=>b
def BD.in(n:Nat):BD->Bool
 |.cmp _ x y _=>fS n x.1&&fS n y.1
 |.iH _=>true
def BD.neg:BD->BD
 |.cmp op x y p=>.cmp op x y (!p)
 |.iH b=>.iH (!b)
theorem BD.auu(τ)(b:BD):b.neg.val τ= !(b.val τ):=by
 cases b with
 |cmp op x y p=>simp only[BD.neg,BD.val];cases rX op (bQ τ x) (bQ τ y)<;>cases p<;>rfl
 |iH=>rfl
theorem fU{τ ys x}(h:fS τ.length x.1=true):bQ (τ++ys) x=bQ τ x:=by simp only[bQ,vk h]
theorem BD.Mb{τ ys}{b:BD}(h:b.in τ.length=true):b.val (τ++ys)=b.val τ:=by
 cases b with
 |cmp op x y p=>
  simp only[BD.in,cd]at h;simp only[BD.val,fU h.1,fU h.2]
 |iH=>rfl
theorem ru{n m t}(h:fS n t=true)(a:n<=m):fS m t=true:=by simp only[fS,dj]at h⊢;omega
theorem BD.IS{n m}{b:BD}(h:b.in n=true)(a:n<=m):b.in m=true:=by
 cases b with
 |cmp op x y p=>
  simp only[BD.in,cd]at h⊢;exact⟨ru h.1 a,ru h.2 a⟩
 |iH=>rfl
abbrev RS:=Option (List AC)
def iA(x:RS)(rows:List (List PV)):Prop:=match x with
 |none=>rows=[]
 |some cs=>AC.rows cs rows
def lk{α:Type}:List (Nat×α)->Nat->Option α
 |[],_=>none
 |(k,x)::r,g=>cond (Nat.beq k g) (some x) (lk r g)
theorem mJ{α:Type}:∀{l:List (Nat×α)}{g:Nat}{x:α},lk l g=some x->(g,x)∈l
 |[],_,_,h=>by cases h
 |(k,y)::r,g,x,h=>by
  simp only[lk]at h
  cases a:Nat.beq k g with
  |true=>
   rw[a]at h;have:=xI a;subst this;cases h;exact eJ
  |false=>rw[a]at h;exact fp _ (mJ h)
structure AS where
 env:List Nat
 n:Nat
 fs:List Fa
 rw:List (Nat×RS)
 cl:List (Nat×List AC)
 bd:List (Nat×BD)
 al:List (Nat×Li)
 ll:List (Nat×Li)
 sm:List ((List Nat×Nat)×Nat)
 pr:List (Nat×List Nat)
deriving Inhabited
def Wk:Nat->List L->Prop
 |0,[l]=>∃n,∀r∈l.bm,∃q,r=[.sl q]/\q.length=n
 |_,_=>True
def at'(τ:List L)(g:Nat):L:=(τ[g]?).getD (.b false)
def ub(τ:List L)(k:List Nat×Nat):Option L:=(k.1[(at' τ k.2).a_.toNat]?).map (at' τ)
def pE(n:Nat)(k:List Nat×Nat):Bool:=k.1.all (λg=>decide (g<n))&&decide (k.2<n)
structure Ga(S:AS)(τ ρ:List L):Prop where
 n:τ.length=S.n
 env:ρ=S.env.map (at' τ)
 lt:∀g∈S.env,g<S.n
 fs:∀f∈S.fs,f.ok τ
 rw:∀x∈S.rw,x.1<S.n/\iA x.2 (at' τ x.1).bm
 cl:∀x∈S.cl,x.1<S.n/\AC.dS x.2 (at' τ x.1).jm
 bd:∀x∈S.bd,x.1<S.n/\x.2.in S.n=true/\(at' τ x.1).ck=x.2.val τ
 al:∀x∈S.al,x.1<S.n/\fS S.n x.2.1=true/\(at' τ x.1).a_=bQ τ x.2
 ll:∀x∈S.ll,x.1<S.n/\fS S.n x.2.1=true/\((at' τ x.1).bm.length:Int)=bQ τ x.2
 sm:∀x∈S.sm,x.2<S.n/\pE S.n x.1=true/\ub τ x.1=some (at' τ x.2)
 pr:∀x∈S.pr,(∀g∈x.2,g<S.n)/\Wk x.1 (x.2.map (at' τ))
theorem q_{τ ys g}(h:g<τ.length):at' (τ++ys) g=at' τ g:=by
 unfold at';rw[sy h]
theorem Oo{n m k}(h:pE n k=true)(a:n<=m):pE m k=true:=by
 simp only[pE,cd,cj,dj]at h⊢;exact⟨λg b=>mO (h.1 g b) a,mO h.2 a⟩
theorem Ko{τ ys k}(h:pE τ.length k=true):ub (τ++ys) k=ub τ k:=by
 simp only[pE,cd,cj,dj]at h;unfold ub;rw[q_ h.2]
 cases a:k.1[(at' τ k.2).a_.toNat]? with
 |none=>rfl
 |some g=>simp only[bS];rw[q_ (h.1 g (dB a))]
theorem yG(τ)(l):at' (τ++[l]) τ.length=l:=by simp[at']
structure dN where
 fs:List Fa:=[]
 rw:Option RS:=none
 cl:Option (List AC):=none
 bd:Option BD:=none
 al:Option Li:=none
 ll:Option Li:=none
 sm:Option (List Nat×Nat):=none
structure dN.ok(N:dN)(τ:List L)(l:L):Prop where
 fs:∀f∈N.fs,f.holds (τ++[l])
 rw:∀x,N.rw=some x->iA x l.bm
 cl:∀x,N.cl=some x->AC.dS x l.jm
 bd:∀x,N.bd=some x->l.ck=x.val τ
 al:∀x,N.al=some x->l.a_=bQ τ x
 ll:∀x,N.ll=some x->(l.bm.length:Int)=bQ τ x
 sm:∀x,N.sm=some x->ub τ x=some l
def wT{α:Type}(g:Nat):Option α->List (Nat×α)->List (Nat×α)
 |some x,l=>(g,x)::l
 |none,l=>l
def RG(n:Nat):Option Li->Bool
 |some x=>fS n x.1
 |none=>true
def dN.in(n:Nat)(N:dN):Bool:=N.fs.all (Fa.in (n+1))&& (match N.bd with|some b=>b.in n|none=>true)&&RG n N.al&&RG n N.ll&& (match N.sm with|some k=>pE n k|none=>true)
def XD(g:Nat):Option (List Nat×Nat)->List ((List Nat×Nat)×Nat)->List ((List Nat×Nat)×Nat)
 |some k,l=>(k,g)::l
 |none,l=>l
theorem alG{g o l x}(h:x∈XD g o l):(o=some x.1/\x.2=g)\/x∈l:=by
 cases o with
 |none=>exact .inr h
 |some y=>
  rcases dn.1 h with rfl|h
  .simp_all
  .exact .inr h
def AS.push(S:AS)(N:dN):Option AS:=
 if N.in S.n=true then
  some ⟨S.env++[S.n],S.n+1,N.fs++S.fs,wT S.n N.rw S.rw,wT S.n N.cl S.cl,wT S.n N.bd S.bd,wT S.n N.al S.al,wT S.n N.ll S.ll,XD S.n N.sm S.sm,S.pr⟩
 else none
theorem AB{α g o l}{x:Nat×α}(h:x∈wT g o l):(∃y,o=some y/\x=(g,y))\/x∈l:=by
 cases o with
 |none=>exact .inr h
 |some y=>
  rcases dn.1 h with h|h
  .simp_all
  .exact .inr h
theorem Ga.push{S S' τ ρ N l}(h:Ga S τ ρ)(hp:S.push N=some S')(D:N.ok τ l):Ga S' (τ++[l]) (ρ++[l]):=by
 unfold AS.push at hp;split at hp
 .rename_i F;simp only[dN.in,cd,cj]at F;injection hp with hp
  subst hp;have B:=h.n;have m:∀g,g<S.n->at' (τ++[l]) g=at' τ g:=λg u=>q_ om
  have d:at' (τ++[l]) S.n=l:=by rw[<-B];exact yG τ l
  exact{
   n:=by simp[B]
   env:=by
    rw[h.env,eB,List.map_singleton,d];congr 1;exact ia λg u=>(m g (h.lt g u)).symm
   lt:=λg u=>by
    rcases fo.1 u with u|u
    .have:=h.lt g u;show g<S.n+1;omega
    simp_all
   fs:=λf G=>by
    rcases fo.1 G with G|G
    .exact⟨by simp_all,D.fs f G⟩
    .exact(h.fs f G).append
   rw :=λx a=>by
    rcases AB a with⟨y,q,rfl⟩|a
    .exact⟨xE _,by simp only[d];exact D.rw y q⟩
    .obtain⟨k,o⟩:=h.rw x a;exact⟨xH k,by rw[m _ k];exact o⟩
   cl :=λx a=>by
    rcases AB a with⟨y,q,rfl⟩|a
    .exact⟨xE _,by simp only[d];exact D.cl y q⟩
    .obtain⟨k,o⟩:=h.cl x a;exact⟨xH k,by rw[m _ k];exact o⟩
   bd :=λx a=>by
    rcases AB a with⟨y,q,rfl⟩|a
    .have t:=F.1.1.1.2;rw[q]at t;exact⟨xE _,BD.IS t (va _),by simp only[d];rw[BD.Mb (by rw[B];exact t)];exact D.bd y q⟩
    .obtain⟨k,o,E⟩:=h.bd x a;exact⟨xH k,BD.IS o (va _),by rw[m _ k,BD.Mb (by rw[B];exact o)];exact E⟩
   al :=λx a=>by
    rcases AB a with⟨y,q,rfl⟩|a
    .have t:=F.1.1.2;rw[q]at t;exact⟨xE _,ru t (va _),by simp only[d];rw[fU (by rw[B];exact t)];exact D.al y q⟩
    .obtain⟨k,o,E⟩:=h.al x a;exact⟨xH k,ru o (va _),by rw[m _ k,fU (by rw[B];exact o)];exact E⟩
   ll :=λx a=>by
    rcases AB a with⟨y,q,rfl⟩|a
    .have t:=F.1.2;rw[q]at t;exact⟨xE _,ru t (va _),by simp only[d];rw[fU (by rw[B];exact t)];exact D.ll y q⟩
    .obtain⟨k,o,E⟩:=h.ll x a;exact⟨xH k,ru o (va _),by rw[m _ k,fU (by rw[B];exact o)];exact E⟩
   sm :=λx a=>by
    rcases alG a with⟨q,u⟩|a
    .have t:=F.2;rw[q]at t;exact⟨by simp_all,Oo t (va _),by rw[u,d,Ko (by rw[B];exact t)];exact D.sm _ q⟩
    .obtain⟨k,o,E⟩:=h.sm x a;exact⟨xH k,Oo o (va _),by rw[m _ k,Ko (by rw[B];exact o)];exact E⟩
   pr:=λx a=>by
    obtain⟨k,o⟩:=h.pr x a;exact⟨λg u=>xH (k g u),by rw[ia (g:=at' τ) λg u=>m g (k g u)];exact o⟩}
 simp_all
def AS.li(S:AS):At->Li
 |.v i=>match S.env[i]? with
  |some g=>(match lk S.al g with
   |some x=>x
   |none=>(3*g+1,0))
  |none=>(0,0)
 |.i c=>(0,c)
 |_=>(0,0)
def AS.le(S:AS):At->Li
 |.v i=>match S.env[i]? with
  |some g=>(match lk S.ll g with
   |some x=>x
   |none=>(3*g+2,0))
  |none=>(0,0)
 |_=>(0,0)
def AS.ls(S:AS):At->Option Li
 |.v i=>match S.env[i]? with
  |some g=>some (3*g+3,0)
  |none=>some (0,0)
 |.s x=>some (0,x.size)
 |_=>some (0,0)
theorem Tt(τ)(g):cz τ (3*g+1)=(at' τ g).a_:=by
 simp_all[cz,at']
theorem Ix(τ)(g):cz τ (3*g+2)=((at' τ g).bm.length:Int):=by
 simp only[cz,show(3*g+1) /3=g by omega,show(3*g+1)%3=1 by omega,at'];simp
theorem RU(τ)(g):cz τ (3*g+3)=((at' τ g).du.size:Int):=by
 simp only[cz,show(3*g+2) /3=g by omega,show(3*g+2)%3=2 by omega,at'];simp
section
variable{S:AS}{τ ρ:List L}(h:Ga S τ ρ)
include h
theorem Ga.holds{f}(a:f∈S.fs):f.holds τ:=(h.fs f a).2
theorem Ga.ev{i}:(At.v i).ev ρ=match S.env[i]? with|some g=>at' τ g|none=>.b false:=by
 simp only[At.ev,h.env,cN];cases S.env[i]? <;>rfl
theorem Ga.li(x):(x.ev ρ).a_=bQ τ (S.li x):=by
 cases x with
 |v i=>
  rw[h.ev];simp only[AS.li]
  cases S.env[i]? with
  |none=>rfl
  |some g=>
   simp only;split
   .rename_i x a;exact(h.al _ (mJ a)).2.2
   .simp only[bQ,Tt];omega
 |i c=>simp[At.ev,L.a_,AS.li,bQ,cz]
 |b=>rfl
 |s=>rfl
 |r0=>rfl
theorem Ga.le(x):((x.ev ρ).bm.length:Int)=bQ τ (S.le x):=by
 cases x with
 |v i=>
  rw[h.ev];simp only[AS.le]
  cases S.env[i]? with
  |none=>rfl
  |some g=>
   simp only;split
   .rename_i x a;exact(h.ll _ (mJ a)).2.2
   .simp only[bQ,Ix];omega
 |i c=>rfl
 |b=>rfl
 |s=>rfl
 |r0=>rfl
theorem Ga.nw(x):fS τ.length (S.li x).1=true:=by
 cases x with
 |v i=>
  simp only[AS.li]
  cases a:S.env[i]? with
  |none=>rfl
  |some g=>
   simp only;split
   .rename_i x d;rw[h.n];exact(h.al _ (mJ d)).2.1
   .have:=h.lt g (dB a);simp only[fS,h.n,dj];omega
 |_=>rfl
theorem Ga.vl(x):fS τ.length (S.le x).1=true:=by
 cases x with
 |v i=>
  simp only[AS.le]
  cases a:S.env[i]? with
  |none=>rfl
  |some g=>
   simp only;split
   .rename_i x d;rw[h.n];exact(h.ll _ (mJ d)).2.1
   .have:=h.lt g (dB a);simp only[fS,h.n,dj];omega
 |_=>rfl
end
def iW(t:Nat)(x:Li)(c:Int):Fa:=⟨t,x.1,x.2+c⟩
def jH(t:Nat)(x:Li)(c:Int):Fa:=⟨x.1,t,c-x.2⟩
def tL(t:Nat)(x:Li):List Fa:=[iW t x 0,jH t x 0]
def fq(t:Nat)(a b:Int):List Fa:=[iW t (0,0) b,jH t (0,0) (-a)]
theorem kx{τ t x c}(h:cz τ t-bQ τ x<=c):(iW t x c).holds τ:=by
 unfold Fa.holds iW;unfold bQ at h;simp only;omega
theorem lF{τ t x c}(h:bQ τ x-cz τ t<=c):(jH t x c).holds τ:=by
 unfold Fa.holds jH;unfold bQ at h;simp only;omega
theorem Wo{τ t x}(h:cz τ t=bQ τ x):∀f∈tL t x,f.holds τ:=λf a=>by
 simp only[tL,dn,iS,or_false]at a;rcases a with rfl|rfl
 .exact kx om
 simp_all[lF]
theorem lP{τ t a b}(d:a<=cz τ t)(e:cz τ t<=b):∀f∈fq t a b,f.holds τ:=λf c=>by
 have g:bQ τ (0,0)=0:=by rfl
 simp only[fq,dn,iS,or_false]at c;rcases c with rfl|rfl
 .simp_all[kx]
 simp_all[lF]
theorem akp{l1 l2:List Fa}{τ}(a:∀f∈l1,f.holds τ)(b:∀f∈l2,f.holds τ):∀f∈l1++l2,f.holds τ:=λf c=>by
 rcases fo.1 c with h|h
 .exact a f h
 .exact b f h
theorem gv{f}{l2:List Fa}{τ}(a:f.holds τ)(b:∀f∈l2,f.holds τ):∀g∈f::l2,g.holds τ:=λg c=>by
 rcases dn.1 c with rfl|h
 .exact a
 .exact b g h
theorem holds_nil{τ}:∀f∈([]:List Fa),f.holds τ:=λf a=>by cases a
theorem nB(τ)(l):cz (τ++[l]) (3*τ.length+1)=l.a_:=by rw[Tt,yG]
theorem tT(τ)(l):cz (τ++[l]) (3*τ.length+2)=(l.bm.length:Int):=by rw[Ix,yG]
theorem zH(τ)(l):cz (τ++[l]) (3*τ.length+3)=(l.du.size:Int):=by rw[RU,yG]
def pZ(k:Option dH)(a b:Int):Bool:=match k with
 |some k=>decide (k.min<=a)&&decide (b<=k.max)
 |none=>true
def tO(k:Option dH)(t:Nat):List Fa:=match k with
 |some k=>fq t k.min k.max
 |none=>[]
def kQ(k:Option dH)(n:Int):Int:=match k with
 |some k=>k.wrap n
 |none=>n
theorem tu{k a b n}(h:pZ k a b=true)(c:a<=n)(d:n<=b):kQ k n=n:=by
 cases k with
 |none=>rfl
 |some k=>
  simp only[pZ,cd,dj]at h;exact rn k om om
theorem lg{k τ t n}(h:cz τ t=kQ k n):∀f∈tO k t,f.holds τ:=by
 cases k with
 |none=>exact holds_nil
 |some k=>
  have:=Go.wrap_within k n;exact lP (by rw[h];exact this.1) (by rw[h];exact this.2)
def yL(fs:List Fa)(k:Option dH)(t:Nat)(x y:Li):List Fa:=match gq fs x,iN fs x,gq fs y,iN fs y with
 |some a,some b,some c,some d=>if pZ k (b+d) (a+c)=true then[iW t x c,jH t x (-d),iW t y a,jH t y (-b)]else tO k t
 |_,_,_,_=>tO k t
theorem N5{fs τ e}(g:∀f∈fs,f.holds τ){k t x y}(p:bQ e x=bQ τ x)(q:bQ e y=bQ τ y)
 (h:cz e t=kQ k (bQ τ x+bQ τ y)):∀f∈yL fs k t x y,f.holds e:=by
 have i:=lg h;unfold yL;split
 .rename_i a b c d j l m n;have j:=gO g j;have l:=iV g l;have m:=gO g m;have n:=iV g n;split
  .rename_i o;have r:cz e t=bQ τ x+bQ τ y:=by rw[h];exact tu o om om
   exact gv (kx om) (gv (lF om) (gv (kx om) (gv (lF om) holds_nil)))
  .exact i
 .exact i
def FO(fs:List Fa)(k:Option dH)(x y:Li):Option Li:=
 if y.1=0 then match gq fs x,iN fs x with
  |some a,some b=>if pZ k (b+y.2) (a+y.2)=true then some (x.1,x.2+y.2)else none
  |_,_=>none
 else if x.1=0 then match gq fs y,iN fs y with
  |some c,some d=>if pZ k (x.2+d) (x.2+c)=true then some (y.1,y.2+x.2)else none
  |_,_=>none
 else none
theorem QP{fs τ}(g:∀f∈fs,f.holds τ){k x y z}(h:FO fs k x y=some z):kQ k (bQ τ x+bQ τ y)=bQ τ z:=by
 unfold FO at h;split at h
 .have e:bQ τ y=y.2:=by simp_all[bQ,gM]
  split at h
  .rename_i a b c d;have c:=gO g c;have d:=iV g d;split at h
   .rename_i i;cases h;rw[e,tu i om om];unfold bQ;simp only;omega
   .cases h
  .cases h
 .split at h
  .have e:bQ τ x=x.2:=by simp_all[bQ,gM]
   split at h
   .rename_i a b c d;have c:=gO g c;have d:=iV g d;split at h
    .rename_i i;cases h;rw[e,tu i om om];unfold bQ;simp only;omega
    .cases h
   .cases h
  .cases h
def xT(fs:List Fa)(k:Option dH)(x y:Li):Option Li:=
 if y.1=0 then match gq fs x,iN fs x with
  |some a,some b=>if pZ k (b-y.2) (a-y.2)=true then some (x.1,x.2-y.2)else none
  |_,_=>none
 else if x.1=y.1 then(if pZ k (x.2-y.2) (x.2-y.2)=true then some (0,x.2-y.2)else none)
 else none
theorem MU{fs τ}(g:∀f∈fs,f.holds τ){k x y z}(h:xT fs k x y=some z):kQ k (bQ τ x-bQ τ y)=bQ τ z:=by
 unfold xT at h;split at h
 .have e:bQ τ y=y.2:=by simp_all[bQ,gM]
  split at h
  .rename_i a b i j;have i:=gO g i;have j:=iV g j;split at h
   .rename_i c;cases h;rw[e,tu c om om];unfold bQ;simp only;omega
   .cases h
  .cases h
 .split at h
  .rename_i d;split at h
   .rename_i c;cases h;have e:bQ τ x-bQ τ y=x.2-y.2:=by unfold bQ;rw[d];omega
    rw[e,tu c (GS _) (GS _)];simp_all[bQ,gM]
   .cases h
  .cases h
def yS(fs:List Fa)(k:Option dH)(t:Nat)(x y:Li):List Fa:=match qA fs x y,qA fs y x with
 |some u,some d=>if pZ k (-d) u=true then fq t (-d) u++(match gq fs y,iN fs y with
  |some a,some b=>[iW t x (-b),jH t x a]
  |some a,none=>[jH t x a]
  |none,some b=>[iW t x (-b)]
  |none,none=>[])else tO k t
 |_,_=>tO k t
theorem HR{fs τ c}(e:∀f∈fs,f.holds τ){k t x y}(o:bQ c x=bQ τ x)
 (h:cz c t=kQ k (bQ τ x-bQ τ y)):∀f∈yS fs k t x y,f.holds c:=by
 have j:=lg h;unfold yS;split
 .rename_i u d l m;have l:=wq e l;have m:=wq e m;split
  .rename_i n;have p:cz c t=bQ τ x-bQ τ y:=by rw[h];exact tu n om om
   refine akp (lP om om) ?_;split
   .rename_i a b g i;have g:=gO e g;have i:=iV e i;exact gv (kx om) (gv (lF om) holds_nil)
   .rename_i a g i;have g:=gO e g;exact gv (lF om) holds_nil
   .rename_i a g i;have i:=iV e i;exact gv (kx om) holds_nil
   .exact holds_nil
  .exact j
 .exact j
end AI
namespace AI
def YJ(a b:Int):Int:=if a<=b then a else b
def imax(a b:Int):Int:=if a<=b then b else a
def M6(fs:List Fa)(k:dH)(t:Nat)(x y:Li):List Fa:=match gq fs x,iN fs x,gq fs y,iN fs y with
 |some a,some b,some c,some d=>if 0<=b/\0<=d/\a*c<=k.max then fq t (b*d) (a*c)else fq t k.min k.max
 |_,_,_,_=>fq t k.min k.max
theorem apU{fs τ a}(b:∀f∈fs,f.holds τ){k t x y}
 (h:cz a t=k.wrap (bQ τ x*bQ τ y)):∀f∈M6 fs k t x y,f.holds a:=by
 have i:∀f∈fq t k.min k.max,f.holds a:=lg (k:=some k) h;unfold M6;split
 .rename_i n j o l c d e g;have c:=gO b c;have d:=iV b d;have e:=gO b e;have g:=iV b g;split
  .rename_i p;obtain⟨c1,c2,c3⟩:=p;have b1:j*l<=bQ τ x*bQ τ y:=Int.mul_le_mul d g c2 om;have q:bQ τ x*bQ τ y<=n*o:=Int.mul_le_mul c e om om;have m:k.min<=0:=by cases k<;>decide
   have c4:0<=j*l:=Int.mul_nonneg c1 c2;have r:cz a t=bQ τ x*bQ τ y:=by rw[h];exact rn k om om
   exact lP om om
  .exact i
 .exact i
def Hd(fs:List Fa)(k:dH)(t:Nat)(x:Li)(c:Int):List Fa:=match gq fs x,iN fs x with
 |some a,some b=>if 0<=b/\a<=k.max then fq t (b/c) (a/c)else fq t k.min k.max
 |_,_=>fq t k.min k.max
theorem awr{fs τ a}(i:∀f∈fs,f.holds τ){k t x c}(j:0<c)
 (h:cz a t=k.wrap ((bQ τ x).tdiv c)):∀f∈Hd fs k t x c,f.holds a:=by
 have l:∀f∈fq t k.min k.max,f.holds a:=lg (k:=some k) h;unfold Hd;split
 .rename_i b m d e;have d:=gO i d;have e:=iV i e;split
  .rename_i g;obtain⟨c1,c3⟩:=g;rw[Bw om]at h;have b1:m/c<=bQ τ x/c:=adf j e;have o:bQ τ x/c<=b/c:=adf j d;have n:k.min<=0:=by cases k<;>decide
   have c4:0<=m/c:=Qc c1 om;have p:b/c<=b:=adg _ om;have q:cz a t=bQ τ x/c:=by rw[h];exact rn k om om
   exact lP om om
  .exact l
 .exact l
def KQ(fs:List Fa)(t:Nat)(x:Li)(c:Int):List Fa:=match iN fs x with
 |some a=>if 0<=a then iW t x 0::fq t 0 (c-1)else fq t (1-c) (c-1)
 |none=>fq t (1-c) (c-1)
theorem arA{fs τ a}(g:∀f∈fs,f.holds τ){t x}{c:Int}(b:0<c)(j:bQ a x=bQ τ x)
 (h:cz a t=(bQ τ x).tmod c):∀f∈KQ fs t x c,f.holds a:=by
 have e:∀f∈fq t (1-c) (c-1),f.holds a:=by
  have i:=adh (bQ τ x) b;have d: -c< (bQ τ x).tmod c:=by
   have:=adh (-(bQ τ x)) b;rw[Int.neg_tmod]at this;omega
  exact lP om om
 unfold KQ;split
 .rename_i k d;have d:=iV g d;split
  .have i:=adh (bQ τ x) b;have l:0<=(bQ τ x).tmod c:=Int.tmod_nonneg _ om;have m:(bQ τ x).tmod c<=bQ τ x:=by
    rw[Bx om];have n:=Int.emod_add_mul_ediv (bQ τ x) c;have e2:0<=c*(bQ τ x/c):=Int.mul_nonneg om (Qc om om);omega
   exact gv (kx om) (lP om om)
  .exact e
 .exact e
theorem awE(k:dH)(a){c}(d:0<=c)(e:c<=k.max):0<=k.wrap (BitVec.ofInt k.bits a&&&BitVec.ofInt k.bits c).toNat/\k.wrap (BitVec.ofInt k.bits a&&&BitVec.ofInt k.bits c).toNat<=c:=by
 have f:(BitVec.ofInt k.bits c).toNat=c.toNat:=by
  rw[Bz];have:c<2^k.bits:=by cases k<;>simp[IntKind.max,IntKind.bits,IntKind.signed]at e⊢<;>omega
  rw[Int.emod_eq_of_lt d (by exact_mod_cast this)]
 have i:(BitVec.ofInt k.bits a&&&BitVec.ofInt k.bits c).toNat<=c.toNat:=by
  rw[adi,f];exact Nat.and_le_right
 have b:k.min<=0:=by cases k<;>decide
 have g:((BitVec.ofInt k.bits a&&&BitVec.ofInt k.bits c).toNat:Int)<=c:=om;rw[rn k om om];exact⟨om,g⟩
def Ji(k:dH)(t:Nat)(y:Li):List Fa:=if y.1=0/\0<=y.2/\y.2<=k.max then fq t 0 y.2 else fq t k.min k.max
theorem adB{τ a k t x y z}(e:y=bQ τ z)
 (h:cz a t=k.wrap (BitVec.ofInt k.bits x&&&BitVec.ofInt k.bits y).toNat):∀f∈Ji k t z,f.holds a:=by
 unfold Ji;split
 .rename_i b;obtain⟨g,c,d⟩:=b;have:y=z.2:=by simp_all[bQ,gM]
  rw[this]at h;have:=awE k x c d;exact lP om om
 .exact lg (k:=some k) h
def Ol(fs:List Fa)(k:dH)(t:Nat)(x y:Li):List Fa:=match gq fs x,iN fs x with
 |some a,some b=>if 0<=b then(if y.1=0 then fq t 0 (a/2^ (min y.2.toNat k.bits))else fq t 0 a)else[]
 |_,_=>[]
theorem akl{fs τ b}(d:∀f∈fs,f.holds τ){k t x y}
 (h:cz b t=(bQ τ x).fdiv (2^ (min (bQ τ y).toNat k.bits))):∀f∈Ol fs k t x y,f.holds b:=by
 unfold Ol;split
 .rename_i j l c e;have c:=gO d c;have e:=iV d e;split
  .have hp:(0:Int)<2^ (min (bQ τ y).toNat k.bits):=Int.pow_pos dc;rw[G1 _ om]at h;have g:0<=bQ τ x/2^ (min (bQ τ y).toNat k.bits):=Qc om om;split
   .have:bQ τ y=y.2:=by simp_all[bQ,gM]
    rw[this]at h g hp;have i:=adf hp c;exact lP om om
   .have i:=adg (a:=bQ τ x) (2^ (min (bQ τ y).toNat k.bits)) om;exact lP om om
  simp_all
 simp_all
def LK(S:AS)(op:BinOp)(k:dH)(x y:Li):Option dN:=
 let t:=3*S.n+1
 match op with
 |.add=>match FO S.fs (some k) x y with
  |some z=>some {al:=some z}
  |none=>some {fs:=yL S.fs (some k) t x y}
 |.sub=>match xT S.fs (some k) x y with
  |some z=>some {al:=some z}
  |none=>some {fs:=yS S.fs (some k) t x y}
 |.mul=>some {fs:=M6 S.fs k t x y}
 |.quo=>if y.1=0/\0<y.2 then some {fs:=Hd S.fs k t x y.2}else none
 |.rem=>if y.1=0/\0<y.2 then some {fs:=KQ S.fs t x y.2}else none
 |.and=>some {fs:=Ji k t y}
 |.or=>some {fs:=fq t k.min k.max}
 |.xor=>some {fs:=fq t k.min k.max}
 |.andNot=>some {fs:=fq t k.min k.max}
 |.shl=>match iN S.fs y with
  |some l=>if 0<=l then some {fs:=fq t k.min k.max}else none
  |none=>none
 |.shr=>match iN S.fs y with
  |some l=>if 0<=l then some {fs:=Ol S.fs k t x y}else none
  |none=>none
 |.eql=>some {bd:=some (.cmp .eql x y true)}
 |.neq=>some {bd:=some (.cmp .neq x y true)}
 |.lss=>some {bd:=some (.cmp .lss x y true)}
 |.leq=>some {bd:=some (.cmp .leq x y true)}
 |.gtr=>some {bd:=some (.cmp .gtr x y true)}
 |.geq=>some {bd:=some (.cmp .geq x y true)}
theorem fu{τ l fs}(h:∀f∈fs,f.holds (τ++[l])):dN.ok {fs:=fs} τ l:=⟨h,λ_ h=>(by cases h),λ_ h=>(by cases h),λ_ h=>(by cases h),λ_ h=>(by cases h),λ_ h=>(by cases h),λ_ h=>(by cases h)⟩
theorem JW{τ l b}(h:l.ck=b.val τ):dN.ok {bd:=some b} τ l:=⟨holds_nil,λ_ h=>(by cases h),λ_ h=>(by cases h),λx a=>(by cases a;exact h),λ_ h=>(by cases h),λ_ h=>(by cases h),λ_ h=>(by cases h)⟩
theorem ui{τ l z}(h:l.a_=bQ τ z):dN.ok {al:=some z} τ l:=⟨holds_nil,λ_ h=>(by cases h),λ_ h=>(by cases h),λ_ h=>(by cases h),λx a=>(by cases a;exact h),λ_ h=>(by cases h),λ_ h=>(by cases h)⟩
theorem aqA{S τ ρ}(h:Ga S τ ρ){op k x y}(d:fS τ.length x.1=true)(e:fS τ.length y.1=true){N}(a:LK S op k x y=some N):∃l,cw op k (bQ τ x) (bQ τ y)=some l/\N.ok τ l:=by
 have b:∀f∈S.fs,f.holds τ:=λf b=>h.holds b
 have c:∀n:Int,cz (τ++[L.i n]) (3*S.n+1)=n:=λn=>by rw[<-h.n,nB];rfl
 have g:∀l:L,bQ (τ++[l]) x=bQ τ x:=λl=>fU d
 have p:∀l:L,bQ (τ++[l]) y=bQ τ y:=λl=>fU e
 cases op<;>simp only[LK]at a<;>simp only[cw]
 case add=>
  split at a
  .rename_i z i;cases a;exact⟨_,rfl,ui (QP b i)⟩
  .cases a;exact⟨_,rfl,fu (N5 b (g _) (p _) (c _))⟩
 case sub=>
  split at a
  .rename_i z i;cases a;exact⟨_,rfl,ui (MU b i)⟩
  .cases a;exact⟨_,rfl,fu (HR b (g _) (c _))⟩
 case mul=>cases a;exact⟨_,rfl,fu (apU b (c _))⟩
 case quo=>
  split at a
  .rename_i j;cases a;have m:bQ τ y=y.2:=by simp_all[bQ,gM]
   rw[m,bF om];exact⟨_,rfl,fu (awr b j.2 (c _))⟩
  .cases a
 case rem=>
  split at a
  .rename_i j;cases a;have m:bQ τ y=y.2:=by simp_all[bQ,gM]
   rw[m,bF om];exact⟨_,rfl,fu (arA b j.2 (g _) (c _))⟩
  .cases a
 case and=>cases a;exact⟨_,rfl,fu (adB rfl (c _))⟩
 case or=>cases a;exact⟨_,rfl,fu (lg (k:=some k) (c _))⟩
 case xor=>cases a;exact⟨_,rfl,fu (lg (k:=some k) (c _))⟩
 case andNot=>cases a;exact⟨_,rfl,fu (lg (k:=some k) (c _))⟩
 case shl=>
  split at a
  .rename_i l o;have:=iV b o;split at a
   .cases a;rw[bF om];exact⟨_,rfl,fu (lg (k:=some k) (c _))⟩
   .cases a
  .cases a
 case shr=>
  split at a
  .rename_i l o;have:=iV b o;split at a
   .cases a;rw[bF om];exact⟨_,rfl,fu (akl b (c _))⟩
   .cases a
  .cases a
 all_goals (cases a;exact⟨_,rfl,JW (by simp[BD.val,rX,L.ck])⟩)
end AI
end
end
end Go.Proofs.YtndegphojkiblaaGreatDoor
