/- A part of the proof. -/
import Derived.Test.YtndegphojkiblaaGreatDoorG1
import Derived.Test.YtndegphojkiblaaGreatDoorG11
import Derived.Deep.Slices
import Derived.OpenShut
import Derived.Laws.Closers25b
import Derived.IntWalk
set_option linter.all false
set_option maxHeartbeats 4000000
set_option maxRecDepth 100000
namespace Go.Proofs.YtndegphojkiblaaGreatDoor
noncomputable section
section
open Go.RowKit
open Classical
section
variable {A R:Type}
def fG (f:A→Option (A ⊕ R)):Nat→A→Option R
 |0,_=>none
 |n+1,a=>match f a with
  |some (.inl a')=>fG f n a'
  |some (.inr r)=>some r
  |none=>none
noncomputable def gz (f:A→Option (A ⊕ R)) (a:A):Option R:=if h:∃n r,fG f n a=some r then fG f h.choose a else none
theorem K8 {f:A→Option (A ⊕ R)}:∀{n:Nat} {a:A} {r:R} (m:Nat),fG f n a=some r→fG f (n+m) a=some r
 |0,_,_,_,h=>by cases h
 |n+1,a,r,m,h=>by
  rw[show n+1+m=(n+m)+1 by omega];simp only[fG]at h⊢;split at h
  · exact K8 m h
  · exact h
  · cases h
theorem Ha {f} {n} {a:A} {r:R} (h:fG f n a=some r):gz f a=some r:=by
 have hex:∃n r,fG f n a=some r:=⟨n,r,h⟩
 unfold gz;rw[dif_pos hex];obtain⟨r',h1⟩:=hex.choose_spec;have h2:=K8 n h1;have h3:=K8 hex.choose h;rw[Nat.add_comm]at h3;rw[h1,←h2,h3]
theorem yf {f} {a:A} {r:R} (h:gz f a=some r):∃n,fG f n a=some r:=by
 unfold gz at h;split at h
 · exact⟨_,h⟩
 · cases h
theorem L6 (f:A→Option (A ⊕ R)) (a):gz f a=match f a with
  |some (.inl a')=>gz f a'
  |some (.inr r)=>some r
  |none=>none:=by
 cases hf:f a with
 | none=>
  cases h:gz f a with
  |none=>rfl
  |some r=>
   obtain⟨n,hn⟩:=yf h
   cases n with
   |zero=>cases hn
   |succ n=>simp only[fG,hf]at hn;cases hn
 | some x=>
  cases x with
  |inr r=>exact Ha (n:=1) (by simp only[fG,hf])
  | inl a'=>
   simp only
   cases h:gz f a' with
   |some r=>
    obtain⟨n,hn⟩:=yf h;exact Ha (n:=n+1) (by simp only[fG,hf,hn])
   | none=>
    cases h':gz f a with
    |none=>rfl
    | some r=>
     obtain⟨n,hn⟩:=yf h'
     cases n with
     |zero=>cases hn
     |succ n=>
      simp only[fG,hf]at hn;rw[Ha hn]at h;cases h
theorem Bc {f:A→Option (A ⊕ R)} {a a'} (h:f a=some (.inl a')):gz f a=gz f a':=by rw[L6,h]
theorem FT {f} {a:A} {r:R} (h:f a=some (.inr r)):gz f a=some r:=by rw[L6,h]
theorem afU {f g} {h:R→Option R} (hfg:∀a,(∀r,f a=some (.inr r)→gz f a=some r→g a=(h r).map .inr)→True) {G:R→Prop}
  (hg:∀a,(∀r,gz f a=some r→G r)→g a=match f a with
   |some (.inl a')=>some (.inl a')
   |some (.inr r)=> (h r).map .inr
   |none=>none) (a:A) (ha:∀r,gz f a=some r→G r):gz g a=(gz f a).bind h:=by
 cases hx:gz f a with
 | some r=>
  obtain⟨n,hn⟩:=yf hx;clear hx
  induction n generalizing a with
  |zero=>cases hn
  |succ n ih=>
   have rb:=hg a ha;simp only[fG]at hn;split at hn
   · rename_i a' hf;rw[hf]at rb;rw[Bc rb];exact ih a' (by rw[←Bc hf];exact ha) hn
   · rename_i r' hf;cases hn;rw[hf]at rb;rw[L6,rb];simp only[rD];cases h r<;>rfl
   · cases hn
 | none=>
  cases hy:gz g a with
  |none=>rfl
  |some r=>
   obtain⟨n,hn⟩:=yf hy;clear hy
   induction n generalizing a with
   |zero=>cases hn
   | succ n ih=>
     have rb:=hg a ha
     cases hf:f a with
     |none=>rw[hf]at rb;simp only[fG,rb]at hn;cases hn
     | some y=>
      cases y with
      |inl a'=>
       rw[hf]at rb;simp only[fG,rb]at hn;exact ih a' (by rw[←Bc hf];exact ha) (by rw[←Bc hf];exact hx) hn
      |inr r'=>rw[FT hf]at hx;cases hx
end
inductive Ex where
 |normal|exit (id:Nat)|ret
deriving DecidableEq,Repr,Inhabited
def Ex.to:Ex→Exit
 | .normal=> .normal
 | .exit id=> .exit id
 | .ret=> .ret
inductive Lf where
 |st (e:Ex) (S:af)
 |jump (k:Nat) (args:List At)
deriving Inhabited
inductive ae where
 |ak (x:Lf)
 |op (nd:Nd) (k:ae)
 |ite (c:At) (a b:ae)
 |join (body rest:ae)
 |loop (init:List At) (body:ae)
deriving Inhabited
abbrev Out:=Option (Lf×List L)
def nc (x:Out):Option (List L ⊕ (Lf×List L)):=match x with
 |some (.jump 0 args,ρ)=>some (.inl (args.map (At.ev ρ)))
 |some (.jump (k+1) args,ρ)=>some (.inr (.jump k args,ρ))
 |some (x,ρ)=>some (.inr (x,ρ))
 |none=>none
noncomputable def ae.aa:ae→List L→Out
 | .ak x,ρ=>some (x,ρ)
 | .op nd k,ρ=>match nd.ev ρ with
  |some ls=>k.aa (ρ++ls)
  |none=>none
 | .ite c a b,ρ=>if(c.ev ρ).bx then a.aa ρ else b.aa ρ
 | .join body rest,ρ=>match body.aa ρ with
  |some (.jump 0 args,ρ')=>rest.aa (ρ++args.map (At.ev ρ'))
  |some (.jump (k+1) args,ρ')=>some (.jump k args,ρ')
  |r=>r
 | .loop init body,ρ=>gz (fun a=>nc (body.aa (ρ++a))) (init.map (At.ev ρ))
def ae.bind (f:Nat→Ex→af→Option ae):Nat→ae→Option ae
 |d,.ak (.st e S)=>f d e S
 |_,.ak x=>some (.ak x)
 |d,.op nd k=> (ae.bind f d k).map (.op nd)
 |d,.ite c a b=>match ae.bind f d a,ae.bind f d b with
  |some a,some b=>some (.ite c a b)
  |_,_=>none
 |d,.join body rest=>match ae.bind f (d+1) body,ae.bind f d rest with
  |some a,some b=>some (.join a b)
  |_,_=>none
 |d,.loop init body=> (ae.bind f (d+1) body).map (.loop init)
def lift (d:Nat):Lf×List L→Lf×List L
 | (.jump k args,ρ)=> (.jump (k+d) args,ρ)
 |x=>x
def after (R:Ex→af→List L→Out) (d:Nat) (o:Out):Out:=match o with
 |some (.st e S,ρ)=> (R e S ρ).map (lift d)
 |r=>r
theorem qz {f:Nat→Ex→af→Option ae} {R:Ex→af→List L→Out}:∀{t u:ae} {d:Nat} {ρ:List L},
  (∀e S br,t.aa ρ=some (.st e S,br)→∀d u1,f d e S=some u1→u1.aa br=(R e S br).map (lift d))→t.bind f d=some u→u.aa ρ=after R d (t.aa ρ)
 | .ak (.st e S),u,d,ρ,H,h=>H e S ρ rfl d u h
 | .ak (.jump k args),u,d,ρ,H,h=>by cases h;rfl
 | .op nd k,u,d,ρ,H,h=>by
  simp only[ae.bind,aT]at h;obtain⟨v,hv,rfl⟩:=h;simp only[ae.aa]at H⊢
  cases hn:nd.ev ρ with
  |none=>rfl
  | some ls=>
    rw[hn]at H;exact qz H hv
 | .ite c a b,u,d,ρ,H,h=>by
  simp only[ae.bind]at h;split at h
  · rename_i u1 u2 h1 h2;cases h;simp only[ae.aa]at H⊢;split
    · rename_i hc;rw[ay hc]at H;exact qz H h1
    · rename_i hc;rw[aC hc]at H;exact qz H h2
  · cases h
 | .join body rest,u,d,ρ,H,h=>by
  simp only[ae.bind]at h;split at h
  · rename_i u1 u2 h1 h2;cases h;simp only[ae.aa]at H⊢
    cases hb:body.aa ρ with
    | none=>
      have:=qz (R:=R) (t:=body) (ρ:=ρ) (fun e S br hh=>by rw[hb]at hh;cases hh) h1;rw[this,hb];rfl
    | some x=>
      obtain⟨lf,br⟩:=x
      cases lf with
      | st e S=>
       have:=qz (R:=R) (t:=body) (ρ:=ρ) (fun e S br hh=>H e S br (by rw[hh])) h1;rw[this,hb];simp only[after]
       cases R e S br with
       |none=>rfl
       |some y=>
        obtain⟨OC,rf⟩:=y
        cases OC with
        |st=>rfl
        |jump k args=>simp only[aV,lift,Nat.add_succ]
      | jump k args=>
       have:=qz (R:=R) (t:=body) (ρ:=ρ) (fun e S br hh=>by rw[hb]at hh;cases hh) h1;rw[this,hb]
       cases k with
       |zero=>
        rw[hb]at H;exact qz H h2
       |succ k=>rfl
  · cases h
 | .loop init body,u,d,ρ,H,h=>by
  simp only[ae.bind,aT]at h;obtain⟨v,hv,rfl⟩:=h;simp only[ae.aa]at H⊢;have key:=afU (f:=fun a=>nc (body.aa (ρ++a))) (g:=fun a=>nc (v.aa (ρ++a))) (h:=fun r=>after R d (some r))
    (G :=fun r=>∀e S,r.1= .st e S→∀d u1,f d e S=some u1→u1.aa r.2=(R e S r.2).map (lift d)) (fun _ _=>trivial) (fun a ha=>by
      have OD:=qz (R:=R) (t:=body) (ρ:=ρ++a) (d:=d+1) (u:=v) (fun e S br hh=>by
       have:=ha (.st e S,br) (FT (by simp only[hh,nc]));exact this e S rfl) hv
      simp only[OD]
      cases hb:body.aa (ρ++a)with
      |none=>rfl
      | some x=>
       obtain⟨lf,br⟩:=x
       cases lf with
       | st e S=>
        simp only[after,nc]
        cases R e S br with
        |none=>rfl
        |some y=>
         obtain⟨OC,rf⟩:=y
         cases OC with
         |st=>rfl
         |jump k args=>simp only[aV,lift,Nat.add_succ]
       |jump k args=>cases k<;>rfl) (init.map (At.ev ρ)) (fun r hr e S he=>by
        obtain⟨lf,br⟩:=r;subst he;exact H e S br hr)
  rw[key];cases gz (fun a=>nc (body.aa (ρ++a))) (init.map (At.ev ρ))<;>rfl
end
section
open Go.RowKit
namespace AI
def dP (τ:List L) (t:Nat):Int:=match t with
 |0=>0
 |t+1=>let l:=(τ[t/3]?).getD (.b false)
  if t%3=0 then l.ah else if t%3=1 then(l.az.length:Int)else(l.eQ.size:Int)
def gJ (n t:Nat):Bool:=decide (t≤3*n)
theorem wA (τ):dP τ 0=0:=rfl
theorem EB {τ ys} {t} (h:gJ τ.length t=true):dP (τ++ys) t=dP τ t:=by
 cases t with
 |zero=>rfl
 |succ t=>
  simp only[gJ,dj]at h;simp only[dP];rw[rF om]
structure Fa where
 a:Nat
 b:Nat
 c:Int
deriving Inhabited,Repr
def Fa.holds (τ:List L) (f:Fa):Prop:=dP τ f.a-dP τ f.b≤f.c
def Fa.in (n:Nat) (f:Fa):Bool:=gJ n f.a&&gJ n f.b
def Fa.ok (τ:List L) (f:Fa):Prop:=f.in τ.length=true∧f.holds τ
theorem Fa.ok.append {τ ys} {f:Fa} (h:f.ok τ):f.ok (τ++ys):=by
 obtain⟨h1,h2⟩:=h;simp only[Fa.in,bt]at h1;refine⟨?_,?_⟩
 · simp only[Fa.in,gJ,bt,dj,bE]at h1⊢;omega
 · unfold Fa.holds at h2⊢;rw[EB h1.1,EB h1.2];exact h2
def k_ (a b:Int):Bool:=match a,b with
 | .ofNat m,.ofNat n=>Nat.ble m n
 | .negSucc _,.ofNat _=>true
 | .ofNat _,.negSucc _=>false
 | .negSucc m,.negSucc n=>Nat.ble n m
theorem ath (a b):k_ a b=decide (a≤b):=by
 cases a<;>cases b<;>simp only[k_]<;>apply iK.2<;>simp<;>omega
theorem yL {a b} (h:k_ a b=true):a≤b:=by rw[ath]at h;simp_all
def kN:dZ→Nat
 | .i8=>0| .i16=>1| .i32=>2| .i64=>3| .u8=>4| .u16=>5| .u32=>6| .u64=>7
def UI (a b:dZ):Bool:=Nat.beq (kN a) (kN b)
theorem aAN {a b} (h:UI a b=true):a=b:=by cases a<;>cases b<;>first|rfl|cases h
theorem zJ {a b:Nat} (h:Nat.beq a b=true):a=b:=abO h
def qJ:List (Nat×Int)→Nat→Option Int
 |[],_=>none
 | (k,d)::r,t=>cond (Nat.beq k t) (some d) (qJ r t)
def yx:List (Nat×Int)→Nat→Int→List (Nat×Int)
 |[],t,d=> [(t,d)]
 | (k,e)::r,t,d=>cond (Nat.beq k t) (cond (k_ e d) ((k,e)::r) ((k,d)::r)) ((k,e)::yx r t d)
def tT:List Fa→List (Nat×Int)→List (Nat×Int)
 |[],D=>D
 |f::fs,D=>tT fs (cond (Nat.beq f.b 0) D (cond (Nat.beq f.a 0) D (match qJ D f.a with
  |some d=>yx D f.b (d+f.c)
  |none=>D)))
def pV:List Fa→List (Nat×Int)→List (Nat×Int)
 |[],D=>D
 |f::fs,D=>pV fs (cond (Nat.beq f.a 0) D (cond (Nat.beq f.b 0) D (match qJ D f.b with
  |some d=>yx D f.a (d+f.c)
  |none=>D)))
def Bv:Option Int→Int→Option Int
 |some x,y=>cond (k_ x y) (some x) (some y)
 |none,y=>some y
def BX:List Fa→List (Nat×Int)→Option Int→Option Int
 |[],_,r=>r
 |f::fs,D,r=>BX fs D (cond (Nat.beq f.b 0) (match qJ D f.a with
  |some d=>Bv r (d+f.c)
  |none=>r) r)
def B9:List Fa→List (Nat×Int)→Option Int→Option Int
 |[],_,r=>r
 |f::fs,D,r=>B9 fs D (cond (Nat.beq f.a 0) (match qJ D f.b with
  |some d=>Bv r (d+f.c)
  |none=>r) r)
def dD (fs:List Fa) (a b:Nat):Option Int:=
 cond (Nat.beq a b) (some 0)
 (cond (Nat.beq a 0) (B9 fs (pV fs (pV fs [(b,0)])) none)
 (
  let D:=tT fs (tT fs [(a,0)])
  cond (Nat.beq b 0) (BX fs D none)
  (match BX fs D none,B9 fs (pV fs (pV fs [(b,0)])) none with
   |some x,some y=>match qJ D b with
    |some d=>Bv (some d) (x+y)
    |none=>some (x+y)
   |_,_=>qJ D b)))
def G3 (τ:List L) (a:Nat) (D:List (Nat×Int)):Prop:=∀t d,(t,d)∈D→dP τ a-dP τ t≤d
def Dc (τ:List L) (b:Nat) (D:List (Nat×Int)):Prop:=∀t d,(t,d)∈D→dP τ t-dP τ b≤d
theorem uP:∀{D:List (Nat×Int)} {t:Nat} {d:Int},qJ D t=some d→(t,d)∈D
 |[],_,_,h=>by cases h
 | (k,e)::r,t,d,h=>by
  simp only[qJ]at h
  cases hk:Nat.beq k t with
  |true=>
   rw[hk]at h;cases h;have:=zJ hk;subst this;exact iL
  |false=>rw[hk]at h;exact iM _ (uP h)
theorem Mt:∀{D:List (Nat×Int)} {t t':Nat} {d d':Int},(t',d')∈yx D t d→(t',d')=(t,d)∨(t',d')∈D
 |[],t,t',d,d',h=>by simp_all[yx]
 | (k,e)::r,t,t',d,d',h=>by
  simp only[yx]at h
  cases hk:Nat.beq k t with
  |true=>
   rw[hk]at h;have:=zJ hk;subst this
   cases hi:k_ e d with
   | false=>
     rw[hi]at h;rcases dL.1 h with h|h
     · exact .inl h
     · exact .inr (iM _ h)
   |true=>rw[hi]at h;exact .inr h
  |false=>
   rw[hk]at h;rcases dL.1 h with h|h
   · exact .inr (by rw[h];exact iL)
   · rcases Mt h with h|h
     · exact .inl h
     · exact .inr (iM _ h)
theorem NX {τ:List L} {a:Nat}:∀{fs:List Fa} {D:List (Nat×Int)},(∀f∈fs,f.holds τ)→G3 τ a D→G3 τ a (tT fs D)
 |[],_,_,h=>h
 | f :: fs,D,hf,h=>by
  simp only[tT];refine NX (fun g hg=>hf g (iM _ hg)) ?_
  cases Nat.beq f.b 0 with
  |true=>exact h
  | false=>cases Nat.beq f.a 0 with
   |true=>exact h
   |false=>
    split
    · rename_i d hd;intro t e ht;rcases Mt ht with ht|ht
      · cases ht;have h1:=h _ _ (uP hd);have h2:=hf f iL;unfold Fa.holds at h2;omega
      · exact h _ _ ht
    · exact h
theorem Ip {τ:List L} {b:Nat}:∀{fs:List Fa} {D:List (Nat×Int)},(∀f∈fs,f.holds τ)→Dc τ b D→Dc τ b (pV fs D)
 |[],_,_,h=>h
 | f :: fs,D,hf,h=>by
  simp only[pV];refine Ip (fun g hg=>hf g (iM _ hg)) ?_
  cases Nat.beq f.a 0 with
  |true=>exact h
  | false=>cases Nat.beq f.b 0 with
   |true=>exact h
   |false=>
    split
    · rename_i d hd;intro t e ht;rcases Mt ht with ht|ht
      · cases ht;have h1:=h _ _ (uP hd);have h2:=hf f iL;unfold Fa.holds at h2;omega
      · exact h _ _ ht
    · exact h
theorem ID {r} {y c} (h:Bv r y=some c):(c=y∨r=some c):=by
 cases r with
 |none=>cases h;exact .inl rfl
 |some x=>
  simp only[Bv]at h
  cases hi:k_ x y with
  |true=>rw[hi]at h;exact .inr h
  |false=>rw[hi]at h;cases h;exact .inl rfl
theorem Y6 {τ:List L} {a:Nat} {D:List (Nat×Int)} (hD:G3 τ a D):∀{fs:List Fa} {r:Option Int},(∀f∈fs,f.holds τ)→(∀c,r=some c→dP τ a≤c)→∀c,BX fs D r=some c→dP τ a≤c
 |[],_,_,hr,c,h=>hr c h
 | f ::fs,r,hf,hr,c,h=>by
  simp only[BX]at h;refine Y6 hD (fun g hg=>hf g (iM _ hg)) ?_ c h;intro e he
  cases hb:Nat.beq f.b 0 with
  |true=>
   rw[hb]at he;have hb:=zJ hb;split at he
   · rename_i d hd;rcases ID he with rfl|h2
     · have h1:=hD _ _ (uP hd);have h2:=hf f iL;unfold Fa.holds at h2;rw[hb,wA]at h2;omega
     · exact hr _ h2
   · exact hr _ he
  |false=>simp_all
theorem Xg {τ:List L} {b:Nat} {D:List (Nat×Int)} (hD:Dc τ b D):∀{fs:List Fa} {r:Option Int},(∀f∈fs,f.holds τ)→(∀c,r=some c→-dP τ b≤c)→∀c,B9 fs D r=some c→-dP τ b≤c
 |[],_,_,hr,c,h=>hr c h
 | f ::fs,r,hf,hr,c,h=>by
  simp only[B9]at h;refine Xg hD (fun g hg=>hf g (iM _ hg)) ?_ c h;intro e he
  cases hb:Nat.beq f.a 0 with
  |true=>
   rw[hb]at he;have hb:=zJ hb;split at he
   · rename_i d hd;rcases ID he with rfl|h2
     · have h1:=hD _ _ (uP hd);have h2:=hf f iL;unfold Fa.holds at h2;rw[hb,wA]at h2;omega
     · exact hr _ h2
   · exact hr _ he
  |false=>simp_all
theorem acU {τ} {fs} (hf:∀f∈fs,f.holds τ) {a b} {c} (h:dD fs a b=some c):dP τ a-dP τ b≤c:=by
 have hD:G3 τ a (tT fs (tT fs [(a,0)])):=NX hf (NX hf fun t d ht=>by
  simp_all)
 have hB:Dc τ b (pV fs (pV fs [(b,0)])):=Ip hf (Ip hf fun t d ht=>by
  simp_all)
 have hz:=Y6 hD hf (r:=none) (fun _ h=>by cases h);have ho:=Xg hB hf (r:=none) (fun _ h=>by cases h);unfold dD at h
 cases hk:Nat.beq a b with
 |true=>
  simp_all
 | false=>
  rw[hk]at h
  cases hk:Nat.beq a 0 with
  |true=>
   simp_all[wA]
  | false=>
   rw[hk]at h
   cases hk:Nat.beq b 0 with
   |true=>
    simp_all[wA]
   |false=>
    rw[hk]at h;simp only[cond_false]at h;split at h
    · rename_i x y hx hy;have h1:=hz _ hx;have h2:=ho _ hy;split at h
      · rename_i d hd;have h3:=hD _ _ (uP hd);rcases ID h with rfl|h4
        · omega
        simp_all
      · cases h;omega
    · exact hD _ _ (uP h)
abbrev Li:=Nat×Int
def dS (τ:List L) (x:Li):Int:=dP τ x.1+x.2
def EN (fs:List Fa) (x y:Li):Option Int:=(dD fs x.1 y.1).map (· +(x.2-y.2))
theorem aqI {τ} {fs} (hf:∀f∈fs,f.holds τ) {x y} {c} (h:EN fs x y=some c):dS τ x-dS τ y≤c:=by
 simp only[EN,aT]at h;obtain⟨d,h1,rfl⟩:=h;have:=acU hf h1;unfold dS;omega
def oz (fs:List Fa) (x y:Li) (c:Int):Bool:=match EN fs x y with
 |some d=>k_ d c
 |none=>false
theorem aAW {τ} {fs} (hf:∀f∈fs,f.holds τ) {x y} {c} (h:oz fs x y c=true):dS τ x-dS τ y≤c:=by
 unfold oz at h;split at h
 · rename_i d hd;have:=aqI hf hd;have:=yL h;omega
 · cases h
inductive AC where
 |int (k:dZ) (lo hi:Int)
 |bool
 |str (hi:Int)
 |sl (hi:Int) (cs:List AC)
 |any
deriving Inhabited,Repr
mutual
def AC.ok:AC→PV→Prop
 | .int k lo hi,q=>∃n,q= .sc (.int k n)∧lo≤n∧n≤hi
 | .bool,q=>∃b,q= .sc (.bool b)
 | .str hi,q=>∃s:fo,q= .sc (.string s)∧(s.size:Int)≤hi
 | .sl hi cs,q=>∃rows,q= .sl rows∧(rows.length:Int)≤hi∧∀r∈rows,AC.kn cs r
 | .any,_=>True
def AC.kn:List AC→List PV→Prop
 |[],[]=>True
 |c::cs,q::qs=>AC.ok c q∧AC.kn cs qs
 |_,_=>False
end
def AC.rows (cs:List AC) (rows:List (List PV)):Prop:=∀r∈rows,AC.kn cs r
mutual
def AC.le:AC→AC→Bool
 | .int k lo hi,.int k' vV hi'=>UI k k'&&k_ vV lo&&k_ hi hi'
 | .bool,.bool=>true
 | .str hi,.str hi'=>k_ hi hi'
 | .sl hi cs,.sl hi' cs'=>k_ hi hi'&& (AC.AT cs cs'||k_ hi 0)
 |_,.any=>true
 |_,_=>false
def AC.AT:List AC→List AC→Bool
 |[],[]=>true
 |c::cs,d::ds=>AC.le c d&&AC.AT cs ds
 |_,_=>false
end
mutual
theorem AC.adT:∀{x y:AC} {q:PV},AC.le x y=true→AC.ok x q→AC.ok y q
 | .int k lo hi,.int k' vV hi',q,h,⟨n,h1,h2,h3⟩=>by
  simp only[AC.le,bt]at h;obtain⟨⟨h4,h5⟩,h6⟩:=h;have h4:=aAN h4;subst h4;have h5:=yL h5;have h6:=yL h6;exact⟨n,h1,om,om⟩
 | .bool,.bool,_,_,h=>h
 | .str hi,.str hi',q,h,⟨s,h1,h2⟩=>by
  have h:=yL (show k_ hi hi'=true from h);exact⟨s,h1,om⟩
 | .sl hi cs,.sl hi' cs',q,h,⟨rows,h1,h2,h3⟩=>by
  simp only[AC.le,bt,tm]at h;have h5:=yL h.1;refine⟨rows,h1,om,fun r hr=> ?_⟩;rcases h.2 with h4|h4
  · exact AC.J5 h4 (h3 r hr)
  · have h4:=yL h4;have:rows.length=0:=om;rw[ni this]at hr;cases hr
 | .any,.any,_,_,_=>trivial
 | .int ..,.any,_,_,_=>trivial
 | .bool,.any,_,_,_=>trivial
 | .str _,.any,_,_,_=>trivial
 | .sl ..,.any,_,_,_=>trivial
 | .int ..,.bool,_,h,_=>by cases h
 | .int ..,.str _,_,h,_=>by cases h
 | .int ..,.sl ..,_,h,_=>by cases h
 | .bool,.int ..,_,h,_=>by cases h
 | .bool,.str _,_,h,_=>by cases h
 | .bool,.sl ..,_,h,_=>by cases h
 | .str _,.int ..,_,h,_=>by cases h
 | .str _,.bool,_,h,_=>by cases h
 | .str _,.sl ..,_,h,_=>by cases h
 | .sl ..,.int ..,_,h,_=>by cases h
 | .sl ..,.bool,_,h,_=>by cases h
 | .sl ..,.str _,_,h,_=>by cases h
 | .any,.int ..,_,h,_=>by cases h
 | .any,.bool,_,h,_=>by cases h
 | .any,.str _,_,h,_=>by cases h
 | .any,.sl ..,_,h,_=>by cases h
theorem AC.J5:∀{xs ys:List AC} {qs:List PV},AC.AT xs ys=true→AC.kn xs qs→AC.kn ys qs
 |[],[],_,_,h=>h
 |c::cs,d::ds,[],_,h=>by cases h
 |c::cs,d::ds,q::qs,h,h1=>by
  simp only[AC.AT,bt]at h;exact⟨AC.adT h.1 h1.1,AC.J5 h.2 h1.2⟩
 |[],_::_,_,h,_=>by cases h
 |_::_,[],_,h,_=>by cases h
end
mutual
def AC.join:AC→AC→AC
 | .int k lo hi,.int k' vV hi'=>if k==k' then .int k (if lo≤vV then lo else vV) (if hi≤hi' then hi' else hi)else .any
 | .bool,.bool=> .bool
 | .str hi,.str hi'=> .str (if hi≤hi' then hi' else hi)
 | .sl hi cs,.sl hi' cs'=>if hi≤0 then .sl (if hi≤hi' then hi' else hi) cs' else if hi'≤0 then .sl (if hi≤hi' then hi' else hi) cs else .sl (if hi≤hi' then hi' else hi) (AC.Vb cs cs')
 |_,_=> .any
def AC.Vb:List AC→List AC→List AC
 |c::cs,d::ds=>AC.join c d::AC.Vb cs ds
 |_,_=> []
end
end AI
end
section
open Go.RowKit Go.Deep AI
section
variable {H:Type} {enc:a6×bh→H} {P:bB} {w:a7} {base:Nat} {spare:Nat→Bool} {held:Bool} {M:eS}
def El (enc:a6×bh→H) (P:bB) (w:a7) (base:Nat) (spare:Nat→Bool) (held:Bool) (M:eS) (e:a6) (c:Nat) (cs:List AC):Prop:=
 ∀fuel cells x,DataW.trod enc P w base spare held fuel e cells=some x→cells.length=c∧∃r:List PV,r.length=c∧AC.kn cs r∧∀(j:Nat) (p:PV) (u:bh),r[j]? =some p→cells[j]? =some u→RP M w p u
def m_ (enc:a6×bh→H) (P:bB) (w:a7) (base:Nat) (spare:Nat→Bool) (held:Bool) (M:eS) (t:a6) (q:AC):Prop:=
 ∀fuel cells x,DataW.trod enc P w base spare held fuel t cells=some x→∃v p,cells=[v]∧AC.ok q p∧RP M w p v
theorem ya {t} {k} {lo hi} (ht:P.underlying t=some (.int k)) (hb:∀n,(Lit.int k n).wf=true→lo≤n∧n≤hi):m_ enc P w base spare held M t (.int k lo hi):=fun fuel cells x h=>by
 obtain⟨n,rfl,_,hn⟩:=DataW.trod_int ht h;obtain⟨h1,h2⟩:=hb n hn;exact⟨_,.sc (.int k n),rfl,⟨n,rfl,h1,h2⟩,.sc rfl⟩
theorem axS {t} (ht:P.underlying t=some .bool):m_ enc P w base spare held M t .bool:=fun fuel cells x h=>by
 obtain⟨b,rfl,_⟩:=DataW.trod_bool ht h;exact⟨_,.sc (.bool b),rfl,⟨b,rfl⟩,.sc rfl⟩
theorem Z7 {t} {q} (h:m_ enc P w base spare held M t q):El enc P w base spare held M t 1 [q]:=fun fuel cells x hx=>by
 obtain⟨v,p,rfl,h1,h2⟩:=h fuel cells x hx;refine⟨rfl,[p],rfl,⟨h1,trivial⟩,fun j p' u hp hu=> ?_⟩
 match j with
 |0=>cases hp;cases hu;exact h2
 |j+1=>simp at hp
theorem V2 {e} {f0 f1 f2 f3} {q0 q1 q2 q3} (he:P.underlying e=some (.struct #[f0,f1,f2,f3])) (hc:P.cellsOf e=4)
  (o0:f0.offset=0) (o1:f1.offset=1) (o2:f2.offset=2) (o3:f3.offset=3) (c0:P.cellsOf f0.type=1) (c1:P.cellsOf f1.type=1) (c2:P.cellsOf f2.type=1) (c3:P.cellsOf f3.type=1)
  (h0:m_ enc P w base spare held M f0.type q0) (h1:m_ enc P w base spare held M f1.type q1) (h2:m_ enc P w base spare held M f2.type q2) (h3:m_ enc P w base spare held M f3.type q3):
  El enc P w base spare held M e 4 [q0,q1,q2,q3]:=fun fuel cells x hx=>by
 obtain⟨xs,n,_,_,hl,kf,hf⟩:=DataW.trod_struct he hx;rw[hc]at hl
 match cells,hl,xs,kf with
 |[v0,v1,v2,v3],_,[y0,y1,y2,y3],_=>
  have g0:=hf 0 f0 rfl;have g1:=hf 1 f1 rfl;have g2:=hf 2 f2 rfl;have g3:=hf 3 f3 rfl;rw[o0,c0]at g0;rw[o1,c1]at g1;rw[o2,c2]at g2;rw[o3,c3]at g3;obtain⟨u0,p0,e0,a0,r0⟩:=h0 _ _ _ g0;obtain⟨u1,p1,e1,a1,r1⟩:=h1 _ _ _ g1;obtain⟨u2,p2,e2,a2,r2⟩:=h2 _ _ _ g2;obtain⟨u3,p3,e3,a3,r3⟩:=h3 _ _ _ g3;cases e0;cases e1;cases e2;cases e3;refine⟨rfl,[p0,p1,p2,p3],rfl,⟨a0,a1,a2,a3,trivial⟩,fun j p' u hp hu=> ?_⟩
  match j with
  |0=>cases hp;cases hu;exact r0
  |1=>cases hp;cases hu;exact r1
  |2=>cases hp;cases hu;exact r2
  |3=>cases hp;cases hu;exact r3
  |j+4=>simp at hp
theorem EL {t e} {c} {cs} (ht:P.underlying t=some (.slice e)) (hc:P.cellsOf e=c) (h0:0<c) (hM:∀g,¬M g) (cW:El enc P w base spare held M e c cs):
   m_ enc P w base spare held M t (.sl 9223372036854775807 cs):=fun fuel cells x h=>by
 have nilok:AC.ok (.sl 9223372036854775807 cs) (.sl []):=⟨[],rfl,by simp,fun r hr=>by cases hr⟩
 rcases open_slice ht h with⟨rfl,_⟩| ⟨a,len,cap,m,n,D,Pl,rfl,hb,hl,hm,hmm,rfl,hx⟩
 · exact⟨_,_,rfl,nilok,.nil⟩
 by_cases hz:len=0
 · subst hz;exact⟨_,_,rfl,nilok,.nil⟩
 have lA:len≤m:=by rw[hmm];split<;>omega
 rw[hc]at hx;obtain⟨Q,hQ⟩:=choose_lt (α:=List PV×List bh) (n:=len) (p:=fun i q=>q.1.length=c∧AC.kn cs q.1∧(∀j,j<c→w.cell? ((a.add (i*c)).add j)=q.2[j]?)∧q.2.length=c∧∀(j:Nat) (p:PV) (u:bh),q.1[j]? =some p→q.2[j]? =some u→RP M w p u) (fun i hi=>by
   obtain⟨cs',k1,k2⟩:=hx i om;obtain⟨_,k3,k4⟩:=World.cells?_some k1;obtain⟨_,r,k5,k6,k7⟩:=cW _ _ _ k2;exact⟨(r,cs'),k5,k6,k4,k3,k7⟩)
 obtain⟨g,o,spot⟩:=a;have hspot:spot=none:=by
   obtain⟨_,_,k4,k3,_⟩:=hQ 0 om;have:=k4 0 h0;rw[bW om]at this;simpa[Addr.add]using World.cell?_spot this
 subst hspot;have hlen:((List.range len).map fun i=> (Q i).1).length=len:=by simp
 refine⟨_,.sl ((List.range len).map fun i=> (Q i).1),rfl,⟨_,rfl,?_,fun r hr=> ?_⟩,?_⟩
 · have:maxLen=9223372036854775807:=rfl;omega
 · obtain⟨i,hi,rfl⟩:=fe.1 hr;exact(hQ i (lJ.1 hi)).2.1
 have key:∀(i:Nat) (r:List PV) (j:Nat) (p:PV),((List.range len).map fun i=> (Q i).1)[i]? =some r→r[j]? =some p→i<len∧j<c∧r=(Q i).1:=by
   intro i r j p hi hj;have n4:i<len:=by
    have:=(dr.1 hi).1
    rwa [hlen]at this
   rw[bV,wq n4]at hi;cases hi;have:=(dr.1 hj).1;rw[(hQ i n4).1]at this;exact⟨n4,this,rfl⟩
 have hr:=RP.row (M:=M) (w:=w) (rows:=(List.range len).map fun i=> (Q i).1) (g:=g) (o:=o) (cap:=cap) (sz:=c) (f:=fun i j=> ((Q i).2[j]?).getD .nilFunc) (by
    intro e;rw[e]at hlen;simp at hlen;omega) (by rw[hlen];exact hl) hm (fun r hr=>by
    obtain⟨i,hi,rfl⟩:=fe.1 hr;exact(hQ i (lJ.1 hi)).1) (fun i r j p hi hj=>by
    obtain⟨k1,k2,rfl⟩:=key i r j p hi hj;have k3:=(hQ i k1).2.2.1 j k2;have k4:j< (Q i).2.length:=by rw[(hQ i k1).2.2.2.1];exact k2
    refine⟨?_,hM g⟩;rw[bW k4]at k3⊢;rw[Go.WideShapes.add_plain,Go.WideShapes.add_plain]at k3;exact k3) (fun i r j p hi hj=>by
    obtain⟨k1,k2,rfl⟩:=key i r j p hi hj;have k4:j< (Q i).2.length:=by rw[(hQ i k1).2.2.2.1];exact k2
    rw[bW k4];exact(hQ i k1).2.2.2.2 j p _ hj (bW k4))
 rw[hlen]at hr;exact hr
end
end
section
open Go.RowKit
namespace AI
theorem vr (k:dZ) {n} (h0:k.min≤n) (h1:n≤k.max):k.wrap n=n:=by
 cases k<;>simp[IntKind.min,IntKind.max,IntKind.bits,IntKind.signed]at h0 h1<;>simp[IntKind.wrap,IntKind.bits,IntKind.signed]<;> (try split)<;>omega
def anP (op:BinOp) (a b:Int):Bool:=match op with
 | .eql=>decide (a=b)
 | .neq=>decide (a≠b)
 | .lss=>decide (a<b)
 | .leq=>decide (a≤b)
 | .gtr=>decide (b<a)
 | .geq=>decide (b≤a)
 |_=>false
inductive BD where
 |cmp (op:BinOp) (x y:Li) (p:Bool)
 |oF (b:Bool)
deriving Inhabited
def BD.val (τ:List L):BD→Bool
 | .cmp op x y p=>anP op (dS τ x) (dS τ y)==p
 | .oF b=>b
def BD.in (n:Nat):BD→Bool
 | .cmp _ x y _=>gJ n x.1&&gJ n y.1
 | .oF _=>true
def BD.neg:BD→BD
 | .cmp op x y p=> .cmp op x y (!p)
 | .oF b=> .oF (!b)
theorem qG {τ ys} {x} (h:gJ τ.length x.1=true):dS (τ++ys) x=dS τ x:=by simp only[dS,EB h]
theorem BD.Jr {τ ys} {b:BD} (h:b.in τ.length=true):b.val (τ++ys)=b.val τ:=by
 cases b with
 |cmp op x y p=>
  simp only[BD.in,bt]at h;simp only[BD.val,qG h.1,qG h.2]
 |oF=>rfl
theorem sP {n m t} (h:gJ n t=true) (hm:n≤m):gJ m t=true:=by simp only[gJ,dj]at h⊢;omega
theorem BD.NB {n m} {b:BD} (h:b.in n=true) (hm:n≤m):b.in m=true:=by
 cases b with
 |cmp op x y p=>
  simp only[BD.in,bt]at h⊢;exact⟨sP h.1 hm,sP h.2 hm⟩
 |oF=>rfl
abbrev RS:=Option (List AC)
def x9 (x:RS) (rows:List (List PV)):Prop:=match x with
 |none=>rows=[]
 |some cs=>AC.rows cs rows
def lk {α:Type}:List (Nat×α)→Nat→Option α
 |[],_=>none
 | (k,x)::r,g=>cond (Nat.beq k g) (some x) (lk r g)
theorem r6 {α:Type}:∀{l:List (Nat×α)} {g:Nat} {x:α},lk l g=some x→(g,x)∈l
 |[],_,_,h=>by cases h
 | (k,y)::r,g,x,h=>by
  simp only[lk]at h
  cases hk:Nat.beq k g with
  |true=>
   rw[hk]at h;have:=zJ hk;subst this;cases h;exact iL
  |false=>rw[hk]at h;exact iM _ (r6 h)
structure AS where
 env:List Nat
 n:Nat
 fs:List Fa
 rw:List (Nat×RS)
 cl:List (Nat×List AC)
 bd:List (Nat×BD)
 al:List (Nat×Li)
 ll:List (Nat×Li)
 sm:List ((List Nat×Nat)×Nat)
 pr:List (Nat×List Nat)
deriving Inhabited
def RQ:Nat→List L→Prop
 |0,[l]=>∃n,∀r∈l.az,∃q,r=[.sl q]∧q.length=n
 |_,_=>True
def at' (τ:List L) (g:Nat):L:=(τ[g]?).getD (.b false)
def Cf (τ:List L) (k:List Nat×Nat):Option L:=(k.1[(at' τ k.2).ah.toNat]?).map (at' τ)
def ui (n:Nat) (k:List Nat×Nat):Bool:=k.1.all (fun g=>decide (g<n))&&decide (k.2<n)
structure Ga (S:AS) (τ ρ:List L):Prop where
 n:τ.length=S.n
 env:ρ=S.env.map (at' τ)
 lt:∀g∈S.env,g<S.n
 fs:∀f∈S.fs,f.ok τ
 rw:∀x∈S.rw,x.1<S.n∧x9 x.2 (at' τ x.1).az
 cl:∀x∈S.cl,x.1<S.n∧AC.kn x.2 (at' τ x.1).jk
 bd:∀x∈S.bd,x.1<S.n∧x.2.in S.n=true∧(at' τ x.1).bx=x.2.val τ
 al:∀x∈S.al,x.1<S.n∧gJ S.n x.2.1=true∧(at' τ x.1).ah=dS τ x.2
 ll:∀x∈S.ll,x.1<S.n∧gJ S.n x.2.1=true∧((at' τ x.1).az.length:Int)=dS τ x.2
 sm:∀x∈S.sm,x.2<S.n∧ui S.n x.1=true∧Cf τ x.1=some (at' τ x.2)
 pr:∀x∈S.pr,(∀g∈x.2,g<S.n)∧RQ x.1 (x.2.map (at' τ))
theorem w5 {τ ys} {g} (h:g<τ.length):at' (τ++ys) g=at' τ g:=by
 unfold at';rw[rF h]
theorem J0 {n m} {k} (h:ui n k=true) (hm:n≤m):ui m k=true:=by
 simp only[ui,bt,bC,dj]at h⊢;exact⟨fun g hg=>oo (h.1 g hg) hm,oo h.2 hm⟩
theorem IQ {τ ys} {k} (h:ui τ.length k=true):Cf (τ++ys) k=Cf τ k:=by
 simp only[ui,bt,bC,dj]at h;unfold Cf;rw[w5 h.2]
 cases hg:k.1[(at' τ k.2).ah.toNat]? with
 |none=>rfl
 |some g=>simp only[aV];rw[w5 (h.1 g (dn hg))]
theorem aqF (τ) (l):at' (τ++ [l]) τ.length=l:=by simp[at']
structure oK where
 fs:List Fa:=[]
 rw:Option RS:=none
 cl:Option (List AC):=none
 bd:Option BD:=none
 al:Option Li:=none
 ll:Option Li:=none
 sm:Option (List Nat×Nat):=none
structure oK.ok (N:oK) (τ:List L) (l:L):Prop where
 fs:∀f∈N.fs,f.holds (τ++ [l])
 rw:∀x,N.rw=some x→x9 x l.az
 cl:∀x,N.cl=some x→AC.kn x l.jk
 bd:∀x,N.bd=some x→l.bx=x.val τ
 al:∀x,N.al=some x→l.ah=dS τ x
 ll:∀x,N.ll=some x→(l.az.length:Int)=dS τ x
 sm:∀x,N.sm=some x→Cf τ x=some l
def wE {α:Type} (g:Nat):Option α→List (Nat×α)→List (Nat×α)
 |some x,l=> (g,x)::l
 |none,l=>l
def ZI (n:Nat):Option Li→Bool
 |some x=>gJ n x.1
 |none=>true
def oK.in (n:Nat) (N:oK):Bool:=N.fs.all (Fa.in (n+1))&& (match N.bd with|some b=>b.in n|none=>true)&&ZI n N.al&&ZI n N.ll&& (match N.sm with|some k=>ui n k|none=>true)
def YT (g:Nat):Option (List Nat×Nat)→List ((List Nat×Nat)×Nat)→List ((List Nat×Nat)×Nat)
 |some k,l=> (k,g)::l
 |none,l=>l
theorem auU {g} {o} {l} {x} (h:x∈YT g o l):(o=some x.1∧x.2=g)∨x∈l:=by
 cases o with
 |none=>exact .inr h
 |some y=>
  rcases dL.1 h with rfl|h
  · simp_all
  · exact .inr h
def AS.push (S:AS) (N:oK):Option AS:=
 if N.in S.n=true then
  some ⟨S.env++ [S.n],S.n+1,N.fs++S.fs,wE S.n N.rw S.rw,wE S.n N.cl S.cl,wE S.n N.bd S.bd,wE S.n N.al S.al,wE S.n N.ll S.ll,YT S.n N.sm S.sm,S.pr⟩
 else none
theorem A_ {α} {g} {o} {l} {x:Nat×α} (h:x∈wE g o l):(∃y,o=some y∧x=(g,y))∨x∈l:=by
 cases o with
 |none=>exact .inr h
 |some y=>
  rcases dL.1 h with h|h
  · simp_all
  · exact .inr h
theorem Ga.push {S S'} {τ ρ} {N} {l} (h:Ga S τ ρ) (hp:S.push N=some S') (hN:N.ok τ l):Ga S' (τ++ [l]) (ρ++ [l]):=by
 unfold AS.push at hp;split at hp
 · rename_i hc;simp only[oK.in,bt,bC]at hc;injection hp with hp
   subst hp;have hn:=h.n;have hat:∀g,g<S.n→at' (τ++ [l]) g=at' τ g:=fun g hg=>w5 om
   have ic:at' (τ++ [l]) S.n=l:=by rw[←hn];exact aqF τ l
   exact{
    n:=by simp[hn]
    env:=by
     rw[h.env,dk,List.map_singleton,ic];congr 1;exact fK fun g hg=> (hat g (h.lt g hg)).symm
    lt:=fun g hg=>by
     rcases im.1 hg with hg|hg
     · have:=h.lt g hg;show g<S.n+1;omega
     simp_all
    fs:=fun f hf=>by
     rcases im.1 hf with hf|hf
     · exact⟨by simp_all,hN.fs f hf⟩
     · exact(h.fs f hf).append
    rw :=fun x hx=>by
     rcases A_ hx with⟨y,hy,rfl⟩|hx
     · exact⟨ov _,by simp only[ic];exact hN.rw y hy⟩
     · obtain⟨h1,h2⟩:=h.rw x hx;exact⟨zl h1,by rw[hat _ h1];exact h2⟩
    cl :=fun x hx=>by
     rcases A_ hx with⟨y,hy,rfl⟩|hx
     · exact⟨ov _,by simp only[ic];exact hN.cl y hy⟩
     · obtain⟨h1,h2⟩:=h.cl x hx;exact⟨zl h1,by rw[hat _ h1];exact h2⟩
    bd :=fun x hx=>by
     rcases A_ hx with⟨y,hy,rfl⟩|hx
     · have hb:=hc.1.1.1.2;rw[hy]at hb;exact⟨ov _,BD.NB hb (wu _),by simp only[ic];rw[BD.Jr (by rw[hn];exact hb)];exact hN.bd y hy⟩
     · obtain⟨h1,h2,h3⟩:=h.bd x hx;exact⟨zl h1,BD.NB h2 (wu _),by rw[hat _ h1,BD.Jr (by rw[hn];exact h2)];exact h3⟩
    al :=fun x hx=>by
     rcases A_ hx with⟨y,hy,rfl⟩|hx
     · have hb:=hc.1.1.2;rw[hy]at hb;exact⟨ov _,sP hb (wu _),by simp only[ic];rw[qG (by rw[hn];exact hb)];exact hN.al y hy⟩
     · obtain⟨h1,h2,h3⟩:=h.al x hx;exact⟨zl h1,sP h2 (wu _),by rw[hat _ h1,qG (by rw[hn];exact h2)];exact h3⟩
    ll :=fun x hx=>by
     rcases A_ hx with⟨y,hy,rfl⟩|hx
     · have hb:=hc.1.2;rw[hy]at hb;exact⟨ov _,sP hb (wu _),by simp only[ic];rw[qG (by rw[hn];exact hb)];exact hN.ll y hy⟩
     · obtain⟨h1,h2,h3⟩:=h.ll x hx;exact⟨zl h1,sP h2 (wu _),by rw[hat _ h1,qG (by rw[hn];exact h2)];exact h3⟩
    sm :=fun x hx=>by
     rcases auU hx with⟨hy,hg⟩|hx
     · have hb:=hc.2;rw[hy]at hb;exact⟨by simp_all,J0 hb (wu _),by rw[hg,ic,IQ (by rw[hn];exact hb)];exact hN.sm _ hy⟩
     · obtain⟨h1,h2,h3⟩:=h.sm x hx;exact⟨zl h1,J0 h2 (wu _),by rw[hat _ h1,IQ (by rw[hn];exact h2)];exact h3⟩
    pr:=fun x hx=>by
     obtain⟨h1,h2⟩:=h.pr x hx;exact⟨fun g hg=>zl (h1 g hg),by rw[fK (g:=at' τ) fun g hg=>hat g (h1 g hg)];exact h2⟩}
 simp_all
def AS.li (S:AS):At→Li
 | .v i=>match S.env[i]? with
  |some g=> (match lk S.al g with
   |some x=>x
   |none=> (3*g+1,0))
  |none=> (0,0)
 | .i c=> (0,c)
 |_=> (0,0)
def AS.le (S:AS):At→Li
 | .v i=>match S.env[i]? with
  |some g=> (match lk S.ll g with
   |some x=>x
   |none=> (3*g+2,0))
  |none=> (0,0)
 |_=> (0,0)
def AS.ls (S:AS):At→Option Li
 | .v i=>match S.env[i]? with
  |some g=>some (3*g+3,0)
  |none=>some (0,0)
 | .s x=>some (0,x.size)
 |_=>some (0,0)
theorem axV (τ) (g):dP τ (3*g+1)=(at' τ g).ah:=by
 simp_all[dP,at']
theorem anf (τ) (g):dP τ (3*g+2)=((at' τ g).az.length:Int):=by
 simp only[dP,show(3*g+1) /3=g by omega,show(3*g+1)%3=1 by omega,at'];simp
theorem arL (τ) (g):dP τ (3*g+3)=((at' τ g).eQ.size:Int):=by
 simp only[dP,show(3*g+2) /3=g by omega,show(3*g+2)%3=2 by omega,at'];simp
section
variable {S:AS} {τ ρ:List L} (h:Ga S τ ρ)
include h
theorem Ga.holds {f} (hf:f∈S.fs):f.holds τ:=(h.fs f hf).2
theorem Ga.ev {i}:(At.v i).ev ρ=match S.env[i]? with|some g=>at' τ g|none=> .b false:=by
 simp only[At.ev,h.env,bV];cases S.env[i]? <;>rfl
theorem Ga.li (x):(x.ev ρ).ah=dS τ (S.li x):=by
 cases x with
 | v i=>
  rw[h.ev];simp only[AS.li]
  cases S.env[i]? with
  |none=>rfl
  |some g=>
   simp only;split
   · rename_i x hx;exact(h.al _ (r6 hx)).2.2
   · simp only[dS,axV];omega
 |i c=>simp[At.ev,L.ah,AS.li,dS,dP]
 |b=>rfl
 |s=>rfl
 |r0=>rfl
theorem Ga.le (x):((x.ev ρ).az.length:Int)=dS τ (S.le x):=by
 cases x with
 | v i=>
  rw[h.ev];simp only[AS.le]
  cases S.env[i]? with
  |none=>rfl
  |some g=>
   simp only;split
   · rename_i x hx;exact(h.ll _ (r6 hx)).2.2
   · simp only[dS,anf];omega
 |i c=>rfl
 |b=>rfl
 |s=>rfl
 |r0=>rfl
theorem Ga.arh (x):gJ τ.length (S.li x).1=true:=by
 cases x with
 | v i=>
  simp only[AS.li]
  cases hg:S.env[i]? with
  |none=>rfl
  |some g=>
   simp only;split
   · rename_i x hx;rw[h.n];exact(h.al _ (r6 hx)).2.1
   · have:=h.lt g (dn hg);simp only[gJ,h.n,dj];omega
 |_=>rfl
theorem Ga.axx (x):gJ τ.length (S.le x).1=true:=by
 cases x with
 | v i=>
  simp only[AS.le]
  cases hg:S.env[i]? with
  |none=>rfl
  |some g=>
   simp only;split
   · rename_i x hx;rw[h.n];exact(h.ll _ (r6 hx)).2.1
   · have:=h.lt g (dn hg);simp only[gJ,h.n,dj];omega
 |_=>rfl
end
def An (t:Nat) (x:Li) (c:Int):Fa:=⟨t,x.1,x.2+c⟩
def BO (t:Nat) (x:Li) (c:Int):Fa:=⟨x.1,t,c-x.2⟩
def fEq (t:Nat) (x:Li):List Fa:=[An t x 0,BO t x 0]
def JS (t:Nat) (lo hi:Int):List Fa:=[An t (0,0) hi,BO t (0,0) (-lo)]
theorem aie {τ} {t} {x} {c} (h:dP τ t-dS τ x≤c):(An t x c).holds τ:=by
 unfold Fa.holds An;unfold dS at h;simp only;omega
theorem ayy {τ} {t} {x} {c} (h:dS τ x-dP τ t≤c):(BO t x c).holds τ:=by
 unfold Fa.holds BO;unfold dS at h;simp only;omega
theorem azm {τ} {t} {lo hi} (h0:lo≤dP τ t) (h1:dP τ t≤hi):∀f∈JS t lo hi,f.holds τ:=fun f hf=>by
 have hz:dS τ (0,0)=0:=by rfl
 simp only[JS,dL,Px,or_false]at hf;rcases hf with rfl|rfl
 · simp_all[aie]
 simp_all[ayy]
theorem holds_nil {τ}:∀f∈([]:List Fa),f.holds τ:=fun f hf=>by cases hf
def kRg (k:Option dZ) (t:Nat):List Fa:=match k with
 |some k=>JS t k.min k.max
 |none=> []
def adC (k:Option dZ) (n:Int):Int:=match k with
 |some k=>k.wrap n
 |none=>n
theorem awQ {k} {τ} {t} {n} (h:dP τ t=adC k n):∀f∈kRg k t,f.holds τ:=by
 cases k with
 |none=>exact holds_nil
 |some k=>
  have:=Go.wrap_within k n;exact azm (by rw[h];exact this.1) (by rw[h];exact this.2)
end AI
namespace AI
end AI
namespace AI
def AS.rs (S:AS):At→Option RS
 | .v i=>match S.env[i]? with
  |some g=>lk S.rw g
  |none=>some none
 |_=>some none
def AS.cs (S:AS):At→Option (List AC)
 | .v i=>match S.env[i]? with
  |some g=>lk S.cl g
  |none=>none
 |_=>none
def AS.bo (S:AS):At→Option BD
 | .v i=>match S.env[i]? with
  |some g=>lk S.bd g
  |none=>none
 | .b t=>some (.oF t)
 |_=>none
section
variable {S:AS} {τ ρ:List L} (h:Ga S τ ρ)
include h
theorem Ga.rs {x} {r} (hr:S.rs x=some r):x9 r (x.ev ρ).az:=by
 cases x with
 |v i=>
  rw[h.ev];simp only[AS.rs]at hr
  cases hg:S.env[i]? with
  |none=>rw[hg]at hr;cases hr;rfl
  |some g=>rw[hg]at hr;exact(h.rw _ (r6 hr)).2
 |_=>cases hr;rfl
theorem Ga.cs {x} {r} (hr:S.cs x=some r):AC.kn r (x.ev ρ).jk:=by
 cases x with
 |v i=>
  rw[h.ev];simp only[AS.cs]at hr
  cases hg:S.env[i]? with
  |none=>simp_all
  |some g=>rw[hg]at hr;exact(h.cl _ (r6 hr)).2
 |_=>cases hr
theorem Ga.bo {x} {b} (hr:S.bo x=some b):(x.ev ρ).bx=b.val τ:=by
 cases x with
 |v i=>
  rw[h.ev];simp only[AS.bo]at hr
  cases hg:S.env[i]? with
  |none=>simp_all
  |some g=>rw[hg]at hr;exact(h.bd _ (r6 hr)).2.2
 |b t=>cases hr;rfl
 |_=>cases hr
end
theorem Ga.ls {S} {τ ρ} (h:Ga S τ ρ) {x} {y} (hy:S.ls x=some y):((x.ev ρ).eQ.size:Int)=dS τ y:=by
 cases x with
 |v i=>
  rw[h.ev];simp only[AS.ls]at hy
  cases hg:S.env[i]? with
  |none=>rw[hg]at hy;cases hy;rfl
  |some g=>rw[hg]at hy;cases hy;simp only[dS,arL];omega
 |s x=>cases hy;simp[dS,wA,At.ev,L.eQ]
 |i c=>cases hy;rfl
 |b t=>cases hy;rfl
 |r0=>cases hy;rfl
theorem Ga.apr {S} {τ ρ} (h:Ga S τ ρ) {x} {y} (hy:S.ls x=some y):gJ τ.length y.1=true:=by
 cases x with
 | v i=>
  simp only[AS.ls]at hy
  cases hg:S.env[i]? with
  |none=>rw[hg]at hy;cases hy;rfl
  |some g=>
   rw[hg]at hy;cases hy;have:=h.lt g (dn hg);simp only[gJ,h.n,dj];omega
 |_=>cases hy;rfl
def AS.at (S:AS) (x i:At):Bool:=oz S.fs (0,0) (S.li i) 0&&oz S.fs (S.li i) (S.le x) (-1)
section
variable {S:AS} {τ ρ:List L} (h:Ga S τ ρ)
include h
end
end AI
namespace AI
theorem lT {n} {rows} (h:bu n rows=true):sr n rows=true:=by
 cases rows with
 |nil=>rfl
 |cons r rows=>
  have:=(pa.1 h) r iL;simp[sr,this]
theorem z0 (τ):dS τ (0,0)=0:=by rfl
section
variable {S:AS} {τ ρ:List L} (h:Ga S τ ρ)
include h
end
end AI
namespace AI
def Rb:RS→RS→Bool
 |none,_=>true
 |some a,some b=>AC.AT a b
 |some _,none=>false
theorem axr {x y} (h:Rb x y=true) {rows} (hr:x9 x rows):x9 y rows:=by
 cases x with
 |none=>
  have:rows=[]:=hr;subst this
  cases y with
  |none=>rfl
  |some c=>intro r hr;cases hr
 |some a=>cases y with
  |none=>cases h
  |some b=>exact fun r hm=>AC.J5 h (hr r hm)
section
variable {S:AS} {τ ρ:List L} (h:Ga S τ ρ)
include h
end
def aAR.ok (τ:List L):List oK→List L→Prop
 |[],[]=>True
 |N::Ns,l::ls=>N.ok τ l∧aAR.ok (τ++ [l]) Ns ls
 |_,_=>False
def one (x:Option oK):Option (List oK):=x.map fun N=> [N]
end AI
namespace AI
def MI (x y:Li) (c:Int):Fa:=⟨x.1,y.1,c+y.2-x.2⟩
theorem acj {τ} {x y} {c} (h:dS τ x-dS τ y≤c):(MI x y c).holds τ:=by
 unfold Fa.holds MI;unfold dS at h;simp only;omega
def alY (fs:List Fa) (x y:Li) (c:Int):Bool:=match EN fs y x with
 |some d=>decide (d+c<0)
 |none=>false
def AS.tr (S:AS) (ats:List At) (t:Nat):Option Li:=match t with
 |0=>some (0,0)
 |t+1=>match ats[t/3]? with
  |none=>some (0,0)
  |some x=>if t%3=0 then some (S.li x)else if t%3=1 then some (S.le x)else S.ls x
theorem Ga.tr {S} {τ ρ} (h:Ga S τ ρ) {ats} {t} {x} (hx:S.tr ats t=some x):dS τ x=dP (ats.map (At.ev ρ)) t∧gJ τ.length x.1=true:=by
 cases t with
 |zero=>cases hx;exact⟨by rfl,rfl⟩
 | succ t=>
  simp only[AS.tr]at hx;simp only[dP,bV]
  cases ha:ats[t/3]? with
  |none=>rw[ha]at hx;cases hx;refine⟨?_,rfl⟩;simp only[dS,wA,Py,Option.getD_none,L.ah,L.az,L.eQ];simp_all
  |some y=>
   rw[ha]at hx;simp only[aV,fx]at hx⊢;split at hx
   · rename_i h0;cases hx;rw[ay h0];exact⟨(h.li y).symm,h.arh y⟩
   · rename_i h0;rw[aC h0];split at hx
     · rename_i h1;cases hx;rw[ay h1];exact⟨(h.le y).symm,h.axx y⟩
     · rename_i h1;rw[aC h1];exact⟨(h.ls hx).symm,h.apr hx⟩
structure oy where
 fs:List Fa:=[]
 rw:List (Nat×RS):=[]
 bs:List (Nat×Bool):=[]
 pr:List (Nat×List Nat):=[]
deriving Inhabited
structure oy.ok (T:oy) (vs:List L):Prop where
 fs:∀f∈T.fs,f.holds vs
 rw:∀x∈T.rw,x9 x.2 (at' vs x.1).az
 bs:∀x∈T.bs,(at' vs x.1).bx=x.2
 pr:∀x∈T.pr,RQ x.1 (x.2.map (at' vs))
def AS.uV (S:AS) (ats:List At):List Nat→Option (List Nat)
 |[]=>some []
 | p::ps=>match ats[p]? with
  |some (.v i)=>match S.env[i]?,S.uV ats ps with
   |some g,some gs=>some (g::gs)
   |_,_=>none
  |_=>none
def Eh (id:Nat) (gs:List Nat):List (Nat×List Nat)→Bool
 |[]=>false
 | (i,l)::r=>if i==id&&l==gs then true else Eh id gs r
theorem RY {id:Nat} {gs:List Nat}:∀{l:List (Nat×List Nat)},Eh id gs l=true→(id,gs)∈l
 |[],h=>by cases h
 | (i,l)::r,h=>by
  simp only[Eh]at h;split at h
  · rename_i hk;simp only[bt]at hk;rw[eq_of_beq hk.1,eq_of_beq hk.2];exact iL
  · exact iM _ (RY h)
theorem Ga.uV {S:AS} {τ ρ:List L} (h:Ga S τ ρ) {ats:List At}:∀{ps gs:List Nat},S.uV ats ps=some gs→ps.map (at' (ats.map (At.ev ρ)))=gs.map (at' τ)
 |[],gs,he=>by cases he;rfl
 |p::ps,gs,he=>by
  simp only[AS.uV]at he;split at he
  · rename_i i hi;split at he
    · rename_i g gs' hg sY;cases he;simp only[cu,h.uV sY];simp only[at',bV,hi,aV,fx];rw[h.ev,hg];rfl
    · cases he
  · cases he
def AS.cf (S:AS) (ats:List At) (T:oy):Bool:=
 T.fs.all (fun f=>match S.tr ats f.a,S.tr ats f.b with
  |some x,some y=>oz S.fs x y f.c
  |_,_=>false)&&
 T.rw.all (fun x=>match ats[x.1]? with
  |some y=>match S.rs y with
   |some z=>Rb z x.2
   |none=> (match S.bo y with|_=>false)
  |none=>false)&&
 T.bs.all (fun x=>match ats[x.1]? with
  |some y=>match S.bo y with
   |some (.oF b)=>b==x.2
   |_=>false
  |none=>false)&&
 T.pr.all (fun x=>match S.uV ats x.2 with
  |some gs=>Eh x.1 gs S.pr
  |none=>false)
theorem I3 {ats:List At} {ρ} {p} {y} (h:ats[p]? =some y):at' (ats.map (At.ev ρ)) p=y.ev ρ:=by simp[at',h]
theorem Ga.cf {S} {τ ρ} (h:Ga S τ ρ) {ats} {T} (hc:S.cf ats T=true):T.ok (ats.map (At.ev ρ)):=by
 have hf:∀f∈S.fs,f.holds τ:=fun f hf=>h.holds hf
 simp only[AS.cf,bt,bC]at hc;obtain⟨⟨⟨c1,c2⟩,c3⟩,c4⟩:=hc;refine⟨fun f hm=> ?_,fun x hm=> ?_,fun x hm=> ?_,fun x hm=> ?_⟩;rotate_left 3
 · have:=c4 x hm;split at this
   · rename_i gs sY;rw[h.uV sY];exact(h.pr _ (RY this)).2
   · cases this
 · have:=c1 f hm;split at this
   · rename_i x y hx hy;have:=aAW hf this;unfold Fa.holds;rw[←(h.tr hx).1,←(h.tr hy).1];exact this
   · cases this
 · have:=c2 x hm;split at this
   · rename_i y hy;split at this
     · rename_i z hz;rw[I3 hy];exact axr this (h.rs hz)
     · cases this
   · cases this
 · have:=c3 x hm;split at this
   · rename_i y hy;split at this
     · rename_i b hb;rw[I3 hy,h.bo hb];have:=eq_of_beq this;exact this
     · cases this
   · cases this
def AS.ext (S:AS) (ats:List At) (m:Nat) (T:oy):Option AS:=
 let k:=ats.length
 let tr:=fun t=>match t with
  |0=>some ((0,0):Li)
  |t+1=>if t/3<k then S.tr ats (t+1)else some (3*(S.n+(t/3-k))+t%3+1,0)
 let fs:=T.fs.mapM fun f=>match tr f.a,tr f.b with
  |some x,some y=>some (MI x y f.c)
  |_,_=>none
 let ps:=fun p=>if p<k then match ats[p]? with
   |some (.v i)=>S.env[i]?
   |_=>none
  else if p<k+m then some (S.n+(p-k))else none
 let psL:=fun (l:List Nat)=>l.mapM ps
 match fs with
 |some fs=>if fs.all (Fa.in (S.n+m))=true then some ⟨S.env++(List.range m).map (S.n+ ·),S.n+m,fs++S.fs,(T.rw.filterMap fun x=> (ps x.1).map fun g=> (g,x.2))++S.rw,S.cl,(T.bs.filterMap fun x=> (ps x.1).map fun g=> (g,.oF x.2))++S.bd,S.al,S.ll,S.sm,(T.pr.filterMap fun x=> (psL x.2).map fun gs=> (x.1,gs))++S.pr⟩else none
 |none=>none
end AI
end
end
end Go.Proofs.YtndegphojkiblaaGreatDoor
