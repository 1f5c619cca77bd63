/- Towards the last file's theorem: part 13. -/
import Derived.Test.YtndegphojkiblaaGreatDoorG11
import Derived.Test.YtndegphojkiblaaGreatDoorG12
import Derived.WalkKit
import Derived.Test.YtndegphojkiblaaGreatDoorProg
set_option linter.all false
set_option maxHeartbeats 4000000
set_option maxRecDepth 100000
namespace Go.Proofs.YtndegphojkiblaaGreatDoor
noncomputable section
section
open Go.RowKit
namespace AI
structure Inv where
 sp:List Nat
 ts:List iw
 t:Nat
 up:Bool
 b:Nat
 c:Int
deriving Inhabited
inductive bw where
 |e
 |b (x y:bw)
 |j (sp:List Nat) (ts:List iw) (x y:bw)
 |l (i:Inv) (x:bw)
deriving Inhabited
def bw.fst:bw→bw
 | .b x _=>x
 | .j _ _ x _=>x
 |_=> .e
def bw.snd:bw→bw
 | .b _ y=>y
 | .j _ _ _ y=>y
 |_=> .e
def bw.aqQ:bw→Option (List Nat×List iw)
 | .j sp ts _ _=>some (sp,ts)
 |_=>none
structure Lv where
 k:Nat
 S:AS
 xs:List At
deriving Inhabited
def qh {α β:Type} (f:α→Option (List β)):List α→Option (List β)
 |[]=>some []
 |x::r=>match f x,qh f r with
  |some a,some b=>some (a++b)
  |_,_=>none
theorem vq {α β:Type} {f:α→Option (List β)}:∀{l:List α} {ys:List β} {x:α},qh f l=some ys→x∈l→∃zs,f x=some zs∧∀z∈zs,z∈ys
 |a::l,ys,x,h,hx=>by
  simp only[qh]at h;split at h
  · rename_i p q h1 h2;cases h;rcases cU.1 hx with rfl|hx
    · simp_all
    · obtain⟨zs,h3,h4⟩:=vq h2 hx;simp_all
  · cases h
def atoms (n:Nat):List At:=(List.range n).map At.v
def qV (n:Nat) (xs:List At) (p:Nat):Option At:=cond (Nat.blt p n) (some (.v p)) xs[p-n]?
theorem Fz (n:Nat) (xs:List At) (p:Nat):(atoms n++xs)[p]? =qV n xs p:=by
 unfold qV atoms
 cases h:Nat.blt p n with
 |true=>
  have h:p<n:=by simp_all
  rw[nS (by simpa using h)];simp[h]
 | false=>
  have h:¬p<n:=by
   intro hh;have:Nat.blt p n=true:=by simpa[Nat.blt_eq]using hh
   simp_all
  rw[lR (by simp;omega)];simp
def AS.qd (S:AS) (n:Nat) (xs:List At) (t:Nat):Option Li:=match t with
 |0=>some (0,0)
 | t+1=>match qV n xs (t/3)with
  |none=>some (0,0)
  |some x=>match t%3 with
   |0=>some (S.li x)
   |1=>some (S.le x)
   |_=>S.ls x
theorem Kt (S:AS) (n:Nat) (xs:List At) (t:Nat):S.qd n xs t=S.tr (atoms n++xs) t:=by
 cases t with
 |zero=>rfl
 | succ t=>
  simp only[AS.qd,AS.tr,Fz]
  cases qV n xs (t/3)with
  |none=>rfl
  |some x=>
   simp only;split
   · rename_i h;rw[au h]
   · rename_i h;rw[aE om,au h]
   · rename_i h1 h2;rw[aE h1,aE h2]
def AS.DT (S:AS) (n:Nat) (xs:List At):List Nat→Option (List Nat)
 |[]=>some []
 | p::ps=>match qV n xs p with
  |some (.v i)=>match S.env[i]?,S.DT n xs ps with
   |some g,some gs=>some (g::gs)
   |_,_=>none
  |_=>none
theorem acE (S:AS) (n:Nat) (xs:List At):∀ps:List Nat,S.DT n xs ps=S.qX (atoms n++xs) ps
 |[]=>rfl
 |p::ps=>by simp only[AS.DT,AS.qX,Fz,acE S n xs ps];rfl
def AS.Js (S:AS) (n:Nat) (xs:List At) (T:iw):Bool:=
 T.fs.all (fun f=>match S.qd n xs f.a,S.qd n xs f.b with
  |some x,some y=>dj S.fs x y f.c
  |_,_=>false)&&
 T.rw.all (fun x=>match qV n xs x.1 with
  |some y=>match S.rs y with
   |some z=>GZ z x.2
   |none=> (match S.bo y with|_=>false)
  |none=>false)&&
 T.bs.all (fun x=>match qV n xs x.1 with
  |some y=>match S.bo y with
   |some (.iF b)=>b==x.2
   |_=>false
  |none=>false)&&
 T.pr.all (fun x=>match S.DT n xs x.2 with
  |some gs=>Bv x.1 gs S.pr
  |none=>false)
theorem aDf (S:AS) (n:Nat) (xs:List At) (T:iw):S.Js n xs T=S.dN (atoms n++xs) T:=by
 simp only[AS.Js,AS.dN,Kt,Fz,acE];rfl
def Cv {α β:Type} (f:α→Option β):List α→Option (List β)
 |[]=>some []
 | x::l=>match f x with
  |some y=>match Cv f l with
   |some r=>some (y::r)
   |none=>none
  |none=>none
theorem afq {α β:Type} (f:α→Option β):∀l:List α,Cv f l=l.mapM f
 |[]=>rfl
 |x::l=>by
  simp only[Cv,je,afq f l]
  cases f x with
  |none=>rfl
  |some y=>cases l.mapM f<;>rfl
def AS.D1 (S:AS) (k m:Nat) (T:iw):Option AS:=
 let tr:=fun t=>match t with
  |0=>some ((0,0):Li)
  |t+1=>if t/3<k then S.qd k [] (t+1)else some (3*(S.n+(t/3-k))+t%3+1,0)
 let fs:=Cv (fun f=>match tr f.a,tr f.b with
  |some x,some y=>some (uB x y f.c)
  |_,_=>none) T.fs
 let ps:=fun p=>if p<k then match qV k [] p with
   |some (.v i)=>S.env[i]?
   |_=>none
  else if p<k+m then some (S.n+(p-k))else none
 let psL:=fun (l:List Nat)=>Cv ps l
 match fs with
 |some fs=>if fs.all (Fa.in (S.n+m))=true then some ⟨S.env++(List.range m).map (S.n+ ·),S.n+m,fs++S.fs,(T.rw.filterMap fun x=> (ps x.1).map fun g=> (g,x.2))++S.rw,S.cl,(T.bs.filterMap fun x=> (ps x.1).map fun g=> (g,.iF x.2))++S.bd,S.al,S.ll,S.sm,(T.pr.filterMap fun x=> (psL x.2).map fun gs=> (x.1,gs))++S.pr⟩else none
 |none=>none
theorem abR (S:AS) (n m:Nat) (T:iw):S.D1 n m T=S.ext (atoms n) m T:=by
 have h:∀p,(atoms n)[p]? =qV n [] p:=fun p=>by rw[←Fz,kj]
 have h2:∀t,S.qd n [] t=S.tr (atoms n) t:=fun t=>by simp_all[Kt]
 have h3:(atoms n).length=n:=by simp[atoms]
 unfold AS.D1 AS.ext;simp only[afq,h,h2,h3];rfl
def AS.qG (S:AS) (N:bN):Option AS:=(S.push N).map fun S'=> {S' with env:=S.env}
theorem Ga.qG {S S':AS} {τ ρ:List L} (h:Ga S τ ρ) {N:bN} {l:L} (hp:S.qG N=some S') (hN:N.ok τ l):Ga S' (τ++ [l]) ρ∧S'.env=S.env:=by
 simp only[AS.qG,aW]at hp;obtain⟨S1,h1,rfl⟩:=hp;have k:=h.push h1 hN;have hn:S1.n=S.n+1:=by
   unfold AS.push at h1;split at h1
   · injection h1 with h1;subst h1;rfl
   · simp_all
 refine⟨⟨k.n,?_,fun g hg=> ?_,k.fs,k.rw,k.cl,k.bd,k.al,k.ll,k.sm,k.pr⟩,rfl⟩
 · rw[h.env];exact gO fun g hg=> (s_ (by rw[h.n];exact h.lt g hg)).symm
 · have:=h.lt g hg;show g<S1.n;omega
def AS.names (S:AS):List At→Option (List Nat×AS)
 |[]=>some ([],S)
 | x::xs=>match x with
  | .v i=>match S.env[i]? with
   |some g=> (S.names xs).map fun y=> (g::y.1,y.2)
   |none=>none
  | .i c=> (S.qG {al:=some (0,c)}).bind fun S'=> (S'.names xs).map fun y=> (S.n::y.1,y.2)
  | .b t=> (S.qG {bd:=some (.iF t)}).bind fun S'=> (S'.names xs).map fun y=> (S.n::y.1,y.2)
  | .s x=> (S.qG {fs:=uz (3*S.n+3) (0,x.size)}).bind fun S'=> (S'.names xs).map fun y=> (S.n::y.1,y.2)
  | .r0=> (S.qG {rw:=some none,ll:=some (0,0)}).bind fun S'=> (S'.names xs).map fun y=> (S.n::y.1,y.2)
def AS.roots (S:AS) (g:Nat):List Nat:=
 (match lk S.al g with|some x=>x.1|none=>3*g+1)::(match lk S.ll g with|some x=>x.1|none=>3*g+2)::(3*g+3)::(match lk S.bd g with|some (.cmp _ x y _)=> [x.1,y.1]|_=> [])
def Ra:List Nat→Nat→Bool
 |[],_=>false
 |x::r,t=>cond (Nat.beq x t) true (Ra r t)
def AS.gc (S:AS) (n0:Nat) (gs:List Nat):AS:=
 let ks:=gs.flatMap S.roots
 let kt:=fun t=>Nat.ble t (3*n0)||Ra ks t
 let kn:=fun g=>Nat.blt g n0||Ra gs g
 {S with fs:=S.fs.filter fun f=>kt f.a&&kt f.b,rw:=S.rw.filter fun x=>kn x.1,cl:=S.cl.filter fun x=>kn x.1,bd:=S.bd.filter fun x=>kn x.1,al:=S.al.filter fun x=>kn x.1,ll:=S.ll.filter fun x=>kn x.1,sm:=S.sm.filter fun x=>kn x.2,pr:=S.pr.filter fun x=>x.2.all kn}
theorem Ga.gc {S:AS} {τ ρ:List L} (h:Ga S τ ρ) (n0:Nat) (gs:List Nat):Ga (S.gc n0 gs) τ ρ:=
 ⟨h.n,h.env,h.lt,fun f hf=>h.fs f (qa.1 hf).1,fun x hx=>h.rw x (qa.1 hx).1,fun x hx=>h.cl x (qa.1 hx).1,fun x hx=>h.bd x (qa.1 hx).1,fun x hx=>h.al x (qa.1 hx).1,fun x hx=>h.ll x (qa.1 hx).1,fun x hx=>h.sm x (qa.1 hx).1,fun x hx=>h.pr x (qa.1 hx).1⟩
def AS.meet (S:AS) (n n0:Nat) (xs:List At):Option AS:=(S.names xs).map fun y=> ({y.2 with env:=S.env.take n++y.1}:AS).gc n0 y.1
theorem Qs:∀{xs:List At} {S S':AS} {τ ρ:List L} {gs:List Nat},Ga S τ ρ→S.names xs=some (gs,S')→∃zs,Ga S' (τ++zs) ρ∧S'.env=S.env∧(∀g∈gs,g<S'.n)∧gs.map (at' (τ++zs))=xs.map (At.ev ρ)
 |[],S,S',τ,ρ,gs,h,hn=>by
  cases hn;exact⟨[],by simpa using h,rfl,fun g hg=> (by cases hg),rfl⟩
 | x ::xs,S,S',τ,ρ,gs,h,hn=>by
  have step:∀(N:bN) (l:L),N.ok τ l→x.ev ρ=l→((S.qG N).bind fun S'=> (S'.names xs).map fun y=> (S.n::y.1,y.2))=some (gs,S')→∃zs,Ga S' (τ++zs) ρ∧S'.env=S.env∧(∀g∈gs,g<S'.n)∧gs.map (at' (τ++zs))=(x::xs).map (At.ev ρ):=fun N l hN hl hb=>by
   simp only[gE,aW]at hb;obtain⟨S1,h1,y,h2,h3⟩:=hb;cases h3;obtain⟨g1,g2⟩:=h.qG h1 hN;obtain⟨zs,k1,k0,k2,k3⟩:=Qs g1 h2;refine⟨l::zs,by simpa using k1,k0.trans g2,fun g hg=> ?_,?_⟩
   · rcases cU.1 hg with rfl|hg
     · have:=k1.n;simp only[dL,um]at this;have:=h.n;omega
     · exact k2 g hg
   · simp only[bC];have e1:at' (τ++(l::zs)) S.n=l:=by
       rw[show τ++(l::zs)=(τ++ [l])++zs by simp,s_ (by have:=h.n;simp_all),←h.n];exact B4 τ l
     simp_all
  cases x with
  |v i=>
   simp only[AS.names]at hn
   cases hg:S.env[i]? with
   |none=>simp_all
   | some g=>
     rw[hg]at hn;simp only[aW]at hn;obtain⟨y,h2,h3⟩:=hn;cases h3;obtain⟨zs,k1,k0,k2,k3⟩:=Qs h h2;have hlt:=h.lt g (cH hg);refine⟨zs,k1,k0,fun g' hg'=> ?_,?_⟩
     · rcases cU.1 hg' with rfl|hg'
       · have q:=k1.n;have:=h.n;simp only[dL]at q;omega
       · exact k2 g' hg'
     · simp only[bC,k3];rw[s_ (by rw[h.n];exact hlt),h.ev,hg]
  |i c=>exact step {al:=some (0,c)} (.i c) (uO (by simp[aL,gh,L.af])) rfl hn
  |b t=>exact step {bd:=some (.iF t)} (.b t) (Kj (b:= .iF t) rfl) rfl hn
  |s x=>exact step {fs:=uz (3*S.n+3) (0,x.size)} (.s x) (eO (YS (by rw[←h.n,Cp];simp[aL,gh,L.cv]))) rfl hn
  |r0=>exact step {rw:=some none,ll:=some (0,0)} (.r []) (si (z:=none) holds_nil rfl fun y hy=>yG (by rfl) hy) rfl hn
theorem awZ {S S':AS} {τ ρ:List L} {n n0:Nat} {xs:List At} (h:Ga S τ ρ) (hm:S.meet n n0 xs=some S'):∃zs,Ga S' (τ++zs) (ρ.take n++xs.map (At.ev ρ)):=by
 simp only[AS.meet,aW]at hm;obtain⟨⟨gs,S1⟩,h1,rfl⟩:=hm;obtain⟨zs,k1,k0,k2,k3⟩:=Qs h h1;refine⟨zs,Ga.gc ?_ n0 gs⟩;refine⟨k1.n,?_,fun g hg=> ?_,k1.fs,k1.rw,k1.cl,k1.bd,k1.al,k1.ll,k1.sm,k1.pr⟩
 · rw[ej,k3];congr 1
   conv=>lhs;rw[k1.env]
   simp_all
 · rcases ei.1 hg with hg|hg
   · exact k1.lt g (by rw[k0];exact hU hg)
   · exact k2 g hg
def Wx (i:Inv) (fs:List Fa) (cur nxt b:Li):Bool:=match i.up with
 |true=>dj fs cur nxt (-1)&&dj fs cur b i.c
 |false=>dj fs nxt cur (-1)&&dj fs b cur (-i.c)
theorem Bq {n:Nat} {ρ ρ' ys:List L} (hp:ρ'=ρ++ys) (hn:n=ρ.length):(atoms n).map (At.ev ρ')=ρ:=by
 subst hp;subst hn;apply uj;intro j;simp only[atoms,iP,bO];by_cases hj:j<ρ.length
 · rw[pY hj,bX hj];simp[At.ev,nS hj,hj]
 simp_all
def qu (s:aO) (xs:List At):List Nat→AS→Bool
 |[],S=>xs.length==s.gG&&s.cases.any fun T=>S.Js s.cE xs T
 |j::r,S=>match xs[j]? with
  |some x=> (match S.assume x true with|some S1=>qu s xs r S1|none=>true)&& (match S.assume x false with|some S1=>qu s xs r S1|none=>true)
  |none=>false
theorem yS {s:aO} {xs:List At} {ls ys:List L} (hl:ls.length=s.cE) {τ:List L}:∀{r:List Nat} {S:AS},Ga S τ (ls++ys)→qu s xs r S=true→xs.length=s.gG∧∃T∈s.cases,T.ok (ls++xs.map (At.ev (ls++ys)))
 |[],S,h,hp=>by
  simp only[qu,bt,Dh]at hp;obtain⟨h1,T,h2,h3⟩:=hp;refine⟨eq_of_beq h1,T,h2,?_⟩;rw[aDf]at h3;have:=h.dN h3;rw[ej,Bq (ys:=ys) rfl hl.symm]at this;exact this
 | j ::r,S,h,hp=>by
  simp only[qu]at hp;split at hp
  · rename_i x hx;simp only[bt]at hp
    cases ht:(x.ev (ls++ys)).br with
    |true=>
     obtain⟨S1,h1,_,h2⟩:=h.assume ht;have hp:=hp.1;rw[h1]at hp;exact yS hl h2 hp
    |false=>
     obtain⟨S1,h1,_,h2⟩:=h.assume ht;have hp:=hp.2;rw[h1]at hp;exact yS hl h2 hp
  · cases hp
def lvM (lvs:List Lv):Nat:=match lvs.find? fun lv=>lv.k==0 with
 |some lv=>lv.xs.length
 |none=>0
def kc (tb:Nat→Option aO):ad→bw→AS→Option (List Lv)
 | .ar (.jump k xs),_,S=>some [⟨k,S,xs⟩]
 | .ar (.st _ _),_,_=>none
 | .op nd k,a,S=>match nd with
  | .call t _ args n us=>match tb t with
   |some s=>match iY S s args n us with
    |some Ss=>qh (kc tb k a) Ss
    |none=>none
   |none=>none
  | nd=>match FF S nd with
   |some Ns=>match S.sB Ns with
    |some S'=>kc tb k a S'
    |none=>none
   |none=>none
 | .ite c x y,a,S=>
  match(match S.assume c true with|some S1=>kc tb x a.fst S1|none=>some []),(match S.assume c false with|some S1=>kc tb y a.snd S1|none=>some [])with
  |some p,some q=>some (p++q)
  |_,_=>none
 | .join x y,a,S=>match kc tb x a.fst S with
  | some lvs=>match a.aqQ with
   | none=>qh (fun lv=>match lv.k with
    |0=>match lv.S.meet S.env.length S.n lv.xs with
     |some S'=>kc tb y a.snd S'
     |none=>none
    |k+1=>some [⟨k,lv.S,lv.xs⟩]) lvs
   | some (sp,ts)=>
    match qh (fun lv=>match lv.k with
     |0=>if qu ⟨S.env.length,lvM lvs,{},ts⟩ lv.xs sp lv.S=true then some []else none
     |k+1=>some [⟨k,lv.S,lv.xs⟩]) lvs,qh (fun T=>match S.D1 S.env.length (lvM lvs) T with
      |some S'=>kc tb y a.snd S'
      |none=>none) ts with
    |some p,some q=>some (p++q)
    |_,_=>none
  |none=>none
 | .loop init body,a,S=>match a with
  | .l i a=>
   let n:=S.env.length
   if qu ⟨n,init.length,{},i.ts⟩ init i.sp S=true then qh (fun T=>match S.D1 n init.length T with
    | some S1=>match kc tb body a S1 with
     | some lvs=>qh (fun lv=>match lv.k with
      |0=>match lv.S.qd (n+init.length) [] i.t,lv.S.qd n lv.xs i.t,lv.S.qd n [] i.b with
       |some cur,some nxt,some b=>if qu ⟨n,init.length,{},i.ts⟩ lv.xs i.sp lv.S=true∧Wx i lv.S.fs cur nxt b=true then some []else none
       |_,_,_=>none
      |k+1=>some [⟨k,lv.S,lv.xs⟩]) lvs
     |none=>none
    |none=>none) i.ts
   else none
  |_=>none
def pD (tb:Nat→Option aO):ad→Prop
 | .ar _=>True
 | .op nd k=> (match nd with| .call t F _ _ _=>∀s,tb t=some s→s.ok F|_=>True)∧pD tb k
 | .ite _ x y=>pD tb x∧pD tb y
 | .join x y=>pD tb x∧pD tb y
 | .loop _ y=>pD tb y
def An (τ:List L) (lvs:List Lv) (x:Lf) (ρ':List L):Prop:=∃lv∈lvs,x= .jump lv.k lv.xs∧∃zs,Ga lv.S (τ++zs) ρ'
theorem og:∀(f:ad) {ρ ρ':List L} {x:Lf},f.aa ρ=some (x,ρ')→∃ys,ρ'=ρ++ys
 | .ar x,ρ,ρ',y,h=>by cases h;simp_all
 | .op nd k,ρ,ρ',y,h=>by
  simp only[ad.aa]at h;split at h
  · obtain⟨ys,h1⟩:=og k h;exact⟨_,by rw[h1,e_]⟩
  · cases h
 | .ite c a b,ρ,ρ',y,h=>by
  simp only[ad.aa]at h;split at h
  · exact og a h
  · exact og b h
 | .join a b,ρ,ρ',y,h=>by
  simp only[ad.aa]at h;split at h
  · obtain⟨ys,h1⟩:=og b h;exact⟨_,by rw[h1,e_]⟩
  · rename_i hb;cases h;exact og a hb
  · exact og a h
 | .loop init body,ρ,ρ',y,h=>by
  simp only[ad.aa]at h;obtain⟨n,hn⟩:=vS h;generalize init.map (At.ev ρ)=a at hn
  induction n generalizing a with
  |zero=>cases hn
  | succ n ih=>
    simp only[fm]at hn;split at hn
    · exact ih _ hn
    · rename_i r hr;cases hn;simp only[iT]at hr;split at hr
      · cases hr
      · rename_i hb;cases hr;obtain⟨ys,h1⟩:=og body hb;exact⟨a++ys,by rw[h1,e_]⟩
      · rename_i hb;cases hr;obtain⟨ys,h1⟩:=og body hb;exact⟨a++ys,by rw[h1,e_]⟩
      · cases hr
    · cases hn
theorem tn {tb:Nat→Option aO}:∀(f:ad) {a:bw} {S:AS} {τ ρ:List L} {lvs:List Lv},Ga S τ ρ→pD tb f→kc tb f a S=some lvs→∃x ρ',f.aa ρ=some (x,ρ')∧An τ lvs x ρ'
 | .ar x,a,S,τ,ρ,lvs,h,_,he=>by
  cases x with
  |st=>cases he
  |jump k xs=>cases he;exact⟨_,_,rfl,_,eS.2 rfl,rfl,[],by simpa using h⟩
 | .op nd k,a,S,τ,ρ,lvs,h,hc,he=>by
  have ext:∀(ls:List L) (S':AS) (RX:List Lv),nd.ev ρ=some ls→Ga S' (τ++ls) (ρ++ls)→kc tb k a S'=some RX→(∀z∈RX,z∈lvs)→∃x ρ',(ad.op nd k).aa ρ=some (x,ρ')∧An τ lvs x ρ':=fun ls S' RX h1 h2 h3 h4=>by
    obtain⟨x,ρ',q1,lv,q2,q3,zs,q4⟩:=tn k h2 hc.2 h3;exact⟨x,ρ',by rw[ad.aa,h1];exact q1,lv,h4 lv q2,q3,ls++zs,by rw[←e_];exact q4⟩
  have plain:(match FF S nd with|some Ns=> (match S.sB Ns with|some S'=>kc tb k a S'|none=>none)|none=>none)=some lvs→∃x ρ',(ad.op nd k).aa ρ=some (x,ρ')∧An τ lvs x ρ':=fun he=>by
    split at he
    · rename_i Ns hN;split at he
      · rename_i S' hS;obtain⟨ls,h1,h2⟩:=aEL h hN;exact ext ls S' lvs h1 (h.sB hS h2) he fun z hz=>hz
      · cases he
    · cases he
  cases nd with
  | call t F args n us=>
    simp only[kc]at he;split at he
    · rename_i s hs;split at he
      · rename_i Ss hSs;obtain⟨o,h1,S',h2,h3⟩:=aje h (hc.1 s hs) (tag:=t) hSs;obtain⟨zs,h4,h5⟩:=vq he h2;exact ext o S' zs h1 h3 h4 h5
      · cases he
    · cases he
  |_=>exact plain he
 | .ite c x y,a,S,τ,ρ,lvs,h,hc,he=>by
  simp only[kc]at he;split at he
  · rename_i p q hp hq;cases he
    cases ht:(c.ev ρ).br with
    | true=>
      obtain⟨S1,h1,_,h2⟩:=h.assume ht;rw[h1]at hp;obtain⟨x1,ρ',q1,lv,q2,q3⟩:=tn x h2 hc.1 hp;exact⟨x1,ρ',by rw[ad.aa,ht];exact q1,lv,ui _ q2,q3⟩
    | false=>
      obtain⟨S1,h1,_,h2⟩:=h.assume ht;rw[h1]at hq;obtain⟨x1,ρ',q1,lv,q2,q3⟩:=tn y h2 hc.2 hq;exact⟨x1,ρ',by rw[ad.aa,ht];exact q1,lv,rR _ q2,q3⟩
  · cases he
 | .join x y,a,S,τ,ρ,lvs,h,hc,he=>by
  simp only[kc,abR]at he;split at he
  · rename_i ls dh;obtain⟨x1,bE,q1,lv,q2,q3,zs,q4⟩:=tn x h hc.1 dh;subst q3;obtain⟨ys,tV⟩:=og x q1;split at he;rotate_left
    · rename_i sp ts hts;split at he
      · rename_i p q hp hq;cases he;obtain⟨ws,h4,h5⟩:=vq hp q2;obtain⟨k,S1,xs⟩:=lv;have hlen:S.env.length=ρ.length:=by rw[h.env];simp
        have ev0:(atoms S.env.length).map (At.ev ρ)=ρ:=Bq (ys:=[]) (by simp) hlen
        cases k with
        | zero=>
          simp only at h4 q4 q1;split at h4
          · rename_i tZ;subst tV;obtain⟨g1,T,g2,g3⟩:=yS (ls:=ρ) (ys:=ys) hlen.symm q4 tZ;obtain⟨us,h6,h7⟩:=vq hq g2;split at h6
            · rename_i S' tY;have g4:=h.ext tY (o:=xs.map (At.ev (ρ++ys))) (by simpa using g1) (by rw[ev0];exact g3);obtain⟨x2,lL,r1,RY,r2,r3,RZ,r4⟩:=tn y g4 hc.2 h6;refine⟨x2,lL,?_,RY,rR _ (h7 _ r2),r3,xs.map (At.ev (ρ++ys))++RZ,by simp_all⟩;rw[ad.aa,q1];exact r1
            · cases h6
          · cases h4
        | succ k=>
          simp only at h4;cases h4;exact⟨_,_,by rw[ad.aa,q1],_,ui _ (h5 _ (eS.2 rfl)),rfl,zs,q4⟩
      · cases he
    obtain⟨ws,h4,h5⟩:=vq he q2;obtain⟨k,S1,xs⟩:=lv
    cases k with
    | zero=>
      simp only at h4 q4 q1;split at h4
      · rename_i S' tY;obtain⟨zs',h6⟩:=awZ q4 tY;have hlen:S.env.length=ρ.length:=by rw[h.env];simp
        rw[tV,hlen,List.take_left,←tV]at h6;obtain⟨x2,lL,r1,RY,r2,r3,RZ,r4⟩:=tn y h6 hc.2 h4;exact⟨x2,lL,by rw[ad.aa,q1];exact r1,RY,h5 _ r2,r3,zs++zs'++RZ,by simpa using r4⟩
      · cases h4
    | succ k=>
      simp only at h4;cases h4;exact⟨_,_,by rw[ad.aa,q1],_,h5 _ (eS.2 rfl),rfl,zs,q4⟩
  · cases he
 | .loop init body,a,S,τ,ρ,lvs,h,hc,he=>by
  cases a with
  |e=>cases he
  |b=>cases he
  |j=>cases he
  | l i a =>
    simp only[kc,abR,Kt,kj]at he;split at he
    · rename_i aHH;have hlen:S.env.length=ρ.length:=by rw[h.env];simp
      have ev0:(atoms S.env.length).map (At.ev ρ)=ρ:=Bq (ys:=[]) (by simp) hlen
      let tv:List L→Int:=fun vs=>bH (ρ++vs) i.t
      let mu:List L→Nat:=fun vs=>if i.up=true then(bH ρ i.b+i.c+1-tv vs).toNat else(tv vs- (bH ρ i.b+i.c)+1).toNat
      have round:∀(vs:List L),vs.length=init.length→(∃T∈i.ts,T.ok (ρ++vs))→(∃r,iT (body.aa (ρ++vs))=some (.inr r)∧An τ lvs r.1 r.2)∨(∃wC,iT (body.aa (ρ++vs))=some (.inl wC)∧wC.length=init.length∧(∃T∈i.ts,T.ok (ρ++wC))∧mu wC<mu vs):=by
        intro vs pI ⟨T,hT,aX⟩;obtain⟨ws0,he,h50⟩:=vq he hT;split at he
        · rename_i S1 hS1;split at he
          · rename_i ls dh;obtain⟨x1,bE,q1,lv,q2,q3,zs,q4⟩:=tn body (h.ext hS1 pI (by simp_all)) hc dh;subst q3;obtain⟨ys,tV⟩:=og body q1;obtain⟨ws,h4,h5⟩:=vq he q2;obtain⟨k,S2,xs⟩:=lv
            cases k with
            | zero=>
              simp only at h4 q4 q1;split at h4
              · rename_i cur nxt b tM aHI hb;split at h4
                · rename_i hcc;obtain⟨tZ,t_⟩:=hcc;have hf:∀f∈S2.fs,f.holds (τ++vs++zs):=fun f hf=>q4.holds hf
                  have e1:=(q4.tr tM).1;have e2:=(q4.tr hb).1;have e3:=(q4.tr aHI).1;have ahE:bE=ρ++(vs++ys):=by rw[tV,e_]
                  have ea:(atoms S.env.length).map (At.ev bE)=ρ:=Bq (ys:=vs++ys) ahE hlen;rw[Bq tV (by simp[hlen,pI])]at e1;rw[ea]at e2;rw[ej,ea]at e3;subst ahE;obtain⟨g1,T',g2,g3⟩:=yS (ls:=ρ) (ys:=vs++ys) hlen.symm q4 tZ;refine .inr ⟨xs.map (At.ev (ρ++(vs++ys))),by simp only[q1,iT],by simpa using g1,⟨T',g2,g3⟩,?_⟩;simp only[mu,tv];unfold Wx at t_;split at t_
                  · rename_i CP;rw[au CP,au CP];simp only[bt]at t_;have r1:=ff hf t_.1;have r2:=ff hf t_.2;omega
                  · rename_i CP;rw[aE (by rw[CP];decide),aE (by rw[CP];decide)];simp only[bt]at t_;have r1:=ff hf t_.1;have r2:=ff hf t_.2;omega
                · cases h4
              · cases h4
            | succ k=>
              simp only at h4;cases h4;have q1:body.aa (ρ++vs)=some (.jump (k+1) xs,bE):=q1;exact .inl ⟨(.jump k xs,bE),by rw[q1];rfl,_,h50 _ (h5 _ (eS.2 rfl)),rfl,vs++zs,by simp_all⟩
          · cases he
        · cases he
      have main:∀(m:Nat) (vs:List L),vs.length=init.length→(∃T∈i.ts,T.ok (ρ++vs))→mu vs≤m→∃r,fP (fun a=>iT (body.aa (ρ++a))) vs=some r∧An τ lvs r.1 r.2:=by
        intro m
        induction m with
        | zero=>
          intro vs pI aX hmu;rcases round vs pI aX with⟨r,h1,h2⟩| ⟨wC,_,_,_,h4⟩
          · exact⟨r,x9 h1,h2⟩
          · omega
        | succ m ih=>
          intro vs pI aX hmu;rcases round vs pI aX with⟨r,h1,h2⟩| ⟨wC,h1,h2,h3,h4⟩
          · exact⟨r,x9 h1,h2⟩
          · obtain⟨r,h5,h6⟩:=ih wC h2 h3 om;exact⟨r,by rw[yr h1];exact h5,h6⟩
      obtain⟨g1,T,g2,g3⟩:=yS (ls:=ρ) (ys:=[]) hlen.symm (by simpa using h) aHH;rw[kj]at g3;obtain⟨r,r1,r2⟩:=main _ (init.map (At.ev ρ)) (by simp) ⟨T,g2,g3⟩ (cT _);exact⟨r.1,r.2,by rw[ad.aa];exact r1,r2⟩
    · cases he
end AI
namespace AI
def AS.start (s:aO):AS:=⟨List.range s.cE,s.cE,s.pre.fs,s.pre.rw,[],s.pre.bs.map fun x=> (x.1,.iF x.2),[],[],[],s.pre.pr⟩
def aO.wf (s:aO):Bool:=s.pre.fs.all (Fa.in s.cE)&&s.pre.rw.all (fun x=>decide (x.1<s.cE))&&s.pre.bs.all (fun x=>decide (x.1<s.cE))&&s.pre.pr.all (fun x=>x.2.all fun g=>decide (g<s.cE))
theorem Ga.start {s:aO} (hw:s.wf=true) {ls:List L} (hl:ls.length=s.cE) (hp:s.pre.ok ls):Ga (AS.start s) ls ls:=by
 simp only[aO.wf,bt,bk,cg]at hw;obtain⟨⟨⟨w1,w2⟩,w3⟩,w4⟩:=hw;refine⟨hl,?_,fun g hg=>ko.1 hg,fun f hf=> ⟨by rw[hl];exact w1 f hf,hp.fs f hf⟩,fun x hx=> ⟨w2 x hx,hp.rw x hx⟩,fun x hx=> (by cases hx),fun x hx=> ?_,fun x hx=> (by cases hx),fun x hx=> (by cases hx),fun x hx=> (by cases hx),fun x hx=> ⟨by rw[hl]at*;exact w4 x hx,hp.pr x hx⟩⟩
 · apply uj;intro j;simp only[AS.start,bO];by_cases hj:j<ls.length
   · rw[pY om,bX hj];simp[at',hj]
   · rw[zC om,zC (by simp;omega)];rfl
 · obtain⟨y,hy,rfl⟩:=dy.1 hx;exact⟨w3 y hy,rfl,hp.bs y hy⟩
def fD (tb:Nat→Option aO) (f:ad) (a:bw) (s:aO) (sp:List Nat):Bool:=s.wf&&match kc tb f a (AS.start s)with
 |some lvs=>lvs.all fun lv=>qu s lv.xs sp lv.S
 |none=>false
theorem gu {tb:Nat→Option aO} {f:ad} {a:bw} {s:aO} {sp:List Nat} (h:fD tb f a s sp=true) (hc:pD tb f):s.ok fun ls=>gn (f.aa ls):=by
 intro ls hl hp;simp only[fD,bt]at h;obtain⟨hw,h⟩:=h;split at h
 · rename_i lvs aHK;obtain⟨x,ρ',h1,lv,h2,rfl,zs,h3⟩:=tn f (Ga.start hw hl hp) hc aHK;obtain⟨ys,rfl⟩:=og f h1;have:=bk.1 h lv h2;obtain⟨h4,T,h5,h6⟩:=yS hl h3 this;exact⟨lv.xs.map (At.ev (ls++ys)),by simp only[h1,gn],by simpa using h4,T,h5,h6⟩
 · cases h
end AI
theorem aAq {A R:Type} {f:A→Option (A ⊕ R)} (I:A→Prop) (Q:R→Prop) (mu:A→Nat)
  (step:∀a,I a→(∃r,f a=some (.inr r)∧Q r)∨(∃a',f a=some (.inl a')∧I a'∧mu a'<mu a)):
  ∀a,I a→∃r,fP f a=some r∧Q r:=by
 have key:∀(n:Nat) (a:A),mu a≤n→I a→∃r,fP f a=some r∧Q r:=by
  intro n
  induction n with
  |zero=>
   intro a hm hI;rcases step a hI with⟨r,h1,h2⟩| ⟨a',_,_,h3⟩
   · exact⟨r,x9 h1,h2⟩
   · omega
  |succ n ih=>
   intro a hm hI;rcases step a hI with⟨r,h1,h2⟩| ⟨a',h1,h2,h3⟩
   · exact⟨r,x9 h1,h2⟩
   · obtain⟨r,h4,h5⟩:=ih a' om h2;exact⟨r,by rw[yr h1];exact h4,h5⟩
 exact fun a hI=>key _ a (cT _) hI
def ad.wp (f:ad) (ρ:List L) (Q:Lf×List L→Prop):Prop:=∃r,f.aa ρ=some r∧Q r
def cD (rest:ad) (ρ:List L) (Q:Lf×List L→Prop) (r:Lf×List L):Prop:=match r with
 | (.jump 0 args,ρ')=>rest.wp (ρ++args.map (At.ev ρ')) Q
 | (.jump (k+1) args,ρ')=>Q (.jump k args,ρ')
 |r=>Q r
def cP (I:List L→Prop) (mu:List L→Nat) (a:List L) (Q:Lf×List L→Prop) (r:Lf×List L):Prop:=match r with
 | (.jump 0 args,ρ')=>I (args.map (At.ev ρ'))∧mu (args.map (At.ev ρ'))<mu a
 | (.jump (k+1) args,ρ')=>Q (.jump k args,ρ')
 |r=>Q r
def b8 (Q:List L→Prop) (r:Lf×List L):Prop:=match r with
 | (.jump 0 args,ρ')=>Q (args.map (At.ev ρ'))
 |_=>False
section
variable {ρ:List L} {Q:Lf×List L→Prop}
theorem b_ {x:Lf}:(ad.ar x).wp ρ Q=Q (x,ρ):=by
 apply propext;constructor
 · rintro⟨r,h1,h2⟩;cases h1;exact h2
 · intro h;exact⟨_,rfl,h⟩
theorem dZ {nd:Nd} {k:ad}:(ad.op nd k).wp ρ Q=match nd.ev ρ with|some ls=>k.wp (ρ++ls) Q|none=>False:=by
 unfold ad.wp;simp only[ad.aa]
 cases nd.ev ρ with
 |none=>simp
 |some ls=>rfl
theorem ck {c:At} {a b:ad}:(ad.ite c a b).wp ρ Q=if(c.ev ρ).br=true then a.wp ρ Q else b.wp ρ Q:=by
 unfold ad.wp;simp only[ad.aa];split<;>rfl
theorem cu {a b:ad}:(ad.join a b).wp ρ Q=a.wp ρ (cD b ρ Q):=by
 apply propext;unfold ad.wp;simp only[ad.aa];constructor
 · rintro⟨r,h1,h2⟩;split at h1
   · rename_i args ρ' ha;exact⟨_,ha,r,h1,h2⟩
   · rename_i k args ρ' ha;cases h1;exact⟨_,ha,h2⟩
   · rename_i h3 h4;refine⟨r,h1,?_⟩;obtain⟨lf,ρ'⟩:=r
     cases lf with
     |st=>exact h2
     |jump k args=>cases k with
      |zero=>exact absurd h1 (h3 _ _)
      |succ k=>exact absurd h1 (h4 _ _ _)
 · rintro⟨⟨lf,ρ'⟩,h1,h2⟩;rw[h1]
   cases lf with
   |st=>exact⟨_,rfl,h2⟩
   | jump k args=>cases k with
     |zero=>exact h2
     |succ k=>exact⟨_,rfl,h2⟩
theorem wp_loop {init:List At} {body:ad} (I:List L→Prop) (mu:List L→Nat) (h0:I (init.map (At.ev ρ))) (step:∀a,I a→body.wp (ρ++a) (cP I mu a Q)):(ad.loop init body).wp ρ Q:=by
 unfold ad.wp;simp only[ad.aa];refine aAq (f:=fun a=>iT (body.aa (ρ++a))) I Q mu (fun a ha=> ?_) _ h0;obtain⟨⟨lf,ρ'⟩,h1,h2⟩:=step a ha
 cases lf with
 |st e S=>exact .inl ⟨(.st e S,ρ'),by rw[h1];rfl,h2⟩
 |jump k args=>cases k with
  |zero=>exact .inr ⟨_,by rw[h1];rfl,h2.1,h2.2⟩
  |succ k=>exact .inl ⟨(.jump k args,ρ'),by rw[h1];rfl,h2⟩
theorem ad.wp.mono {f:ad} {Q':Lf×List L→Prop} (h:f.wp ρ Q) (hQ:∀r,Q r→Q' r):f.wp ρ Q':=by
 obtain⟨r,h1,h2⟩:=h;exact⟨r,h1,hQ r h2⟩
end
theorem iS {f:ad} {ls:List L} {Q:List L→Prop} (h:f.wp ls (b8 Q)):∃o,Fo f ls=some o∧Q o:=by
 obtain⟨⟨lf,ρ'⟩,h1,h2⟩:=h
 cases lf with
 |st=>exact h2.elim
 |jump k args=>cases k with
  |zero=>exact⟨_,by unfold Fo;rw[h1];rfl,h2⟩
  |succ k=>exact h2.elim
theorem oY (n:Int):(L.i n).af=n:=rfl
theorem DF (b:Bool):(L.b b).br=b:=rfl
theorem mA (r:List (List PV)):(L.r r).ah=r:=rfl
section
variable {α:Type} {a:α} {l m:List α} {n:Nat}
theorem d1:(a::l)++m=a::(l++m):=rfl
theorem d2:([]:List α)++m=m:=rfl
theorem d3:(a::l)[n+1]? =l[n]?:=rfl
theorem d4:(a::l)[0]? =some a:=rfl
theorem d5 {b:α}:(some a).getD b=a:=rfl
theorem d6 {n:Int}:(L.i n).af=n:=rfl
theorem d7 {b:Bool}:(L.b b).br=b:=rfl
theorem d8 {b:List (List PV)}:(L.r b).ah=b:=rfl
theorem d9 {b:List PV}:(L.c b).jl=b:=rfl
theorem e0 {b:cn}:(L.s b).cv=b:=rfl
end
namespace AI
theorem wrap64 {n:Int} (h0: -9223372036854775808≤n) (h1:n≤9223372036854775807):IntKind.wrap .i64 n=n:=r9 .i64 h0 h1
theorem GW (k:bS) (n:Int):k.min≤k.wrap n∧k.wrap n≤k.max:=by
 have:=(k_ (k:=some k) (t:=1) (τ:=[.i (k.wrap n)]) (n:=n) rfl)
 have h1:=this _ ek;have h2:=this _ (fb _ ek);simp[Fa.holds,iZ,kb,bH,L.af]at h1 h2;omega
end AI
theorem a_ {f:ad} {ls o:List L} (h:f.wp ls (b8 fun x=>x=o)):Fo f ls=some o:=by
 obtain⟨x,h1,rfl⟩:=iS h;exact h1
theorem fF {b:Bool} {P:Prop} (hb:b=true ↔ P) (h:¬P):b=false:=by
 cases b with
 |true=>exact absurd (hb.1 rfl) h
 |false=>rfl
section
variable {ρ:List L} {Q:Lf×List L→Prop} {k:ad}
theorem fI {nd:Nd}:(ad.op nd k).wp ρ Q=∃ls,nd.ev ρ=some ls∧k.wp (ρ++ls) Q:=by
 rw[dZ];cases nd.ev ρ<;>simp
theorem Bu {o:Option L} {P:List L→Prop}:(∃ls,o.map ([·])=some ls∧P ls)=∃l,o=some l∧P [l]:=by
 apply propext;cases o<;>simp
theorem jm {op:BinOp} {kd:bS} {x y:At}:(ad.op (.bi op kd x y) k).wp ρ Q=∃l,bF op kd (x.ev ρ).af (y.ev ρ).af=some l∧k.wp (ρ++ [l]) Q:=by
 rw[fI];simp only[Nd.ev];exact Bu
theorem jL {op:BinOp} {x y:At}:(ad.op (.bs op x y) k).wp ρ Q=∃l,sa op (x.ev ρ).cv (y.ev ρ).cv=some l∧k.wp (ρ++ [l]) Q:=by
 rw[fI];simp only[Nd.ev];exact Bu
theorem jT {op:BinOp} {x y:At}:(ad.op (.bb op x y) k).wp ρ Q=∃l,cr op (x.ev ρ).br (y.ev ρ).br=some l∧k.wp (ρ++ [l]) Q:=by
 rw[fI];simp only[Nd.ev];exact Bu
theorem ka {x:At}:(ad.op (.not x) k).wp ρ Q=k.wp (ρ++ [.b (!(x.ev ρ).br)]) Q:=by rw[fI];simp[Nd.ev]
theorem jG {kd:bS} {x:At}:(ad.op (.conv kd x) k).wp ρ Q=k.wp (ρ++ [.i (kd.wrap (x.ev ρ).af)]) Q:=by rw[fI];simp[Nd.ev]
theorem jK {x:At}:(ad.op (.len x) k).wp ρ Q=k.wp (ρ++ [.i (x.ev ρ).ah.length]) Q:=by rw[fI];simp[Nd.ev]
theorem jt {x i:At} {n:Nat}:(ad.op (.row x i n) k).wp ρ Q=(0≤(i.ev ρ).af∧∃r,(x.ev ρ).ah[(i.ev ρ).af.toNat]? =some r∧r.length=n∧k.wp (ρ++ [.c r]) Q):=by
 rw[fI];simp only[Nd.ev];apply propext;by_cases h0:0≤(i.ev ρ).af
 · simp only[h0,if_true,true_and]
   cases(x.ev ρ).ah[(i.ev ρ).af.toNat]? with
   |none=>simp
   |some r=>by_cases hr:r.length=n<;>simp[hr]
 · simp[h0]
theorem jN {x i:At} {j:Nat} {kd:Kd}:(ad.op (.rc x i j kd) k).wp ρ Q=∃r,(x.ev ρ).ah[(i.ev ρ).af.toNat]? =some r∧∃q,r[j]? =some q∧∃l,kd.of q=some l∧k.wp (ρ++ [l]) Q:=by
 rw[fI];simp only[Nd.ev];apply propext
 cases(x.ev ρ).ah[(i.ev ρ).af.toNat]? with
 |none=>simp
 |some r=>cases hr:r[j]? with
  |none=>simp[hr]
  |some q=>simp only[im,hr,exists_eq_left'];exact iff_of_eq Bu
theorem iA {x:At} {j:Nat} {kd:Kd}:(ad.op (.cl x j kd) k).wp ρ Q=∃q,(x.ev ρ).jl[j]? =some q∧∃l,kd.of q=some l∧k.wp (ρ++ [l]) Q:=by
 rw[fI];simp only[Nd.ev];apply propext
 cases(x.ev ρ).jl[j]? with
 |none=>simp
 |some q=>simp only[im,exists_eq_left'];exact iff_of_eq Bu
theorem zN {α:Type} {c:Prop} [Decidable c] {a:α} {P:α→Prop}:(∃x,(if c then some a else none)=some x∧P x)=(c∧P a):=by
 apply propext;by_cases h:c<;>simp[h]
theorem jJ {i:At} {c:Nat}:(ad.op (.fo i c) k).wp ρ Q=((0≤(i.ev ρ).af∧(i.ev ρ).af<c)∧k.wp (ρ++ []) Q):=by rw[fI];simp only[Nd.ev];exact zN
theorem jV {xs:List At} {i:At}:(ad.op (.iG xs i) k).wp ρ Q=∃x,xs[(i.ev ρ).af.toNat]? =some x∧k.wp (ρ++ [x.ev ρ]) Q:=by
 rw[fI];simp only[Nd.ev];cases xs[(i.ev ρ).af.toNat]? <;>simp
theorem kp {x i:At} {n:Nat} {y:At}:(ad.op (.jk x i n y) k).wp ρ Q=k.wp (ρ++ [if(i.ev ρ).af.toNat=n then y.ev ρ else x.ev ρ]) Q:=by rw[fI];simp[Nd.ev]
theorem kx {x lo hi:At} {n:Nat}:(ad.op (.part x lo hi n) k).wp ρ Q=((0≤(lo.ev ρ).af∧(lo.ev ρ).af≤(hi.ev ρ).af∧(hi.ev ρ).af.toNat≤(x.ev ρ).ah.length∧bA n (x.ev ρ).ah=true)∧k.wp (ρ++ [.r (((x.ev ρ).ah.take (hi.ev ρ).af.toNat).drop (lo.ev ρ).af.toNat)]) Q):=by rw[fI];simp only[Nd.ev];exact zN
theorem ke {x lo hi:At} {n:Nat}:(ad.op (.cut x lo hi n) k).wp ρ Q=((0≤(lo.ev ρ).af∧(lo.ev ρ).af≤(hi.ev ρ).af∧(hi.ev ρ).af.toNat≤(x.ev ρ).ah.length∧qy n (x.ev ρ).ah=true)∧k.wp (ρ++ [.i (((hi.ev ρ).af.toNat- (lo.ev ρ).af.toNat:Nat):Int)]) Q):=by rw[fI];simp only[Nd.ev];exact zN
theorem jZ {x lo ln:At}:(ad.op (.vw x lo ln) k).wp ρ Q=k.wp (ρ++ [.r (((x.ev ρ).ah.drop (lo.ev ρ).af.toNat).take (ln.ev ρ).af.toNat)]) Q:=by rw[fI];simp[Nd.ev]
theorem jU {x ln:At}:(ad.op (.tk x ln) k).wp ρ Q=k.wp (ρ++ [.r ((x.ev ρ).ah.take (ln.ev ρ).af.toNat)]) Q:=by rw[fI];simp[Nd.ev]
theorem jI {x y:At} {n b:Nat}:(ad.op (.app x y n b) k).wp ρ Q=(((x.ev ρ).ah.length+(y.ev ρ).ah.length≤9223372036854775807∧((x.ev ρ).ah.length+(y.ev ρ).ah.length)*b≤140737488355328∧bA n (x.ev ρ).ah=true∧bA n (y.ev ρ).ah=true)∧k.wp (ρ++ [.r ((x.ev ρ).ah++(y.ev ρ).ah)]) Q):=by rw[fI];simp only[Nd.ev];exact zN
theorem ju {x i:At} {j:Nat} {ps:List (Kd×At)}:(ad.op (.set x i j ps) k).wp ρ Q=∃r,(x.ev ρ).ah[(i.ev ρ).af.toNat]? =some r∧j+ps.length≤r.length∧k.wp (ρ++ [.r ((x.ev ρ).ah.set (i.ev ρ).af.toNat (r.take j++bp ρ ps++r.drop (j+ps.length)))]) Q:=by
 rw[fI];simp only[Nd.ev]
 cases(x.ev ρ).ah[(i.ev ρ).af.toNat]? with
 |none=>simp
 |some r=>by_cases hr:j+ps.length≤r.length<;>simp[hr]
theorem jP {rows:List (List (Kd×At))}:(ad.op (.lit rows) k).wp ρ Q=k.wp (ρ++ [.r (rows.map (bp ρ))]) Q:=by rw[fI];simp[Nd.ev]
theorem kz {x y:At}:(ad.op (.mn x y) k).wp ρ Q=k.wp (ρ++ [.i (if(y.ev ρ).af< (x.ev ρ).af then(y.ev ρ).af else(x.ev ρ).af)]) Q:=by rw[fI];simp[Nd.ev]
theorem kA {x y:At}:(ad.op (.mx x y) k).wp ρ Q=k.wp (ρ++ [.i (if(y.ev ρ).af> (x.ev ρ).af then(y.ev ρ).af else(x.ev ρ).af)]) Q:=by rw[fI];simp[Nd.ev]
theorem fi {t:Nat} {F:List L→Option (List L)} {args:List At} {n:Nat} {us:List Nat}:(ad.op (.call t F args n us) k).wp ρ Q=∃l,F (args.map (At.ev ρ))=some l∧(l.length=n∧(us.all fun i=> ((l[i]?).getD (.b false)).ah.all (·.all PV.bare))=true)∧k.wp (ρ++l) Q:=by
 rw[fI];simp only[Nd.ev];apply propext
 cases F (args.map (At.ev ρ))with
 |none=>simp
 |some l=>simp only[im,exists_eq_left'];exact iff_of_eq zN
end
theorem aAs {ρ:List L} {Q:Lf×List L→Prop} {c:At} {a b:ad}:(ad.ite c a b).wp ρ Q=(((c.ev ρ).br=true→a.wp ρ Q)∧((c.ev ρ).br=false→b.wp ρ Q)):=by
 rw[ck];cases(c.ev ρ).br<;>simp
section
variable {ρ:List L} {Q:Lf×List L→Prop} {k:ad}
theorem b5 {op:BinOp} {kd:bS} {x y:At} {l:L} (h:bF op kd (x.ev ρ).af (y.ev ρ).af=some l) (hk:k.wp (ρ++ [l]) Q):(ad.op (.bi op kd x y) k).wp ρ Q:=by rw[jm];exact⟨l,h,hk⟩
theorem pd {op:BinOp} {x y:At} {l:L} (h:sa op (x.ev ρ).cv (y.ev ρ).cv=some l) (hk:k.wp (ρ++ [l]) Q):(ad.op (.bs op x y) k).wp ρ Q:=by rw[jL];exact⟨l,h,hk⟩
theorem ayo {op:BinOp} {x y:At} {l:L} (h:cr op (x.ev ρ).br (y.ev ρ).br=some l) (hk:k.wp (ρ++ [l]) Q):(ad.op (.bb op x y) k).wp ρ Q:=by rw[jT];exact⟨l,h,hk⟩
theorem atx {x:At} (hk:k.wp (ρ++ [.b (!(x.ev ρ).br)]) Q):(ad.op (.not x) k).wp ρ Q:=by rw[ka];exact hk
theorem jz {kd:bS} {x:At} (hk:k.wp (ρ++ [.i (kd.wrap (x.ev ρ).af)]) Q):(ad.op (.conv kd x) k).wp ρ Q:=by rw[jG];exact hk
theorem HA {x:At} (hk:k.wp (ρ++ [.i (x.ev ρ).ah.length]) Q):(ad.op (.len x) k).wp ρ Q:=by rw[jK];exact hk
theorem oe {x i:At} {n:Nat} {r:List PV} (h0:0≤(i.ev ρ).af) (h1:(x.ev ρ).ah[(i.ev ρ).af.toNat]? =some r) (h2:r.length=n) (hk:k.wp (ρ++ [.c r]) Q):(ad.op (.row x i n) k).wp ρ Q:=by rw[jt];exact⟨h0,r,h1,h2,hk⟩
theorem mm {x i:At} {j:Nat} {kd:Kd} {r:List PV} {q:PV} {l:L} (h1:(x.ev ρ).ah[(i.ev ρ).af.toNat]? =some r) (h2:r[j]? =some q) (h3:kd.of q=some l) (hk:k.wp (ρ++ [l]) Q):(ad.op (.rc x i j kd) k).wp ρ Q:=by rw[jN];exact⟨r,h1,q,h2,l,h3,hk⟩
theorem aDE {x:At} {j:Nat} {kd:Kd} {q:PV} {l:L} (h1:(x.ev ρ).jl[j]? =some q) (h2:kd.of q=some l) (hk:k.wp (ρ++ [l]) Q):(ad.op (.cl x j kd) k).wp ρ Q:=by rw[iA];exact⟨q,h1,l,h2,hk⟩
theorem B3 {i:At} {c:Nat} (h:0≤(i.ev ρ).af∧(i.ev ρ).af<c) (hk:k.wp (ρ++ []) Q):(ad.op (.fo i c) k).wp ρ Q:=by rw[jJ];exact⟨h,hk⟩
theorem Gy {xs:List At} {i:At} {x:At} (h:xs[(i.ev ρ).af.toNat]? =some x) (hk:k.wp (ρ++ [x.ev ρ]) Q):(ad.op (.iG xs i) k).wp ρ Q:=by rw[jV];exact⟨x,h,hk⟩
theorem pz {x lo hi:At} {n:Nat} (h:0≤(lo.ev ρ).af∧(lo.ev ρ).af≤(hi.ev ρ).af∧(hi.ev ρ).af.toNat≤(x.ev ρ).ah.length∧qy n (x.ev ρ).ah=true) (hk:k.wp (ρ++ [.i (((hi.ev ρ).af.toNat- (lo.ev ρ).af.toNat:Nat):Int)]) Q):(ad.op (.cut x lo hi n) k).wp ρ Q:=by rw[ke];exact⟨h,hk⟩
theorem Ku {x lo ln:At} (hk:k.wp (ρ++ [.r (((x.ev ρ).ah.drop (lo.ev ρ).af.toNat).take (ln.ev ρ).af.toNat)]) Q):(ad.op (.vw x lo ln) k).wp ρ Q:=by rw[jZ];exact hk
theorem avq {x ln:At} (hk:k.wp (ρ++ [.r ((x.ev ρ).ah.take (ln.ev ρ).af.toNat)]) Q):(ad.op (.tk x ln) k).wp ρ Q:=by rw[jU];exact hk
theorem Pk {x y:At} {n b:Nat} (h:(x.ev ρ).ah.length+(y.ev ρ).ah.length≤9223372036854775807∧((x.ev ρ).ah.length+(y.ev ρ).ah.length)*b≤140737488355328∧bA n (x.ev ρ).ah=true∧bA n (y.ev ρ).ah=true) (hk:k.wp (ρ++ [.r ((x.ev ρ).ah++(y.ev ρ).ah)]) Q):(ad.op (.app x y n b) k).wp ρ Q:=by rw[jI];exact⟨h,hk⟩
theorem afa {x i:At} {j:Nat} {ps:List (Kd×At)} {r:List PV} (h1:(x.ev ρ).ah[(i.ev ρ).af.toNat]? =some r) (h2:j+ps.length≤r.length) (hk:k.wp (ρ++ [.r ((x.ev ρ).ah.set (i.ev ρ).af.toNat (r.take j++bp ρ ps++r.drop (j+ps.length)))]) Q):(ad.op (.set x i j ps) k).wp ρ Q:=by rw[ju];exact⟨r,h1,h2,hk⟩
theorem Tg {rows:List (List (Kd×At))} (hk:k.wp (ρ++ [.r (rows.map (bp ρ))]) Q):(ad.op (.lit rows) k).wp ρ Q:=by rw[jP];exact hk
theorem ay {t:Nat} {F:List L→Option (List L)} {args:List At} {n:Nat} {us:List Nat} {l:List L} (h:F (args.map (At.ev ρ))=some l) (hl:l.length=n) (hu:(us.all fun i=> ((l[i]?).getD (.b false)).ah.all (·.all PV.bare))=true) (hk:k.wp (ρ++l) Q):(ad.op (.call t F args n us) k).wp ρ Q:=by rw[fi];exact⟨l,h,⟨hl,hu⟩,hk⟩
theorem bg {c:At} {a b:ad} (ht:(c.ev ρ).br=true→a.wp ρ Q) (hf:(c.ev ρ).br=false→b.wp ρ Q):(ad.ite c a b).wp ρ Q:=by rw[aAs];exact⟨ht,hf⟩
theorem iz {c:At} {a b:ad} (hc:(c.ev ρ).br=true) (ha:a.wp ρ Q):(ad.ite c a b).wp ρ Q:=by rw[ck,au hc];exact ha
theorem cW {c:At} {a b:ad} (hc:(c.ev ρ).br=false) (hb:b.wp ρ Q):(ad.ite c a b).wp ρ Q:=by rw[ck,aE (by rw[hc];decide)];exact hb
theorem JF {a b:ad} (h:a.wp ρ (cD b ρ Q)):(ad.join a b).wp ρ Q:=by rw[cu];exact h
theorem ae {x:Lf} (h:Q (x,ρ)):(ad.ar x).wp ρ Q:=by rw[b_];exact h
def Nd.KA (ρ:List L):Nd→Option L
 | .len x=>some (.i (x.ev ρ).ah.length)
 | .bi op kd x y=>bF op kd (x.ev ρ).af (y.ev ρ).af
 | .cl x j kd=>match(x.ev ρ).jl[j]? with
  |some q=>kd.of q
  |none=>none
 | .not x=>some (.b (!(x.ev ρ).br))
 | .conv kd x=>some (.i (kd.wrap (x.ev ρ).af))
 | .lit rows=>some (.r (rows.map (bp ρ)))
 | .vw x lo ln=>some (.r (((x.ev ρ).ah.drop (lo.ev ρ).af.toNat).take (ln.ev ρ).af.toNat))
 | .tk x ln=>some (.r ((x.ev ρ).ah.take (ln.ev ρ).af.toNat))
 | .bb op x y=>cr op (x.ev ρ).br (y.ev ρ).br
 |_=>none
theorem sN {nd:Nd} {l:L} (h:nd.KA ρ=some l) (hk:k.wp (ρ++ [l]) Q):(ad.op nd k).wp ρ Q:=by
 cases nd with
 |len x=>cases h;exact HA hk
 |bi op kd x y=>exact b5 h hk
 |cl x j kd=>
  unfold Nd.KA at h
  cases hq:(x.ev ρ).jl[j]? with
  |none=>simp[hq]at h
  |some q=>exact aDE hq (by simpa[hq]using h) hk
 |not x=>cases h;exact atx hk
 |conv kd x=>cases h;exact jz hk
 |lit rows=>cases h;exact Tg hk
 |vw x lo ln=>cases h;exact Ku hk
 |tk x ln=>cases h;exact avq hk
 |bb op x y=>exact ayo h hk
 |_=>cases h
end
theorem oO {P:Prop} (h:P:=by(try dsimp only[At.ev,d1,d2,d3,d4,d5,d6,d7,d8,d9,e0,List.map,bp,Kd.pv]); (first|done|omega| (simp only[dL,dX,pZ,oT,um,ax]<;>omega))):P:=h
theorem nW {f:ad} {ρ ρ':List L} {Q:Lf×List L→Prop} (h:f.wp ρ' Q) (e:ρ=ρ':=by(try dsimp only[At.ev,d1,d2,d3,d4,d5,d6,d7,d8,d9,e0,List.map,bp,Kd.pv])<;>rfl):f.wp ρ Q:=e▸h
section
variable {ρ:List L} {Q:Lf×List L→Prop} {k:ad}
theorem lW {nd:Nd} {ls:List L} (h:nd.ev ρ=some ls) (hk:k.wp (ρ++ls) Q):(ad.op nd k).wp ρ Q:=by rw[fI];exact⟨ls,h,hk⟩
theorem GH {x y:At} {n:Int} (h:min (x.ev ρ).af (y.ev ρ).af=n) (hk:k.wp (ρ++ [.i n]) Q):(ad.op (.mn x y) k).wp ρ Q:=lW (by simp only[Nd.ev];rw[←h];congr 3;split<;>omega) hk
theorem QP {x y:At} {n:Int} (h:max (x.ev ρ).af (y.ev ρ).af=n) (hk:k.wp (ρ++ [.i n]) Q):(ad.op (.mx x y) k).wp ρ Q:=lW (by simp only[Nd.ev];rw[←h];congr 3;split<;>omega) hk
theorem Ao {x:At} (hk:k.wp (ρ++ [.i (x.ev ρ).cv.size]) Q):(ad.op (.mw x) k).wp ρ Q:=lW rfl hk
theorem AH {x lo hi:At} {n:Nat} {r:List (List PV)} (h:0≤(lo.ev ρ).af∧(lo.ev ρ).af≤(hi.ev ρ).af∧(hi.ev ρ).af.toNat≤(x.ev ρ).ah.length∧bA n (x.ev ρ).ah=true) (hr:((x.ev ρ).ah.take (hi.ev ρ).af.toNat).drop (lo.ev ρ).af.toNat=r) (hk:k.wp (ρ++ [.r r]) Q):(ad.op (.part x lo hi n) k).wp ρ Q:=lW (by simp only[Nd.ev];rw[au h,hr]) hk
theorem pB {m:At} {ps:List (Kd×At)} {b:Nat} {r:List (List PV)} (h:0≤(m.ev ρ).af∧(m.ev ρ).af≤9223372036854775807∧b*(m.ev ρ).af.toNat≤281474976710656) (hr:List.replicate (m.ev ρ).af.toNat (bp ρ ps)=r) (hk:k.wp (ρ++ [.r r]) Q):(ad.op (.rep m ps b) k).wp ρ Q:=lW (by simp only[Nd.ev];rw[au h,hr]) hk
theorem agz {x lo ln y:At} {n:Nat} {ls:List L} (h:bA n (y.ev ρ).ah=true∧(lo.ev ρ).af.toNat+(ln.ev ρ).af.toNat≤(x.ev ρ).ah.length)
 (hr:[L.r ((x.ev ρ).ah.take (lo.ev ρ).af.toNat++(y.ev ρ).ah.take (min (y.ev ρ).ah.length (ln.ev ρ).af.toNat)++(x.ev ρ).ah.drop ((lo.ev ρ).af.toNat+min (y.ev ρ).ah.length (ln.ev ρ).af.toNat)),.i ((min (y.ev ρ).ah.length (ln.ev ρ).af.toNat:Nat):Int)]=ls) (hk:k.wp (ρ++ls) Q):(ad.op (.vg x lo ln y n) k).wp ρ Q:=lW (by simp only[Nd.ev];rw[au h,hr]) hk
theorem aCe {x i:At} {b:UInt8} (h0:0≤(i.ev ρ).af) (h1:(x.ev ρ).cv[(i.ev ρ).af.toNat]? =some b) (hk:k.wp (ρ++ [.i b.toNat]) Q):(ad.op (.tE x i) k).wp ρ Q:=lW (by simp only[Nd.ev];rw[au h0,h1]) hk
theorem ra {kd:bS} {x:At} {n:Int} (h:kd.wrap (x.ev ρ).af=n) (hk:k.wp (ρ++ [.i n]) Q):(ad.op (.conv kd x) k).wp ρ Q:=jz (by rw[h];exact hk)
theorem dt {x y:At} {n:Int} (h:(x.ev ρ).af+(y.ev ρ).af=n) (h0: -9223372036854775808≤n) (h1:n≤9223372036854775807) (hk:k.wp (ρ++ [.i n]) Q):(ad.op (.bi .add .i64 x y) k).wp ρ Q:=b5 (by show some (L.i _)=_;rw[h,AI.wrap64 h0 h1]) hk
theorem gY {x y:At} {n:Int} (h:(x.ev ρ).af- (y.ev ρ).af=n) (h0: -9223372036854775808≤n) (h1:n≤9223372036854775807) (hk:k.wp (ρ++ [.i n]) Q):(ad.op (.bi .sub .i64 x y) k).wp ρ Q:=b5 (by show some (L.i _)=_;rw[h,AI.wrap64 h0 h1]) hk
theorem kY {x y:At} {n:Int} (h:(x.ev ρ).af*(y.ev ρ).af=n) (h0: -9223372036854775808≤n) (h1:n≤9223372036854775807) (hk:k.wp (ρ++ [.i n]) Q):(ad.op (.bi .mul .i64 x y) k).wp ρ Q:=b5 (by show some (L.i _)=_;rw[h,AI.wrap64 h0 h1]) hk
theorem bz {α:Type} {f:α→List PV} {l:List α} {x i:At} {n j:Nat} (hx:(x.ev ρ).ah=l.map f) (hi:(i.ev ρ).af=j) (hj:j<l.length) (hn:(f l[j]).length=n) (hk:k.wp (ρ++ [.c (f l[j])]) Q):(ad.op (.row x i n) k).wp ρ Q:=
 oe (by rw[hi];omega) (by rw[hx,hi,gd,bO,bX hj];rfl) hn hk
theorem ee {x y:At} {n b:Nat} {r:List (List PV)} (hx:bA n (x.ev ρ).ah=true) (hy:bA n (y.ev ρ).ah=true) (h1:(x.ev ρ).ah.length≤17179869184) (h2:(y.ev ρ).ah.length≤17179869184) (hb:b≤64) (hr:(x.ev ρ).ah++(y.ev ρ).ah=r) (hk:k.wp (ρ++ [.r r]) Q):(ad.op (.app x y n b) k).wp ρ Q:=
 Pk ⟨by omega,by
  have:((x.ev ρ).ah.length+(y.ev ρ).ah.length)*b≤34359738368*64:=IV om hb;omega,hx,hy⟩ (by rw[hr];exact hk)
def Nd.OM (ρ:List L):Nd→Option L
 | .bi op kd x y=>if mq op=true then bF op kd (x.ev ρ).af (y.ev ρ).af else none
 | .conv _ _=>none
 |nd=>nd.KA ρ
theorem sT {nd:Nd} {l:L} (h:nd.OM ρ=some l) (hk:k.wp (ρ++ [l]) Q):(ad.op nd k).wp ρ Q:=by
 refine sN ?_ hk
 cases nd with
 |bi op kd x y=>
  simp only[Nd.OM]at h;split at h
  · exact h
  · cases h
 |conv=>cases h
 |_=>exact h
theorem uT {nd:Nd} {l:L} {ρ':List L} (h:nd.OM ρ=some l) (hk:k.wp ρ' Q) (e:ρ++ [l]=ρ':=by(try dsimp only[At.ev,d1,d2,d3,d4,d5,d6,d7,d8,d9,e0,List.map,bp,Kd.pv])<;>rfl):(ad.op nd k).wp ρ Q:=sT h (e▸hk)
theorem bP {x:At} {i:Nat} (h:(x.ev ρ).af=i) (hi:i≤4611686018427387904) (hk:k.wp (ρ++ [.i ((i+1:Nat):Int)]) Q):(ad.op (.bi .add .i64 x (.i 1)) k).wp ρ Q:=dt (by rw[h];rfl) om om hk
theorem abM {n:Int} (h0:0≤n) (h1:n≤18446744073709551615):IntKind.wrap .u64 n=n:=AI.r9 .u64 (by simp[IntKind.min,IntKind.signed];omega) (by simp[IntKind.max,IntKind.signed,IntKind.bits];omega)
theorem qp {x:At} {n:Int} (h:(x.ev ρ).af=n) (h0:0≤n) (h1:n≤18446744073709551615) (hk:k.wp (ρ++ [.i n]) Q):(ad.op (.conv .u64 x) k).wp ρ Q:=ra (by rw[h,abM h0 h1]) hk
theorem sI {x:At} {n:Int} (h:(x.ev ρ).af=n) (h0: -9223372036854775808≤n) (h1:n≤9223372036854775807) (hk:k.wp (ρ++ [.i n]) Q):(ad.op (.conv .i64 x) k).wp ρ Q:=ra (by rw[h,AI.wrap64 h0 h1]) hk
theorem aP {c:At} {a b:ad} {P:Prop} {inst:Decidable P} (hc:c.ev ρ= .b (@decide P inst)) (ht:P→a.wp ρ Q) (hf:¬P→b.wp ρ Q):(ad.ite c a b).wp ρ Q:=
 bg (fun h=>ht (by rw[hc]at h;exact dz h)) (fun h=>hf (by rw[hc]at h;exact eo h))
theorem iy {c:At} {a b:ad} {P:Prop} {inst:Decidable P} (hc:c.ev ρ= .b (@decide P inst)) (h:P) (ha:a.wp ρ Q):(ad.ite c a b).wp ρ Q:=aP hc (fun _=>ha) fun k=>absurd h k
theorem cJ {c:At} {a b:ad} {P:Prop} {inst:Decidable P} (hc:c.ev ρ= .b (@decide P inst)) (h:¬P) (hb:b.wp ρ Q):(ad.ite c a b).wp ρ Q:=aP hc (fun k=>absurd k h) fun _=>hb
theorem dF {P:Prop} {inst:Decidable P} (h:¬P):[L.b (@decide P inst)]=[.b false]:=by rw[decide_eq_false h]
theorem dT {P:Prop} {inst:Decidable P} (h:P):[L.b (@decide P inst)]=[.b true]:=by rw[decide_eq_true h]
def jQ (K:List L→Prop) (Q:Lf×List L→Prop) (r:Lf×List L):Prop:=match r with
 | (.jump 0 args,ρ')=>K (args.map (At.ev ρ'))
 | (.jump (k+1) args,ρ')=>Q (.jump k args,ρ')
 |r=>Q r
theorem aH {a b:ad} (K:List L→Prop) (ha:a.wp ρ (jQ K Q)) (h:∀xs,K xs→b.wp (ρ++xs) Q):(ad.join a b).wp ρ Q:=by
 refine JF (ad.wp.mono ha fun r hr=> ?_);obtain⟨lf,ρ'⟩:=r
 cases lf with
 |st=>exact hr
 |jump k args=>cases k with
  |zero=>exact h _ hr
  |succ k=>exact hr
def cV (P:Prop) (xs:List L):Prop:=∃t:Bool,xs=[.b t]∧(t=true ↔ P)
theorem cz {P:Prop} (h:P):cV P [.b true]:=⟨true,rfl,fun _=>h,fun _=>rfl⟩
theorem fl {P:Prop} (h:¬P):cV P [.b false]:=⟨false,rfl,fun h=> (by cases h),fun h'=>absurd h' h⟩
theorem fG {P R:Prop} [Decidable R] (h:R ↔ P):cV P [.b (decide R)]:=⟨_,rfl,by rw[cg];exact h⟩
theorem sj {P R:Prop} [Decidable R] (h:¬R ↔ P):cV P [.b (!decide R)]:=⟨_,rfl,by rw[lO,rS];exact h⟩
end
end
section
open Go.RowKit
open Classical
theorem eI.alM {P:aQ} {f:FuncId} {args:List V1} {e:aw} {rows:List (List PV)} (h:eI P f args [] (.v (.c (.sub 0 0 0))) [(0,.row e rows)]):eI P f args [] (.v (.c (.own 0))) [(0,.row e [])]:=by
 refine⟨h.own,fun w M N vals h1 h2 h3 h4 h5 h6 h7=> (h.call w M N vals h1 h2 h3 h4 h5 h6 h7).mono ?_⟩;rintro _ w' ⟨v,E',rfl,pM,fL,hH,hv⟩;obtain⟨x,cur,fz,k1,ca,k2,k3,k4,k5,k6,k7,k8,k9,ik,lE⟩:=hH 0 _ rfl;obtain⟨y,j1,j2,A,j3,j4⟩:=bT.get (show RC M E' w' (.sub 0 0 0) v from hv) (by rw[fL.ao];simp);rw[k1]at j1;cases j1;have hA:=j4 (.inr rfl);simp only[Nat.zero_mul,Nat.sub_zero]at hA j3;refine⟨v,⟨fun n=>if n=0 then some {x with len:=0}else E'.N n,[]⟩,rfl,pM,⟨rfl,?_,?_,fun m hm=>absurd hm (qb m)⟩,?_,?_⟩
 · intro n z g hz hg;simp only at hz;split at hz
   · cases hz;exact fL.names 0 x g k1 hg
   · exact fL.names n z g hz hg
 · intro n m z z' g hz hz' hg hg';simp only at hz hz';split at hz<;>split at hz'
   · omega
   · cases hz;rename_i hn hm;have:=fL.inj 0 m x z' g k1 hz' hg hg';omega
   · cases hz';rename_i hn hm;have:=fL.inj n 0 z x g hz k1 hg hg';omega
   · exact fL.inj n m z z' g hz hz' hg hg'
 · intro n b hb;simp only[eR,oQ]at hb;split at hb
   · rename_i hn;simp at hn;subst hn;cases hb;exact⟨{x with len:=0},cur,fz,by simp,ca,k2,rfl,p6 _,k5,k6,k7,k8,fun r hr=>by simp at hr,ik,fun i r j p hi=>by simp at hi⟩
   · cases hb
 · exact .inr ⟨{x with len:=0},by simp,by rw[j3,hA]⟩
theorem aqM {P:aQ} {T e:aw} (hT:P.underlying T=some (.slice e)) (A:Option Addr) (n c:Nat) (w:av):(Op.equal T (.slice A n c) (.slice none 0 0)).run P w= .ok A.isNone w:=by
 have key:∀d,(Op.equalIn (d+1) T (.slice A n c) (.slice none 0 0)).run P w= .ok A.isNone w:=fun d=>by
  cases A<;>simp[Op.equalIn,run_underlying hT]
 exact key 9999
section
variable {X:Fx} {Q:Exit→ak→Prop} {st:ak}
theorem Pr {id t3 t4 i T ty3 ty4 yT:Nat} {p3 p4:String} {a3 a4:Array Edge} {rows:List (List PV)} {e:aw} (hi:st.tmps[i]? =some (.v (.c (.p (.sl rows))))) (Ig:t3<st.tmps.length) (hT:X.P.underlying T=some (.slice e))
   (hQ:∀b,(b=true→rows=[])→Q .normal ((st.put (some t3) (.v (.c (.p (.sl rows))))).put (some t4) (.sc (.bool b)))):
   Aw X (.region id #[{dst:=some t3,op:= .move (.tmp i),type:=ty3,pos:=p3,after:=a3,guard:=none},{dst:=some t4,op:= .binOp .eql T (.tmp t3) (.const (.slice none 0 0)) yT,type:=ty4,pos:=p4,after:=a4,guard:=none}] false) Q st:=fun a w ht=>by
 obtain⟨E,hR,hg⟩:=ht;obtain⟨u,h1,h2⟩:=hR.tmps i _ hi;have h2:RP (bad X.M E) w (.sl rows) u:=h2;have hlt:t3<a.tmps.size:=by rw[hR.size];exact Ig
 refine wp_region ?_;have hu:∃A n c,u= .slice A n c∧(A=none→rows=[]):=by
   cases h2 with
   |nil=>exact⟨_,_,_,rfl,fun _=>rfl⟩
   |row=>exact⟨_,_,_,rfl,fun h=>by cases h⟩
 obtain⟨A,n,c,rfl,hn⟩:=hu;have H9:∀b,(b=true→rows=[])→∃st',Q .normal st'∧Told X st' ((a.put (some t3) (.slice A n c)).put (some t4) (.bool b)) w:=fun b hb=>
   ⟨_,hQ b hb,E,(hR.put (some t3) (v:= .v (.c (.p (.sl rows)))) h2).put (some t4) (v:= .sc (.bool b)) (RP.sc rfl),hg⟩
 have e1:a.eval (.tmp i)= .slice A n c:=by simp[Act.eval,h1]
 have e2:(a.put (some t3) (.slice A n c)).eval (.tmp t3)= .slice A n c:=by simp[Act.eval,Act.put,ug,hlt]
 have e3:∀a':Act,a'.eval (.const (.slice none 0 0))= .slice none 0 0:=fun _=>rfl
 have hq:(Op.equal T (.slice A n c) (.slice none 0 0)).run X.P w= .ok A.isNone w:=aqM hT A n c w;have hb:(binOp .eql T (.slice A n c) (.slice none 0 0)).run X.P w= .ok (.bool A.isNone) w:=by
   simp only[binOp];rw[Sem.run_bind,hq];rfl
 have hgd:(eqGuard .eql T (.tmp t3) (.const (.slice none 0 0)) (.slice A n c) (.slice none 0 0)).run X.P w= .ok () w:=by
   simp[eqGuard]
 rw[show(List.range (#[({dst:=some t3,op:= .move (.tmp i),type:=ty3,pos:=p3,after:=a3,guard:=none}:Oper),{dst:=some t4,op:= .binOp .eql T (.tmp t3) (.const (.slice none 0 0)) yT,type:=ty4,pos:=p4,after:=a4,guard:=none}]).size)=[0,1]from rfl];simp only[wpOps,Region.wanted,zv,mL,zB,if_true];refine .inl (jY (u:= .slice A n c) (w':=w) ?_ (.inl ?_))
 · simp only[execOp,e1];rfl
 · refine jY (u:= .bool A.isNone) (w':=w) ?_ ?_
   · simp only[execOp,e2,e3,Sem.run_bind,hgd,hb,Result.andThen_ok];rfl
   · exact H9 _ (fun h=>hn (by simpa using h))
end
def Ap (T:aV) (C:cm) (c:Code) (k0:Nat) (rs:List ResultVar) (S:ag):Option sY:=
 match exec T C k0 c (sR rs) [] (sR rs) S with
 | some t=>match(merge (sR rs) k0 S.nv t.sW).map (ag.order k0)with
  |some S'=>match t.bind (fin T k0 S.nv S') 0,EB T rs S' with
   |some u,some r=>some ⟨u,r,S'.heap.filter (fun x=> (reach S'.heap 4 (List.range k0++r.names)).contains x.1),S'.nv-S.nv⟩
   |_,_=>none
  |none=>none
 |none=>none
theorem Jl {P:aQ} {T:aV} {C:cm} (hT:aV.ok P T) (hC:cm.ok P C) (hm:P.follows .mixedOrders=true) {c:Code} {k0:Nat} {rs:List ResultVar} {S:ag} {o:sY} (hSg:S.ao=[]) (h:Ap T C c k0 rs S=some o)
   {ls os:List L} (hl:ls.length=S.nv) (hF:gn (o.E6.aa ls)=some os) {X:Fx} (hP:X.P=P) (bR:X.k0=k0):Aw X c (Ql P rs (o.res.aa (ls++os)) (o.out.aa (ls++os))) (S.aa ls):=by
 unfold Ap at h;split at h
 · rename_i t ht;split at h
   · rename_i S' tY;split at h
     · rename_i u r hu hr;cases h;have CO:=mh hT hC hm c (S:=S) hSg ht;simp only[gn]at hF;split at hF
       · rename_i k aq ρ' hd;cases hF;obtain⟨e,S1,bE,v,h1,h2,h3⟩:=sG (fun x bE hx=> (CO ls x bE hl hx).bare) (fun e S1 bE ht d u1 hf=>afo hf) hu hd;obtain⟨e',rH,g1,g2,⟨ys,g3⟩,g4,g5⟩:=CO ls _ _ hl h1;cases g1;subst g3;have key:(e= .normal∨e= .ret)∧∀X:Fx,X.P=P→X.k0=k0→Le X (S1.aa (ls++ys)) (S'.aa (ls++aq.map (At.ev ρ'))):=by
           cases e with
           |exit=>cases h2
           |_=>
            obtain⟨aq',zs,j1,_,_,j4⟩:=kB hT hl g2 g4 h2 h3;cases j1;exact⟨by simp,j4⟩
         obtain⟨he,hle⟩:=key;refine vU (g5 X hP bR _ ⟨_,hle X hP bR,?_⟩);refine⟨?_,WN hT hr,fun n b mH=> ?_⟩;rotate_left
         · rw[dD];rw[cb.Hv]at mH;simp only[aW]at mH;obtain⟨b0,hb0,rfl⟩:=mH;rw[Fy hb0];rfl
         rcases he with rfl|rfl<;>trivial
       · cases hF
     · cases h
   · cases h
 · cases h
end
section
open Go.RowKit
noncomputable def TT:aV:=[2,3,4,5,9,22,23,25,27,30,31,33,34,36,40,42,49,51,53,54,55,58,60,62,64,71,73,75,80,81,83,84,89,90,92,94,107,109,111,125,127,128,129,131,135,143,144,146,149,150,154,156,162,165,166,185,196,233,263,295,298,299,301,311,315,318,321,323,328,339,356,362,379,388,408,436,437].map fun i=> (i,eH Tryz.prog i)
theorem iU:aV.ok Tryz.prog TT:=aV.Kh kr
noncomputable def Jm:aV:=(999999,eH Tryz.prog 999999)::TT
theorem Zk:aV.ok Tryz.prog Jm:=aV.Kh kr
noncomputable def Zn:aV:=(999998,eH Tryz.prog 999998)::TT
theorem aEQ:aV.ok Tryz.prog Zn:=aV.Kh kr
theorem AB:Tryz.prog.follows .mixedOrders=true:=kr
theorem cm.ok.nil:cm.ok Tryz.prog []:=fun s hs=>by cases hs
theorem cm.ok.cons {s:az} {C:cm} (h:s.ok Tryz.prog) (hC:cm.ok Tryz.prog C):cm.ok Tryz.prog (s::C):=fun x hx=>by
 rcases cU.1 hx with rfl|hx
 · exact h
 · exact hC x hx
def w (a n:Nat):List At:=(List.range n).map fun i=> .v (a+i)
def pi (n:Nat):SC:= .p (.int .i64) (.v n)
def ps (n:Nat):SC:= .p .sl (.v n)
def ci (n:Nat):aB:= .c (pi n)
def cs (n:Nat):aB:= .c (ps n)
def cK (a n:Nat):List SC:=(List.range n).map fun i=>pi (a+i)
def eP (a n:Nat):List SC:=(List.range n).map fun i=>ps (a+i)
noncomputable def xF (T:aV) (C:cm) (f:Func) (n:Nat) (p:List aB) (H:List SB):ad:=match Bk T C f n p H with
 |some o=>o.E6
 |none=>default
theorem HG {s:az} (x:ad) {T:aV} {C:cm} {fn:Func} (hT:aV.ok Tryz.prog T) (hC:cm.ok Tryz.prog C) (hf:Tryz.prog.funcs[s.f]? =some fn) (hname:(fn.name== "runtime.NumGoroutine")=false) (h:Bk T C fn s.cE s.params s.H=some ⟨x,s.res,s.out,s.gG⟩) (hF:s.F=Fo x):s.ok Tryz.prog:=
 aGc hT hC AB hf hname h (F:=s.F) (fun ls=>by rw[hF];rfl) s.tag
theorem oS {s:az} {C:cm} {x:ad} (hC:cm.ok Tryz.prog C) (hF:s.F=Fo x:=by rfl) (h1:(Tryz.prog.funcs[s.f]?).isSome=true:=by kernel_rfl) (hname:(((Tryz.prog.funcs[s.f]?).getD default).name== "runtime.NumGoroutine")=false:=by kernel_rfl) (h:Bk TT C ((Tryz.prog.funcs[s.f]?).getD default) s.cE s.params s.H=some ⟨x,s.res,s.out,s.gG⟩:=by kernel_rfl):s.ok Tryz.prog:=by
  obtain⟨fn,hf⟩:=zu.1 h1;rw[hf]at hname h;exact HG x iU hC hf hname h hF
noncomputable def mS (C:cm) (f:FuncId) (p:List aB) (H:List SB) (cE gG:Nat) (res:SV) (out:List (Nat×SB)) (tag:Nat):az:=⟨f,p,H,cE,gG,res,out,Fo (xF TT C ((Tryz.prog.funcs[f]?).getD default) cE p H),tag⟩
abbrev Ok (s:az):Prop:=s.ok Tryz.prog
abbrev ad.j (l:List At):ad:= .ar (.jump 0 l)
abbrev ad.bI (o:BinOp) (a b:At) (k:ad):ad:= .op (.bi o .i64 a b) k
abbrev ad.ln (a:At) (k:ad):ad:= .op (.len a) k
abbrev ad.no (a:At) (k:ad):ad:= .op (.not a) k
abbrev ad.cA (t:Nat) (F:List L→Option (List L)) (l:List At) (n:Nat) (k:ad):ad:= .op (.call t F l n []) k
abbrev ad.cl (a:At) (j:Nat) (d:Kd) (k:ad):ad:= .op (.cl a j d) k
abbrev ad.rw (a b:At) (n:Nat) (k:ad):ad:= .op (.row a b n) k
abbrev U0:At:= .v 0
abbrev U1:At:= .v 1
abbrev U2:At:= .v 2
abbrev U3:At:= .v 3
abbrev U4:At:= .v 4
abbrev U5:At:= .v 5
abbrev U6:At:= .v 6
abbrev U7:At:= .v 7
abbrev U8:At:= .v 8
abbrev U9:At:= .v 9
abbrev aA:At:= .v 10
abbrev aF:At:= .v 11
abbrev aN:At:= .v 12
abbrev aK:At:= .v 13
abbrev aS:At:= .v 14
abbrev aT:At:= .v 15
abbrev bq:At:= .v 16
abbrev aZ:At:= .v 17
abbrev bB:At:= .v 18
abbrev bD:At:= .v 19
abbrev bJ:At:= .v 20
abbrev cf:At:= .v 21
abbrev bZ:At:= .v 22
abbrev da:At:= .v 23
abbrev dm:At:= .v 24
abbrev cF:At:= .v 25
abbrev cC:At:= .v 26
abbrev cL:At:= .v 27
abbrev dE:At:= .v 28
abbrev cY:At:= .v 29
abbrev ed:At:= .v 30
abbrev eU:At:= .v 31
abbrev eb:At:= .v 32
abbrev dU:At:= .v 33
abbrev fc:At:= .v 34
abbrev mX:At:= .v 35
abbrev pg:At:= .v 36
abbrev qD:At:= .v 37
abbrev oZ:At:= .v 38
abbrev w5:At:= .v 39
abbrev qw:At:= .v 40
abbrev Av:At:= .v 41
abbrev Cs:At:= .v 42
abbrev sX:At:= .v 43
abbrev Ly:At:= .v 44
abbrev Yj:At:= .v 45
abbrev Ht:At:= .v 46
abbrev mF:At:= .v 47
abbrev mg:At:= .v 48
abbrev lT:At:= .v 49
abbrev px:At:= .v 50
abbrev oA:At:= .v 51
abbrev oh:At:= .v 52
abbrev sK:At:= .v 53
abbrev NW:At:= .v 54
abbrev HL:At:= .v 55
abbrev DU:At:= .v 56
abbrev FI:At:= .v 57
abbrev GD:At:= .v 58
abbrev Hj:At:= .v 59
abbrev DM:At:= .v 60
abbrev BG:At:= .v 61
abbrev rf:At:= .v 62
abbrev U63:At:= .v 63
abbrev U64:At:= .v 64
abbrev U65:At:= .v 65
abbrev U66:At:= .v 66
abbrev U67:At:= .v 67
abbrev U68:At:= .v 68
abbrev U69:At:= .v 69
abbrev U70:At:= .v 70
abbrev U71:At:= .v 71
abbrev U72:At:= .v 72
abbrev U73:At:= .v 73
abbrev U74:At:= .v 74
abbrev U75:At:= .v 75
abbrev U76:At:= .v 76
abbrev U77:At:= .v 77
abbrev U78:At:= .v 78
abbrev U79:At:= .v 79
end
section
open Go.RowKit
open Classical
def Rc (b:Bool):ag:=⟨[.v (.c (.p .sl (.v 0))),.aj [],.v (.c .nil),.v (.c (.p .sl (.v 0))),.v (.c (.p .bool (.b b))),.aj [],.aj [],.aj []],[],[],8,1⟩
def ZO : Code :=
          (Code.region 3
                #[{ dst :=some 5,op:=Op.buildSlice 89 0 #[],type:=89,pos:= "slices.go:362",after:= #[],
                    guard:=none},
                  { dst:=some 6,op:=Op.move (Operand.tmp 0),type:=89,pos:= "slices.go:362",after:= #[],
                    guard:=none},
                  { dst :=some 7,
                    op:=
                      Op.call
                        { callee:=Callee.builtin Builtin.append,args:= #[Operand.tmp 5,Operand.tmp 6],
                          argTypes:= #[89,89]},
                    type:=89,pos:= "slices.go:362",
                    after:= #[{on:=0,ground:=Ground.data},{on:=1,ground:=Ground.data}],guard:=none},
                  { dst :=some 2,op:=Op.assign (Operand.tmp 7),type:=89,pos:= "slices.go:362",
                    after:=
                      #[{on:=2,ground:=Ground.data},{on:=2,ground:=Ground.chain},
                        {on:=0,ground:=Ground.phase},{on:=1,ground:=Ground.phase},
                        {on:=2,ground:=Ground.phase}],
                    guard:=none}]
                false).seq
            Code.ret
def O4:ad:= .op (.lit []) (.op (.app (.v 1) (.v 0) 4 32) (.ar (.jump 0 [(.v 2)])))
theorem alX:Ap TT [] ZO 0 [.tmp 2] (Rc false)=some ⟨O4,(.v (.c (.own 0))),[(0,(.row 25 (.v 1)))],1⟩:=kr
theorem aua (rows:List (List PV)) (hR:bA 4 rows=true) (hb:rows.length*32≤140737488355328):
    eI Tryz.prog 246 [.c (.p (.sl rows))] [] (.v (.c (.own 0))) [(0,.row 25 rows)]:=by
  refine eI.intro Tryz.func246 kr rfl rfl rfl fun X hP bR=>vU ?_
  refine fA ?_;refine vb (Sp:=fun _=>none) rfl rfl ?_;refine fA ?_;refine fA ?_;refine Pr (rows:=rows) (e:=25) rfl (by show 3<8;decide) (by rw[hP];exact Tryz.underlying89) ?_;intro b gD;show Aw X (.cond _ _ _) _ ((Rc b).aa [.r rows]);refine vV (t:=b) rfl (fun h=> ?_) (fun h=> ?_)
  · subst h;cases gD rfl;refine fA (vb (Sp:=fun _=>none) rfl rfl (vd ?_));show∃st',_;refine⟨⟨[.v (.c .dead),.v (.c .dead),.v (.c (.own 0)),.v (.c .dead),.v (.c .dead),.v (.c .dead),.v (.c .dead),.v (.c .dead)],[(0,.row 25 [])],[],16⟩,oj.le (ι:=[]) (Z:=[0]) rfl ?_,trivial,rfl,fun n b h=>h⟩;have CQ:X.k0=0:=bR;rw[CQ,hP];exact{
            ao:=rfl,old:=by simp[Ren.old],new:=by simp[Ren.new],zs:=fun n hn=>by
              simp at hn;subst hn;exact⟨by simp[Ren.new],p6 _,by simp,25,rfl,dz kr⟩
            lt:=fun x hx=>by simp at hx
            k0:=p6 _
            tmps:=by
              refine⟨trivial,trivial,?_,trivial,trivial,trivial,trivial,trivial,trivial⟩;exact eS.2 rfl
            heap:=fun n b h=> .inl (by
              simp only[eR,oQ]at h;split at h
              · rename_i hn;simp at hn;subst hn;simp
              · cases h)}
  · subst h;refine EK ?_;show Aw X ZO _ ((Rc false).aa [.r rows]);have hd:gn (O4.aa [.r rows])=some [.r rows]:=by
      simp[O4,ad.aa,Nd.ev,At.ev,L.ah,gn];rw[au ⟨om,hb,rfl,hR⟩];rfl
    refine lV (Jl iU .nil AB rfl alX (ls:=[.r rows]) (os:=[.r rows]) rfl hd hP bR) fun e st h=> ⟨st,fun _ _ h=>h,h⟩
def u5:List L→Option (List L):=fun ls=>match ls with
  |[.r rows]=>if bA 4 rows=true∧rows.length*32≤140737488355328 then some []else none
  |_=>none
def LA:az:=⟨246,[.c (.p .sl U0)],[],1,0,.v (.c (.own 0)),[(0,.row 25 U0)],u5,2000⟩
theorem agb:LA.ok Tryz.prog:=by
  intro ls os hl hF dr;have hF:u5 ls=some os:=hF;unfold u5 at hF;split at hF
  · rename_i rows;split at hF
    · rename_i hc;cases hF;exact aua _ hc.1 hc.2
    · cases hF
  · cases hF
theorem aEz {s:az} (h:s.ok Tryz.prog) (hH:s.H=[]) (hr:s.res= .v (.c (.sub 0 (.i 0) (.i 0)))) {x:At} (ho:s.out=[(0,.row 25 x)]) (tag:Nat):
    az.ok Tryz.prog ⟨s.f,s.params,[],s.cE,0,.v (.c (.own 0)),[(0,.row 25 .r0)],fun ls=>match s.F ls with|some os=>if os.length=s.gG then some []else none|none=>none,tag⟩:=by
  intro ls os hl hF dr;have hF:(match s.F ls with|some os=>if os.length=s.gG then some []else none|none=>none)=some os:=hF;split at hF
  · rename_i os' rB;split at hF
    · rename_i hlen;cases hF;have:=h ls os' hl rB hlen;rw[hH,hr,ho]at this;exact eI.alM this
    · cases hF
  · cases hF
end
end
end Go.Proofs.YtndegphojkiblaaGreatDoor
