/- A part. -/
import Derived.Test.YtndegphojkiblaaGreatDoorG10
import Derived.Test.YtndegphojkiblaaGreatDoorG11
import Derived.WalkKit
set_option linter.all false
set_option maxHeartbeats 4000000
set_option maxRecDepth 100000
namespace Go.Proofs.YtndegphojkiblaaGreatDoor
noncomputable section
section
open Go.RowKit
open Classical
def rE:List ResultVar->Nat
 |[]=>0
 |.tmp t::r=>(1<<<t)|||rE r
 |.cell t _::r=>(1<<<t)|||rE r
def a8.rU:a8->List bp
 |.br (.st .normal S)=>[S]
 |.br (.st .ret S)=>[S]
 |.br _=>[]
 |.op _ k=>k.rU
 |.ite _ a b=>a.rU++b.rU
 |.join a b=>a.rU++b.rU
 |.loop _ b=>b.rU
def fin(T:b_)(k0 b:Nat)(S':bp)(d:Nat)(e:Ex)(S:bp):Option a8:=match e with
 |.exit _=>none
 |_=>jmp T k0 b S' d .normal S
def SV.one:SV->Option bK
 |.v x=>some x
 |.bq _=>none
def ug(T:b_)(S:bp):ResultVar->Option bK
 |.tmp t=>(S.tmps[t]?).bind SV.one
 |.cell t ty=>match S.tmps[t]? with
  |some (.v (.c (.ptr n off)))=>match List.lookup n S.heap,List.lookup ty T with
   |some (.box cs),some r=>(EV r (cs.drop off)).bind SV.one
   |_,_=>none
  |_=>none
def awT:List bK->SV
 |[x]=>.v x
 |xs=>.bq xs
def DP(T:b_)(rs:List ResultVar)(S:bp):Option SV:=(rs.mapM (ug T S)).map awT
theorem one_den{ρ}{v:SV}{x}(h:v.one=some x):(v.a6 ρ).one=some (x.a6 ρ):=by
 cases v with
 |v y=>cases h;rfl
 |bq=>cases h
theorem aqE{P T}(f:b_.ok P T){S ρ b x}(h:ug T S b=some x):mY P (S.a6 ρ) b=some (x.a6 ρ):=by
 have e:∀t:Nat,(S.a6 ρ).tmps[t]?=(S.tmps[t]?).map (SV.a6 ρ):=λt=>by simp[bp.a6]
 cases b with
 |tmp t=>
  simp only[ug,gV]at h;obtain⟨v,c,d⟩:=h;simp only[mY,e,c,bS,GZ,one_den d]
 |cell t ty=>
  simp only[ug]at h;split at h
  .rename_i n off c;split at h
   .rename_i cs r d g;simp only[gV]at h;obtain⟨v,i,j⟩:=h;have:=f _ _ g;subst this;have o:=Zn ρ i;have p:(S.a6 ρ).heap.lookup n=some (.box (cs.map (SC.a6 ρ))):=by
     rw[ep,d];rfl
    simp only[mY,e,c,bS,SV.a6,bK.a6,SC.a6,p];rw[<-nX,o];exact one_den j
   .cases h
  .cases h
theorem ZN{P T}(d:b_.ok P T){S ρ rs x}(h:DP T rs S=some x):rQ P rs (S.a6 ρ)=some (x.a6 ρ):=by
 simp only[DP,bY]at h;obtain⟨xs,b,rfl⟩:=h;have key:∀{rs:List ResultVar}{xs:List bK},rs.mapM (ug T S)=some xs->rs.mapM (mY P (S.a6 ρ))=some (xs.map (bK.a6 ρ)):=by
  intro rs
  induction rs with
  |nil=>simp_all
  |cons r rs ih=>
   intro xs h;rw[nU]at h⊢
   cases b:ug T S r with
   |none=>simp_all
   |some y=>
    cases c:rs.mapM (ug T S)with
    |none=>simp_all
    |some ys=>
     rw[b,c]at h;cases h;rw[aqE d b,ih c];rfl
 simp only[rQ,key b,bS]
 cases xs with
 |nil=>rfl
 |cons x xs=>
  cases xs with
  |nil=>rfl
  |cons=>rfl
structure zN where
 Dx:a8
 res:SV
 out:dh
 il:Nat
def rF(n b:Nat)(params:List bK)(H:List SB):bp:=⟨params.map SV.v++List.replicate (n-params.length) (.bq []),H.zipIdx.map λx=>(x.2,x.1),[],H.length,b⟩
def SC.to(f:Nat->Nat):SC->SC
 |.own n=>.own (f n)
 |.sub n a b=>.sub (f n) a b
 |.ptr n o=>.ptr (f n) o
 |.gN n o c m i=>.gN (f n) o c m i
 |.dy n i j=>.dy (f n) i j
 |.fn g d=>.fn g (d.map f)
 |.mp n=>.mp (f n)
 |c=>c
def bp.order(k0:Nat)(S:bp):bp:=
 let d:=S.tmps.filterMap λx=>match x with
  |.v (.c (.ptr n _))=>if k0<=n then some n else none
  |_=>none
 let o:=(List.range (S.next-k0)).map (· +k0)
 let h:=o.filter (λn=> !d.contains n)++o.filter (λn=>d.contains n)
 let f:=λn=>if n<k0 then n else k0+(h.findIdx (· ==n))
 {S with tmps:=S.tmps.map (SV.fh (SC.to f)),heap:=S.heap.map λx=>(f x.1,x.2.fh (SC.to f) id)}
def reach(h:dh):Nat->List Nat->List Nat
 |0,b=>b
 |fuel+1,b=>reach h fuel (b++(b.flatMap λn=>match List.lookup n h with
  |some (.box cs)=>(cs.flatMap SC.names).filter λm=> !b.contains m
  |_=>[]).eraseDups)
def Il(T:b_)(C:dt)(c:Code)(n:Nat)(rs:List ResultVar)(b:Nat)(params:List bK)(H:List SB):Option zN:=
 match exec T C H.length c (rE rs) [] (rE rs) (rF n b params H)with
 |some t=>match(merge (rE rs) H.length b t.rU).map (bp.order H.length)with
  |some S'=>match t.bind (fin T H.length b S') 0,DP T rs S' with
   |some u,some r=>some ⟨u,r,S'.heap.filter (λx=>(reach S'.heap 4 (List.range H.length++r.names)).contains x.1),S'.nv-b⟩
   |_,_=>none
  |none=>none
 |none=>none
def gu(o:Out):Option (List L):=match o with
 |some (.jump _ as,ρ)=>some (as.map (At.ev ρ))
 |_=>none
def zN.sig(o:zN)(f:FuncId)(d:Nat)(params:List bK)(H:List SB)(F:List L->Option (List L))(tag:Nat):bB:=⟨f,params,H,d,o.il,o.res,o.out,F,tag⟩
theorem uw{X c Q st}(h:Aw X c (λe st=>∃st',Le X st st'/\Q e st') st):Aw X c Q st:=λa w ht=>
 wp_mono (h a w ht) λ_ _ _⟨_,⟨st',h1,h2⟩,h3⟩=>⟨st',h2,h1 _ _ h3⟩
theorem Td{n b params H ρ}:(rF n b params H).a6 ρ=nk n (params.map (bK.a6 ρ)) (H.map (SB.a6 ρ)):=by
 unfold rF nk bp.a6;congr 1
 .simp only[eB,h_,u_,bC];rfl
 .simp only[dh.a6,hp,h_,List.zipIdx_map];rfl
 .simp
theorem UW{T k0 b S' d e S f c}(h:fin T k0 b S' d e S=some f):f.a6 c=((fin T k0 b S' 0 e S).bind (·.a6 c)).map (lift d):=by
 cases e with
 |exit=>cases h
 |_=>
  simp only[fin]at h⊢;exact DE h
theorem CR{g:Nat->Bool}{n b}:∀{h:dh},List.lookup n (h.filter λx=>g x.1)=some b->List.lookup n h=some b
 |[],c=>by cases c
 |(k,i)::h,c=>by
  rw[List.filter_cons]at c;rw[hX];split at c
  .rw[hX]at c;split
   .simp_all
   .rename_i d;rw[d]at c;exact CR c
  .rename_i e;split
   .rename_i d;simp at d;subst d;exfalso;have:∀{h:dh},List.lookup n (h.filter λx=>g x.1)=some b->g n=true:=by
     intro h f;have:=ph.1 (z8 f);exact this.2
    exact e (this c)
   .exact CR c
theorem aeq{P T C}(y:b_.ok P T)(M:dt.ok P C)(N:P.follows .mixedOrders=true){f fn c}(z:P.funcs[f]?=some fn) (hname:(fn.name== "runtime.NumGoroutine")=false)
 (O:fn.body=some c) {n} (R:fn.ntmps=n) {rs} (A:fn.results=rs.toArray) {i} {params} {H} {o} (h:Il T C c n rs i params H=some o)
 {F} (U:∀ls,F ls=gu (o.Dx.a6 ls)) (tag):(o.sig f i params H F tag).ok P:=by
 intro ls os E g V;unfold Il at h;split at h
 .rename_i t G;split at h
  .rename_i S' W;split at h
   .rename_i u r Y Z;cases h;have s:=lQ y M N c (S:=rF n i params H) rfl G;replace g:F ls=some os:=g;rw[U]at g;simp only[gu]at g;split at g
    .rename_i k as ρ' hd;cases g;have w:ls.length=(rF n i params H).nv:=E;obtain⟨e,I,j,v,h1,J,h3⟩:=qX (λx j hx=>(s ls x j w hx).bare) (λe I j G d u1 z=>UW z) Y hd;obtain⟨e',aa,g1,g2,⟨ys,g3⟩,g4,g5⟩:=s ls _ _ w h1;cases g1;subst g3;have key:(e=.normal\/e=.ret)/\∀X:Fx,X.P=P->X.k0=H.length->Le X (I.a6 (ls++ys)) (S'.a6 (ls++as.map (At.ev ρ'))):=by
      cases e with
      |exit=>cases J
      |_=>
       obtain⟨ab,zs,j1,_,_,j4⟩:=kB y E g2 g4 J h3;cases j1;exact⟨by simp,j4⟩
     obtain⟨he,B⟩:=key;refine fg.intro z hname O R A (λX K p=>?_);rw[bC]at p;rw[<-Td];refine uw (g5 X K p _ ⟨_,B X K p,?_⟩);refine⟨?_,ZN y Z,λn b q=>?_⟩;rotate_left
     .rw[ep];rw[dh.Cw]at q;simp only[bY]at q;obtain⟨b0,D,rfl⟩:=q;rw[CR D];rfl
     rcases he with rfl|rfl<;>trivial
    .cases g
   .cases h
  .cases h
 .cases h
def tQ(T:b_)(C:dt)(fn:Func)(b:Nat)(params:List bK)(H:List SB):Option zN:=match fn.body with
 |some c=>Il T C c fn.ntmps fn.results.toList b params H
 |none=>none
theorem aqs{P T C}(d:b_.ok P T)(e:dt.ok P C)(g:P.follows .mixedOrders=true){f fn}(i:P.funcs[f]?=some fn) (hname:(fn.name== "runtime.NumGoroutine")=false)
 {b} {params} {H} {o} (h:tQ T C fn b params H=some o) {F} (j:∀ls,F ls=gu (o.Dx.a6 ls)) (tag):(o.sig f b params H F tag).ok P:=by
 unfold tQ at h;split at h
 .rename_i c p;exact aeq d e g i hname p rfl (by simp) h j tag
 .cases h
def Fo(x:a8):List L->Option (List L):=λls=>gu (x.a6 ls)
end
section
open Go.RowKit
namespace AI
structure Inv where
 sp:List Nat
 ts:List iX
 t:Nat
 up:Bool
 b:Nat
 c:Int
deriving Inhabited
inductive jD where
 |e
 |b (x y:jD)
 |j (sp:List Nat) (ts:List iX) (x y:jD)
 |l (i:Inv) (x:jD)
deriving Inhabited
def jD.fst:jD->jD
 |.b x _=>x
 |.j _ _ x _=>x
 |_=>.e
def jD.snd:jD->jD
 |.b _ y=>y
 |.j _ _ _ y=>y
 |_=>.e
def jD.apm:jD->Option (List Nat×List iX)
 |.j d ts _ _=>some (d,ts)
 |_=>none
structure Lv where
 k:Nat
 S:AS
 xs:List At
deriving Inhabited
def pG{α c:Type}(f:α->Option (List c)):List α->Option (List c)
 |[]=>some []
 |x::r=>match f x,pG f r with
  |some a,some b=>some (a++b)
  |_,_=>none
theorem uB{α d:Type}{f:α->Option (List d)}:∀{l:List α}{ys:List d}{x:α},pG f l=some ys->x∈l->∃b,f x=some b/\∀z∈b,z∈ys
 |a::l,ys,x,h,c=>by
  simp only[pG]at h;split at h
  .rename_i p q g e;cases h;rcases dn.1 c with rfl|c
   .simp_all
   .obtain⟨b,i,j⟩:=uB e c;simp_all
  .cases h
def atoms(n:Nat):List At:=(List.range n).map At.v
def rV(n:Nat)(xs:List At)(p:Nat):Option At:=cond (Nat.blt p n) (some (.v p)) xs[p-n]?
theorem FQ(n)(xs)(p):(atoms n++xs)[p]?=rV n xs p:=by
 unfold rV atoms
 cases h:Nat.blt p n with
 |true=>
  have h:p<n:=by simp_all
  grind
 |false=>
  have h:¬p<n:=by
   intro b;have:Nat.blt p n=true:=by simpa[Nat.blt_eq]using b
   simp_all
  grind
def AS.pw(S:AS)(n:Nat)(xs:List At)(t:Nat):Option Li:=match t with
 |0=>some (0,0)
 |t+1=>match rV n xs (t/3)with
  |none=>some (0,0)
  |some x=>match t%3 with
   |0=>some (S.li x)
   |1=>some (S.le x)
   |_=>S.ls x
theorem Nn(S:AS)(n)(xs)(t):S.pw n xs t=S.tr (atoms n++xs) t:=by
 cases t with
 |zero=>rfl
 |succ t=>
  simp only[AS.pw,AS.tr,FQ];grind
def AS.D5(S:AS)(n:Nat)(xs:List At):List Nat->Option (List Nat)
 |[]=>some []
 |p::ps=>match rV n xs p with
  |some (.v i)=>match S.env[i]?,S.D5 n xs ps with
   |some g,some gs=>some (g::gs)
   |_,_=>none
  |_=>none
theorem Sh(S:AS)(n:Nat)(xs:List At):∀ps:List Nat,S.D5 n xs ps=S.pP (atoms n++xs) ps
 |[]=>rfl
 |p::ps=>by simp only[AS.D5,AS.pP,FQ,Sh S n xs ps];rfl
def AS.I2(S:AS)(n:Nat)(xs:List At)(T:iX):Bool:=
 T.fs.all (λf=>match S.pw n xs f.a,S.pw n xs f.b with
  |some x,some y=>dP S.fs x y f.c
  |_,_=>false)&&
 T.rw.all (λx=>match rV n xs x.1 with
  |some y=>match S.rs y with
   |some z=>Dy z x.2
   |none=>(match S.bo y with|_=>false)
  |none=>false)&&
 T.bs.all (λx=>match rV n xs x.1 with
  |some y=>match S.bo y with
   |some (.iH b)=>b==x.2
   |_=>false
  |none=>false)&&
 T.pr.all (λx=>match S.D5 n xs x.2 with
  |some gs=>yj x.1 gs S.pr
  |none=>false)
theorem apt(S:AS)(n)(xs)(T):S.I2 n xs T=S.eC (atoms n++xs) T:=by
 simp only[AS.I2,AS.eC,Nn,FQ,Sh];rfl
def Aq{α b:Type}(f:α->Option b):List α->Option (List b)
 |[]=>some []
 |x::l=>match f x with
  |some y=>match Aq f l with
   |some r=>some (y::r)
   |none=>none
  |none=>none
theorem TS{α b:Type}(f:α->Option b):∀l:List α,Aq f l=l.mapM f
 |[]=>rfl
 |x::l=>by
  simp only[Aq,nU,TS f l];grind
def AS.C0(S:AS)(k m:Nat)(T:iX):Option AS:=
 let tr:=λt=>match t with
  |0=>some ((0,0):Li)
  |t+1=>if t/3<k then S.pw k [] (t+1)else some (3*(S.n+(t/3-k))+t%3+1,0)
 let fs:=Aq (λf=>match tr f.a,tr f.b with
  |some x,some y=>some (sK x y f.c)
  |_,_=>none) T.fs
 let ps:=λp=>if p<k then match rV k [] p with
  |some (.v i)=>S.env[i]?
  |_=>none
  else if p<k+m then some (S.n+(p-k))else none
 let d:=λ(l:List Nat)=>Aq ps l
 match fs with
 |some fs=>if fs.all (Fa.in (S.n+m))=true then some ⟨S.env++(List.range m).map (S.n+ ·),S.n+m,fs++S.fs,(T.rw.filterMap λx=>(ps x.1).map λg=>(g,x.2))++S.rw,S.cl,(T.bs.filterMap λx=>(ps x.1).map λg=>(g,.iH x.2))++S.bd,S.al,S.ll,S.sm,(T.pr.filterMap λx=>(d x.2).map λgs=>(x.1,gs))++S.pr⟩else none
 |none=>none
theorem X6(S:AS)(n m)(T):S.C0 n m T=S.ext (atoms n) m T:=by
 have h:∀p,(atoms n)[p]?=rV n [] p:=λp=>by rw[<-FQ,ju]
 have b:∀t,S.pw n [] t=S.tr (atoms n) t:=λt=>by simp_all[Nn]
 have c:(atoms n).length=n:=by simp[atoms]
 unfold AS.C0 AS.ext;simp only[TS,h,b,c];rfl
def AS.pO(S:AS)(N:dN):Option AS:=(S.push N).map λS'=> {S' with env:=S.env}
theorem Ga.pO{S S' τ ρ}(h:Ga S τ ρ){N l}(hp:S.pO N=some S')(t:N.ok τ l):Ga S' (τ++[l]) ρ/\S'.env=S.env:=by
 simp only[AS.pO,bY]at hp;obtain⟨o,q,rfl⟩:=hp;have k:=h.push q t;have u:o.n=S.n+1:=by
  unfold AS.push at q;grind
 refine⟨⟨k.n,?_,λg d=>?_,k.fs,k.rw,k.cl,k.bd,k.al,k.ll,k.sm,k.pr⟩,rfl⟩
 .rw[h.env];exact ia λg d=>(q_ (by rw[h.n];exact h.lt g d)).symm
 .have:=h.lt g d;show g<o.n;omega
def AS.names(S:AS):List At->Option (List Nat×AS)
 |[]=>some ([],S)
 |x::xs=>match x with
  |.v i=>match S.env[i]? with
   |some g=>(S.names xs).map λy=>(g::y.1,y.2)
   |none=>none
  |.i c=>(S.pO {al:=some (0,c)}).bind λS'=>(S'.names xs).map λy=>(S.n::y.1,y.2)
  |.b t=>(S.pO {bd:=some (.iH t)}).bind λS'=>(S'.names xs).map λy=>(S.n::y.1,y.2)
  |.s x=>(S.pO {fs:=tL (3*S.n+3) (0,x.size)}).bind λS'=>(S'.names xs).map λy=>(S.n::y.1,y.2)
  |.r0=>(S.pO {rw:=some none,ll:=some (0,0)}).bind λS'=>(S'.names xs).map λy=>(S.n::y.1,y.2)
def AS.roots(S:AS)(g:Nat):List Nat:=
 (match lk S.al g with|some x=>x.1|none=>3*g+1)::(match lk S.ll g with|some x=>x.1|none=>3*g+2)::(3*g+3)::(match lk S.bd g with|some (.cmp _ x y _)=>[x.1,y.1]|_=>[])
def OF:List Nat->Nat->Bool
 |[],_=>false
 |x::r,t=>cond (Nat.beq x t) true (OF r t)
def AS.gc(S:AS)(h:Nat)(gs:List Nat):AS:=
 let ks:=gs.flatMap S.roots
 let o:=λt=>Nat.ble t (3*h)||OF ks t
 let d:=λg=>Nat.blt g h||OF gs g
 {S with fs:=S.fs.filter λf=>o f.a&&o f.b,rw:=S.rw.filter λx=>d x.1,cl:=S.cl.filter λx=>d x.1,bd:=S.bd.filter λx=>d x.1,al:=S.al.filter λx=>d x.1,ll:=S.ll.filter λx=>d x.1,sm:=S.sm.filter λx=>d x.2,pr:=S.pr.filter λx=>x.2.all d}
theorem Ga.gc{S τ ρ}(h:Ga S τ ρ)(o)(gs):Ga (S.gc o gs) τ ρ:=
 ⟨h.n,h.env,h.lt,λf q=>h.fs f (ph.1 q).1,λx d=>h.rw x (ph.1 d).1,λx d=>h.cl x (ph.1 d).1,λx d=>h.bd x (ph.1 d).1,λx d=>h.al x (ph.1 d).1,λx d=>h.ll x (ph.1 d).1,λx d=>h.sm x (ph.1 d).1,λx d=>h.pr x (ph.1 d).1⟩
def AS.meet(S:AS)(n d:Nat)(xs:List At):Option AS:=(S.names xs).map λy=>({y.2 with env:=S.env.take n++y.1}:AS).gc d y.1
theorem KJ:∀{xs:List At}{S S':AS}{τ ρ:List L}{gs:List Nat},Ga S τ ρ->S.names xs=some (gs,S')->∃d,Ga S' (τ++d) ρ/\S'.env=S.env/\(∀g∈gs,g<S'.n)/\gs.map (at' (τ++d))=xs.map (At.ev ρ)
 |[],S,S',τ,ρ,gs,h,e=>by
  cases e;exact⟨[],by simpa using h,rfl,λg f=>(by cases f),rfl⟩
 |x ::xs,S,S',τ,ρ,gs,h,e=>by
  have step:∀(N:dN)(l:L),N.ok τ l->x.ev ρ=l->((S.pO N).bind λS'=>(S'.names xs).map λy=>(S.n::y.1,y.2))=some (gs,S')->∃d,Ga S' (τ++d) ρ/\S'.env=S.env/\(∀g∈gs,g<S'.n)/\gs.map (at' (τ++d))=(x::xs).map (At.ev ρ):=λN l A F u=>by
   simp only[gV,bY]at u;obtain⟨G,B,y,o,p⟩:=u;cases p;obtain⟨C,D⟩:=h.pO B A;obtain⟨d,k1,k0,k2,w⟩:=KJ C o;refine⟨l::d,by simpa using k1,k0.trans D,λg f=>?_,?_⟩
   .rcases dn.1 f with rfl|f
    .have:=k1.n;simp only[ez,sC]at this;have:=h.n;omega
    .exact k2 g f
   .have H:at' (τ++(l::d)) S.n=l:=by
     rw[show τ++(l::d)=(τ++[l])++d by simp,q_ (by have:=h.n;simp_all),<-h.n];exact yG τ l
    simp_all
  cases x with
  |v i=>
   simp only[AS.names]at e
   cases f:S.env[i]? with
   |none=>simp_all
   |some g=>
    rw[f]at e;simp only[bY]at e;obtain⟨y,o,p⟩:=e;cases p;obtain⟨d,k1,k0,k2,w⟩:=KJ h o;have r:=h.lt g (dB f);refine⟨d,k1,k0,λg' j=>?_,?_⟩
    .rcases dn.1 j with rfl|j
     .have q:=k1.n;have:=h.n;grind
     .exact k2 g' j
    .simp only[ct,w];rw[q_ (by rw[h.n];exact r),h.ev,f]
  |i c=>exact step {al:=some (0,c)} (.i c) (ui (by simp[bQ,gM,L.a_])) rfl e
  |b t=>exact step {bd:=some (.iH t)} (.b t) (JW (b:=.iH t) rfl) rfl e
  |s x=>exact step {fs:=tL (3*S.n+3) (0,x.size)} (.s x) (fu (Wo (by rw[<-h.n,zH];simp[bQ,gM,L.du]))) rfl e
  |r0=>exact step {rw:=some none,ll:=some (0,0)} (.r []) (ri (z:=none) holds_nil rfl λy E=>wL (by rfl) E) rfl e
theorem alL{S S' τ ρ n d xs}(h:Ga S τ ρ)(e:S.meet n d xs=some S'):∃c,Ga S' (τ++c) (ρ.take n++xs.map (At.ev ρ)):=by
 simp only[AS.meet,bY]at e;obtain⟨⟨gs,j⟩,f,rfl⟩:=e;obtain⟨c,k1,k0,k2,i⟩:=KJ h f;refine⟨c,Ga.gc ?_ d gs⟩;refine⟨k1.n,?_,λg b=>?_,k1.fs,k1.rw,k1.cl,k1.bd,k1.al,k1.ll,k1.sm,k1.pr⟩
 .rw[eB,i];congr 1
  conv=>lhs;rw[k1.env]
  simp_all
 .rcases fo.1 b with b|b
  .exact k1.lt g (by grind)
  .exact k2 g b
def RH(i:Inv)(fs:List Fa)(c d b:Li):Bool:=match i.up with
 |true=>dP fs c d (-1)&&dP fs c b i.c
 |false=>dP fs d c (-1)&&dP fs b c (-i.c)
theorem AK{n ρ ρ' ys}(hp:ρ'=ρ++ys)(c:n=ρ.length):(atoms n).map (At.ev ρ')=ρ:=by
 subst hp;subst c;apply sv;intro j;simp only[atoms,h_,cN];by_cases b:j<ρ.length
 .simp[At.ev,sy b,b]
 simp_all
def pz(s:dO)(xs:List At):List Nat->AS->Bool
 |[],S=>xs.length==s.il&&s.cases.any λT=>S.I2 s.fF xs T
 |j::r,S=>match xs[j]? with
  |some x=>(match S.assume x true with|some b=>pz s xs r b|none=>true)&& (match S.assume x false with|some b=>pz s xs r b|none=>true)
  |none=>false
theorem wz{s:dO}{xs:List At}{ls ys:List L}(d:ls.length=s.fF){τ:List L}:∀{r:List Nat}{S:AS},Ga S τ (ls++ys)->pz s xs r S=true->xs.length=s.il/\∃T∈s.cases,T.ok (ls++xs.map (At.ev (ls++ys)))
 |[],S,h,hp=>by
  simp only[pz,cd,Bt]at hp;obtain⟨b,T,c,e⟩:=hp;refine⟨eq_of_beq b,T,c,?_⟩;rw[apt]at e;have:=h.eC e;rw[eB,AK (ys:=ys) rfl d.symm]at this;exact this
 |j ::r,S,h,hp=>by
  simp only[pz]at hp;split at hp
  .rename_i x i;simp only[cd]at hp
   cases f:(x.ev (ls++ys)).ck with
   |true=>
    obtain⟨g,b,_,c⟩:=h.assume f;have hp:=hp.1;rw[b]at hp;exact wz d c hp
   |false=>
    obtain⟨g,b,_,c⟩:=h.assume f;have hp:=hp.2;rw[b]at hp;exact wz d c hp
  .cases hp
def lvM(b:List Lv):Nat:=match b.find? λlv=>lv.k==0 with
 |some lv=>lv.xs.length
 |none=>0
def jJ(tb:Nat->Option dO):a8->jD->AS->Option (List Lv)
 |.br (.jump k xs),_,S=>some [⟨k,S,xs⟩]
 |.br (.st _ _),_,_=>none
 |.op nd k,a,S=>match nd with
  |.call t _ args n us=>match tb t with
   |some s=>match iY S s args n us with
    |some h=>pG (jJ tb k a) h
    |none=>none
   |none=>none
  |nd=>match DH S nd with
   |some j=>match S.rP j with
    |some S'=>jJ tb k a S'
    |none=>none
   |none=>none
 |.ite c x y,a,S=>
  match(match S.assume c true with|some e=>jJ tb x a.fst e|none=>some []),(match S.assume c false with|some e=>jJ tb y a.snd e|none=>some [])with
  |some p,some q=>some (p++q)
  |_,_=>none
 |.join x y,a,S=>match jJ tb x a.fst S with
  |some d=>match a.apm with
   |none=>pG (λlv=>match lv.k with
    |0=>match lv.S.meet S.env.length S.n lv.xs with
     |some S'=>jJ tb y a.snd S'
     |none=>none
    |k+1=>some [⟨k,lv.S,lv.xs⟩]) d
   |some (o,ts)=>
    match pG (λlv=>match lv.k with
     |0=>if pz ⟨S.env.length,lvM d,{},ts⟩ lv.xs o lv.S=true then some []else none
     |k+1=>some [⟨k,lv.S,lv.xs⟩]) d,pG (λT=>match S.C0 S.env.length (lvM d) T with
      |some S'=>jJ tb y a.snd S'
      |none=>none) ts with
    |some p,some q=>some (p++q)
    |_,_=>none
  |none=>none
 |.loop init body,a,S=>match a with
  |.l i a=>
   let n:=S.env.length
   if pz ⟨n,init.length,{},i.ts⟩ init i.sp S=true then pG (λT=>match S.C0 n init.length T with
    |some e=>match jJ tb body a e with
     |some d=>pG (λlv=>match lv.k with
      |0=>match lv.S.pw (n+init.length) [] i.t,lv.S.pw n lv.xs i.t,lv.S.pw n [] i.b with
       |some f,some g,some b=>if pz ⟨n,init.length,{},i.ts⟩ lv.xs i.sp lv.S=true/\RH i lv.S.fs f g b=true then some []else none
       |_,_,_=>none
      |k+1=>some [⟨k,lv.S,lv.xs⟩]) d
     |none=>none
    |none=>none) i.ts
   else none
  |_=>none
def oR(tb:Nat->Option dO):a8->Prop
 |.br _=>True
 |.op b k=>(match b with| .call t F _ _ _=>∀s,tb t=some s->s.ok F|_=>True)/\oR tb k
 |.ite _ x y=>oR tb x/\oR tb y
 |.join x y=>oR tb x/\oR tb y
 |.loop _ y=>oR tb y
def yw(τ:List L)(b:List Lv)(x:Lf)(ρ':List L):Prop:=∃lv∈b,x=.jump lv.k lv.xs/\∃c,Ga lv.S (τ++c) ρ'
theorem nC:∀(f:a8){ρ ρ'}{x},f.a6 ρ=some (x,ρ')->∃ys,ρ'=ρ++ys
 |.br x,ρ,ρ',y,h=>by cases h;simp_all
 |.op j k,ρ,ρ',y,h=>by
  simp only[a8.a6]at h;split at h
  .obtain⟨ys,d⟩:=nC k h;exact⟨_,by rw[d,eU]⟩
  .cases h
 |.ite c a b,ρ,ρ',y,h=>by
  simp only[a8.a6]at h;split at h
  .exact nC a h
  .exact nC b h
 |.join a b,ρ,ρ',y,h=>by
  simp only[a8.a6]at h;split at h
  .obtain⟨ys,d⟩:=nC b h;exact⟨_,by rw[d,eU]⟩
  .rename_i i;cases h;exact nC a i
  .exact nC a h
 |.loop init body,ρ,ρ',y,h=>by
  obtain⟨n,e⟩:=sY h;generalize init.map (At.ev ρ)=a at e
  induction n generalizing a with
  |zero=>cases e
  |succ n ih=>
   simp only[fP]at e;split at e
   .exact ih _ e
   .rename_i r g;cases e;simp only[jk]at g;split at g
    .cases g
    .rename_i i;cases g;obtain⟨ys,d⟩:=nC body i;exact⟨a++ys,by rw[d,eU]⟩
    .rename_i i;cases g;obtain⟨ys,d⟩:=nC body i;exact⟨a++ys,by rw[d,eU]⟩
    .cases g
   .cases e
theorem rk{tb:Nat->Option dO}:∀(f:a8){a:jD}{S:AS}{τ ρ:List L}{u:List Lv},Ga S τ ρ->oR tb f->jJ tb f a S=some u->∃x ρ',f.a6 ρ=some (x,ρ')/\yw τ u x ρ'
 |.br x,a,S,τ,ρ,u,h,_,d=>by
  cases x with
  |st=>cases d
  |jump k xs=>cases d;exact⟨_,_,rfl,_,fO.2 rfl,rfl,[],by simpa using h⟩
 |.op nd k,a,S,τ,ρ,u,h,E,d=>by
  have ext:∀(ls:List L)(S':AS)(G:List Lv),nd.ev ρ=some ls->Ga S' (τ++ls) (ρ++ls)->jJ tb k a S'=some G->(∀z∈G,z∈u)->∃x ρ',(a8.op nd k).a6 ρ=some (x,ρ')/\yw τ u x ρ':=λls S' G C A h3 v=>by
   obtain⟨x,ρ',q1,lv,q2,q3,J,q4⟩:=rk k A E.2 h3;exact⟨x,ρ',by rw[a8.a6,C];exact q1,lv,v lv q2,q3,ls++J,by rw[<-eU];exact q4⟩
  have plain:(match DH S nd with|some Ns=>(match S.rP Ns with|some S'=>jJ tb k a S'|none=>none)|none=>none)=some u->∃x ρ',(a8.op nd k).a6 ρ=some (x,ρ')/\yw τ u x ρ':=λd=>by
   split at d
   .rename_i Ns hN;split at d
    .rename_i S' hS;obtain⟨ls,C,A⟩:=aiP h hN;exact ext ls S' u C (h.rP hS A) d λz hz=>hz
    .cases d
   .cases d
  cases nd with
  |call t F args n us=>
   simp only[jJ]at d;split at d
   .rename_i s hs;split at d
    .rename_i Ss af;obtain⟨o,C,S',A,h3⟩:=alQ h (E.1 s hs) (tag:=t) af;obtain⟨J,v,K⟩:=uB d A;grind
    .cases d
   .cases d
  |_=>exact plain d
 |.ite c x y,a,S,τ,ρ,u,h,E,d=>by
  simp only[jJ]at d;split at d
  .rename_i p q hp hq;cases d
   cases ht:(c.ev ρ).ck with
   |true=>
    obtain⟨S1,C,_,A⟩:=h.assume ht;rw[C]at hp;obtain⟨x1,ρ',q1,lv,q2,q3⟩:=rk x A E.1 hp;exact⟨x1,ρ',by rw[a8.a6,ht];exact q1,lv,sq _ q2,q3⟩
   |false=>
    obtain⟨S1,C,_,A⟩:=h.assume ht;rw[C]at hq;obtain⟨x1,ρ',q1,lv,q2,q3⟩:=rk y A E.2 hq;exact⟨x1,ρ',by rw[a8.a6,ht];exact q1,lv,qq _ q2,q3⟩
  .cases d
 |.join x y,a,S,τ,ρ,u,h,E,d=>by
  simp only[jJ,X6]at d;split at d
  .rename_i ls P;obtain⟨x1,M,q1,lv,q2,q3,J,q4⟩:=rk x h E.1 P;subst q3;obtain⟨ys,w⟩:=nC x q1;split at d;rotate_left
   .split at d
    .rename_i p q hp hq;cases d;obtain⟨ws,v,K⟩:=uB hp q2;obtain⟨k,S1,xs⟩:=lv;have hlen:S.env.length=ρ.length:=by rw[h.env];simp
     have aa:(atoms S.env.length).map (At.ev ρ)=ρ:=AK (ys:=[]) (by simp) hlen
     cases k with
     |zero=>
      simp only at v q4 q1;split at v
      .rename_i R;subst w;obtain⟨g1,T,g2,g3⟩:=wz (ls:=ρ) (ys:=ys) hlen.symm q4 R;obtain⟨us,O,h7⟩:=uB hq g2;split at O
       .rename_i S' U;have g4:=h.ext U (o:=xs.map (At.ev (ρ++ys))) (by simpa using g1) (by rw[aa];exact g3);obtain⟨x2,V,W,X,Y,r3,Z,r4⟩:=rk y g4 E.2 O;refine⟨x2,V,?_,X,qq _ (h7 _ Y),r3,xs.map (At.ev (ρ++ys))++Z,by simp_all⟩;rw[a8.a6,q1];exact W
       .cases O
      .cases v
     |succ k=>
      cases v;exact⟨_,_,by rw[a8.a6,q1],_,sq _ (K _ (fO.2 rfl)),rfl,J,q4⟩
    .cases d
   obtain⟨ws,v,K⟩:=uB d q2;obtain⟨k,S1,xs⟩:=lv
   cases k with
   |zero=>
    simp only at v q4 q1;split at v
    .rename_i S' U;obtain⟨ag,O⟩:=alL q4 U;have hlen:S.env.length=ρ.length:=by rw[h.env];simp
     rw[w,hlen,List.take_left,<-w]at O;obtain⟨x2,V,W,X,Y,r3,Z,r4⟩:=rk y O E.2 v;exact⟨x2,V,by rw[a8.a6,q1];exact W,X,K _ Y,r3,J++ag++Z,by simpa using r4⟩
    .cases v
   |succ k=>
    cases v;exact⟨_,_,by rw[a8.a6,q1],_,K _ (fO.2 rfl),rfl,J,q4⟩
  .cases d
 |.loop init body,a,S,τ,ρ,u,h,E,d=>by
  cases a with
  |e=>cases d
  |b=>cases d
  |j=>cases d
  |l i a =>
   simp only[jJ,X6,Nn,ju]at d;split at d
   .rename_i ab;have hlen:S.env.length=ρ.length:=by rw[h.env];simp
    have aa:(atoms S.env.length).map (At.ev ρ)=ρ:=AK (ys:=[]) (by simp) hlen
    let tv:List L->Int:=λvs=>cz (ρ++vs) i.t
    let mu:List L->Nat:=λvs=>if i.up=true then(cz ρ i.b+i.c+1-tv vs).toNat else(tv vs- (cz ρ i.b+i.c)+1).toNat
    have round:∀(vs:List L),vs.length=init.length->(∃T∈i.ts,T.ok (ρ++vs))->(∃r,jk (body.a6 (ρ++vs))=some (.inr r)/\yw τ u r.1 r.2)\/(∃B,jk (body.a6 (ρ++vs))=some (.inl B)/\B.length=init.length/\(∃T∈i.ts,T.ok (ρ++B))/\mu B<mu vs):=by
     intro vs D ⟨T,hT,N⟩;obtain⟨al,d,ah⟩:=uB d hT;split at d
     .rename_i S1 ai;split at d
      .rename_i ls P;obtain⟨x1,M,q1,lv,q2,q3,J,q4⟩:=rk body (h.ext ai D (by simp_all)) E P;subst q3;obtain⟨ys,w⟩:=nC body q1;obtain⟨ws,v,K⟩:=uB d q2;obtain⟨k,S2,xs⟩:=lv
       cases k with
       |zero=>
        simp only at v q4 q1;split at v
        .rename_i am an b ad ae hb;split at v
         .rename_i aj;obtain⟨R,g⟩:=aj;have hf:∀f∈S2.fs,f.holds (τ++vs++J):=λf hf=>q4.holds hf
          have e1:=(q4.tr ad).1;have e2:=(q4.tr hb).1;have e3:=(q4.tr ae).1;have H:M=ρ++(vs++ys):=by rw[w,eU]
          have ea:(atoms S.env.length).map (At.ev M)=ρ:=AK (ys:=vs++ys) H hlen;rw[AK w (by simp[hlen,D])]at e1;rw[ea]at e2;rw[eB,ea]at e3;subst H;obtain⟨g1,T',g2,g3⟩:=wz (ls:=ρ) (ys:=vs++ys) hlen.symm q4 R;refine .inr ⟨xs.map (At.ev (ρ++(vs++ys))),by simp only[q1,jk],by simpa using g1,⟨T',g2,g3⟩,?_⟩;simp only[mu,tv];unfold RH at g;split at g
          .rename_i I;rw[bF I,bF I];simp only[cd]at g;have W:=fL hf g.1;have Y:=fL hf g.2;omega
          .rename_i I;rw[bO (by rw[I];decide),bO (by rw[I];decide)];simp only[cd]at g;have W:=fL hf g.1;have Y:=fL hf g.2;omega
         .cases v
        .cases v
       |succ k=>
        cases v;exact .inl ⟨(.jump k xs,M),by rw[q1];rfl,_,ah _ (K _ (fO.2 rfl)),rfl,vs++J,by simp_all⟩
      .cases d
     .cases d
    have main:∀(m:Nat)(vs:List L),vs.length=init.length->(∃T∈i.ts,T.ok (ρ++vs))->mu vs<=m->∃r,gx (λa=>jk (body.a6 (ρ++a))) vs=some r/\yw τ u r.1 r.2:=by
     intro m
     induction m with
     |zero=>
      intro vs D N ak;rcases round vs D N with⟨r,C,A⟩| ⟨B,_,_,_,v⟩
      .exact⟨r,xi C,A⟩
      .omega
     |succ m ih=>
      intro vs D N ak;rcases round vs D N with⟨r,C,A⟩| ⟨B,C,A,h3,v⟩
      .exact⟨r,xi C,A⟩
      .obtain⟨r,K,O⟩:=ih B A h3 om;exact⟨r,by rw[vJ C];exact K,O⟩
    obtain⟨g1,T,g2,g3⟩:=wz (ls:=ρ) (ys:=[]) hlen.symm (by simpa using h) ab;rw[ju]at g3;obtain⟨r,W,Y⟩:=main _ (init.map (At.ev ρ)) (by simp) ⟨T,g2,g3⟩ (dx _);exact⟨r.1,r.2,by exact W,Y⟩
   .cases d
end AI
namespace AI
def AS.start(s:dO):AS:=⟨List.range s.fF,s.fF,s.pre.fs,s.pre.rw,[],s.pre.bs.map λx=>(x.1,.iH x.2),[],[],[],s.pre.pr⟩
def dO.wf(s:dO):Bool:=s.pre.fs.all (Fa.in s.fF)&&s.pre.rw.all (λx=>decide (x.1<s.fF))&&s.pre.bs.all (λx=>decide (x.1<s.fF))&&s.pre.pr.all (λx=>x.2.all λg=>decide (g<s.fF))
theorem Ga.start{s}(h:s.wf=true){ls}(o:ls.length=s.fF)(hp:s.pre.ok ls):Ga (AS.start s) ls ls:=by
 simp only[dO.wf,cd,cj,dj]at h;obtain⟨⟨⟨A,B⟩,D⟩,E⟩:=h;refine⟨o,?_,λg F=>jZ.1 F,λf q=>⟨by rw[o];exact A f q,hp.fs f q⟩,λx d=>⟨B x d,hp.rw x d⟩,λx d=>(by cases d),λx d=>?_,λx d=>(by cases d),λx d=>(by cases d),λx d=>(by cases d),λx d=>⟨by exact E x d,hp.pr x d⟩⟩
 .apply sv;intro j;simp only[AS.start,cN];by_cases t:j<ls.length
  .rw[u9 om,cW t];simp[at',t]
  .rw[adl om,adl (by simp;omega)];rfl
 .obtain⟨y,u,rfl⟩:=eV.1 d;exact⟨D y u,rfl,hp.bs y u⟩
def FL(tb:Nat->Option dO)(f:a8)(a:jD)(s:dO)(c:List Nat):Bool:=s.wf&&match jJ tb f a (AS.start s)with
 |some b=>b.all λlv=>pz s lv.xs c lv.S
 |none=>false
theorem auq{tb f a s e}(h:FL tb f a s e=true)(g:oR tb f):s.ok λls=>gu (f.a6 ls):=by
 intro ls c hp;simp only[FL,cd]at h;obtain⟨i,h⟩:=h;split at h
 .rename_i j b;obtain⟨x,ρ',d,lv,o,rfl,u,p⟩:=rk f (Ga.start i c hp) g b;obtain⟨ys,rfl⟩:=nC f d;have:=cj.1 h lv o;obtain⟨q,T,r,t⟩:=wz c p this;exact⟨lv.xs.map (At.ev (ls++ys)),by simp only[d,gu],by simpa using q,T,r,t⟩
 .cases h
end AI
theorem alr{A R f}(I:A->Prop)(Q:R->Prop)(mu:A->Nat)
 (step:∀a,I a->(∃r,f a=some (.inr r)/\Q r)\/(∃b,f a=some (.inl b)/\I b/\mu b<mu a)):
 ∀a,I a->∃r,gx f a=some r/\Q r:=by
 have key:∀(n:Nat)(a:A),mu a<=n->I a->∃r,gx f a=some r/\Q r:=by
  intro n
  induction n with
  |zero=>
   intro a g c;rcases step a c with⟨r,d,e⟩| ⟨b,_,_,h⟩
   .exact⟨r,xi d,e⟩
   .omega
  |succ n ih=>
   intro a g c;rcases step a c with⟨r,d,e⟩| ⟨b,d,e,h⟩
   .exact⟨r,xi d,e⟩
   .obtain⟨r,i,j⟩:=ih b om e;exact⟨r,by rw[vJ d];exact i,j⟩
 exactλa c=>key _ a (dx _) c
def a8.wp(f:a8)(ρ:List L)(Q:Lf×List L->Prop):Prop:=∃r,f.a6 ρ=some r/\Q r
def eh(rest:a8)(ρ:List L)(Q:Lf×List L->Prop)(r:Lf×List L):Prop:=match r with
 |(.jump 0 args,ρ')=>rest.wp (ρ++args.map (At.ev ρ')) Q
 |(.jump (k+1) args,ρ')=>Q (.jump k args,ρ')
 |r=>Q r
def ey(I:List L->Prop)(mu:List L->Nat)(a:List L)(Q:Lf×List L->Prop)(r:Lf×List L):Prop:=match r with
 |(.jump 0 args,ρ')=>I (args.map (At.ev ρ'))/\mu (args.map (At.ev ρ'))<mu a
 |(.jump (k+1) args,ρ')=>Q (.jump k args,ρ')
 |r=>Q r
def dX(Q:List L->Prop)(r:Lf×List L):Prop:=match r with
 |(.jump 0 args,ρ')=>Q (args.map (At.ev ρ'))
 |_=>False
section
variable{ρ:List L}{Q:Lf×List L->Prop}
theorem dq{x}:(a8.br x).wp ρ Q=Q (x,ρ):=by
 apply propext;constructor
 .rintro⟨r,h1,h2⟩;cases h1;exact h2
 .intro h;exact⟨_,rfl,h⟩
theorem eZ{nd k}:(a8.op nd k).wp ρ Q=match nd.ev ρ with|some ls=>k.wp (ρ++ls) Q|none=>False:=by
 unfold a8.wp;simp only[a8.a6]
 cases nd.ev ρ with
 |none=>simp
 |some ls=>rfl
theorem dv{c a b}:(a8.ite c a b).wp ρ Q=if(c.ev ρ).ck=true then a.wp ρ Q else b.wp ρ Q:=by
 unfold a8.wp;simp only[a8.a6];split<;>rfl
theorem ek{a b}:(a8.join a b).wp ρ Q=a.wp ρ (eh b ρ Q):=by
 apply propext;unfold a8.wp;simp only[a8.a6];constructor
 .rintro⟨r,h1,h2⟩;split at h1
  .rename_i args ρ' ha;exact⟨_,ha,r,h1,h2⟩
  .rename_i k args ρ' ha;cases h1;exact⟨_,ha,h2⟩
  .rename_i h3 h4;refine⟨r,h1,?_⟩;obtain⟨lf,ρ'⟩:=r
   cases lf with
   |st=>exact h2
   |jump k args=>cases k with
    |zero=>exact absurd h1 (h3 _ _)
    |succ k=>exact absurd h1 (h4 _ _ _)
 .rintro⟨⟨lf,ρ'⟩,h1,h2⟩;rw[h1]
  cases lf with
  |st=>exact⟨_,rfl,h2⟩
  |jump k args=>cases k with
   |zero=>exact h2
   |succ k=>exact⟨_,rfl,h2⟩
theorem wp_loop{init body}(I)(mu)(h0:I (init.map (At.ev ρ)))(step:∀a,I a->body.wp (ρ++a) (ey I mu a Q)):(a8.loop init body).wp ρ Q:=by
 refine alr (f:=λa=>jk (body.a6 (ρ++a))) I Q mu (λa ha=>?_) _ h0;obtain⟨⟨lf,ρ'⟩,h1,h2⟩:=step a ha
 cases lf with
 |st e S=>exact .inl ⟨(.st e S,ρ'),by rw[h1];rfl,h2⟩
 |jump k args=>cases k with
  |zero=>exact .inr ⟨_,by rw[h1];rfl,h2.1,h2.2⟩
  |succ k=>exact .inl ⟨(.jump k args,ρ'),by rw[h1];rfl,h2⟩
theorem a8.wp.mono{f:a8}{d}(h:f.wp ρ Q)(o:∀r,Q r->d r):f.wp ρ d:=by
 obtain⟨r,q,t⟩:=h;exact⟨r,q,o r t⟩
end
theorem gi{f ls Q}(h:f.wp ls (dX Q)):∃o,Fo f ls=some o/\Q o:=by
 obtain⟨⟨c,ρ'⟩,d,b⟩:=h
 cases c with
 |st=>exact b.elim
 |jump k args=>cases k with
  |zero=>exact⟨_,by unfold Fo;rw[d];rfl,b⟩
  |succ k=>exact b.elim
theorem o0(n):(L.i n).a_=n:=rfl
theorem BP(b):(L.b b).ck=b:=rfl
theorem qj(r):(L.r r).bm=r:=rfl
section
variable{α:Type}{a:α}{l m:List α}{n:Nat}
theorem d1:(a::l)++m=a::(l++m):=rfl
theorem d2:([]:List α)++m=m:=rfl
theorem d3:(a::l)[n+1]?=l[n]?:=rfl
theorem d4:(a::l)[0]?=some a:=rfl
theorem d5{b}:(some a).getD b=a:=rfl
theorem d6{n}:(L.i n).a_=n:=rfl
theorem d7{b}:(L.b b).ck=b:=rfl
theorem d8{b}:(L.r b).bm=b:=rfl
theorem d9{b}:(L.c b).jm=b:=rfl
theorem e0{b}:(L.s b).du=b:=rfl
end
namespace AI
theorem wrap64{n}(b: -9223372036854775808<=n)(c:n<=9223372036854775807):IntKind.wrap .i64 n=n:=rn .i64 b c
theorem QZ(k:dH)(n):k.min<=k.wrap n/\k.wrap n<=k.max:=by
 have:=(lg (k:=some k) (t:=1) (τ:=[.i (k.wrap n)]) (n:=n) rfl)
 have b:=this _ eJ;have c:=this _ (fp _ eJ);simp[Fa.holds,iW,jH,cz,L.a_]at b c;omega
end AI
theorem bN{f ls o}(h:f.wp ls (dX λx=>x=o)):Fo f ls=some o:=by
 obtain⟨x,b,rfl⟩:=gi h;exact b
theorem ft{b P}(c:b=true↔P)(h:¬P):b=false:=by
 cases b with
 |true=>exact absurd (c.1 rfl) h
 |false=>rfl
section
variable{ρ:List L}{Q:Lf×List L->Prop}{k:a8}
theorem gb{nd}:(a8.op nd k).wp ρ Q=∃ls,nd.ev ρ=some ls/\k.wp (ρ++ls) Q:=by
 rw[eZ];cases nd.ev ρ<;>simp
theorem yR{o}{P:List L->Prop}:(∃ls,o.map ([·])=some ls/\P ls)=∃l,o=some l/\P [l]:=by
 cases o<;>simp
theorem je{op kd x y}:(a8.op (.bi op kd x y) k).wp ρ Q=∃l,cw op kd (x.ev ρ).a_ (y.ev ρ).a_=some l/\k.wp (ρ++[l]) Q:=by
 rw[gb];exact yR
theorem jS{op x y}:(a8.op (.bs op x y) k).wp ρ Q=∃l,rT op (x.ev ρ).du (y.ev ρ).du=some l/\k.wp (ρ++[l]) Q:=by
 rw[gb];exact yR
theorem jM{op x y}:(a8.op (.bb op x y) k).wp ρ Q=∃l,iu op (x.ev ρ).ck (y.ev ρ).ck=some l/\k.wp (ρ++[l]) Q:=by
 rw[gb];exact yR
theorem j_{x}:(a8.op (.not x) k).wp ρ Q=k.wp (ρ++[.b (!(x.ev ρ).ck)]) Q:=by rw[gb];simp[Nd.ev]
theorem kt{kd x}:(a8.op (.conv kd x) k).wp ρ Q=k.wp (ρ++[.i (kd.wrap (x.ev ρ).a_)]) Q:=by rw[gb];simp[Nd.ev]
theorem kh{x}:(a8.op (.len x) k).wp ρ Q=k.wp (ρ++[.i (x.ev ρ).bm.length]) Q:=by rw[gb];simp[Nd.ev]
theorem jr{x i n}:(a8.op (.row x i n) k).wp ρ Q=(0<=(i.ev ρ).a_/\∃r,(x.ev ρ).bm[(i.ev ρ).a_.toNat]?=some r/\r.length=n/\k.wp (ρ++[.c r]) Q):=by
 rw[gb];simp only[Nd.ev];by_cases h0:0<=(i.ev ρ).a_
 .simp only[h0,if_true,true_and]
  cases(x.ev ρ).bm[(i.ev ρ).a_.toNat]? with
  |none=>simp
  |some r=>by_cases hr:r.length=n<;>simp[hr]
 .simp[h0]
theorem jR{x i j kd}:(a8.op (.rc x i j kd) k).wp ρ Q=∃r,(x.ev ρ).bm[(i.ev ρ).a_.toNat]?=some r/\∃q,r[j]?=some q/\∃l,kd.of q=some l/\k.wp (ρ++[l]) Q:=by
 rw[gb];simp only[Nd.ev];apply propext
 cases(x.ev ρ).bm[(i.ev ρ).a_.toNat]? with
 |none=>simp
 |some r=>cases hr:r[j]? with
  |none=>simp[hr]
  |some q=>simp only[iQ,hr,exists_eq_left'];exact iff_of_eq yR
theorem iK{x j kd}:(a8.op (.cl x j kd) k).wp ρ Q=∃q,(x.ev ρ).jm[j]?=some q/\∃l,kd.of q=some l/\k.wp (ρ++[l]) Q:=by
 rw[gb];simp only[Nd.ev];apply propext
 cases(x.ev ρ).jm[j]? with
 |none=>simp
 |some q=>simp only[iQ,exists_eq_left'];exact iff_of_eq yR
theorem yz{α:Type}{c}[Decidable c]{a}{P:α->Prop}:(∃x,(if c then some a else none)=some x/\P x)=(c/\P a):=by
 by_cases h:c<;>simp[h]
theorem jB{i c}:(a8.op (.ed i c) k).wp ρ Q=((0<=(i.ev ρ).a_/\(i.ev ρ).a_<c)/\k.wp (ρ++[]) Q):=by rw[gb];exact yz
theorem jz{xs i}:(a8.op (.fw xs i) k).wp ρ Q=∃x,xs[(i.ev ρ).a_.toNat]?=some x/\k.wp (ρ++[x.ev ρ]) Q:=by
 rw[gb];simp only[Nd.ev];cases xs[(i.ev ρ).a_.toNat]? <;>simp
theorem ko{x i n y}:(a8.op (.jl x i n y) k).wp ρ Q=k.wp (ρ++[if(i.ev ρ).a_.toNat=n then y.ev ρ else x.ev ρ]) Q:=by rw[gb];simp[Nd.ev]
theorem kj{x lo hi n}:(a8.op (.part x lo hi n) k).wp ρ Q=((0<=(lo.ev ρ).a_/\(lo.ev ρ).a_<=(hi.ev ρ).a_/\(hi.ev ρ).a_.toNat<=(x.ev ρ).bm.length/\cf n (x.ev ρ).bm=true)/\k.wp (ρ++[.r (((x.ev ρ).bm.take (hi.ev ρ).a_.toNat).drop (lo.ev ρ).a_.toNat)]) Q):=by rw[gb];exact yz
theorem jN{x lo hi n}:(a8.op (.cut x lo hi n) k).wp ρ Q=((0<=(lo.ev ρ).a_/\(lo.ev ρ).a_<=(hi.ev ρ).a_/\(hi.ev ρ).a_.toNat<=(x.ev ρ).bm.length/\rC n (x.ev ρ).bm=true)/\k.wp (ρ++[.i (((hi.ev ρ).a_.toNat- (lo.ev ρ).a_.toNat:Nat):Int)]) Q):=by rw[gb];exact yz
theorem kA{x lo ln}:(a8.op (.vw x lo ln) k).wp ρ Q=k.wp (ρ++[.r (((x.ev ρ).bm.drop (lo.ev ρ).a_.toNat).take (ln.ev ρ).a_.toNat)]) Q:=by rw[gb];simp[Nd.ev]
theorem ky{x ln}:(a8.op (.tk x ln) k).wp ρ Q=k.wp (ρ++[.r ((x.ev ρ).bm.take (ln.ev ρ).a_.toNat)]) Q:=by rw[gb];simp[Nd.ev]
theorem jv{x y n b}:(a8.op (.app x y n b) k).wp ρ Q=(((x.ev ρ).bm.length+(y.ev ρ).bm.length<=9223372036854775807/\((x.ev ρ).bm.length+(y.ev ρ).bm.length)*b<=140737488355328/\cf n (x.ev ρ).bm=true/\cf n (y.ev ρ).bm=true)/\k.wp (ρ++[.r ((x.ev ρ).bm++(y.ev ρ).bm)]) Q):=by rw[gb];exact yz
theorem jn{x i j ps}:(a8.op (.set x i j ps) k).wp ρ Q=∃r,(x.ev ρ).bm[(i.ev ρ).a_.toNat]?=some r/\j+ps.length<=r.length/\k.wp (ρ++[.r ((x.ev ρ).bm.set (i.ev ρ).a_.toNat (r.take j++cH ρ ps++r.drop (j+ps.length)))]) Q:=by
 rw[gb];simp only[Nd.ev]
 cases(x.ev ρ).bm[(i.ev ρ).a_.toNat]? with
 |none=>simp
 |some r=>by_cases hr:j+ps.length<=r.length<;>simp[hr]
theorem kC{rows}:(a8.op (.lit rows) k).wp ρ Q=k.wp (ρ++[.r (rows.map (cH ρ))]) Q:=by rw[gb];simp[Nd.ev]
theorem kq{x y}:(a8.op (.mn x y) k).wp ρ Q=k.wp (ρ++[.i (if(y.ev ρ).a_< (x.ev ρ).a_ then(y.ev ρ).a_ else(x.ev ρ).a_)]) Q:=by rw[gb];simp[Nd.ev]
theorem ka{x y}:(a8.op (.mx x y) k).wp ρ Q=k.wp (ρ++[.i (if(y.ev ρ).a_> (x.ev ρ).a_ then(y.ev ρ).a_ else(x.ev ρ).a_)]) Q:=by rw[gb];simp[Nd.ev]
theorem fT{t F args n us}:(a8.op (.call t F args n us) k).wp ρ Q=∃l,F (args.map (At.ev ρ))=some l/\(l.length=n/\(us.all λi=>((l[i]?).getD (.b false)).bm.all (·.all PV.bare))=true)/\k.wp (ρ++l) Q:=by
 rw[gb];simp only[Nd.ev];apply propext
 cases F (args.map (At.ev ρ))with
 |none=>simp
 |some l=>simp only[iQ,exists_eq_left'];exact iff_of_eq yz
end
theorem adt{ρ Q c a b}:(a8.ite c a b).wp ρ Q=(((c.ev ρ).ck=true->a.wp ρ Q)/\((c.ev ρ).ck=false->b.wp ρ Q)):=by
 rw[dv];cases(c.ev ρ).ck<;>simp
section
variable{ρ:List L}{Q:Lf×List L->Prop}{k:a8}
theorem cP{op b x y l}(h:cw op b (x.ev ρ).a_ (y.ev ρ).a_=some l)(c:k.wp (ρ++[l]) Q):(a8.op (.bi op b x y) k).wp ρ Q:=by rw[je];exact⟨l,h,c⟩
theorem ot{op x y l}(h:rT op (x.ev ρ).du (y.ev ρ).du=some l)(b:k.wp (ρ++[l]) Q):(a8.op (.bs op x y) k).wp ρ Q:=by rw[jS];exact⟨l,h,b⟩
theorem ain{op x y l}(h:iu op (x.ev ρ).ck (y.ev ρ).ck=some l)(b:k.wp (ρ++[l]) Q):(a8.op (.bb op x y) k).wp ρ Q:=by rw[jM];exact⟨l,h,b⟩
theorem anI{x}(b:k.wp (ρ++[.b (!(x.ev ρ).ck)]) Q):(a8.op (.not x) k).wp ρ Q:=by exact b
theorem jo{b x}(c:k.wp (ρ++[.i (b.wrap (x.ev ρ).a_)]) Q):(a8.op (.conv b x) k).wp ρ Q:=by exact c
theorem Cr{x}(b:k.wp (ρ++[.i (x.ev ρ).bm.length]) Q):(a8.op (.len x) k).wp ρ Q:=by exact b
theorem wP{x i n r}(b:0<=(i.ev ρ).a_)(c:(x.ev ρ).bm[(i.ev ρ).a_.toNat]?=some r)(d:r.length=n)(e:k.wp (ρ++[.c r]) Q):(a8.op (.row x i n) k).wp ρ Q:=by rw[jr];exact⟨b,r,c,d,e⟩
theorem lA{x i j b r q l}(c:(x.ev ρ).bm[(i.ev ρ).a_.toNat]?=some r)(d:r[j]?=some q)(e:b.of q=some l)(f:k.wp (ρ++[l]) Q):(a8.op (.rc x i j b) k).wp ρ Q:=by rw[jR];exact⟨r,c,q,d,l,e,f⟩
theorem aio{x j b q l}(c:(x.ev ρ).jm[j]?=some q)(d:b.of q=some l)(e:k.wp (ρ++[l]) Q):(a8.op (.cl x j b) k).wp ρ Q:=by rw[iK];exact⟨q,c,l,d,e⟩
theorem lD{i:At}{c:Nat}(h:0<=(i.ev ρ).a_/\(i.ev ρ).a_<c)(b:k.wp (ρ++[]) Q):(a8.op (.ed i c) k).wp ρ Q:=by rw[jB];exact⟨h,b⟩
theorem vE{xs i x}(h:xs[(i.ev ρ).a_.toNat]?=some x)(b:k.wp (ρ++[x.ev ρ]) Q):(a8.op (.fw xs i) k).wp ρ Q:=by rw[jz];exact⟨x,h,b⟩
theorem na{x b c n}(h:0<=(b.ev ρ).a_/\(b.ev ρ).a_<=(c.ev ρ).a_/\(c.ev ρ).a_.toNat<=(x.ev ρ).bm.length/\rC n (x.ev ρ).bm=true)(d:k.wp (ρ++[.i (((c.ev ρ).a_.toNat- (b.ev ρ).a_.toNat:Nat):Int)]) Q):(a8.op (.cut x b c n) k).wp ρ Q:=by rw[jN];exact⟨h,d⟩
theorem Yg{x b ln}(c:k.wp (ρ++[.r (((x.ev ρ).bm.drop (b.ev ρ).a_.toNat).take (ln.ev ρ).a_.toNat)]) Q):(a8.op (.vw x b ln) k).wp ρ Q:=by exact c
theorem alB{x ln}(b:k.wp (ρ++[.r ((x.ev ρ).bm.take (ln.ev ρ).a_.toNat)]) Q):(a8.op (.tk x ln) k).wp ρ Q:=by exact b
theorem YI{x y n b}(h:(x.ev ρ).bm.length+(y.ev ρ).bm.length<=9223372036854775807/\((x.ev ρ).bm.length+(y.ev ρ).bm.length)*b<=140737488355328/\cf n (x.ev ρ).bm=true/\cf n (y.ev ρ).bm=true)(c:k.wp (ρ++[.r ((x.ev ρ).bm++(y.ev ρ).bm)]) Q):(a8.op (.app x y n b) k).wp ρ Q:=by rw[jv];exact⟨h,c⟩
theorem aac{x i j ps r}(b:(x.ev ρ).bm[(i.ev ρ).a_.toNat]?=some r)(c:j+ps.length<=r.length)(d:k.wp (ρ++[.r ((x.ev ρ).bm.set (i.ev ρ).a_.toNat (r.take j++cH ρ ps++r.drop (j+ps.length)))]) Q):(a8.op (.set x i j ps) k).wp ρ Q:=by rw[jn];exact⟨r,b,c,d⟩
theorem vM{rows}(b:k.wp (ρ++[.r (rows.map (cH ρ))]) Q):(a8.op (.lit rows) k).wp ρ Q:=by exact b
theorem bu{t F args n us l}(h:F (args.map (At.ev ρ))=some l)(b:l.length=n)(c:(us.all λi=>((l[i]?).getD (.b false)).bm.all (·.all PV.bare))=true)(d:k.wp (ρ++l) Q):(a8.op (.call t F args n us) k).wp ρ Q:=by rw[fT];exact⟨l,h,⟨b,c⟩,d⟩
theorem bZ{c a b}(d:(c.ev ρ).ck=true->a.wp ρ Q)(e:(c.ev ρ).ck=false->b.wp ρ Q):(a8.ite c a b).wp ρ Q:=by rw[adt];exact⟨d,e⟩
theorem eL{c a b}(hc:(c.ev ρ).ck=true)(ha:a.wp ρ Q):(a8.ite c a b).wp ρ Q:=by rw[dv,bF hc];exact ha
theorem cZ{c a b}(hc:(c.ev ρ).ck=false)(hb:b.wp ρ Q):(a8.ite c a b).wp ρ Q:=by rw[dv,bO (by rw[hc];decide)];exact hb
theorem Dt{a b}(h:a.wp ρ (eh b ρ Q)):(a8.join a b).wp ρ Q:=by rw[ek];exact h
theorem a7{x}(h:Q (x,ρ)):(a8.br x).wp ρ Q:=by rw[dq];exact h
def Nd.LV(ρ:List L):Nd->Option L
 |.len x=>some (.i (x.ev ρ).bm.length)
 |.bi op d x y=>cw op d (x.ev ρ).a_ (y.ev ρ).a_
 |.cl x j d=>match(x.ev ρ).jm[j]? with
  |some q=>d.of q
  |none=>none
 |.not x=>some (.b (!(x.ev ρ).ck))
 |.conv d x=>some (.i (d.wrap (x.ev ρ).a_))
 |.lit rows=>some (.r (rows.map (cH ρ)))
 |.vw x h ln=>some (.r (((x.ev ρ).bm.drop (h.ev ρ).a_.toNat).take (ln.ev ρ).a_.toNat))
 |.tk x ln=>some (.r ((x.ev ρ).bm.take (ln.ev ρ).a_.toNat))
 |.bb op x y=>iu op (x.ev ρ).ck (y.ev ρ).ck
 |_=>none
theorem sN{c l}(h:c.LV ρ=some l)(b:k.wp (ρ++[l]) Q):(a8.op c k).wp ρ Q:=by
 cases c with
 |len x=>cases h;exact Cr b
 |bi op e x y=>exact cP h b
 |cl x j e=>
  unfold Nd.LV at h
  cases d:(x.ev ρ).jm[j]? with
  |none=>simp[d]at h
  |some q=>exact aio d (by simpa[d]using h) b
 |not x=>cases h;exact anI b
 |conv e x=>cases h;exact jo b
 |lit rows=>cases h;exact vM b
 |vw x f ln=>cases h;exact Yg b
 |tk x ln=>cases h;exact alB b
 |bb op x y=>exact ain h b
 |_=>cases h
end
theorem oO{P:Prop}(h:P:=by(try dsimp only[At.ev,d1,d2,d3,d4,d5,d6,d7,d8,d9,e0,List.map,cH,Kd.pv]); (first|done|omega| (simp only[ez,eA,mT,su,sC,bC]<;>omega))):P:=h
theorem nW{f:a8}{ρ ρ' Q}(h:f.wp ρ' Q)(e:ρ=ρ':=by(try dsimp only[At.ev,d1,d2,d3,d4,d5,d6,d7,d8,d9,e0,List.map,cH,Kd.pv])<;>rfl):f.wp ρ Q:=e▸h
section
variable{ρ:List L}{Q:Lf×List L->Prop}{k:a8}
theorem kS{nd ls}(h:nd.ev ρ=some ls)(hk:k.wp (ρ++ls) Q):(a8.op nd k).wp ρ Q:=by rw[gb];exact⟨ls,h,hk⟩
theorem Ce{x y n}(h:min (x.ev ρ).a_ (y.ev ρ).a_=n)(b:k.wp (ρ++[.i n]) Q):(a8.op (.mn x y) k).wp ρ Q:=kS (by simp only[Nd.ev];congr 3;split<;>omega) b
theorem ID{x y n}(h:max (x.ev ρ).a_ (y.ev ρ).a_=n)(b:k.wp (ρ++[.i n]) Q):(a8.op (.mx x y) k).wp ρ Q:=kS (by simp only[Nd.ev];congr 3;split<;>omega) b
theorem AQ{x}(b:k.wp (ρ++[.i (x.ev ρ).du.size]) Q):(a8.op (.lI x) k).wp ρ Q:=kS rfl b
theorem zn{x b c n r}(h:0<=(b.ev ρ).a_/\(b.ev ρ).a_<=(c.ev ρ).a_/\(c.ev ρ).a_.toNat<=(x.ev ρ).bm.length/\cf n (x.ev ρ).bm=true)(d:((x.ev ρ).bm.take (c.ev ρ).a_.toNat).drop (b.ev ρ).a_.toNat=r)(e:k.wp (ρ++[.r r]) Q):(a8.op (.part x b c n) k).wp ρ Q:=kS (by simp only[Nd.ev];rw[bF h,d]) e
theorem nu{m ps b r}(h:0<=(m.ev ρ).a_/\(m.ev ρ).a_<=9223372036854775807/\b*(m.ev ρ).a_.toNat<=281474976710656)(c:List.replicate (m.ev ρ).a_.toNat (cH ρ ps)=r)(d:k.wp (ρ++[.r r]) Q):(a8.op (.f_ m ps b) k).wp ρ Q:=kS (by simp only[Nd.ev];rw[bF h,c]) d
theorem abJ{x b ln y n ls}(h:cf n (y.ev ρ).bm=true/\(b.ev ρ).a_.toNat+(ln.ev ρ).a_.toNat<=(x.ev ρ).bm.length)
 (c:[L.r ((x.ev ρ).bm.take (b.ev ρ).a_.toNat++(y.ev ρ).bm.take (min (y.ev ρ).bm.length (ln.ev ρ).a_.toNat)++(x.ev ρ).bm.drop ((b.ev ρ).a_.toNat+min (y.ev ρ).bm.length (ln.ev ρ).a_.toNat)),.i ((min (y.ev ρ).bm.length (ln.ev ρ).a_.toNat:Nat):Int)]=ls) (d:k.wp (ρ++ls) Q):(a8.op (.ue x b ln y n) k).wp ρ Q:=kS (by simp only[Nd.ev];rw[bF h,c]) d
theorem avW{x i b}(c:0<=(i.ev ρ).a_)(d:(x.ev ρ).du[(i.ev ρ).a_.toNat]?=some b)(e:k.wp (ρ++[.i b.toNat]) Q):(a8.op (.rr x i) k).wp ρ Q:=kS (by simp only[Nd.ev];rw[bF c,d]) e
theorem pN{b x n}(h:b.wrap (x.ev ρ).a_=n)(c:k.wp (ρ++[.i n]) Q):(a8.op (.conv b x) k).wp ρ Q:=jo (by rw[h];exact c)
theorem c_{x y n}(h:(x.ev ρ).a_+(y.ev ρ).a_=n)(b: -9223372036854775808<=n)(c:n<=9223372036854775807)(d:k.wp (ρ++[.i n]) Q):(a8.op (.bi .add .i64 x y) k).wp ρ Q:=cP (by show some (L.i _)=_;rw[h,AI.wrap64 b c]) d
theorem dk{x y n}(h:(x.ev ρ).a_- (y.ev ρ).a_=n)(b: -9223372036854775808<=n)(c:n<=9223372036854775807)(d:k.wp (ρ++[.i n]) Q):(a8.op (.bi .sub .i64 x y) k).wp ρ Q:=cP (by show some (L.i _)=_;rw[h,AI.wrap64 b c]) d
theorem fZ{x y n}(h:(x.ev ρ).a_*(y.ev ρ).a_=n)(b: -9223372036854775808<=n)(c:n<=9223372036854775807)(d:k.wp (ρ++[.i n]) Q):(a8.op (.bi .mul .i64 x y) k).wp ρ Q:=cP (by show some (L.i _)=_;rw[h,AI.wrap64 b c]) d
theorem bU{α:Type}{f}{l:List α}{x i:At}{n j:Nat}(b:(x.ev ρ).bm=l.map f)(c:(i.ev ρ).a_=j)(d)(e:(f l[j]).length=n)(g:k.wp (ρ++[.c (f l[j])]) Q):(a8.op (.row x i n) k).wp ρ Q:=
 wP (by omega) (by rw[b,c,fM,cN,cW d];rfl) e g
theorem fa{x y n b r}(c:cf n (x.ev ρ).bm=true)(d:cf n (y.ev ρ).bm=true)(h:(x.ev ρ).bm.length<=17179869184)(i:(y.ev ρ).bm.length<=17179869184)(e:b<=64)(f:(x.ev ρ).bm++(y.ev ρ).bm=r)(g:k.wp (ρ++[.r r]) Q):(a8.op (.app x y n b) k).wp ρ Q:=
 YI ⟨by omega,by
  have:((x.ev ρ).bm.length+(y.ev ρ).bm.length)*b<=34359738368*64:=Qd om e;omega,c,d⟩ (by rw[f];exact g)
def Nd.Ng(ρ:List L):Nd->Option L
 |.bi op d x y=>if lL op=true then cw op d (x.ev ρ).a_ (y.ev ρ).a_ else none
 |.conv _ _=>none
 |nd=>nd.LV ρ
theorem sT{b l}(h:b.Ng ρ=some l)(c:k.wp (ρ++[l]) Q):(a8.op b k).wp ρ Q:=by
 refine sN ?_ c
 cases b with
 |bi op d x y=>
  simp only[Nd.Ng]at h;split at h
  .exact h
  .cases h
 |conv=>cases h
 |_=>exact h
theorem uT{b l ρ'}(h:b.Ng ρ=some l)(c:k.wp ρ' Q)(e:ρ++[l]=ρ':=by(try dsimp only[At.ev,d1,d2,d3,d4,d5,d6,d7,d8,d9,e0,List.map,cH,Kd.pv])<;>rfl):(a8.op b k).wp ρ Q:=sT h (e▸c)
theorem uR{f b:a8}{ρ ρ' Q}(h:b.wp ρ' Q)(e:b.wp ρ' Q->f.wp ρ Q:=by(intro h;refine nW ?_;repeat refine uT rfl ?_);exact h):f.wp ρ Q:=e h
theorem cm{x:At}{i:Nat}(h:(x.ev ρ).a_=i)(c:i<=4611686018427387904)(b:k.wp (ρ++[.i ((i+1:Nat):Int)]) Q):(a8.op (.bi .add .i64 x (.i 1)) k).wp ρ Q:=c_ (by rw[h];rfl) om om b
theorem afl{n}(b:0<=n)(c:n<=18446744073709551615):IntKind.wrap .u64 n=n:=AI.rn .u64 (by simp[IntKind.min,IntKind.signed];omega) (by simp[IntKind.max,IntKind.signed,IntKind.bits];omega)
theorem qe{x n}(h:(x.ev ρ).a_=n)(b:0<=n)(c:n<=18446744073709551615)(d:k.wp (ρ++[.i n]) Q):(a8.op (.conv .u64 x) k).wp ρ Q:=pN (by rw[h,afl b c]) d
theorem od{x n}(h:(x.ev ρ).a_=n)(b: -9223372036854775808<=n)(c:n<=9223372036854775807)(d:k.wp (ρ++[.i n]) Q):(a8.op (.conv .i64 x) k).wp ρ Q:=pN (by rw[h,AI.wrap64 b c]) d
theorem bG{c a b P inst}(d:c.ev ρ=.b (@decide P inst))(e:P->a.wp ρ Q)(f:¬P->b.wp ρ Q):(a8.ite c a b).wp ρ Q:=
 bZ (λh=>e (by rw[d]at h;exact dZ h)) (λh=>f (by rw[d]at h;exact eR h))
theorem fD{c a b P inst}(d:c.ev ρ=.b (@decide P inst))(h:P)(e:a.wp ρ Q):(a8.ite c a b).wp ρ Q:=bG d (λ_=>e) λk=>absurd h k
theorem db{c a b P inst}(d:c.ev ρ=.b (@decide P inst))(h:¬P)(e:b.wp ρ Q):(a8.ite c a b).wp ρ Q:=bG d (λk=>absurd k h) λ_=>e
theorem dF{P inst}(h:¬P):[L.b (@decide P inst)]=[.b false]:=by rw[decide_eq_false h]
theorem dT{P inst}(h:P):[L.b (@decide P inst)]=[.b true]:=by rw[decide_eq_true h]
def jQ(K:List L->Prop)(Q:Lf×List L->Prop)(r:Lf×List L):Prop:=match r with
 |(.jump 0 args,ρ')=>K (args.map (At.ev ρ'))
 |(.jump (k+1) args,ρ')=>Q (.jump k args,ρ')
 |r=>Q r
theorem bE{a b}(K)(d:a.wp ρ (jQ K Q))(h:∀xs,K xs->b.wp (ρ++xs) Q):(a8.join a b).wp ρ Q:=by
 refine Dt (a8.wp.mono d λr c=>?_);obtain⟨e,ρ'⟩:=r
 cases e with
 |st=>exact c
 |jump k args=>cases k with
  |zero=>exact h _ c
  |succ k=>exact c
def cI(P:Prop)(xs:List L):Prop:=∃t:Bool,xs=[.b t]/\(t=true↔P)
theorem cC{P}(h:P):cI P [.b true]:=⟨true,rfl,λ_=>h,λ_=>rfl⟩
theorem d_{P}(h:¬P):cI P [.b false]:=⟨false,rfl,λh=>(by cases h),λb=>absurd b h⟩
theorem d'{P R}[Decidable R](h:R↔P):cI P [.b (decide R)]:=⟨_,rfl,by rw[dj];exact h⟩
theorem px{P R}[Decidable R](h:¬R↔P):cI P [.b (!decide R)]:=⟨_,rfl,by rw[o_,u6];exact h⟩
end
end
section
section
open Go.RowKit
theorem eb{ρ Q k}{α:Type}{f}{l:List α}{x i:At}{j c:Nat}{b q y}(d:(x.ev ρ).bm=l.map f)(e:(i.ev ρ).a_=j)(g)(h:(f l[j])[c]?=some q)(o:b.of q=some y)(p:k.wp (ρ++[y]) Q):(a8.op (.rc x i c b) k).wp ρ Q:=
 lA (by rw[d,e,fM,cN,cW g];rfl) h o p
theorem yv{b}{x k:Nat}(h:k<=b.bits):cw .shr b (x:Int) (k:Int)=some (.i ((x>>>k:Nat):Int)):=by
 show(if 0<=(k:Int)then some (L.i ((x:Int).fdiv (2^ (min (k:Int).toNat b.bits))))else none)=_;rw[bF om,fM,u7 h,G1 _ (Int.pow_nonneg dc),Qe,show(2:Int) ^k=((2^k:Nat):Int)by rfl,<-Int.natCast_ediv]
end
def cR(a m b p:Nat):Nat:=if a<=p/\p<a+(b-m)then p+m-a else if a+(b-m)<=p/\p<b then p+m-b else p
def kp(a b n p:Nat):Nat:=if a<=p/\p<a+n then p+b-a else if b<=p/\p<b+n then p+a-b else p
theorem Zq{a m p}:cR a m m p=p:=by unfold cR; (repeat' split)<;>omega
theorem V4{m b p}(h:m<=b):cR m m b p=p:=by unfold cR; (repeat' split)<;>omega
theorem asG{m i j p}(b:i<=m)(c:j<i):kp (m-i) m j (cR (m- (i-j)) m (m+j) p)=cR (m-i) m (m+j) p:=by unfold kp cR; (repeat' split)<;>omega
theorem afV{m i j p}(b:i<=m)(c:i<j):kp (m-i) (m+j-i) i (cR (m-i) m (m+(j-i)) p)=cR (m-i) m (m+j) p:=by unfold kp cR; (repeat' split)<;>omega
theorem ajY{m i p}(b:i<=m):kp (m-i) m i p=cR (m-i) m (m+i) p:=by unfold kp cR; (repeat' split)<;>omega
def dM(g:Nat->Int)(a b:Nat):Prop:=∀p q,a<=p->p<q->q<b->g p<=g q
theorem dM.le{g a b p q}(h:dM g a b)(d:a<=p)(t:p<=q)(o:q<b):g p<=g q:=by
 by_cases e:p=q
 .subst e;exact GS _
 .exact h p q d om o
theorem aep{g a b i}(d:dM g (a+1) b)(s:a+1<=i)(t:i<=b)(k1:i=a+1\/g (i-1)<=g a)(k2:i=b\/g a<=g i):dM (λp=>g (cR a (a+1) i p)) a b:=by
 intro p q hp e f;have j:∀x,a+1<=x->x<i->g x<=g a:=λx c h=>by
  rcases k1 with k1|k1
  .omega
  .exact qw (d.le c om om) k1
 have o:∀x,i<=x->x<b->g a<=g x:=λx c h=>by
  rcases k2 with k2|k2
  .omega
  .exact qw k2 (d.le om c h)
 have r:∀x,a<=x->x<i-1->cR a (a+1) i x=x+1:=λx c h=>by unfold cR; (repeat' split)<;>omega
 have e2:cR a (a+1) i (i-1)=a:=by unfold cR; (repeat' split)<;>omega
 have e3:∀x,i<=x->cR a (a+1) i x=x:=λx c=>by unfold cR; (repeat' split)<;>omega
 show g (cR a (a+1) i p)<=g (cR a (a+1) i q);by_cases c1:p<i-1
 .rw[r p hp c1];by_cases c2:q<i-1
  .rw[r q om c2];exact d _ _ om om om
  .by_cases c3:q=i-1
   .rw[c3,e2];exact j _ om om
   .rw[e3 q om];exact qw (j _ om om) (o _ om f)
 .by_cases c2:p=i-1
  .rw[c2,e2,e3 q om];exact o _ om f
  .rw[e3 p om,e3 q om];exact d _ _ om e f
theorem awC{g a m i}(b:dM g a m)(o:a<=i)(r:i<=m)(k1:i=a\/g (i-1)<=g m)(k2:i=m\/g m<=g i):dM (λp=>g (cR i m (m+1) p)) a (m+1):=by
 intro p q hp d s;have h:∀x,a<=x->x<i->g x<=g m:=λx c e=>by
  rcases k1 with k1|k1
  .omega
  .exact qw (b.le c om om) k1
 have j:∀x,i<=x->x<m->g m<=g x:=λx c e=>by
  rcases k2 with k2|k2
  .omega
  .exact qw k2 (b.le om c e)
 have f:∀x,x<i->cR i m (m+1) x=x:=λx c=>by unfold cR; (repeat' split)<;>omega
 have e2:cR i m (m+1) i=m:=by unfold cR; (repeat' split)<;>omega
 have e3:∀x,i<x->x<=m->cR i m (m+1) x=x-1:=λx c e=>by unfold cR; (repeat' split)<;>omega
 show g (cR i m (m+1) p)<=g (cR i m (m+1) q);by_cases c1:p<i
 .rw[f p c1];by_cases c2:q<i
  .rw[f q c2];exact b _ _ hp d om
  .by_cases c3:q=i
   .rw[c3,e2];exact h _ hp c1
   .rw[e3 q om om];exact b _ _ hp om om
 .by_cases c2:p=i
  .rw[c2,e2,e3 q om om];exact j _ om om
  .rw[e3 p om om,e3 q om om];exact b _ _ om om om
theorem awR{g a m b s e}(h:dM g a m)(i:dM g m b)(A:a<=s)(B:s<=m)(C:m<=e)(D:e<=b)
 (k1:s=a\/e=b\/g (s-1)<=g e) (k2:s=m\/e=m\/g (e-1)<=g s):
 dM (λp=>g (cR s m e p)) a s/\dM (λp=>g (cR s m e p)) s (s+(e-m))/\dM (λp=>g (cR s m e p)) (s+(e-m)) e/\dM (λp=>g (cR s m e p)) e b/\
  ∀p q,a<=p->p<s+(e-m)->s+(e-m)<=q->q<b->g (cR s m e p)<=g (cR s m e q):=by
 have t:∀x,x<s->cR s m e x=x:=λx f=>by unfold cR; (repeat' split)<;>omega
 have u:∀x,s<=x->x<s+(e-m)->cR s m e x=x+m-s:=λx f v=>by unfold cR; (repeat' split)<;>omega
 have o:∀x,s+(e-m)<=x->x<e->cR s m e x=x+m-e:=λx f v=>by unfold cR; (repeat' split)<;>omega
 have r:∀x,e<=x->cR s m e x=x:=λx f=>by unfold cR; (repeat' split)<;>omega
 have c1:∀x y,a<=x->x<s->e<=y->y<b->g x<=g y:=λx y f v w z=>by
  rcases k1 with k|k|k
  .omega
  .omega
  .exact qw (h.le f om om) (qw k (i.le om w z))
 have c2:∀x y,m<=x->x<e->s<=y->y<m->g x<=g y:=λx y f v w z=>by
  rcases k2 with k|k|k
  .omega
  .omega
  .exact qw (i.le f om om) (qw k (h.le A w z))
 refine⟨λp q hp c d=>?_,λp q hp c d=>?_,λp q hp c d=>?_,λp q hp c d=>?_,λp q hp c d j=>?_⟩
 .show g (cR s m e p)<=g (cR s m e q);rw[t p om,t q d];exact h _ _ hp c om
 .show g (cR s m e p)<=g (cR s m e q);rw[u p hp om,u q om d];exact i _ _ om om om
 .show g (cR s m e p)<=g (cR s m e q);rw[o p hp om,o q om d];exact h _ _ om om om
 .show g (cR s m e p)<=g (cR s m e q);rw[r p hp,r q om];exact i _ _ om c d
 .by_cases d1:p<s
  .rw[t p d1];by_cases d2:q<e
   .rw[o q d d2];exact h.le hp om om
   .rw[r q om];exact c1 _ _ hp d1 om j
  .rw[u p om c];by_cases d2:q<e
   .rw[o q d d2];exact c2 _ _ om om om om
   .rw[r q om];exact i.le om om j
structure dU{α:Type}(a b:Nat)(l d:List α):Prop where
 perm:d.Perm l
 out:∀p,p<a\/b<=p->d[p]?=l[p]?
 AG:∀p,a<=p->p<b->∃q,a<=q/\q<b/\d[p]?=l[q]?
theorem dU.refl{α a b}(l:List α):dU a b l l:=⟨G3 _,λ_ _=>rfl,λp d h=>⟨p,d,h,rfl⟩⟩
theorem dU.trans{α a b}{l d e:List α}(h:dU a b l d)(k:dU a b d e):dU a b l e:=
 ⟨k.perm.trans h.perm,λp hp=>(k.out p hp).trans (h.out p hp),λp o t=>by
  obtain⟨q,q1,q2,q3⟩:=k.AG p o t;obtain⟨r,u,A,B⟩:=h.AG q q1 q2;exact⟨r,u,A,q3.trans B⟩⟩
theorem dU.mono{α a b o t}{l d:List α}(h:dU a b l d)(D:o<=a)(E:b<=t):dU o t l d:=
 ⟨h.perm,λp hp=>h.out p om,λp A B=>by
  by_cases u:a<=p/\p<b
  .obtain⟨q,q1,q2,q3⟩:=h.AG p u.1 u.2;exact⟨q,om,om,q3⟩
  .exact⟨p,A,B,h.out p om⟩⟩
theorem dU.swap{α a b i j}{l:List α}(d)(h)(t:a<=i)(u:i<b)(A:a<=j)(B:j<b):dU a b l ((l.set i l[j]).set j l[i]):=by
 refine⟨List.set_set_perm d h,λp hp=>?_,λp o q=>?_⟩
 .rw[BA om,BA om]
 .by_cases D:p=j
  .subst D;refine⟨i,t,u,?_⟩;rw[G4 (by simpa using h),cW d]
  .rw[BA om];by_cases e2:p=i
   .subst e2;exact⟨j,A,B,by rw[G4 d,cW h]⟩
   .exact⟨p,o,q,BA om⟩
def oX{α:Type}(f:α->Int)(l:List α)(p:Nat):Int:=match l[p]? with
 |some x=>f x
 |none=>0
theorem ami{α f}{l:List α}{p}(h):oX f l p=f l[p]:=by unfold oX;rw[cW h]
theorem lK{α f}{l d:List α}{p q}(h:d[p]?=l[q]?):oX f d p=oX f l q:=by unfold oX;rw[h]
theorem dM.congr{g h a b}(t:dM g a b)(e:∀p,a<=p->p<b->h p=g p):dM h a b:=λp q d u o=>by
 rw[e p d om,e q om o];exact t p q d u o
theorem dM.join{g a m b}(t:dM g a m)(u:dM g m b)(h:∀p q,a<=p->p<m->m<=q->q<b->g p<=g q):dM g a b:=λp q hp d o=>by
 by_cases c1:q<m
 .exact t p q hp d c1
 .by_cases c2:p<m
  .exact h p q hp c2 om o
  .exact u p q om d o
theorem amz{α f a m b}{l d e:List α}(h:∀p q,a<=p->p<m->m<=q->q<b->oX f l p<=oX f l q)(i:dU a m l d)(j:dU m b d e):∀p q,a<=p->p<m->m<=q->q<b->oX f e p<=oX f e q:=λp q hp c r g=>by
 obtain⟨s,k1,k2,t⟩:=i.AG p hp c;obtain⟨o,j1,u,v⟩:=j.AG q r g;rw[lK (j.out p om),lK t,lK v,lK (i.out o om)];exact h s o k1 k2 j1 u
end
end
end Go.Proofs.YtndegphojkiblaaGreatDoor
