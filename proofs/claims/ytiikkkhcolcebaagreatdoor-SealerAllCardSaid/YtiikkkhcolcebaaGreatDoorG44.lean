/- A part. -/
import Derived.Test.YtiikkkhcolcebaaGreatDoorG24
import Derived.Test.YtiikkkhcolcebaaGreatDoorG38
import Derived.Test.YtiikkkhcolcebaaGreatDoorG43
set_option linter.all false
set_option maxHeartbeats 4000000
set_option maxRecDepth 100000
namespace Go.Proofs.YtiikkkhcolcebaaGreatDoor
noncomputable section
section
open Go.RowKit Pl
theorem C7{gs:List Ge}{i:Nat}{e:Ge}(a:i<gs.length)(h):(gs.set i e)[i]'h=e:=OK _
theorem wR{gs}(h:dG gs):∃a:(cT gs).n<gs.length,gs[(cT gs).n]=cT gs:=by
 obtain⟨a,e⟩:=tw h;have:=(lA h).2.1;refine⟨om,?_⟩;have b:gs[(cT gs).n]?=gs[gs.length-1]?:=by rw[this]
 rw[cY om,cY a]at b;rw[rm b];exact e
theorem Inv.top{f gs a B}(h:Inv f gs a B):f (9*(cT gs).n)=some (a (cT gs).n)/\gg f (9*(cT gs).n)=a (cT gs).n/\((a (cT gs).n).length:Int)=(cT gs).size/\(a (cT gs).n).length<=B:=by
 obtain⟨k,e⟩:=wR h.s;have m:=(h.op _ k (by rw[e,(lA h.s).2.2];decide)).1;have d:=h.vb _ k;rw[e]at d;exact⟨m,by unfold gg;rw[m],d.2.1,d.2.2.1⟩
def pF(gs:List Ge)(a:Nat->List Nat)(x:Nl):Nat->List Nat:=λi=>if i=(cT gs).n then a i++ja x.key x.cookie x.del x.data else a i
theorem fp.M5{e:Ge}(h:fp e){x}(a:x∈e.l){D:List Nat}(d:(D.length:Int)=e.size):ends x<=D.length:=by rw[d];exact h.en x a
theorem Inv.add{f gs a B}(h:Inv f gs a B)(hB:B<=16000){x}(G:ka x):Inv (r5 f gs x) (l9 gs x) (pF gs a x) (B+56):=by
 obtain⟨N,Y⟩:=wR h.s;obtain⟨t1,t2,Z,t4⟩:=h.top;have q:=lA h.s;have aa:=FB G.len;have S:=Mt x.key x.cookie x.del x.data;have ab:=wc x.data.length;have ac:=G.len;have O:c7 x.data.length=((dw x.data.length:Nat):Int):=HK om;have P:(cT gs).size+c7 x.data.length<=17000:=om;have T:=V5 h.s G P;have hz:=Ge.Io q.1.s.v.1 G;have hn:=Ge.M8 (cT gs) x;have hlen:(l9 gs x).length=gs.length:=lr;have t:r5 f gs x=ch f (9*(cT gs).n) (some (a (cT gs).n++ja x.key x.cookie x.del x.data)):=by unfold r5;rw[t2]
 have H:pF gs a x (cT gs).n=a (cT gs).n++ja x.key x.cookie x.del x.data:=bA rfl;have z:∀i,i≠(cT gs).n->pF gs a x i=a i:=λi u=>bH u
 have I:∀M,(l9 gs x)[(cT gs).n]'M=(cT gs).add x:=λM=>C7 N M
 have E:∀i(M:i< (l9 gs x).length),i≠(cT gs).n->(l9 gs x)[i]'M=gs[i]'om:=λi M u=>Bm (λe=>u e.symm) _
 have Q:B8 (a (cT gs).n++ja x.key x.cookie x.del x.data):=gu (h.vb _ N).1 (Hb _ _ _ G.b);refine⟨T,λj b F=>?_,λi u=>?_,λi u y d=>?_,λi u J=>?_,λi u J=>?_,λj F=>?_⟩
 .rw[t]at F;by_cases e:j=9*(cT gs).n
  .subst e;rw[gj]at F;cases F;exact⟨Q,by rw[cD];omega⟩
  .rw[dv e]at F;have:=h.fb j b F;exact⟨this.1,om⟩
 .by_cases e:i=(cT gs).n
  .subst e;obtain⟨r,hr,U⟩:=(h.vb _ N).2.2.2;rw[H,I];refine⟨Q,?_,by rw[cD];omega,r++ja x.key x.cookie x.del x.data,gu hr (Hb _ _ _ G.b),by rw[U,dI]⟩;rw[hz,cD,S,O];omega
  .rw[z i e,E i u e];have:=h.vb i om;exact⟨this.1,this.2.1,om,this.2.2.2⟩
 .by_cases e:i=(cT gs).n
  .subst e;rw[H];rw[I]at d;have old:∀y∈(cT gs).l,oj (a (cT gs).n++ja x.key x.cookie x.del x.data) y:=λy d=>by
    have m:=h.rc _ N;rw[Y]at m;exact(oj.app (m y d) (q.1.s.v.2 y d) (q.1.M5 d Z)).1
   unfold Ge.add at d;by_cases W:x.del=true
   .rw[bA W]at d;exact old y (qX.1 d).1
   .rw[bH W]at d;rcases tR d with rfl|d
    .have:=(oj.new (D:=a (cT gs).n) G (by simpa using W)).1;unfold Ge.item;rw[<-Z];exact this
    .exact old y d
  .rw[z i e];rw[E i u e]at d;exact h.rc i om y d
 .by_cases e:i=(cT gs).n
  .subst e;have m:=h.op _ N (by rw[Y,q.2.2];decide);rw[t,H,gj];refine⟨rfl,λk R K=>?_⟩;rw[dv om];exact m.2 k R K
  .rw[E i u e]at J;have m:=h.op i om J;rw[t,z i e,dv om];refine⟨m.1,λk R K=>?_⟩;rw[dv om];exact m.2 k R K
 .by_cases e:i=(cT gs).n
  .subst e;rw[I,hn.2,q.2.2]at J;exact absurd J dc
  .rw[E i u e]at J⊢;obtain⟨X,m⟩:=h.cl i om J;rw[z i e,t];refine⟨X,m.h,m.e,m.n,m.m,?_,λk R=>?_⟩
   .rw[dv om];exact m.x
   .rw[dv om];exact m.s k R
 .rw[hlen]at F;rw[t,dv (by have:=q.2.1;omega)];exact h.ft j F
theorem FJ{gs b:List Ge}{c a:Nat->List Nat}{k}(d:b.length=gs.length)(h:∀i,i<gs.length->look b i k=look gs i k)(e:∀i x,i<gs.length->look gs i k=some x->mD (a i) x=mD (c i) x):has b a k=has gs c k:=by
 unfold has;rw[d,Lb h]
 cases f:ly gs k gs.length with
 |none=>rfl
 |some p=>
  have:=Jn f;show some (mD (a p.1) p.2)=some (mD (c p.1) p.2);rw[e p.1 p.2 this.1 this.2]
theorem BU{gs:List Ge}{i j:Nat}{e:Ge}(a:i<gs.length)(k):look (gs.set i e) j k=if j=i then c_ e.l k else look gs j k:=by
 unfold look;by_cases h:j=i
 .subst h;rw[bA rfl,jC (by rw[lr];exact a),C7 a]
 .rw[bH h,jZ,jZ,yi (λe=>h e.symm)]
theorem HP{gs}(h:dG gs)(k):look gs (cT gs).n k=c_ (cT gs).l k:=by
 obtain⟨a,e⟩:=wR h;rw[tA a,e]
theorem YB{gs i k x}(h:look gs i k=some x)(a:i<gs.length):x∈gs[i].l:=by
 rw[tA a]at h;exact(B4 h).1
theorem K6{gs}(h:dG gs)(x)(j)(k):look (l9 gs x) j k=if j=(cT gs).n then(if k=x.key then(if x.del=true then none else some ((cT gs).item x))else look gs j k)else look gs j k:=by
 obtain⟨f,e⟩:=wR h;have d:=(lA h).1.s.v.1;unfold l9;rw[BU f];by_cases c:j=(cT gs).n
 .subst c;rw[bA rfl,bA rfl,HP h];unfold Ge.add;by_cases b:x.del=true
  .rw[bA b,Ha d];by_cases a:k=x.key
   .rw[bA a,bA a,bA b]
   .rw[bH a,bH a]
  .rw[bH b,ayd d];show(if k=x.key then _ else _)=_;by_cases a:k=x.key
   .rw[bA a,bA a,bH b]
   .rw[bH a,bH a]
 .rw[bH c,bH c]
theorem Q8{f gs a B}(h:Inv f gs a B)(y:Nl){i}(c:i<gs.length){x}(d:x∈gs[i].l):mD (pF gs a y i) x=mD (a i) x:=by
 unfold pF;by_cases e:i=(cT gs).n
 .rw[bA e];have b:=(h.s.ok i c).1;have:=(oj.app (E:=ja y.key y.cookie y.del y.data) (h.rc i c x d) (b.s.v.2 x d) (b.M5 d (h.vb i c).2.1)).2;unfold mD;rw[this]
 .rw[bH e]
theorem atX{f gs a B}(h:Inv f gs a B){x}(g:ka x)(d:x.del=false)(k):has (l9 gs x) (pF gs a x) k=if k=x.key then some x else has gs a k:=by
 obtain⟨o,t2,j,p⟩:=h.top;have l:=lA h.s;have m:=h.s.n1;have hlen:(l9 gs x).length=gs.length:=lr;by_cases b:k=x.key
 .rw[bA b];unfold has;rw[hlen,show gs.length=(cT gs).n+1 by omega,ly,K6 h.s,bA rfl,bA b,bH (by rw[d];decide)];show some (mD (pF gs a x (cT gs).n) ((cT gs).item x))=some x;unfold pF Ge.item;rw[bA rfl,<-j,(oj.new g d).2]
 .rw[bH b];refine FJ hlen (λi c=>?_) (λi y c n=>Q8 h x c (YB n c));rw[K6 h.s];by_cases e:i=(cT gs).n
  .rw[bA e,bH b]
  .rw[bH e]
theorem Inv.kill{f gs u B}(h:Inv f gs u B){i:Nat}(F:i<gs.length)(q:gs[i].mode≠1)(k:Int):Inv f (gs.set i (gs[i].del k)) u B:=by
 have x:=h.s.ok i F;have D:=dG.set h.s (x.1.del k) (by show gs[i].n<_;omega) (by show gs[i].mode=1↔gs[i].n=_;rw[x.2.1];exact x.2.2);have D:dG (gs.set i (gs[i].del k)):=by rwa [show(gs[i].del k).n=i from x.2.1]at D
 have hlen:(gs.set i (gs[i].del k)).length=gs.length:=lr;have key:∀j(d:j< (gs.set i (gs[i].del k)).length),∃a:j<gs.length,(gs.set i (gs[i].del k))[j].size=gs[j].size/\(gs.set i (gs[i].del k))[j].mode=gs[j].mode/\∀y∈(gs.set i (gs[i].del k))[j].l,y∈gs[j].l:=λj d=>by
  refine⟨om,?_⟩;by_cases e:i=j
  .subst e;rw[C7 F];exact⟨Ge.Mw x.1.s.v.1 k,rfl,λy m=>(qX.1 m).1⟩
  .rw[Bm e];exact⟨rfl,rfl,λy m=>m⟩
 refine⟨D,h.fb,λj d=>?_,λj d y m=>?_,λj d q=>?_,λj d q=>?_,λj d=>?_⟩
 .obtain⟨a,k1,k2,z⟩:=key j d;rw[k1];exact h.vb j a
 .obtain⟨a,k1,k2,z⟩:=key j d;exact h.rc j a y (z y m)
 .obtain⟨a,k1,k2,z⟩:=key j d;rw[k2]at q;exact h.op j a q
 .obtain⟨a,k1,k2,z⟩:=key j d;rw[k2]at q;obtain⟨E,t⟩:=h.cl j a q;exact⟨E,t.h,t.e,t.n,λy m=>t.m y (z y m),t.x,t.s⟩
 .rw[hlen]at d;exact h.ft j d
theorem Inv.VS{f gs m B}(h:Inv f gs m B){i:Nat}(E:i<gs.length){b}(z:B8 b){q}(D:b.length<=q)(F:B<=q):Inv (ch f (9*i+1) (some b)) gs m q:=by
 refine⟨h.s,λj c a=>?_,λj a=>?_,h.rc,λj a t=>?_,λj a t=>?_,λj a=>?_⟩
 .by_cases e:j=9*i+1
  .subst e;rw[gj]at a;cases a;exact⟨z,D⟩
  .rw[dv e]at a;have:=h.fb j c a;exact⟨this.1,om⟩
 .have:=h.vb j a;exact⟨this.1,this.2.1,om,this.2.2.2⟩
 .have d:=h.op j a t;rw[dv om];refine⟨d.1,λk u x=>?_⟩;rw[dv om];exact d.2 k u x
 .obtain⟨y,d⟩:=h.cl j a t;refine⟨y,d.h,d.e,d.n,d.m,?_,λk u=>?_⟩
  .rw[dv om];exact d.x
  .rw[dv om];exact d.s k u
 .rw[dv om];exact h.ft j a
def ry(gs:List Ge)(a:Nat->List Nat):Nat->List Nat:=λi=>if i=gs.length then gA 1 ((gs.length+1:Nat):Int) 0 else a i
theorem EY{gs}(h:dG gs):(eI gs).length=gs.length+1:=by
 have:=h.n1;unfold eI;simp;omega
theorem Ki{gs}(h:dG gs){i}(c:i< (eI gs).length):(i<gs.length-1/\∃f:i<gs.length,(eI gs)[i]=gs[i])\/(i=gs.length-1/\(eI gs)[i]=eR (cT gs))\/(i=gs.length/\(eI gs)[i]=jL gs.length):=by
 have d:=h.n1;have hlen:=EY h;have a:∀{y},(eI gs)[i]?=some y->(eI gs)[i]=y:=λh=>by
  rw[cY c]at h;exact rm h
 by_cases b:i<gs.length-1
 .refine .inl ⟨b,om,a ?_⟩;unfold eI;rw[oY (by rw[dz];omega),List.getElem?_take_of_lt b,cY]
 .by_cases e:i=gs.length-1
  .refine .inr (.inl ⟨e,a ?_⟩);unfold eI;rw[kF (by rw[dz];omega),dz,show i-min (gs.length-1) gs.length=0 by omega];rfl
  .refine .inr (.inr ⟨om,a ?_⟩);unfold eI;rw[kF (by rw[dz];omega),dz,show i-min (gs.length-1) gs.length=1 by omega];rfl
theorem Inv.rot{f gs m B}(h:Inv f gs m B)(R:gs.length<8):Inv (B5 f gs) (eI gs) (ry gs m) (B+248):=by
 have S:=h.s.n1;have hlen:=EY h.s;have M:=lA h.s;obtain⟨Y,Z⟩:=wR h.s;obtain⟨z,D⟩:∃z,ch f (9*gs.length) (some (gA 1 ((gs.length+1:Nat):Int) 0))=z:=⟨_,rfl⟩
 have N:B5 f gs=ch z (9*(gs.length-1)+1) (some (gg z (9*(gs.length-1)+1))):=by rw[<-D];rfl
 have q:∀i,i<gs.length->ry gs m i=m i:=λi a=>bH om
 have E:ry gs m gs.length=gA 1 ((gs.length+1:Nat):Int) 0:=bA rfl;have main:Inv z (eI gs) (ry gs m) (B+248):=by
  rw[<-D];have old:∀i(a:i< (eI gs).length),i≠gs.length->∃d:i<gs.length,(eI gs)[i].size=gs[i].size/\(eI gs)[i].l=gs[i].l/\(((eI gs)[i].mode=3)↔gs[i].mode=3):=λi a O=>by
   rcases Ki h.s a with⟨_,d,e⟩| ⟨F,e⟩| ⟨F,_⟩
   .exact⟨d,by rw[e],by rw[e],by rw[e]⟩
   .refine⟨om,?_⟩;have T:gs[i]'om=cT gs:=by
     obtain⟨_,U⟩:=tw h.s;have:gs[i]?=gs[gs.length-1]?:=by rw[F]
     rw[cY om,cY om]at this;rw[rm this];exact U
    rw[e,T];exact⟨rfl,rfl,⟨λh=>by have h:(2:Int)=3:=h;omega,λh=>by rw[M.2.2]at h;omega⟩⟩
   .exact absurd F O
  have new:∀(a:gs.length< (eI gs).length),(eI gs)[gs.length]=jL gs.length:=λa=>by
   rcases Ki h.s a with⟨F,_⟩| ⟨F,e⟩| ⟨_,e⟩
   .omega
   .omega
   .exact e
  refine⟨awq h.s R,λj b G=>?_,λi a=>?_,λi a y J=>?_,λi a u=>?_,λi a u=>?_,λj G=>?_⟩
  .by_cases e:j=9*gs.length
   .subst e;rw[gj]at G;cases G;exact⟨tS _ _ _,by rw[pz];omega⟩
   .rw[dv e]at G;have:=h.fb j b G;exact⟨this.1,om⟩
  .by_cases e:i=gs.length
   .subst e;rw[E,new];exact⟨tS _ _ _,by rw[pz];rfl,by rw[pz];omega,[],λx W=>(by cases W),by rw[fW]⟩
   .obtain⟨d,k1,k2,H⟩:=old i a e;have:=h.vb i d;rw[q i d,k1];exact⟨this.1,this.2.1,om,this.2.2.2⟩
  .by_cases e:i=gs.length
   .subst e;rw[new]at J;cases J
   .obtain⟨d,k1,k2,H⟩:=old i a e;rw[k2]at J;rw[q i d];exact h.rc i d y J
  .by_cases e:i=gs.length
   .subst e;rw[E,gj];exact⟨rfl,λk K I=>by rw[dv om];exact h.ft _ om⟩
   .obtain⟨d,k1,k2,H⟩:=old i a e;have t:=h.op i d λX=>u (H.2 X)
    rw[q i d,dv om];exact⟨t.1,λk K I=>by rw[dv om];exact t.2 k K I⟩
  .by_cases e:i=gs.length
   .subst e;rw[new]at u;have u:(1:Int)=3:=u;omega
   .obtain⟨d,k1,k2,H⟩:=old i a e;obtain⟨P,t⟩:=h.cl i d (H.1 u);rw[q i d,k2];exact⟨P,t.h,t.e,t.n,t.m,by rw[dv om];exact t.x,λk K=>by rw[dv om];exact t.s k K⟩
  .rw[dv om];exact h.ft j om
 rw[N];have Q:=Q2 main (9*(gs.length-1)+1);exact main.VS om Q.1 Q.2 (de _)
theorem Uq{gs}(h:dG gs)(i)(k):look (eI gs) i k=look gs i k:=by
 have hlen:=EY h;by_cases b:i< (eI gs).length
 .rw[tA b];rcases Ki h b with⟨_,c,e⟩| ⟨a,e⟩| ⟨a,e⟩
  .rw[e,tA c]
  .rw[e];have:=HP h k;rw[(lA h).2.1,<-a]at this;exact this.symm
  .rw[e,a];unfold look;rw[jZ,o0 (de _)];rfl
 .unfold look;rw[jZ,jZ,o0 om,o0 om]
theorem adb{f gs a B}(h:Inv f gs a B)(k):has (eI gs) (ry gs a) k=has gs a k:=by
 have hlen:=EY h.s;have b:look (eI gs) gs.length k=none:=by
  rw[Uq h.s];unfold look;rw[jZ,o0 (de _)];rfl
 unfold has;rw[hlen,ly,b];dsimp only;rw[Lb λi _=>Uq h.s i k]
 cases c:ly gs k gs.length with
 |none=>rfl
 |some p=>
  have:=Jn c;show some (mD (ry gs a p.1) p.2)=some (mD (a p.1) p.2);unfold ry;rw[bH om]
end
section
open Go.RowKit Pl AI
attribute [local irreducible] bl.wp
structure gG(f:Fs)(gs:List Ge)(vol:Nat->List Nat)(ds:List Nl)(B:Nat):Prop where
 i:Inv f gs vol B
 d:pa ds
 h:∀k,kh k ds=has gs vol k
theorem Inv.mono{f gs a B}(h:Inv f gs a B){k}(m:B<=k):Inv f gs a k:=
 ⟨h.s,λj b q=>⟨(h.fb j b q).1,oU (h.fb j b q).2 m⟩,λi d=>⟨(h.vb i d).1,(h.vb i d).2.1,oU (h.vb i d).2.2.1 m,(h.vb i d).2.2.2⟩,h.rc,h.op,h.cl,h.ft⟩
theorem adt(k):(gb (num k 8)).length=12:=by rw[rE,dY]
structure Ph(gs dN:List Ge)(os:List Ge)(k:Int)(i:Nat):Prop where
 n:dN.length=gs.length
 o:∀j k',k'≠k->look dN j k'=look gs j k'
 k:∀j,look dN j k=none\/(look dN j k=look gs j k/\∀(t:Nat)(h:t<os.length),t<i->os[t].n≠j)
theorem Xb{f gs vol ds B}(h:gG f gs vol ds B)(hB:B<=15000){k:Int}(iN:0<=k)(hk8:k<8):
 ∃f' gs' k_ jF,AQ (dA (cM f)++sA gs++[.r (ds.map dR),.i k])=some (.r (jF.map dR)::dA (cM f')++sA gs')/\gG f' gs' k_ jF (B+248):=by
 have hS:=h.i.s;have uZ:=hS.n1;have Gj:=hS.n8;obtain⟨os,Gl⟩:∃os,(gs.take (gs.length-1)).filter (kQ k)=os:=⟨_,rfl⟩
 have kY:os.length<=7:=by
  have:=OJ (kQ k) (gs.take (gs.length-1));rw[Gl,dz]at this;omega
 have hom:∀e∈os,e.n<gs.length-1:=λe he=>by
  rw[<-Gl]at he;obtain⟨i,hi,h2⟩:=jG (Gw.1 he).1;rw[dz]at hi;rw[List.getElem_take]at h2;have:=(hS.ok i om).2.1;rw[h2]at this;omega
 have F':∀j,j<gs.length-1->look gs j k≠none->∃(t:Nat)(h:t<os.length),os[t].n=j:=λj hj hx=>by
  have hm:gs[j]'om∈os:=by
   rw[<-Gl];refine Gw.2 ⟨List.mem_iff_getElem.2 ⟨j,by rw[dz];omega,by rw[List.getElem_take]⟩,?_⟩;rw[tA (show j<gs.length by omega)]at hx;unfold kQ
   cases hf:c_ (gs[j]'om).l k with
   |none=>exact absurd hf hx
   |some y=>rfl
  obtain⟨t,ht,e⟩:=jG hm;exact⟨t,ht,by rw[e];exact(hS.ok j om).2.1⟩
 have hold:=aeo hS k;rw[Gl]at hold
 suffices q_:∃o,Fo Rn (dA (cM f)++sA gs++[.r (ds.map dR),.i k])=some o/\∃f' gs' k_ jF,o=.r (jF.map dR)::dA (cM f')++sA gs'/\gG f' gs' k_ jF (B+248)by
  obtain⟨o,h1,f',gs',k_,jF,rfl,h2⟩:=q_;exact⟨f',gs',k_,jF,h1,h2⟩
 refine jR ?_;refine bm hold rfl rfl (nW ?_);refine bz (λxs=>∃f1 dN,xs=dA (cM f1)++sA dN/\Inv f1 dN vol (B+84)/\Ph gs dN os k os.length) ?_ ?_
 .refine wp_loop (I:=λa=>∃(i:Nat)(f1:Fs)(dN:List Ge),a=.i i::dA (cM f1)++sA dN/\i<=os.length/\Inv f1 dN vol (B+12*i)/\Ph gs dN os k i) (mu:=λa=>match a with| .i i::_=>os.length-i.toNat|_=>0) ⟨0,f,gs,rfl,om,h.i,rfl,λ_ _ _=>rfl,λj=>.inr ⟨rfl,λt _ ht=>by omega⟩⟩ ?_;rintro a ⟨i,f1,dN,rfl,e1,e2,e3⟩;refine uR ?_;rw[bD];refine bO rfl (λhc=>?_) (λhc=>?_);rotate_left
  .obtain rfl:i=os.length:=om;exact bk ⟨f1,dN,rfl,e2.mono om,e3⟩
  have hi:i<os.length:=om;have hS1:=e2.s;have oQ:=e3.n;obtain⟨n,hn⟩:∃n,os[i].n=n:=⟨_,rfl⟩
  have Y1:n<gs.length-1:=by rw[<-hn];exact hom _ (cQ hi)
  have qZ:n<dN.length:=om;have sF:=hS1.ok n qZ;have Zq:dN[n].mode≠1:=λhm=>by have:=sF.2.2.1 hm;omega
  obtain⟨gh,hg2⟩:∃gh,dN.set n (dN[n].del k)=gh:=⟨_,rfl⟩
  have xY:=e2.kill qZ Zq k;rw[hg2]at xY;have hl2:gh.length=dN.length:=by rw[<-hg2,lr]
  have hch:=Hc hS1 (e:=dN[n].del k) (by show dN[n].n<_;omega) (by rw[show(dN[n].del k).n=n from sF.2.1,hg2];exact xY.s);rw[show(dN[n].del k).n=n from sF.2.1,hg2]at hch;refine bz (λxs=>xs=sA gh) ?_ ?_
  .refine wp_loop (I:=λa=>∃(m:Nat)(c:List Ge),a=.i m::sA c/\m<=dN.length/\c=if n<m then gh else dN) (mu:=λa=>match a with| .i m::_=>dN.length-m.toNat|_=>0) ⟨0,dN,rfl,om,(bH om).symm⟩ ?_;rintro a ⟨m,c,rfl,m1,m2⟩;have ic:c.length=dN.length:=by rw[m2];split<;>omega
   refine uR ?_;rw[bD,ic];refine bO rfl (λhx=>?_) (λhx=>?_);rotate_left
   .obtain rfl:m=dN.length:=om;rw[bA qZ]at m2;subst m2;exact bk rfl
   have Zr:m<c.length:=om;have xP:c[m].n=m:=by
    by_cases hq:n<m
    .rw[bA hq]at m2;have:c[m]=gh[m]:=by simp only[m2]
     rw[this];exact(xY.s.ok m om).2.1
    .rw[bH hq]at m2;have:c[m]=dN[m]:=by simp only[m2]
     rw[this];exact(hS1.ok m om).2.1
   refine bz (λxs=>∃c':List Ge,xs=sA c'/\c'=if n<m+1 then gh else dN) ?_ ?_
   .refine bS (f:=gR) (l:=c) (j:=m) rfl rfl Zr rfl (uR ?_);refine bS (f:=oR) (l:=os) (j:=i) rfl rfl hi rfl (nW ?_);refine cK (f:=oR) (l:=os) (j:=i) rfl rfl hi rfl rfl (uR ?_);refine bO rfl (λhq=>?_) (λhq=>?_)
    .have hq:((c[m].n+1:Nat):Int)=((os[i].n+1:Nat):Int):=hq;obtain rfl:m=n:=om;rw[bH om]at m2;subst m2;refine bS (f:=gR) (l:=c) (j:=m) rfl rfl Zr rfl (uR ?_);refine bm (akC sF.1 Zq k) rfl rfl (nW ?_);refine bm hch rfl rfl (nW ?_);exact bk ⟨gh,rfl,by rw[bA om]⟩
    .have hq:¬((c[m].n+1:Nat):Int)=((os[i].n+1:Nat):Int):=hq;refine bk ⟨c,rfl,?_⟩;rw[m2];by_cases h3:n<m
     .rw[bA h3,bA om]
     .rw[bH h3,bH om]
   .rintro _ ⟨c',rfl,hc'⟩;refine nW ?_;refine b8 (i:=m) rfl om (nW ?_);refine bk ⟨⟨m+1,c',rfl,om,hc'⟩,?_⟩;show dN.length- ((m+1:Nat):Int).toNat<dN.length-m;omega
  .rintro _ rfl;have aCd:=xY.okF om;have xX:=Q2 xY (9*n+1);have mg:=adt k;have hw:=(vx aCd (j:=9*n+1) om (x:=gb (num k 8)) ⟨qH (gC _ _),om⟩ (by rw[cD];omega) (.i 1) (.i 9000) (.b false) (.r (gh.map gR)) (.r (ds.map dR))).1;have NC:=wP (n:=n) (t:=1) om dc;refine nW ?_;refine bS (f:=oR) (l:=os) (j:=i) rfl rfl hi rfl (nW ?_);refine cK (f:=oR) (l:=os) (j:=i) rfl rfl hi rfl rfl ?_;rw[hn];refine nW ?_;refine bm NC rfl rfl (uR ?_);refine nq (m:=gb (num k 8)) (adY k iN) rfl rfl (nW ?_);refine bm hw rfl rfl (nW ?_);refine b8 (i:=i) rfl om (nW ?_);refine bk ⟨⟨i+1,ch f1 (9*n+1) (some (gg f1 (9*n+1)++gb (num k 8))),gh,rfl,om,?_,?_⟩,?_⟩
   .exact xY.VS om (gu xX.1 (qH (gC _ _))) (by rw[cD];omega) om
   .refine⟨om,λj k' f_=>?_,λj=>?_⟩
    .rw[<-hg2,BU qZ];split
     .rename_i hj;subst hj;rw[show c_ (dN[j].del k).l k'=_ from Ha sF.1.s.v.1 k',bH f_,<-tA qZ];exact e3.o j k' f_
     .exact e3.o j k' f_
    .rw [<-hg2,BU qZ];by_cases hj:j=n
     .rw[bA hj];left;rw[show c_ (dN[n].del k).l k=_ from Ha sF.1.s.v.1 k,bA rfl]
     .rw[bH hj];rcases e3.k j with h1| ⟨h1,h2⟩
      .exact .inl h1
      .refine .inr ⟨h1,λt ht hlt=>?_⟩;by_cases mL:t=i
       .subst mL;rw[hn];exactλe=>hj e.symm
       .exact h2 t ht om
   .show os.length- ((i+1:Nat):Int).toNat<os.length-i;omega
 rintro _ ⟨f1,dN,rfl,hI,hG⟩;have hS1:=hI.s;have xL:=lA hS1;have hlk:=HP hS1 k;have xX:=hG.n;have hno:∀j,j<gs.length-1->look dN j k=none:=λj hj=>by
  rcases hG.k j with h1| ⟨h1,h2⟩
  .exact h1
  .by_cases hx:look gs j k=none
   .rw[h1,hx]
   .obtain⟨t,ht,e⟩:=F' j hj hx;exact absurd e (h2 t ht ht)
 have me:=BX xL.1.mb k;have Zs:∀k',k'≠k->has dN vol k'=has gs vol k':=λk' f_=>FJ xX (λj _=>hG.o j k' f_) λ_ _ _ _=>rfl
 refine nW ?_;refine bm (TX hS1) rfl rfl (nW ?_)
 cases hf:c_ (cT dN).l k with
 |none=>
  rw[hf]at me hlk;simp only[oh]at me;refine bz (λxs=>xs=dA (cM f1)++sA dN++[.r (ds.map dR)]) ?_ ?_
  .refine bm me rfl rfl (nW ?_);refine cn rfl ?_;exact bk rfl
  rintro _ rfl;refine nW ?_;refine bm (l:=[.r ((iY k ds).map dR)]) (by rw[<-C3];rfl) rfl rfl (nW ?_);refine bk ⟨f1,dN,vol,iY k ds,rfl,hI.mono om,h.d.del,λk'=>?_⟩;rw[E0 h.d];by_cases f_:k'=k
  .rw[bA f_,f_];unfold has;rw[EJ];rfl;intro j hj;by_cases hj':j=dN.length-1
   .rw[hj',<-xL.2.1];exact hlk
   .exact hno j om
  .rw[bH f_,Zs k' f_];exact h.h k'
 |some y=>
  rw[hf]at me hlk;simp only[oh]at me;obtain⟨hl,he⟩:=wR hS1;have xR:=B4 hf;have Zt:=hI.rc _ hl y (by rw[he];exact xR.1);have hx:ka ⟨k,y.cookie,true,[]⟩:=⟨iN,hk8,Zt.c0,Zt.c4,λ_=>rfl,λz hz=>(by cases hz),eM _⟩
  obtain⟨t1,t2,t3,t4⟩:=hI.top;have had:=Vr (hI.okF om) hS1 (ds:=ds) hx (by show(cT dN).size+c7 0<=17000;rw[show c7 0=24 from rfl];omega) (by rw[t2];omega);have hI':=hI.add om hx;refine bz (λxs=>xs=dA (cM (r5 f1 dN ⟨k,y.cookie,true,[]⟩))++sA (l9 dN ⟨k,y.cookie,true,[]⟩)++[.r ((iY k ds).map dR)]) ?_ ?_
  .refine bm me rfl rfl (nW ?_);refine fT rfl (uR ?_);refine bm had rfl rfl (nW ?_);exact bk rfl
  rintro _ rfl;refine nW ?_;refine bm (l:=[.r ((iY k (iY k ds)).map dR)]) (by show some [L.r (oF k ((iY k ds).map dR))]=_;rw[C3]) rfl rfl (nW ?_);refine bk ⟨_,_,pF dN vol ⟨k,y.cookie,true,[]⟩,iY k (iY k ds),rfl,hI'.mono om,h.d.del.del,λk'=>?_⟩;rw[E0 h.d.del,E0 h.d];have Zu:=K6 hS1 ⟨k,y.cookie,true,[]⟩;have hlen:(l9 dN ⟨k,y.cookie,true,[]⟩).length=dN.length:=lr;by_cases f_:k'=k
  .rw[bA f_,f_];unfold has;rw[EJ];rfl;intro j hj;rw[hlen]at hj;rw[Zu];by_cases hj':j=(cT dN).n
   .rw[bA hj',bA rfl,bA rfl]
   .rw[bH hj'];have:=xL.2.1;exact hno j om
  .rw[bH f_,bH f_,h.h k',<-Zs k' f_];refine(FJ hlen (λi hi=>?_) (λi z hi hz=>Q8 hI _ hi (YB hz hi))).symm;rw[Zu];by_cases hj:i=(cT dN).n
   .rw[bA hj,bH f_]
   .rw[bH hj]
def fo(e:Ge):Ge:={e with mode:=3}
def iW(f:Fs)(i:Nat)(D:List Nat)(k:Nat):Fs:=λj=>if 9*i+2<=j/\j<9*i+2+k then some ((eT D).getD (j- (9*i+2)) [])else f j
theorem pW{f i D k j}(h:j<9*i+2\/9*i+2+k<=j):iW f i D k j=f j:=bH om
theorem Vu{f i D k j}(h:j<k):iW f i D k (9*i+(2+j))=some ((eT D).getD j []):=by
 unfold iW;rw[bA om,show 9*i+(2+j) - (9*i+2)=j by omega]
theorem ayy{f i D k}:ch (iW f i D k) (9*i+(2+k)) (some ((eT D).getD k []))=iW f i D (k+1):=by
 funext j;by_cases e:j=9*i+(2+k)
 .subst e;rw[gj,Vu (pV k)]
 .rw[dv e];unfold iW;by_cases h:9*i+2<=j/\j<9*i+2+k
  .rw[bA h,bA om]
  .rw[bH h,bH om]
theorem FF{D:List Nat}(a:B8 D)(k):B8 ((eT D).getD k [])/\((eT D).getD k []).length<=Sp.dw D.length:=by
 by_cases h:k< (eT D).length
 .rw[jC h];have:=(Lp a).at h;exact⟨this.1,om⟩
 .rw[jZ,o0 om];exact⟨λx b=>(by cases b),eM _⟩
theorem Inv.ma{f gs a B}(h:Inv f gs a B)(y:B<=16000){i:Nat}(m:i<gs.length):ma 1 ((i+1:Nat):Int) 0 (a i).length gs[i].l/\∀x∈gs[i].l,sh x:=by
 have d:=h.s.ok i m;have t:=h.vb i m;have z:=d.1.n8;have u:=d.1.bd;refine⟨⟨⟨dc,dc,om,om,dc,dc⟩,om,om,d.1.s.v,λx k=>?_⟩,λx k=>?_⟩
 .have:=d.1.M5 k t.2.1;exact this
 .have:=d.1.s.k x k;have q:=h.rc i m x k;exact⟨this.1,om,q.c0,by have:=q.c4;omega⟩
theorem Inv.HS{f gs t B}(h:Inv f gs t B)(Q:B<=16000){i:Nat}(E:i<gs.length)(R:gs[i].mode=2):
 Inv (ch (ch (iW f i (t i) 6) (9*i+8) (some (jA 1 ((i+1:Nat):Int) 0 (t i).length (d_ (t i)) gs[i].l))) (9*i) none) (gs.set i (fo gs[i])) t (B+248):=by
 have u:=h.s.ok i E;have G:=h.vb i E;have hlen:(gs.set i (fo gs[i])).length=gs.length:=lr;have H:fp (fo gs[i]):=⟨u.1.n8,(by show(1:Int)<=3;omega),(by show(3:Int)<=3;omega),u.1.s,u.1.cl,u.1.en,u.1.g0,u.1.g8,u.1.sz⟩
 have I:=dG.set h.s H (by show gs[i].n<_;omega) (by
  show(3:Int)=1↔gs[i].n=_;rw[u.2.1,<-u.2.2,R];decide)
 have I:dG (gs.set i (fo gs[i])):=by rwa [show(fo gs[i]).n=i from u.2.1]at I
 have J:=u.1.s.len;have O:=h.ma Q E;have S:(jA 1 ((i+1:Nat):Int) 0 (t i).length (d_ (t i)) gs[i].l).length<=248:=by
  unfold jA;rw[rE,yC];omega
 have key:∀j(a:j< (gs.set i (fo gs[i])).length),j≠i->∃m:j<gs.length,(gs.set i (fo gs[i]))[j]=gs[j]:=λj a K=>⟨om,Bm (λe=>K e.symm) _⟩
 have d:∀(a:i< (gs.set i (fo gs[i])).length),(gs.set i (fo gs[i]))[i]=fo gs[i]:=λa=>C7 E a
 refine⟨I,λj b a=>?_,λj a=>?_,λj a y D=>?_,λj a z=>?_,λj a z=>?_,λj a=>?_⟩
 .by_cases e:j=9*i
  .subst e;rw[gj]at a;cases a
  rw[dv e]at a;by_cases P:j=9*i+8
  .subst P;rw[gj]at a;cases a;exact⟨qH (FA _ _ _ _ _ _),om⟩
  rw[dv P]at a;unfold iW at a;split at a
  .cases a;have:=FF G.1 (j- (9*i+2));refine⟨this.1,oU this.2 ?_⟩;unfold Sp.dw;omega
  .have:=h.fb j b a;exact⟨this.1,om⟩
 .by_cases e:j=i
  .subst e;rw[d];exact⟨G.1,G.2.1,om,G.2.2.2⟩
  .obtain⟨m,k⟩:=key j a e;rw[k];have:=h.vb j m;exact⟨this.1,this.2.1,om,this.2.2.2⟩
 .by_cases e:j=i
  .subst e;rw[d]at D;exact h.rc j E y D
  .obtain⟨m,k⟩:=key j a e;rw[k]at D;exact h.rc j m y D
 .by_cases e:j=i
  .subst e;rw[d]at z;exact absurd rfl z
  .obtain⟨m,k⟩:=key j a e;rw[k]at z;have x:=h.op j m z;rw[dv om,dv om,pW om];exact⟨x.1,λq F M=>by rw[dv om,dv om,pW om];exact x.2 q F M⟩
 .by_cases e:j=i
  .subst e;rw[d];refine⟨gs[j].l,O.1,O.2,J,λy D=>D,?_,λq F=>?_⟩
   .rw[dv om,gj]
   .rw[dv om,dv om,Vu F]
  .obtain⟨m,k⟩:=key j a e;rw[k]at z⊢;obtain⟨N,x⟩:=h.cl j m z;refine⟨N,x.h,x.e,x.n,x.m,?_,λq F=>?_⟩
   .rw[dv om,dv om,pW om];exact x.x
   .rw[dv om,dv om,pW om];exact x.s q F
 .rw[hlen]at a;rw[dv om,dv om,pW om];exact h.ft j a
theorem apg{gs:List Ge}{i}(a:i<gs.length)(j)(k):look (gs.set i (fo gs[i])) j k=look gs j k:=by
 rw[BU a];split
 .rename_i e;subst e;rw[tA a];rfl
 .rfl
def Aj(f:Fs)(gs:List Ge)(a:Nat->List Nat)(b:Bool)(d:Fs)(c:List Ge):Prop:=
 (b=false/\d=f/\c=gs/\∀(j:Nat)(h:j<gs.length),gs[j].mode≠2)\/
 (b=true/\∃(i:Nat)(h:i<gs.length),gs[i].mode=2/\c=gs.set i (fo gs[i])/\d=ch (ch (iW f i (a i) 6) (9*i+8) (some (jA 1 ((i+1:Nat):Int) 0 (a i).length (d_ (a i)) gs[i].l))) (9*i) none)
theorem awZ{f gs vol B}(h:Inv f gs vol B)(hB:B<=15000)(data:L):
 ∃b f' gs',Ez (dA (cM f)++sA gs++[data])=some (.b b::dA (cM f')++sA gs')/\Aj f gs vol b f' gs':=by
 have hS:=h.s;have Gj:=hS.n8
 suffices q_:∃o,Fo S3 (dA (cM f)++sA gs++[data])=some o/\∃b f' gs',o=.b b::dA (cM f')++sA gs'/\Aj f gs vol b f' gs' by
  obtain⟨o,h1,b,f',gs',rfl,h2⟩:=q_;exact⟨b,f',gs',h1,h2⟩
 refine jR ?_;refine bz (λxs=>xs=[]/\∀(j:Nat)(h:j<gs.length),gs[j].mode≠2) ?_ ?_;rotate_left
 .rintro _ ⟨rfl,hno⟩;refine nW ?_;exact bk ⟨false,f,gs,rfl,.inl ⟨rfl,rfl,rfl,hno⟩⟩
 refine wp_loop (I:=λa=>∃i:Nat,a=[.i i]/\i<=gs.length/\∀(j:Nat)(h:j<gs.length),j<i->gs[j].mode≠2) (mu:=λa=>match a with|[.i i]=>gs.length-i.toNat|_=>0) ⟨0,rfl,om,λj hj hlt=>by omega⟩ ?_;rintro a ⟨i,rfl,e1,e2⟩;refine uR ?_;rw[bD];refine bO rfl (λhc=>?_) (λhc=>bk ⟨rfl,λj hj=>e2 j hj om⟩);have hi:i<gs.length:=om;have hg:=hS.ok i hi;refine bS (f:=gR) (l:=gs) (j:=i) rfl rfl hi rfl (uR ?_);refine bO rfl (λhq=>?_) (λhq=>?_)
 .refine b8 (i:=i) rfl om (nW ?_);refine bk ⟨⟨i+1,rfl,om,λj hj hlt=>?_⟩,?_⟩
  .by_cases e:j=i
   .subst e;exact hq
   .exact e2 j hj om
  .show gs.length- ((i+1:Nat):Int).toNat<gs.length-i;omega
 have hm:gs[i].mode=2:=js.1 hq;have hop:=h.op i hi (by rw[hm];decide);have hv:=h.vb i hi;obtain⟨r,hr8,hr⟩:=hv.2.2.2;have dB:=h.okF om;have hH:=h.ma om hi;have hl8:=hg.1.s.len;have hi8:=hg.1.n8;obtain⟨D,hD⟩:∃D,vol i=D:=⟨_,rfl⟩
 have hinv:=h.HS om hi hm;rw[hD]at hop hv hr hH hinv;have NZ:r.length<=B:=by
  have:=cO List.length hr;rw[cD,pz]at this;omega
 have hsu:=abC (a:=1) (g:=((i+1:Nat):Int)) (r:=0) om hr8 om;rw[<-hr]at hsu;have Zv:gs[i].gn.num=((i+1:Nat):Int):=by rw[Ge.num,hg.2.1]
 have aDi:Sp.dw D.length<=20000:=by unfold Sp.dw;omega
 have h6:=rP D;have N4:∀k,dx (iW f i D k):=λk j b hj=>by
  unfold iW at hj;split at hj
  .cases hj;have:=FF hv.1 (j- (9*i+2));exact⟨this.1,om⟩
  .exact dB j b hj
 have A6:(jA 1 ((i+1:Nat):Int) 0 D.length (d_ D) gs[i].l).length<=248:=by
  unfold jA;rw[rE,yC];omega
 obtain⟨f7,A7⟩:∃f7,ch (iW f i D 6) (9*i+8) (some (jA 1 ((i+1:Nat):Int) 0 D.length (d_ D) gs[i].l))=f7:=⟨_,rfl⟩
 have aCg:dx f7:=by
  rw[<-A7];exact(N4 6).ch λb hb=>by cases hb;exact⟨qH (FA _ _ _ _ _ _),om⟩
 rw[A7]at hinv;have Zw:=wP (n:=i) (t:=0) om dc;have Zx:=wP (n:=i) (t:=2) om dc;rw[<-Zv]at Zw Zx;refine bm Zw rfl rfl (nW ?_);refine bm (asH dB (j:=9*i) om hop.1) rfl rfl (nW ?_);refine bm hsu rfl rfl (nW ?_);refine bm (HF hg.1.mb) rfl rfl (nW ?_);refine bm (aqH hv.1 hH.1 om) rfl rfl (nW ?_);refine bz (λxs=>xs=dA (cM (iW f i D 6))) ?_ ?_
 .refine wp_loop (I:=λa=>∃k:Nat,a=.i k::dA (cM (iW f i D k))/\k<=6) (mu:=λa=>match a with| .i k::_=>6-k.toNat|_=>0) ⟨0,?_,om⟩ ?_
  .rw[show iW f i D 0=f from funext λj=>pW om];rfl
  rintro a ⟨k,rfl,k1⟩;refine uR ?_;rw[bD,h6];refine bO rfl (λhx=>?_) (λhx=>?_);rotate_left
  .obtain rfl:k=6:=om;exact bk rfl
  have hk:k<6:=om;have N5:k< (eT D).length:=om;have hgd:(eT D).getD k []=(eT D)[k]:=jC N5;have hsk:=FF hv.1 k;have Zy:gg (iW f i D k) (9*i+(2+k))=[]:=by
   unfold gg;rw[pW om,hop.2 (2+k) om om]
  have hw:=(vx (N4 k) (j:=9*i+(2+k)) om (x:=(eT D).getD k []) ⟨hsk.1,om⟩ (by rw[Zy];show((eT D).getD k []).length<=_;omega) (.i 1) (.i 9000) (.b false) (.r (gs.map gR)) data).2;rw[Zy,lp,ayy]at hw;have FR:=anY (n:=i) (k:=k) om hk;rw[<-Zv]at FR;refine bm FR rfl rfl (nW ?_);refine bS (f:=fR) (l:=eT D) (j:=k) rfl rfl N5 rfl (nW ?_);refine cK (f:=fR) (l:=eT D) (j:=k) rfl rfl N5 rfl rfl ?_;rw[<-hgd];refine nW ?_;refine bm hw rfl rfl (nW ?_);refine b8 (i:=k) rfl om (nW ?_);refine bk ⟨⟨k+1,rfl,om⟩,?_⟩;show 6- ((k+1:Nat):Int).toNat<6-k;omega
 rintro _ rfl;have Zz:gg (iW f i D 6) (9*i+8)=[]:=by
  unfold gg;rw[pW om,hop.2 8 om om]
 have ZA:=(vx (N4 6) (j:=9*i+8) om (x:=jA 1 ((i+1:Nat):Int) 0 D.length (d_ D) gs[i].l) ⟨qH (FA _ _ _ _ _ _),om⟩ (by rw[Zz];show(jA _ _ _ _ _ _).length<=_;omega) (.i 1) (.i 9000) (.b false) (.r (gs.map gR)) data).2;rw[Zz,lp,A7]at ZA;have hrm:=amb aCg (j:=9*i) (b:=D) om (by rw[<-A7,dv om,pW om];exact hop.1);have mg:=adk hg.1 hm;have hch:=Hc hS (e:=fo gs[i]) (by show gs[i].n<_;omega) (by rw[show(fo gs[i]).n=i from hg.2.1];exact hinv.s);rw[show(fo gs[i]).n=i from hg.2.1]at hch;refine nW ?_;refine nq (m:=jA 1 ((i+1:Nat):Int) 0 D.length (d_ D) gs[i].l) (amU hH.1 (Rl D) hH.2 om) rfl rfl (nW ?_);refine bm Zx rfl rfl (nW ?_);refine bm ZA rfl rfl (nW ?_);refine bm hrm rfl rfl (nW ?_);refine bm mg rfl rfl (nW ?_);refine bm hch rfl rfl (nW ?_);refine bk ⟨true,ch f7 (9*i) none,gs.set i (fo gs[i]),rfl,.inr ⟨rfl,i,hi,hm,rfl,?_⟩⟩;rw[<-A7,hD]
theorem Aj.inv{f gs d b m a B}(h:Aj f gs d b m a)(q:Inv f gs d B)(u:B<=16000):Inv m a d (B+248)/\a.length=gs.length/\∀j k,look a j k=look gs j k:=by
 rcases h with⟨_,rfl,rfl,_⟩| ⟨_,i,t,x,rfl,rfl⟩
 .exact⟨q.mono om,rfl,λ_ _=>rfl⟩
 .exact⟨q.HS u t x,lr,λj k=>apg t j k⟩
theorem auM(k):IU [.i k]=some [.i (jo k)]:=by rw[<-Jw k];rfl
theorem ayX(x:It):J8 [.i x.key,.i x.cookie,.i x.off,.i x.size]=some [.i (c7 x.size)]:=by
 refine bF ?_;exact bm (yN x.size) rfl rfl (bk rfl)
theorem H8{m}(h:WM m){b}(hb:b=true↔MV m):zE (fy m)=some [.b b]:=by
 have no:∀s,s<8->¬Ah m s->[L.b false]=[L.b b]:=λs hs hk=>nH hb λhv=>hk (hv.1 s hs)
 refine bF ?_;refine bz (λxs=>qI m/\xs=[.i (cS (cat m))]) ?_ ?_;rotate_left
 .rintro _ ⟨hS,rfl⟩;refine nW ?_;exact bz (c8 (m.live=cS (cat m)/\0<=m.dD/\m.dD<=1099511627776)) cB (rB (hb.trans ⟨λh=>h.2,λh=>⟨hS,h⟩⟩))
 refine wp_loop (I:=λa=>∃s:Nat,a=[.i (cS (eO m s)),.i s]/\s<=8/\∀t,t<s->Ah m t) (mu:=λa=>match a with|[_,.i i]=>8-i.toNat|_=>0) ⟨0,rfl,om,λt ht=>by omega⟩ ?_;rintro a ⟨s,rfl,e1,e2⟩;refine uR ?_;refine bO rfl (λhc=>?_) (λhc=>?_);rotate_left
 .obtain rfl:s=8:=om;exact bk ⟨λt ht=>e2 t ht,rfl⟩
 have hs:s<8:=om;have hlen:=h.hn s;refine bz (λxs=>Ah m s/\xs=[.i (cS (eO m (s+1)))]) ?_ ?_;rotate_left
 .rintro _ ⟨h1,rfl⟩;refine nW ?_;refine b8 (i:=s) rfl om (nW ?_);refine bk ⟨⟨s+1,rfl,om,λt ht=>?_⟩,?_⟩
  .by_cases e:t=s
   .subst e;exact h1
   .exact e2 t om
  .show 8- ((s+1:Nat):Int).toNat<8-s;omega
 refine lK ⟨by show(0:Int)<=s;omega,by show(s:Int)< (8:Nat);omega⟩ (nW ?_);refine r8 (m:=m) hs rfl rfl (nW ?_);obtain⟨v,hv⟩:=fH (VL (m.st s));refine bm (Kp (m.st s) om hv) rfl rfl (uR ?_);refine r6 rfl hv (λhx=>bk (no s hs λh=>hx h.1)) λhx=>?_
 refine uR ?_;rw[bD];have g2:=uU h s;refine wp_loop (I:=λa=>∃j:Nat,a=[.i (cS (eO m s++(m.st s).take j)),.i j]/\j<=(m.st s).length/\∀(t:Nat)(ht:t< (m.st s).length),t<j->jo (m.st s)[t].key=s) (mu:=λa=>match a with|[_,.i i]=>(m.st s).length-i.toNat|_=>0)
  ⟨0,by rw[Oy,fW];rfl,om,λt ht h=>by omega⟩ ?_
 rintro a ⟨j,rfl,f1,f2⟩;refine uR ?_;refine bO rfl (λhc=>?_) (λhc=>?_);rotate_left
 .refine bk ⟨⟨hx,λx hx=>?_⟩,?_⟩
  .obtain⟨t,ht,rfl⟩:=jG hx;exact f2 t ht om
  .rw[qV,eo om];rfl
 have hj:j< (m.st s).length:=om;refine bS (f:=bt) (l:=m.st s) (j:=j) rfl rfl hj rfl (uR ?_);refine bm (auM _) rfl rfl (uR ?_);refine bO rfl (λhq=>bk (no s hs λh=>hq (h.2 _ (cQ hj)))) λhq=>?_
 refine bm (ayX (m.st s)[j]) rfl rfl (nW ?_);have g3:=oH (eO m s++(m.st s).take j);have g4:(eO m s++(m.st s).take j).length<=72:=by rw[cD,dz];omega
 have g5:=AG (m.st s)[j].size;have g6:cS (eO m s++(m.st s).take j)+c7 (m.st s)[j].size=cS (eO m s++(m.st s).take (j+1)):=by
  rw[fi hj,<-dI,vo (eO m s++(m.st s).take j)];simp[cS]
 refine dp (n:=cS (eO m s++(m.st s).take (j+1))) g6 om om (nW ?_);refine b8 (i:=j) rfl om (nW ?_);refine bk ⟨⟨j+1,rfl,om,λt ht hlt=>?_⟩,?_⟩
 .by_cases e:t=j
  .subst e;omega
  .exact f2 t ht om
 .show(m.st s).length- ((j+1:Nat):Int).toNat< (m.st s).length-j;omega
theorem aue(n:Nat)(c:n<=1000):Dg [.i n]=some []:=by
 have:∃o,Fo Yw [.i (n:Int)]=some o/\∃x:L,o=[x]:=by
  refine jR ?_;refine bz (λxs=>xs=[]) ?_ ?_
  .refine uR ?_;exact bR rfl om (bk rfl)
  rintro _ rfl;refine nW ?_;refine bz (λxs=>∃x:L,xs=[x]) ?_ (by rintro _ ⟨x,rfl⟩;exact bk ⟨x,rfl⟩);refine di (n:=(n:Int)) (by show(n:Int) -0=n;omega) om om (uR ?_);refine bO rfl (λa=>?_) (λa=>bk ⟨_,rfl⟩);refine mc ⟨by show(0:Int)<=0;omega,om,eM _,rfl⟩ (nW ?_);refine wV (r:=(List.replicate n (⟨0,0,0,0⟩:It)).map bt) ⟨by show(0:Int)<=n;omega,by show(n:Int)<=_;omega,by show 32*((n:Int)).toNat<=_;omega⟩ (by rw[Gv];rfl) (nW ?_);refine bS (f:=bt) (l:=List.replicate n (⟨0,0,0,0⟩:It)) (j:=0) rfl rfl (by rw[pU];omega) rfl (nW ?_);refine er (r:=(List.replicate n (⟨0,0,0,0⟩:It)).map bt) rfl (fY _) (by show(0:Nat)<=_;omega) (by show((List.replicate n (⟨0,0,0,0⟩:It)).map bt).length<=_;rw[bD,pU];omega) om rfl (uR ?_);refine mc ⟨by show(0:Int)<=0;omega,om,eM _,lV (fY _)⟩ (nW ?_);exact bk ⟨_,rfl⟩
 obtain⟨o,b,x,rfl⟩:=this;have h:Av.F [.i (n:Int)]=some [x]:=b;unfold Dg;simp only[h];rfl
def P1(m:Mp):List (List PV):=(List.range 8).map λs=>[.sl ((m.st s).map bt)]
theorem afX{m}(h:WM m):JY [.r (P1 m)]=some [.r ((cat m).map bt)]:=by
 refine bF ?_;have hl8:(P1 m).length=8:=rfl;have ZB:(List.range 8).length=8:=rfl;refine bz (λxs=>xs=[.i (cat m).length]) ?_ ?_
 .refine uR ?_;refine wp_loop (I:=λa=>∃s:Nat,a=[.i (eO m s).length,.i s]/\s<=8) (mu:=λa=>match a with|[_,.i i]=>8-i.toNat|_=>0) ⟨0,rfl,om⟩ ?_;rintro a ⟨s,rfl,e1⟩;have g2:=uU h s;have g3:=h.hn s;refine uR ?_;refine bO rfl (λhc=>?_) (λhc=>?_);rotate_left
  .obtain rfl:s=8:=om;exact bk rfl
  have hs:s<8:=om;refine bz (λxs=>xs=[.i (eO m (s+1)).length]) ?_ ?_
  .refine bS (f:=λs=>[PV.sl ((m.st s).map bt)]) (l:=List.range 8) (j:=s) rfl rfl (by rw[ZB];exact hs) rfl (uR ?_);rw[List.getElem_range,bD];refine dp (n:=((eO m (s+1)).length:Nat)) (by rw[qV,cD];rfl) om (by rw[qV,cD];omega) (uR ?_);exact bR rfl om (bk rfl)
  .rintro _ rfl;refine nW ?_;refine b8 (i:=s) rfl om (nW ?_);refine bk ⟨⟨s+1,rfl,om⟩,?_⟩;show 8- ((s+1:Nat):Int).toNat<8-s;omega
 .rintro _ rfl;have g4:=y_ h;refine nW ?_;refine bm (aue (cat m).length om) rfl rfl (nW ?_);refine bz (λxs=>xs=[.r ((cat m).map bt)]) ?_ (by rintro _ rfl;exact bk rfl);refine uR ?_;refine wp_loop (I:=λa=>∃s:Nat,a=[.i s,.r ((eO m s).map bt)]/\s<=8) (mu:=λa=>match a with|[.i i,_]=>8-i.toNat|_=>0) ⟨0,rfl,om⟩ ?_;rintro a ⟨s,rfl,e1⟩;have g2:=uU h s;have g3:=h.hn s;refine uR ?_;refine bO rfl (λhc=>?_) (λhc=>?_);rotate_left
  .obtain rfl:s=8:=om;exact bk rfl
  have hs:s<8:=om;refine bS (f:=λs=>[PV.sl ((m.st s).map bt)]) (l:=List.range 8) (j:=s) rfl rfl (by rw[ZB];exact hs) rfl (uR ?_);rw[List.getElem_range];refine er (r:=(eO m (s+1)).map bt) (fY _) (fY _) (by show((eO m s).map bt).length<=_;rw[bD];omega) (by show((m.st s).map bt).length<=_;rw[bD];omega) om (by rw[qV,dE];rfl) (nW ?_);refine b8 (i:=s) rfl om (nW ?_);refine bk ⟨⟨s+1,rfl,om⟩,?_⟩;show 8- ((s+1:Nat):Int).toNat<8-s;omega
theorem Jg{m}(h:WM m)(a:MV m):Ao (fy m)=some [.r ((items m).map bt)]:=by
 refine bF ?_;refine bm (H8 h (jt a)) rfl rfl (uR ?_);refine cn rfl (uR ?_);refine bm (afX h) rfl rfl (nW ?_);exact bm (apE (cat m) (Di a.1) (y_ h)) rfl rfl (bk rfl)
theorem aAj{m}(h:WM m)(a:MV m):KV (fy m)=some [.i (items m).length]:=by
 refine bF ?_;refine bm (Jg h a) rfl rfl (uR ?_);rw[bD];exact bk rfl
def i4(x:It):I4:=(x.key,x.cookie,x.off,x.size)
def tI(x:I4):It:=⟨x.1,x.2.1,x.2.2.1,x.2.2.2⟩
theorem St:∀l:List It,v_ (l.map bt)=some (l.map i4)
 |[]=>rfl
 |x::l=>by
  show(match Da (bt x),v_ (l.map bt)with
   |some x,some xs=>some (x::xs)
   |_,_=>none)=_
  rw[St l];rfl
theorem anv(l)(g:l.length<=1048576):∃d:List It,vU [.r (l.map bt)]=some [.r (d.map bt)]/\d.Perm l/\d.Pairwise λa b=>a.off<=b.off:=by
 obtain⟨h,k⟩:=Uh (l.map i4);refine⟨(nM (l.map i4)).map tI,?_,?_,?_⟩
 .unfold vU;simp only[St];rw[bA (by rw[bD];exact g),gp];rfl
 .have:=h.map tI;rw[gp,show tI∘i4=id from rfl,Gu]at this;exact this
 .refine kE.2 λi j e f c=>?_
  rw[bD]at e f;rw[Z4,Z4];exact k i j _ _ c (cY e) (cY f)
theorem aiI(l:List It)(hl:l.length<=1000)(dB:∀x∈l,eN x=true){size}(A5:16<=size){b}(hb:b=true↔(l.Pairwise Clear/\∀x∈l,ends x<=size)):∃y,Jp [.r (l.map bt),.i size]=some [.b b,y]:=by
 obtain⟨d,h1,hp,hso⟩:=anv l om;rw[<-adx dB hp hso size A5]at hb;have jE:=hp.length_eq;have dB:∀x∈d,eN x=true:=λx hx=>dB x (hp.mem_iff.1 hx)
 refine⟨.r (d.map bt),bF ?_⟩;refine bm h1 rfl rfl (nW ?_);refine bz (λxs=>∃e:Int,xs=[.i e]/\mK 16 d=some e) ?_ ?_;rotate_left
 .rintro _ ⟨e,rfl,he⟩;refine uR ?_;refine bk ?_;show[L.b (decide (e<=size)),L.r (d.map bt)]=_;by_cases hq:e<=size
  .rw[decide_eq_true hq,hb.2 ⟨e,he,hq⟩]
  .rw[decide_eq_false hq,gF hb λ⟨r,h1,h2⟩=>by rw[he]at h1;cases h1;exact hq h2]
 refine uR ?_;rw[bD];refine wp_loop (I:=λa=>∃(i:Nat)(e:Int),a=[.i e,.i i]/\i<=d.length/\0<=e/\e<=2000000/\mK 16 d=mK e (d.drop i)) (mu:=λa=>match a with|[_,.i i]=>d.length-i.toNat|_=>0) ⟨0,16,rfl,om,om,om,rfl⟩ ?_;rintro a ⟨i,e,rfl,e1,e2,e3,e4⟩;refine uR ?_;refine bO rfl (λhc=>?_) (λhc=>?_);rotate_left
 .rw[rl om]at e4;exact bk ⟨e,rfl,e4⟩
 have hi:i<d.length:=om;obtain⟨k1,k2,k3,k4⟩:=R6 dB hi;rw[sS hi]at e4;simp only[mK]at e4;refine ju (l:=d) (j:=i) rfl rfl hi (uR ?_);refine bO rfl (λhq=>?_) (λhq=>?_)
 .rw[bA hq]at e4;refine bk ?_;show[L.b false,L.r (d.map bt)]=_;rw[gF hb λ⟨r,h1,h2⟩=>by rw[e4]at h1;cases h1]
 .rw[bH hq]at e4;refine bm (yN d[i].size) rfl rfl (nW ?_);refine dp (n:=ends d[i]) rfl (by unfold ends;omega) (by unfold ends;omega) (nW ?_);refine b8 (i:=i) rfl om (nW ?_);refine bk ⟨⟨i+1,ends d[i],rfl,om,by unfold ends;omega,by unfold ends;omega,e4⟩,?_⟩;show d.length- ((i+1:Nat):Int).toNat<d.length-i;omega
theorem XN{g}(h:WM g.map){b}(e:b=true↔GV g):AN (fq g)=some [.b b]:=by
 refine bF ?_;refine bz (c8 (¬wL g)) (by unfold wL;exact cB) ?_;rintro _ ⟨t,rfl,f⟩;refine nW ?_;refine iU rfl f (λd=>bk (nH e λa=>d a.1)) λd=>?_
 have d:wL g:=o2 d;refine bz (c8 (¬yZ g)) ?_ ?_
 .refine uR ?_;refine bO rfl (λc=>bk (dQ λa=>by have:=a.1;omega)) λc=>?_
  refine uR ?_;refine bO rfl (λk=>bk (dQ λa=>by have:=a.1;omega)) λk=>?_
  refine dn (l:=.i (g.size%8)) (by
   show(if(8:Int)≠0 then some (L.i (g.size.tmod 8))else none)=_;rw[bA dc,ZV om]) (uR ?_)
  refine bO rfl (λi=>bk (dQ λa=>by have:=a.1;omega)) λi=>?_
  obtain⟨v,a⟩:=fH (MV g.map);refine bm (H8 h a) rfl rfl (uR ?_);refine bk ?_;refine⟨!v,rfl,?_⟩
  cases v with
  |true=>exact I9 λh=>h ⟨⟨om,om,om⟩,a.1 rfl⟩
  |false=>exact jt λh=>by have:=a.2 h.2;cases this
 rintro _ ⟨t,rfl,f⟩;refine nW ?_;refine iU rfl f (λc=>bk (nH e λa=>c ⟨a.2.1,a.2.2.1⟩)) λc=>?_
 have c:yZ g:=o2 c;have k:=YF h c.2;have i:=c.1;have o:=c.2.2;refine bz (c8 (yM g/\g.size=16+g.map.live+g.map.dD)) ?_ (rB (e.trans ⟨λa=>a.2.2.2,λa=>⟨d,c.1,c.2,a⟩⟩));obtain⟨v,a⟩:=fH (yM g);obtain⟨y,m⟩:=aiI (items g.map) (by have:=EH h;omega) (WI c.2.1) i.1 a;refine bm (Jg h c.2) rfl rfl (nW ?_);refine bm m rfl rfl (nW ?_);refine iU rfl a (λj=>?_) λj=>bk (e7 λh=>j h.1)
 refine dp (n:=16+g.map.live) rfl om om (nW ?_);refine dp (n:=16+g.map.live+g.map.dD) rfl om om (uR ?_);refine bk (e_ ⟨λh=>⟨j,h⟩,λh=>h.2⟩)
theorem amI{id limit ro gens}(hw:∀g∈gens,WM g.map)(hn:gens.length<=1000000){b}(hb:b=true↔Wk id limit gens):tJ [.i id,.i limit,ro,.r (gens.map wC)]=some [.b b]:=by
 refine bF ?_;refine bz (c8 (¬((0<=id/\id<4)/\(4136<=limit/\limit<=262144)))) ?_ ?_
 .refine uR ?_;refine bO rfl (λh2=>bk (dQ om)) λh2=>?_
  refine uR ?_;refine bO rfl (λh2=>bk (dQ om)) λh2=>?_
  refine bm (yN 4096) rfl rfl (nW ?_);refine dp (n:=4136) rfl om om (nW ?_);exact cB
 rintro _ ⟨t,rfl,ht⟩;refine nW ?_;refine iU rfl ht (λh1=>bk (nH hb λhv=>h1 ⟨hv.1.1,hv.1.2.1⟩)) λh1=>?_
 refine bz (c8 (¬(1<=gens.length/\gens.length<=8))) ?_ ?_
 .refine uR ?_;rw[bD];refine bO rfl (λh2=>bk (dQ om)) λh2=>uR ?_
  rw[bD];exact bk (e_ om)
 rintro _ ⟨t,rfl,ht⟩;refine nW ?_;refine iU rfl ht (λh2=>bk (nH hb λhv=>h2 hv.1.2.2)) λh2=>?_
 have h1:HL id limit gens:=by unfold HL;omega
 have oQ:gens.length-1<gens.length:=om;refine bz (λxs=>xs=[]/\∀i,i<gens.length->Es limit gens i) ?_ ?_;rotate_left
 .rintro _ ⟨rfl,hall⟩;have hg:=hw _ (cQ oQ);have q1:=(hall _ oQ oQ).1;have q2:=q1.2.1;have q3:=EH hg;refine uR ?_;rw[bD];refine di (n:=((gens.length-1:Nat):Int)) (by show(gens.length:Int) -1=_;omega) om om (nW ?_);refine bS (f:=wC) (l:=gens) (j:=gens.length-1) rfl rfl oQ rfl (uR ?_);refine bm (aAj hg q1.2.2.1) rfl rfl (nW ?_);refine bm (yN 0) rfl rfl (nW ?_);refine iV (n:=(items gens[gens.length-1].map).length*24) rfl om om (nW ?_);refine dp (n:=gens[gens.length-1].size+(items gens[gens.length-1].map).length*24) rfl om om (nW ?_);refine iV (n:=2*limit) rfl om om (uR ?_);refine bk ?_;by_cases hq:gens[gens.length-1].size+(items gens[gens.length-1].map).length*24<=2*limit
  .exact(dT hq).trans (Mg hb ⟨h1,hall,λ_=>om⟩)
  .exact(dF hq).trans (nH hb λhv=>hq (by have:=hv.2.2 oQ;omega))
 refine uR ?_;rw[bD];refine wp_loop (I:=λa=>∃i:Nat,a=[.i i]/\i<=gens.length/\∀j,j<i->Es limit gens j) (mu:=λa=>match a with|[.i i]=>gens.length-i.toNat|_=>0) ⟨0,rfl,om,λj hj=>by omega⟩ ?_;rintro a ⟨i,rfl,e1,e2⟩;refine uR ?_;refine bO rfl (λhc=>?_) (λhc=>bk ⟨rfl,λj hj=>e2 j om⟩);have hi:i<gens.length:=om;have hg:=hw _ (cQ hi);refine bS (f:=wC) (l:=gens) (j:=i) rfl rfl hi rfl (uR ?_);rw[bD];refine di (n:=((gens.length-1:Nat):Int)) (by show(gens.length:Int) -1=_;omega) om om (uR ?_);refine bz (c8 (¬Es limit gens i)) ?_ ?_
 .obtain⟨v,hv⟩:=fH (GV gens[i]);refine bm (XN hg hv) rfl rfl (uR ?_);refine r6 rfl hv (λh2=>bk (dQ λh=>h2 (h hi).1)) λh2=>?_
  have hm:(decide (gens[i].mode=1) !=decide ((i:Int)=((gens.length-1:Nat):Int)))=true↔¬(gens[i].mode=1↔i=gens.length-1):=by
   rw[bne_iff_ne,ne_eq,decide_eq_decide,Int.ofNat_inj]
  refine uR ?_;refine bO rfl (λh4=>?_) λh4=>?_
  .have ie:i-1<gens.length:=om;refine di (n:=((i-1:Nat):Int)) (by show(i:Int) -1=_;omega) om om (nW ?_);refine bS (f:=wC) (l:=gens) (j:=i-1) rfl rfl ie rfl (uR ?_);refine bO rfl (λh5=>bk (dQ λh=>by have:=(h hi).2.2.1 om;omega)) λh5=>uR ?_
   refine iU rfl hm (λh3=>bk (dQ λh=>h3 (h hi).2.1)) λh3=>?_
   refine iV (n:=2*limit) rfl om om (uR ?_);refine bk (e_ ⟨λh6 h=>by have:=(h hi).2.2.2;omega,λh=>o2 λh6=>h λ_=>⟨h2,js.1 h3,λ_=>om,om⟩⟩)
  .refine uR ?_;refine iU rfl hm (λh3=>bk (dQ λh=>h3 (h hi).2.1)) λh3=>?_
   refine iV (n:=2*limit) rfl om om (uR ?_);refine bk (e_ ⟨λh6 h=>by have:=(h hi).2.2.2;omega,λh=>o2 λh6=>h λ_=>⟨h2,js.1 h3,λ_=>om,om⟩⟩)
 .rintro _ ⟨t,rfl,ht⟩;refine nW ?_;refine iU rfl ht (λg=>bk (nH hb λhv=>g (hv.2.1 i hi))) λg=>?_
  refine b8 (i:=i) rfl om (nW ?_);refine bk ⟨⟨i+1,rfl,om,λj hj=>?_⟩,?_⟩
  .by_cases e:j=i
   .subst e;exact js.1 g
   .exact e2 j om
  .show gens.length- ((i+1:Nat):Int).toNat<gens.length-i;omega
end
end
end Go.Proofs.YtiikkkhcolcebaaGreatDoor
