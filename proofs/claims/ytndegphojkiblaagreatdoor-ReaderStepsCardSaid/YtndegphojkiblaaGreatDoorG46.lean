/- A part. -/
import Derived.Test.YtndegphojkiblaaGreatDoorG9
import Derived.Test.YtndegphojkiblaaGreatDoorG38
import Derived.Test.YtndegphojkiblaaGreatDoorG42
import Derived.Test.YtndegphojkiblaaGreatDoorG43
import Derived.Test.YtndegphojkiblaaGreatDoorG45
import Derived.Test.YtndegphojkiblaaGreatDoorRows
import Derived.ProofKit
import Derived.LaidMore
import Derived.OpenShut
import Derived.Below
import Derived.Stop.Joined
import Derived.SizedLaws
set_option linter.all false
set_option maxHeartbeats 4000000
set_option maxRecDepth 100000
namespace Go.Proofs.YtndegphojkiblaaGreatDoor
noncomputable section
section
open Go.RowKit Pl AI
attribute [local irreducible] a8.wp
def AT:List AC:=[.int .i64 (-9223372036854775808) 9223372036854775807,.sl 9223372036854775807 c6,.int .i64 (-9223372036854775808) 9223372036854775807,.sl 9223372036854775807 [.int .u64 0 18446744073709551615]]
theorem Ek:∀{rows},AC.rows [.int .u8 0 255] rows->fl rows
 |[],_=>⟨[],λx a=>(by cases a),rfl⟩
 |r ::rows,h=>by
  have b:=h r eJ;obtain⟨l,c,rfl⟩:=Ek (rows:=rows) λr d=>h r (fp _ d)
  match r,b with
  |[q],⟨⟨n,e,f,g⟩,_⟩=>
   refine⟨n.toNat::l,λx a=>?_,?_⟩
   .rcases dn.1 a with rfl|a
    .omega
    .exact c x a
   .rw[e,ct,b1,Br f]
theorem TD:∀{rows},AC.rows c1 rows->∃fs:List Fl,rows=fs.map ch/\∀f∈fs,Tr f
 |[],_=>⟨[],rfl,λf a=>by cases a⟩
 |r::rows,h=>by
  obtain⟨fs,rfl,d⟩:=TD (rows:=rows) λr e=>h r (fp _ e)
  match r,h r eJ with
  |[q0,q1,q2],⟨⟨s,e0,j⟩,⟨b,g,k,c⟩,⟨p,e2,hp,_⟩,_⟩=>
   obtain rfl:p=[]:=jX om;refine⟨⟨s,b,[]⟩::fs,by rw[e0,g,e2];rfl,λf a=>?_⟩;rcases dn.1 a with rfl|a
   .exact⟨Ek c,by show b.length<=_;omega,by show(0:Nat)<=_;omega,by show s.size<=_;omega,λw i=>by cases i⟩
   .exact d f a
theorem dY{c cs r}(h:AC.dS (c::cs) r):∃q l,r=q::l/\AC.ok c q/\AC.dS cs l:=by
 cases r with
 |nil=>cases h
 |cons q l=>exact⟨q,l,rfl,h.1,h.2⟩
theorem s_{r}(h:AC.dS [] r):r=[]:=by
 cases r with
 |nil=>rfl
 |cons q l=>cases h
theorem L2{b c d b1 e f g i}:∀{rows},AC.rows [.int .u64 b c,.int .u32 d b1,.int .i64 e f,.int .i64 g i] rows->∃l:List It,rows=l.map bw
 |[],_=>⟨[],rfl⟩
 |r::rows,h=>by
  obtain⟨l,rfl⟩:=L2 (rows:=rows) λr a=>h r (fp _ a)
  obtain⟨q0,l0,rfl,⟨j,e0,_⟩,a⟩:=dY (h r eJ);obtain⟨q1,l1,rfl,⟨k,m,_⟩,a⟩:=dY a;obtain⟨q2,l2,rfl,⟨n,e2,_⟩,a⟩:=dY a;obtain⟨q3,l3,rfl,⟨o,e3,_⟩,a⟩:=dY a;obtain rfl:=s_ a;exact⟨⟨j,k,n,o⟩::l,by rw[e0,m,e2,e3];rfl⟩
def stF(l0 l1 l2 l3 l4 l5 l6 l7:List It):Nat->List It
 |0=>l0
 |1=>l1
 |2=>l2
 |3=>l3
 |4=>l4
 |5=>l5
 |6=>l6
 |7=>l7
 |_=>[]
theorem IK{n}(p:0<=n){cs}(b:∀{rows:List (List PV)},AC.rows cs rows->∃l:List It,rows=l.map bw){t u v b1 x y z A B C D E}:∀{rows},AC.rows [.int .i64 t u,.int .i64 v b1,.int .i64 x y,.int .i64 z A,.sl n cs,.sl n cs,.sl n cs,.sl n cs,.sl n cs,.sl n cs,.sl n cs,.sl n cs,.int .i64 B C,.int .i64 D E] rows->
 ∃G:List Gn,rows=G.map da/\∀g∈G,(∀s,((g.map.st s).length:Int)<=n)/\∀s,g.map.st (s+8)=[]
 |[],_=>⟨[],rfl,λg c=>by cases c⟩
 |r::rows,h=>by
  obtain⟨G,rfl,F⟩:=IK p b (rows:=rows) λr a=>h r (fp _ a)
  have sl:∀{q:PV},AC.ok (.sl n cs) q->∃l:List It,q=.sl (l.map bw)/\(l.length:Int)<=n:=λ{q}I=>by
   obtain⟨rows,rfl,J,a⟩:=I;obtain⟨l,rfl⟩:=b a;exact⟨l,rfl,by rwa [bC]at J⟩
  obtain⟨q0,l0,rfl,⟨K,e0,_⟩,a⟩:=dY (h r eJ);obtain⟨q1,l1,rfl,⟨L,M,_⟩,a⟩:=dY a;obtain⟨q2,l2,rfl,⟨N,e2,_⟩,a⟩:=dY a;obtain⟨q3,l3,rfl,⟨O,e3,_⟩,a⟩:=dY a;obtain⟨q4,l4,rfl,P,a⟩:=dY a;obtain⟨q5,l5,rfl,Q,a⟩:=dY a;obtain⟨q6,l6,rfl,R,a⟩:=dY a;obtain⟨q7,l7,rfl,S,a⟩:=dY a;obtain⟨q8,l8,rfl,T,a⟩:=dY a;obtain⟨q9,l9,rfl,U,a⟩:=dY a;obtain⟨BO,l10,rfl,d,a⟩:=dY a;obtain⟨q11,l11,rfl,e,a⟩:=dY a;obtain⟨XX,l12,rfl,⟨f,i,_⟩,a⟩:=dY a;obtain⟨QV,l13,rfl,⟨j,k,_⟩,a⟩:=dY a;obtain rfl:=s_ a;obtain⟨s4,rfl,V⟩:=sl P;obtain⟨s5,rfl,W⟩:=sl Q;obtain⟨s6,rfl,X⟩:=sl R;obtain⟨s7,rfl,Y⟩:=sl S;obtain⟨s8,rfl,Z⟩:=sl T;obtain⟨s9,rfl,k9⟩:=sl U;obtain⟨y8,rfl,m⟩:=sl d;obtain⟨DC,rfl,o⟩:=sl e;refine⟨⟨K,L,N,O,stF s4 s5 s6 s7 s8 s9 y8 DC,f,j⟩::G,by rw[e0,M,e2,e3,i,k];rfl,λg c=>?_⟩;rcases dn.1 c with rfl|c
  .refine⟨λs=>?_,λs=>rfl⟩
   match s with
   |0=>exact V
   |1=>exact W
   |2=>exact X
   |3=>exact Y
   |4=>exact Z
   |5=>exact k9
   |6=>exact m
   |7=>exact o
   |s+8=>exact p
  .exact F g c
theorem aqg{A}(z:AC.rows AT A):∃(d:Dk)(i l:Int)(gens:List Gn),Lw [.r A,.i 10]=some [.i d.cap,.i d.left,.r (d.files.map ch),.i i,.i l,.b false,.r (gens.map da)]/\nt d/\(∀g∈gens,WM g.map)/\gens.length<=9:=by
 obtain⟨o,B,C,T,e,b⟩:=SY [.r A,.i 10] rfl ⟨λf p=>by
  simp[Fq]at p;subst p;simp[Fa.holds,cz,o0],λx a=>by
  simp[Fq]at a;subst a;exact z,λx a=>(by cases a),λx a=>(by cases a)⟩
 have e:=fO.1 e;subst e
 match o,C with
 |[q,r,h,t,u,v,j],_=>
 have D:AC.rows c1 h.bm:=b.rw (4,some c1) (by simp);have E:AC.rows c8 j.bm:=b.rw (8,some c8) (by simp);have F:=b.fs ⟨14,0,512⟩ (by simp);have I:=b.fs ⟨26,0,9⟩ (by simp);have J:v.ck=false:=b.bs (7,false) (by simp);simp[Fa.holds,cz]at F I;obtain⟨fs,c,k⟩:=TD D;obtain⟨G,y,m⟩:=IK (n:=8) dc L2 E;refine⟨⟨q.a_,r.a_,fs⟩,t.a_,u.a_,G,?_,zD.2 ⟨?_,k⟩,λg k=>⟨λs=>by have:=(m g k).1 s;omega⟩,?_⟩
 .show(yJ [.r A,.i 10]).map sU=_;rw[B];show some [L.i q.a_,L.i r.a_,L.r h.bm,L.i t.a_,L.i u.a_,L.b v.ck,L.r j.bm]=_;rw[c,J,y]
 .show fs.length<=_;have:fs.length=h.bm.length:=by rw[c,bC]
  omega
 .have:G.length=j.bm.length:=by rw[y,bC]
  omega
theorem awu{ρ Q k xs i x v}(h:xs[(i.ev ρ).a_.toNat]?=some x)(a:x.ev ρ=v)(b:k.wp (ρ++[v]) Q):(a8.op (.fw xs i) k).wp ρ Q:=vE h (by rw[a];exact b)
theorem MS{ρ Q k x y n b r}(h:(x.ev ρ).bm.length+(y.ev ρ).bm.length<=1000001)(a:b<=1000)(c:cf n (x.ev ρ).bm=true)(d:cf n (y.ev ρ).bm=true)(e:(x.ev ρ).bm++(y.ev ρ).bm=r)(f:k.wp (ρ++[.r r]) Q):(a8.op (.app x y n b) k).wp ρ Q:=
 YI ⟨om,qo (Qd h a) dc,c,d⟩ (by rw[e];exact f)
theorem anJ(id limit ro){gens:List Gn}(hn:gens.length<=9223372036854775807):∃t,NX [id,limit,ro,.r (gens.map da)]=some [.b t]/\(t=true->gens.length<=12/\∀g∈gens,∀s,s<8->(g.map.st s).length<=8):=by
 suffices h:∃o,Fo abj [id,limit,ro,.r (gens.map da)]=some o/\∃t:Bool,o=[.b t]/\(t=true->gens.length<=12/\∀g∈gens,∀s,s<8->(g.map.st s).length<=8)by
  obtain⟨o,h1,t,rfl,h2⟩:=h;exact⟨t,h1,h2⟩
 refine gi ?_;refine bE (λxs=>xs=[]/\∀g∈gens,∀s,s<8->(g.map.st s).length<=8) ?_ ?_;rotate_left
 .rintro _ ⟨rfl,h⟩;refine uR ?_;rw[bC];exact a7 ⟨_,rfl,λht=>⟨by have:=dZ ht;omega,h⟩⟩
 refine uR ?_;rw[bC];refine wp_loop (I:=λa=>∃i:Nat,a=[.i i]/\i<=gens.length/\∀(j:Nat)(hj:j<gens.length),j<i->∀s,s<8->(gens[j].map.st s).length<=8) (mu:=λa=>match a with|[.i i]=>gens.length-i.toNat|_=>0) ⟨0,rfl,om,λj hj h=>by omega⟩ ?_;rintro a ⟨i,rfl,g1,g2⟩;refine uR ?_;refine bG rfl (λhc=>?_) (λhc=>a7 ⟨rfl,λg hg=>by
  obtain⟨j,hj,rfl⟩:=iE hg;exact g2 j hj om⟩)
 have hi:i<gens.length:=om;refine bE (λxs=>xs=[]/\∀s,s<8->(gens[i].map.st s).length<=8) ?_ ?_;rotate_left
 .rintro _ ⟨rfl,h⟩;refine nW ?_;refine c_ (n:=((i+1:Nat):Int)) rfl om om ?_;refine nW ?_;refine a7 ⟨⟨i+1,rfl,om,λj hj hlt=>?_⟩,?_⟩
  .by_cases e:j=i
   .subst e;exact h
   .exact g2 j hj om
  .show gens.length- ((i+1:Nat):Int).toNat<gens.length-i;omega
 refine bU (f:=da) (l:=gens) (j:=i) rfl rfl hi rfl ?_;refine uR ?_;obtain⟨g,hg⟩:∃g,gens[i]=g:=⟨_,rfl⟩
 rw[hg];refine wp_loop (I:=λa=>∃k:Nat,a=[.i k]/\k<=8/\∀s,s<k->(g.map.st s).length<=8) (mu:=λa=>match a with|[.i i]=>8-i.toNat|_=>0) ⟨0,rfl,om,λs hs=>by omega⟩ ?_;rintro a ⟨k,rfl,k1,k2⟩;refine uR ?_;refine bG rfl (λhk=>?_) (λhk=>a7 ⟨rfl,λs hs=>k2 s om⟩);have hk8:k<8:=om;refine lD ⟨by show(0:Int)<=k;omega,by show(k:Int)< (8:Nat);omega⟩ ?_;refine nW ?_;have hx:∃x:At,[At.v 12,.v 13,.v 14,.v 15,.v 16,.v 17,.v 18,.v 19][k]?=some x/\∀ys:List L,x.ev ([id,limit,ro,.r (gens.map da),.i gens.length,.i i,.b (decide ((i:Int)<gens.length)),.c (da g)]++rA g++ys)=.r ((g.map.st k).map bw):=by
  match k,hk8 with
  |0,_=>exact⟨_,rfl,λ_=>rfl⟩
  |1,_=>exact⟨_,rfl,λ_=>rfl⟩
  |2,_=>exact⟨_,rfl,λ_=>rfl⟩
  |3,_=>exact⟨_,rfl,λ_=>rfl⟩
  |4,_=>exact⟨_,rfl,λ_=>rfl⟩
  |5,_=>exact⟨_,rfl,λ_=>rfl⟩
  |6,_=>exact⟨_,rfl,λ_=>rfl⟩
  |7,_=>exact⟨_,rfl,λ_=>rfl⟩
 obtain⟨x,x1,x2⟩:=hx;refine awu (x:=x) (by exact x1) (x2 [.i k,.b (decide ((k:Int)<8))]) ?_;refine uR ?_;rw[bC];refine bG rfl (λhq=>a7 ⟨_,rfl,λht=>by cases ht⟩) λhq=>?_
 refine cm (i:=k) rfl om (nW ?_);refine a7 ⟨⟨k+1,rfl,om,λs hs=>?_⟩,?_⟩
 .by_cases e:s=k
  .subst e;omega
  .exact k2 s om
 .show 8- ((k+1:Nat):Int).toNat<8-k;omega
theorem ago(l:List Gn):cf 14 (l.map da)=true:=by unfold cf;simp[da]
theorem alU(id limit ro){gens:List Gn}(hn:gens.length<=1000000):KS [id,limit,ro,.r (gens.map da)]=some [.r (gens.map da)]:=by
 have PB:∀g:Gn,I3 (rA g)=some []:=λg=>by
  refine bN ?_;refine bu (l:=[]) ?_ rfl rfl (a7 rfl);refine bN ?_;exact a7 rfl
 refine bN ?_;refine bE (λxs=>xs=[.r (gens.map da)]) ?_ (by rintro _ rfl;exact a7 rfl);refine uR ?_;rw[bC];refine wp_loop (I:=λa=>∃i:Nat,a=[.i i,.r ((gens.take i).map da)]/\i<=gens.length) (mu:=λa=>match a with|[.i i,_]=>gens.length-i.toNat|_=>0) ⟨0,rfl,om⟩ ?_;rintro a ⟨i,rfl,g1⟩;refine uR ?_;refine bG rfl (λhc=>?_) (λhc=>?_);rotate_left
 .refine a7 ?_;show[L.r ((gens.take i).map da)]=_;rw[gX om]
 have hi:i<gens.length:=om;have hl:((gens.take i).map da).length=i:=by rw[bC,eA];omega
 refine bU (f:=da) (l:=gens) (j:=i) rfl rfl hi rfl ?_;refine uR ?_;refine bu (PB gens[i]) rfl rfl ?_;refine uR ?_;refine MS (r:=(gens.take (i+1)).map da) (by show((gens.take i).map da).length+1<=_;omega) om (ago _) rfl (by rw[gW hi,eB];rfl) (nW ?_);refine cm (i:=i) rfl om (nW ?_);refine a7 ⟨⟨i+1,rfl,om⟩,?_⟩;show gens.length- ((i+1:Nat):Int).toNat<gens.length-i;omega
def mF(r:Rs):List PV:=[.sc (.int .u64 r.key),.sc (.int .u32 r.cookie),.sc (.int .i64 r.ee),.sc (.int .i64 r.gen),.sc (.int .i64 r.mode),.sc (.int .i64 r.rev),.sc (.int .u64 r.x.key),.sc (.int .u32 r.x.cookie),.sc (.int .i64 r.x.off),.sc (.int .i64 r.x.size),.sc (.int .i64 r.tries)]
theorem Jm(l:List Rs):cf 11 (l.map mF)=true:=by unfold cf;simp[mF]
def I1(d:Dk):List PV:=[.sc (.int .i64 d.cap),.sc (.int .i64 d.left),.sl (d.files.map ch)]
structure Sl where
 id:Int
 limit:Int
 ro:Bool
 gens:List Gn
def JR(s:Sl):List PV:=[.sc (.int .i64 s.id),.sc (.int .i64 s.limit),.sc (.bool s.ro),.sl (s.gens.map da)]
theorem nothing(x y):Gp [x,y]=some []/\Hl [x,y]=some []:=by
 constructor
 .refine bN ?_;exact a7 rfl
 .refine bN ?_;exact a7 rfl
theorem HE(a b c d e f g h i j k):IL [a,b,c,d,e,f,g,h,i,j,k]=some []/\Ch [a,b,c,d,e,f,g,h,i,j,k]=some []:=by
 constructor
 .refine bN ?_;exact a7 rfl
 .refine bN ?_;exact a7 rfl
theorem aoP{id limit ro}{gens:List Gn}(a:∀g∈gens,WM g.map)(c:gens.length<=1000000)(key):∃o,v_ [.i id,.i limit,ro,.r (gens.map da),.i key]=some (Fw o):=by
 by_cases b:kK id limit gens
 .exact⟨_,Y' a b key⟩
 .exact⟨none,anb a c b⟩
theorem ava{A:List (List PV)}(hA:AC.rows AT A)(r:Rs){id limit:Int}{ro:Bool}{gens:List Gn}(A6:gens.length<=9223372036854775807){d:Dk}(hl:d.files.length<=9223372036854775807)(hp:∀f∈d.files,f.bT.length<=9223372036854775807)(hb:∀f∈d.files,fl f.base/\∀w∈f.bT,fl w.data)(hg8:∀g∈gens,∀s,g.map.st (s+8)=[])(key cookie left:Int):
 zw [.i r.key,.i r.cookie,.i r.ee,.i r.gen,.i r.mode,.i r.rev,.i r.x.key,.i r.x.cookie,.i r.x.off,.i r.x.size,.i r.tries,.r A,.i id,.i limit,.b ro,.r (gens.map da),.i d.cap,.i d.left,.r (d.files.map ch),.i key,.i cookie,.i left]=some [.b true]:=by
 obtain⟨ts,hts,ayL⟩:=anJ (.i id) (.i limit) (.b ro) A6;obtain⟨tl,htl,ayN⟩:=ajM (.i d.cap) (.i d.left) hl hp;refine bN ?_;unfold ND;refine bE (λxs=>∃t:Bool,xs=[.b t]/\(t=false->ts=true/\tl=true)) ?_ ?_
 .refine bu hts rfl rfl ?_;refine uR ?_;refine bZ (λh=>a7 ⟨true,rfl,λh=>by cases h⟩) (λh1=>?_);have h1:(!ts)=false:=h1;refine bu htl rfl rfl ?_;refine uR ?_;refine bZ (λh=>a7 ⟨true,rfl,λh=>by cases h⟩) (λh2=>?_);have h2:(!tl)=false:=h2;refine uR ?_;exact a7 ⟨_,rfl,λ_=>⟨by simpa using h1,by simpa using h2⟩⟩
 rintro _ ⟨t,rfl,ht⟩;refine nW ?_;refine bZ (λh=>?_) (λh=>?_)
 .exact bu abr rfl rfl (a7 rfl)
 obtain⟨rfl,rfl⟩:=ht h;obtain⟨hg1,hg2⟩:=ayL rfl;obtain⟨hl2,hs2⟩:=ayN rfl;have hw:∀g∈gens,WM g.map:=λg hg=>⟨λs=>by
  by_cases h:s<8
  .exact hg2 g hg s h
  .obtain⟨n,rfl⟩:∃n,s=n+8:=⟨s-8,om⟩
   rw[hg8 g hg n];exact gk _⟩
 have hgd:nt d:=zD.2 ⟨om,λf hf=>⟨(hb f hf).1,by have:=hs2 f hf;omega,by have:=hs2 f hf;omega,by have:=hs2 f hf;omega,λw hw=>⟨(hb f hf).2 w hw,by have:=(hs2 f hf).2.2.2 w hw;omega⟩⟩⟩;obtain⟨m,mi,ml,mg,hm,hgm,hmw,hm9⟩:=aqg hA;refine bu hm rfl rfl (nW ?_);obtain⟨k7,Bk⟩:∃n:Int,cw .and .u64 key 7=some (.i n):=⟨_,rfl⟩
 obtain⟨c3,hc3⟩:∃n:Int,cw .and .u32 cookie 3=some (.i n):=⟨_,rfl⟩
 refine cP Bk (nW ?_);refine cP hc3 (nW ?_);refine bu (nothing _ _).1 rfl rfl (nW ?_);refine vM ?_;show a8.wp _ (_++[L.r ([r,⟨k7,c3,0,0,0,0,⟨0,0,0,0⟩,0⟩].map mF)]) _;obtain⟨s0,hs0⟩:∃s0:List Rs,[r,⟨k7,c3,0,0,0,0,⟨0,0,0,0⟩,0⟩]=s0:=⟨_,rfl⟩
 have hl0:s0.length=2:=by rw[<-hs0];rfl
 rw[hs0];refine nW ?_;refine bE (λxs=>∃st:List Rs,xs=[.r (st.map mF)]/\st.length<=10) ?_ ?_
 .refine cP Bk (nW ?_);obtain⟨o,ho⟩:=aoP (id:=mi) (limit:=ml) (ro:=.b false) hmw om k7
  cases o with
  |none=>
   refine bu ho rfl rfl (nW ?_);exact cZ rfl (a7 ⟨s0,rfl,om⟩)
  |some p=>
   obtain⟨g,x⟩:=p;refine bu ho rfl rfl (nW ?_);refine eL rfl ?_;refine cP Bk (nW ?_);refine cP Bk (nW ?_);refine vM ?_;show a8.wp _ (_++[L.r ([(⟨k7,x.cookie,0,0,0,0,⟨0,0,0,0⟩,0⟩:Rs),⟨k7,0,1,g.num,g.mode,g.rev,x,0⟩].map mF)]) _;obtain⟨s1,hs1⟩:∃s1:List Rs,[(⟨k7,x.cookie,0,0,0,0,⟨0,0,0,0⟩,0⟩:Rs),⟨k7,0,1,g.num,g.mode,g.rev,x,0⟩]=s1:=⟨_,rfl⟩
   have gz:s1.length=2:=by rw[<-hs1];rfl
   rw[hs1];refine nW ?_;refine MS (r:=(s0++s1).map mF) (by show(s0.map mF).length+(s1.map mF).length<=_;rw[bC,bC];omega) om (Jm _) (Jm _) eB.symm (nW ?_);have hl2:(s0++s1).length=4:=by rw[ez];omega
   obtain⟨s2,hs2⟩:∃s2,s0++s1=s2:=⟨_,rfl⟩
   rw[hs2]at hl2⊢;obtain⟨l1,gz⟩:∃n:Int,cw .and .i64 left 1=some (.i n):=⟨_,rfl⟩
   obtain⟨m1,hm1⟩:∃n:Int,cw .and .i64 r.mode 1=some (.i n):=⟨_,rfl⟩
   refine cP gz (nW ?_);refine cP (l:=.i (IntKind.wrap .i64 (g.rev+l1))) rfl (nW ?_);refine cP hm1 (nW ?_);refine cP (l:=.i (IntKind.wrap .i64 (1+m1))) rfl (nW ?_);refine cP Bk (nW ?_);refine vM (nW ?_);refine MS (r:=(s2++[(⟨k7,0,1,g.num,IntKind.wrap .i64 (1+m1),IntKind.wrap .i64 (g.rev+l1),x,0⟩:Rs)]).map mF) (by show(s2.map mF).length+1<=_;rw[bC];omega) om (Jm _) rfl (by rw[eB];rfl) (nW ?_);exact a7 ⟨_,rfl,by rw[ez];show s2.length+1<=_;omega⟩
 rintro _ ⟨st,rfl,hst⟩;refine nW ?_;refine bE (λxs=>xs=[]) ?_ ?_;rotate_left
 .rintro _ rfl;refine nW ?_;refine bE (λxs=>xs=[.b true]) ?_ (by rintro _ rfl;exact a7 rfl);refine bu (nothing _ _).2 rfl rfl (nW ?_);refine bu (HE _ _ _ _ _ _ _ _ _ _ _).2 rfl rfl (nW ?_);refine bu (nothing _ _).1 rfl rfl ?_;refine uR ?_;refine eL (by simp[L.ck,At.ev]) ?_;exact bu abr rfl rfl (a7 rfl)
 refine uR ?_;rw[bC];refine wp_loop (I:=λa=>∃i:Nat,a=[.i i]/\i<=st.length) (mu:=λa=>match a with|[.i i]=>st.length-i.toNat|_=>0) ⟨0,rfl,om⟩ ?_;rintro a ⟨i,rfl,i1⟩;refine uR ?_;refine bG rfl (λhc=>?_) (λhc=>a7 rfl);have hi:i<st.length:=om;refine bE (λxs=>xs=[]) ?_ ?_;rotate_left
 .rintro _ rfl;refine nW ?_;refine cm (i:=i) rfl om (nW ?_);refine a7 ⟨⟨i+1,rfl,om⟩,?_⟩;show st.length- ((i+1:Nat):Int).toNat<st.length-i;omega
 refine bU (f:=mF) (l:=st) (j:=i) rfl rfl hi rfl (nW ?_)
 repeat refine eb (f:=mF) (l:=st) (j:=i) rfl rfl hi rfl rfl (nW ?_)
 obtain⟨x,hx⟩:∃x,st[i]=x:=⟨_,rfl⟩
 rw[hx];obtain⟨l1,gz⟩:∃n:Int,cw .and .i64 left 1=some (.i n):=⟨_,rfl⟩
 refine cP gz (nW ?_);obtain⟨q2,ayP⟩:=avh (.i m.cap) (.i m.left) (.r (m.files.map ch)) l1;refine bu ayP rfl rfl (nW ?_);obtain⟨ds,AU⟩:∃ds:List Dk,[m,d,⟨m.cap,q2,m.files⟩]=ds:=⟨_,rfl⟩
 have hdg:∀y∈ds,nt y:=by
  rw[<-AU];intro y hy;simp only[dn,iS,or_false]at hy;rcases hy with rfl|rfl|rfl
  .exact hgm
  .exact hgd
  .exact zD.2 (zD.1 hgm)
 have jU:ds.length=3:=by rw[<-AU];rfl
 refine vM ?_;show a8.wp _ (_++[L.r ([m,d,⟨m.cap,q2,m.files⟩].map I1)]) _;rw[AU];refine uR ?_;rw[bC];refine wp_loop (I:=λa=>∃k:Nat,a=[.i k]/\k<=ds.length) (mu:=λa=>match a with|[.i i]=>ds.length-i.toNat|_=>0) ⟨0,rfl,om⟩ ?_;rintro a ⟨k,rfl,k1⟩;refine uR ?_;refine bG rfl (λhc=>?_) (λhc=>a7 rfl);have hk:k<ds.length:=om;refine bE (λxs=>xs=[]) ?_ ?_;rotate_left
 .rintro _ rfl;refine nW ?_;refine cm (i:=k) rfl om (nW ?_);refine a7 ⟨⟨k+1,rfl,om⟩,?_⟩;show ds.length- ((k+1:Nat):Int).toNat<ds.length-k;omega
 refine bU (f:=I1) (l:=ds) (j:=k) rfl rfl hk rfl (nW ?_)
 repeat refine eb (f:=I1) (l:=ds) (j:=k) rfl rfl hk rfl rfl (nW ?_)
 have P0:=hdg _ (cT hk);obtain⟨y,hy⟩:∃y,ds[k]=y:=⟨_,rfl⟩
 rw[hy]at P0⊢;obtain⟨sl,se⟩:∃sl:List Sl,[⟨mi,ml,false,mg⟩,⟨id,limit,ro,gens⟩]=sl:=⟨_,rfl⟩
 have hsg:∀y∈sl,(∀g∈y.gens,WM g.map)/\y.gens.length<=1000000:=by
  rw[<-se];intro y hy;simp only[dn,iS,or_false]at hy;rcases hy with rfl|rfl
  .exact⟨hmw,by show mg.length<=_;omega⟩
  .exact⟨hw,by show gens.length<=_;omega⟩
 have aAr:sl.length=2:=by rw[<-se];rfl
 refine vM ?_;show a8.wp _ (_++[L.r ([(⟨mi,ml,false,mg⟩:Sl),⟨id,limit,ro,gens⟩].map JR)]) _;rw[se];refine uR ?_;rw[bC];refine wp_loop (I:=λa=>∃j:Nat,a=[.i j]/\j<=sl.length) (mu:=λa=>match a with|[.i i]=>sl.length-i.toNat|_=>0) ⟨0,rfl,om⟩ ?_;rintro a ⟨j,rfl,j1⟩;refine uR ?_;refine bG rfl (λhc=>?_) (λhc=>a7 rfl);have hj:j<sl.length:=om;refine bE (λxs=>xs=[]) ?_ ?_;rotate_left
 .rintro _ rfl;refine nW ?_;refine cm (i:=j) rfl om (nW ?_);refine a7 ⟨⟨j+1,rfl,om⟩,?_⟩;show sl.length- ((j+1:Nat):Int).toNat<sl.length-j;omega
 refine bU (f:=JR) (l:=sl) (j:=j) rfl rfl hj rfl (nW ?_)
 repeat refine eb (f:=JR) (l:=sl) (j:=j) rfl rfl hj rfl rfl (nW ?_)
 have GQ:=hsg _ (cT hj);obtain⟨z,hz⟩:∃z,sl[j]=z:=⟨_,rfl⟩
 rw[hz]at GQ⊢;refine bu (auU P0) rfl rfl (nW ?_);refine bu (alU _ _ _ GQ.2) rfl rfl (nW ?_);refine bu (HE _ _ _ _ _ _ _ _ _ _ _).1 rfl rfl (nW ?_);obtain⟨e,q,ys,hys,hP,hR⟩:=step_eq P0 (id:=z.id) (limit:=z.limit) (ro:=.b z.ro) GQ.1 GQ.2 x;refine bu hP rfl rfl (nW ?_);refine bu hR rfl rfl (nW ?_);refine bE (λxs=>xs=[.b false]) ?_ ?_
 .refine uR ?_;refine db rfl (λh=>h rfl) ?_;refine bu (HE _ _ _ _ _ _ _ _ _ _ _).2 rfl rfl ?_;refine uR ?_;refine cZ (by simp[L.ck,At.ev]) ?_;refine uR ?_;exact a7 (dF λh=>h rfl)
 rintro _ rfl;refine nW ?_;refine cZ rfl ?_;refine uR ?_;rw[bC];refine wp_loop (I:=λa=>∃n:Nat,a=[.i n]/\n<=ys.length) (mu:=λa=>match a with|[.i i]=>ys.length-i.toNat|_=>0) ⟨0,rfl,om⟩ ?_;rintro a ⟨n,rfl,n1⟩;refine uR ?_;refine bG rfl (λhc=>?_) (λhc=>a7 rfl);have hn:n<ys.length:=om;refine bE (λxs=>xs=[.b false]) ?_ ?_
 .refine bU (f:=kf) (l:=ys) (j:=n) rfl rfl hn rfl (nW ?_);refine eb (f:=kf) (l:=ys) (j:=n) rfl rfl hn rfl rfl (nW ?_);refine bU (f:=kf) (l:=ys) (j:=n) rfl rfl hn rfl (nW ?_);refine eb (f:=kf) (l:=ys) (j:=n) rfl rfl hn rfl rfl ?_;refine uR ?_;refine db rfl (λh=>h rfl) ?_;refine bU (f:=kf) (l:=ys) (j:=n) rfl rfl hn rfl (nW ?_)
  repeat refine eb (f:=kf) (l:=ys) (j:=n) rfl rfl hn rfl rfl (nW ?_)
  refine bU (f:=kf) (l:=ys) (j:=n) rfl rfl hn rfl (nW ?_)
  repeat refine eb (f:=kf) (l:=ys) (j:=n) rfl rfl hn rfl rfl (nW ?_)
  refine bu (lJ ys[n].1 ys[n].2.1 ys[n].2.2.1 ys[n].2.2.2.1) rfl rfl ?_;refine uR ?_;exact a7 rfl
 rintro _ rfl;refine nW ?_;refine cZ rfl ?_;refine cm (i:=n) rfl om (nW ?_);refine a7 ⟨⟨n+1,rfl,om⟩,?_⟩;show ys.length- ((n+1:Nat):Int).toNat<ys.length-n;omega
end
section
attribute [local irreducible] zw
open Go.ChangeShapes Go.WideShapes Go.ChangeAt Go.RowKit AI
theorem ajW:ownKnob Tryz.prog.godebug=none:=kr
def Lx:List AC:=[.int .u8 0 255]
def rb:List AC:=[.int .i64 (-9223372036854775808) 9223372036854775807,.sl 9223372036854775807 Lx,.bool]
def zk:List AC:=[.str 9223372036854775807,.sl 9223372036854775807 Lx,.sl 9223372036854775807 rb]
def cDk:List AC:=[.int .i64 (-9223372036854775808) 9223372036854775807,.int .i64 (-9223372036854775808) 9223372036854775807,.sl 9223372036854775807 zk]
def kU:List AC:=[.int .u64 0 18446744073709551615,.int .u32 0 4294967295,.int .i64 (-9223372036854775808) 9223372036854775807,.int .i64 (-9223372036854775808) 9223372036854775807]
def DB:List AC:=[.int .i64 (-9223372036854775808) 9223372036854775807,.int .i64 (-9223372036854775808) 9223372036854775807,.int .i64 (-9223372036854775808) 9223372036854775807,.int .i64 (-9223372036854775808) 9223372036854775807,.sl 9223372036854775807 kU,.sl 9223372036854775807 kU,.sl 9223372036854775807 kU,.sl 9223372036854775807 kU,.sl 9223372036854775807 kU,.sl 9223372036854775807 kU,.sl 9223372036854775807 kU,.sl 9223372036854775807 kU,.int .i64 (-9223372036854775808) 9223372036854775807,.int .i64 (-9223372036854775808) 9223372036854775807]
def Cb:List AC:=List.replicate 8 (.sl 9223372036854775807 kU)
def gI:List AC:=[.int .i64 (-9223372036854775808) 9223372036854775807]
def cRs:List AC:=[.int .u64 0 18446744073709551615,.int .u32 0 4294967295,.int .i64 (-9223372036854775808) 9223372036854775807,.int .i64 (-9223372036854775808) 9223372036854775807,.int .i64 (-9223372036854775808) 9223372036854775807,.int .i64 (-9223372036854775808) 9223372036854775807,.int .u64 0 18446744073709551615,.int .u32 0 4294967295,.int .i64 (-9223372036854775808) 9223372036854775807,.int .i64 (-9223372036854775808) 9223372036854775807,.int .i64 (-9223372036854775808) 9223372036854775807]
def cSl:List AC:=[.int .i64 (-9223372036854775808) 9223372036854775807,.int .i64 (-9223372036854775808) 9223372036854775807,.bool,.sl 9223372036854775807 DB]
section
variable{H:Type}{enc:cg×cr->H}{w:cp}{base:Nat}{spare:Nat->Bool}{held:Bool}
def M0:fJ:=λ_=>False
theorem LQ:iB enc Tryz.prog w base spare held M0 71 (.sl 9223372036854775807 Lx):=
 ry Tryz.underlying71 kr dc (λ_ h=>h) (tf (iO Tryz.underlying5 λ_=>bounds_u8))
theorem aoT:iB enc Tryz.prog w base spare held M0 81 (.sl 9223372036854775807 [.int .u64 0 18446744073709551615]):=
 ry Tryz.underlying81 kr dc (λ_ h=>h) (tf (iO Tryz.underlying22 λ_=>bounds_u64))
theorem apZ:El enc Tryz.prog w base spare held M0 73 4 c6:=
 Dh Tryz.underlying73 kr rfl rfl rfl rfl kr kr kr kr (iO Tryz.underlying22 λ_=>bounds_u64) (iO Tryz.underlying23 λ_=>bounds_u32) (Kp Tryz.underlying4) LQ
theorem ark:iB enc Tryz.prog w base spare held M0 80 (.sl 9223372036854775807 c6):=
 ry Tryz.underlying80 kr dc (λ_ h=>h) apZ
theorem awk:El enc Tryz.prog w base spare held M0 83 4 AT:=
 Dh Tryz.underlying83 kr rfl rfl rfl rfl kr kr kr kr (iO Tryz.underlying3 λ_=>bounds_i64) ark (iO Tryz.underlying3 λ_=>bounds_i64) aoT
theorem agF:iB enc Tryz.prog w base spare held M0 30 (.sl 9223372036854775807 AT):=
 ry Tryz.underlying30 kr dc (λ_ h=>h) awk
theorem QN:El enc Tryz.prog w base spare held M0 25 4 kU:=
 Dh Tryz.underlying25 kr rfl rfl rfl rfl kr kr kr kr (iO Tryz.underlying22 λ_=>bounds_u64) (iO Tryz.underlying23 λ_=>bounds_u32) (iO Tryz.underlying2 λ_=>bounds_i64) (iO Tryz.underlying3 λ_=>bounds_i64)
theorem avm:El enc Tryz.prog w base spare held M0 111 3 rb:=
 Nr Tryz.underlying111 kr rfl rfl rfl kr kr kr (iO Tryz.underlying2 λ_=>bounds_i64) LQ (Kp Tryz.underlying4)
theorem alc:iB enc Tryz.prog w base spare held M0 107 (.sl 9223372036854775807 rb):=
 ry Tryz.underlying107 kr dc (λ_ h=>h) avm
theorem air:El enc Tryz.prog w base spare held M0 109 3 zk:=
 Nr Tryz.underlying109 kr rfl rfl rfl kr kr kr (ank Tryz.underlying9) LQ alc
theorem aiC:iB enc Tryz.prog w base spare held M0 34 (.sl 9223372036854775807 zk):=
 ry Tryz.underlying34 kr dc (λ_ h=>h) air
theorem adP:El enc Tryz.prog w base spare held M0 36 3 cDk:=
 Nr Tryz.underlying36 kr rfl rfl rfl kr kr kr (iO Tryz.underlying2 λ_=>bounds_i64) (iO Tryz.underlying2 λ_=>bounds_i64) aiC
theorem e3:El enc Tryz.prog w base spare held M0 3 1 gI:=tf (iO Tryz.underlying3 λ_=>bounds_i64)
theorem e2:El enc Tryz.prog w base spare held M0 2 1 gI:=tf (iO Tryz.underlying2 λ_=>bounds_i64)
theorem agc:iB enc Tryz.prog w base spare held M0 89 (.sl 9223372036854775807 kU):=ry Tryz.underlying89 kr dc (λ_ h=>h) QN
theorem asq:El enc Tryz.prog w base spare held M0 90 8 Cb:=aiB Tryz.underlying90 kr kr (tf agc)
theorem ajG:El enc Tryz.prog w base spare held M0 92 10 (Cb++gI++gI):=
 Ck [(90,8,Cb),(2,1,gI),(2,1,gI)] Tryz.underlying92 kr rfl kr λp hp=>by
  simp only[dn,iS,or_false]at hp;rcases hp with rfl|rfl|rfl
  .exact asq
  .exact e2
  .exact e2
theorem afH:El enc Tryz.prog w base spare held M0 94 14 DB:=
 Ck [(3,1,gI),(2,1,gI),(3,1,gI),(2,1,gI),(92,10,Cb++gI++gI)] Tryz.underlying94 kr rfl kr λp hp=>by
  simp only[dn,iS,or_false]at hp;rcases hp with rfl|rfl|rfl|rfl|rfl
  .exact e3
  .exact e2
  .exact e3
  .exact e2
  .exact ajG
theorem aeu:iB enc Tryz.prog w base spare held M0 31 (.sl 9223372036854775807 DB):=ry Tryz.underlying31 kr dc (λ_ h=>h) afH
theorem akb:El enc Tryz.prog w base spare held M0 33 4 cSl:=
 Dh Tryz.underlying33 kr rfl rfl rfl rfl kr kr kr kr (iO Tryz.underlying3 λ_=>bounds_i64) (iO Tryz.underlying2 λ_=>bounds_i64) (Kp Tryz.underlying4) aeu
theorem afW:El enc Tryz.prog w base spare held M0 27 7 (gI++gI++gI++kU):=
 Ck [(3,1,gI),(3,1,gI),(2,1,gI),(25,4,kU)] Tryz.underlying27 kr rfl kr λp hp=>by
  simp only[dn,iS,or_false]at hp;rcases hp with rfl|rfl|rfl|rfl
  .exact e3
  .exact e3
  .exact e2
  .exact QN
theorem ahX:El enc Tryz.prog w base spare held M0 29 11 cRs:=
 Ck [(22,1,[.int .u64 0 18446744073709551615]),(23,1,[.int .u32 0 4294967295]),(3,1,gI),(27,7,gI++gI++gI++kU),(2,1,gI)] Tryz.underlying29 kr rfl kr λp hp=>by
  simp only[dn,iS,or_false]at hp;rcases hp with rfl|rfl|rfl|rfl|rfl
  .exact tf (iO Tryz.underlying22 λ_=>bounds_u64)
  .exact tf (iO Tryz.underlying23 λ_=>bounds_u32)
  .exact e3
  .exact afW
  .exact e2
end
theorem Xe:∀{rows},AC.rows rb rows->∃e:List Wr,rows=e.map eX/\∀w∈e,fl w.data
 |[],_=>⟨[],rfl,λf d=>by cases d⟩
 |r::rows,h=>by
  obtain⟨e,rfl,g⟩:=Xe (rows:=rows) λr a=>h r (fp _ a)
  have a:=h r eJ;obtain⟨q0,l0,rfl,⟨n,e0,_⟩,a⟩:=dY a;obtain⟨q1,l1,rfl,⟨b,i,_,j⟩,a⟩:=dY a;obtain⟨q2,l2,rfl,⟨c,e2⟩,a⟩:=dY a;obtain rfl:=s_ a;refine⟨⟨n,b,c⟩::e,by rw[e0,i,e2];rfl,λf d=>?_⟩;rcases dn.1 d with rfl|d
  .exact Ek j
  .exact g f d
theorem ZB:∀{rows},AC.rows zk rows->∃fs:List Fl,rows=fs.map ch/\∀f∈fs,f.bT.length<=9223372036854775807/\fl f.base/\∀w∈f.bT,fl w.data
 |[],_=>⟨[],rfl,λf c=>by cases c⟩
 |r::rows,h=>by
  obtain⟨fs,rfl,g⟩:=ZB (rows:=rows) λr a=>h r (fp _ a)
  have a:=h r eJ;obtain⟨q0,l0,rfl,⟨s,e0,_⟩,a⟩:=dY a;obtain⟨q1,l1,rfl,⟨b,i,_,j⟩,a⟩:=dY a;obtain⟨q2,l2,rfl,⟨p,e2,hp,d⟩,a⟩:=dY a;obtain rfl:=s_ a;obtain⟨e,rfl,k⟩:=Xe d;rw[bC]at hp;refine⟨⟨s,b,e⟩::fs,by rw[e0,i,e2];rfl,λf c=>?_⟩;rcases dn.1 c with rfl|c
  .exact⟨by show e.length<=_;omega,Ek j,k⟩
  .exact g f c
theorem Mj{M E w cs us}(ps:List PV)(a:cs=ps.map C.p)(f:us.size=ps.length)(g:∀(j:Nat)(p)(u),ps[j]?=some p->us.toList[j]?=some u->RP (bad M E) w p u):dR M E w (.agg cs) (.agg us):=by
 subst a;refine⟨us,rfl,by rw[bC];exact f,λi c b=>?_⟩;rw[cN,bY]at b;obtain⟨p,hp,rfl⟩:=b;have h:=(dW.1 hp).1;have d:us[i]?=some (us[i]'om):=pd om;have e:=g i p _ hp (by rw[P2];exact d);exact⟨_,d,e,e.rh⟩
theorem afb{w l us ss xs rows grows a k0 o q r s t z A B C tr id limit cap D key cookie left ro}(L:RP M0 w (.sl rows) l)(M:AC.rows AT rows)
 (N:us.size=11) (O:∀(j:Nat)(p)(u),[PV.sc (.int .u64 k0),PV.sc (.int .u32 o),PV.sc (.int .i64 q),PV.sc (.int .i64 r),PV.sc (.int .i64 s),PV.sc (.int .i64 t),PV.sc (.int .u64 z),PV.sc (.int .u32 A),PV.sc (.int .i64 B),PV.sc (.int .i64 C),PV.sc (.int .i64 tr)][j]?=some p->us.toList[j]?=some u->RP M0 w p u)
 (P:ss.size=4) (Q:∀(j:Nat)(p)(u),[PV.sc (.int .i64 id),.sc (.int .i64 limit),.sc (.bool ro),.sl grows][j]?=some p->ss.toList[j]?=some u->RP M0 w p u) (R:AC.rows DB grows) (E:grows.length<=9223372036854775807)
 (S:xs.size=3) (T:∀(j:Nat)(p)(u),[PV.sc (.int .i64 cap),.sc (.int .i64 D),.sl a][j]?=some p->xs.toList[j]?=some u->RP M0 w p u) (U:AC.rows zk a) (F:a.length<=9223372036854775807):
 Calls Tryz.prog 3 #[.agg us,l,.agg ss,.agg xs,.int .u64 key,.int .u32 cookie,.int .i64 left] w λe w'=>e=.returned (.bool true)/\Below w.heap.size w w':=by
 obtain⟨fs,rfl,G⟩:=ZB U;obtain⟨gens,rfl,K⟩:=IK dc L2 R;rw[bC]at F E;have Y:y7.F=zw:=rfl;have hp:zw [.i k0,.i o,.i q,.i r,.i s,.i t,.i z,.i A,.i B,.i C,.i tr,.r rows,.i id,.i limit,.b ro,.r (gens.map da),.i cap,.i D,.r (fs.map ch),.i key,.i cookie,.i left]=some [.b true]:=
  ava M ⟨k0,o,q,r,s,t,⟨z,A,B,C⟩,tr⟩ E (d:=⟨cap,D,fs⟩) F (λf h=>(G f h).1) (λf h=>(G f h).2) (λg h=>(K g h).2) key cookie left
 have V:=(Ok.j y7) [.i k0,.i o,.i q,.i r,.i s,.i t,.i z,.i A,.i B,.i C,.i tr,.r rows,.i id,.i limit,.b ro,.r (gens.map da),.i cap,.i D,.r (fs.map ch),.i key,.i cookie,.i left] [.b true] rfl (by exact hp) rfl;have J:bad M0 ⟨λ_=>none,[]⟩=M0:=by
  funext g;simp[bad,M0]
 refine(V.call w M0 (λ_=>none) #[.agg us,l,.agg ss,.agg xs,.int .u64 key,.int .u32 cookie,.int .i64 left] (λg h=>h.elim) (λn x h=>by cases h) (λn x g h=>by cases h) (λn m x y g h=>by cases h) (λn b h=>by simp[y7]at h) rfl (λi x c=>?_)).mono ?_
 .match i with
  |0=>
   cases c;refine⟨_,rfl,Mj [PV.sc (.int .u64 k0),PV.sc (.int .u32 o),PV.sc (.int .i64 q),PV.sc (.int .i64 r),PV.sc (.int .i64 s),PV.sc (.int .i64 t),PV.sc (.int .u64 z),PV.sc (.int .u32 A),PV.sc (.int .i64 B),PV.sc (.int .i64 C),PV.sc (.int .i64 tr)] rfl N ?_⟩;rw[J];exact O
  |1=>
   cases c;refine⟨l,rfl,?_⟩;show RP (bad M0 _) w (.sl rows) l;rw[J];exact L
  |2=>
   cases c;refine⟨_,rfl,Mj [PV.sc (.int .i64 id),.sc (.int .i64 limit),.sc (.bool ro),.sl (gens.map da)] rfl P ?_⟩;rw[J];exact Q
  |3=>
   cases c;refine⟨_,rfl,Mj [PV.sc (.int .i64 cap),.sc (.int .i64 D),.sl (fs.map ch)] rfl S ?_⟩;rw[J];exact T
  |4=>
   cases c;refine⟨_,rfl,?_⟩;exact .sc rfl
  |5=>
   cases c;refine⟨_,rfl,?_⟩;exact .sc rfl
  |6=>
   cases c;refine⟨_,rfl,?_⟩;exact .sc rfl
  |i+7=>simp[y7]at c
 .rintro e w' ⟨v,E',rfl,I,-,-,W⟩;cases W;exact⟨rfl,I.os,I.tape,I.output,I.size,λk X=>I.block k X (λ⟨n,x,h,_⟩=>by cases h)⟩
end
section
open Go.Deep Go.ChangeShapes Go.WideShapes Go.ChangeAt Go.RowKit AI
theorem EC:laidOutB Tryz.prog=true:=kr
def og:List (String×DataW Unit):=Rows.readerStepsRow.laid
theorem ait (M8:∀(os)(H)(enc:cg×cr->H),∃(w:cp)(tape:Tape)(i:Input),w.os=os/\(w.forCall tape i).Shaped Tryz.prog/\i.vars=[]/\Input.okWide Tryz.prog (w.forCall tape i) .any w.heap.size 3 i/\
 ((Rows.readerStepsSpec.pre enc Tryz.prog Tryz.f3 [] false (w.forCall tape i).memory i.args/\laidMetH Tryz.prog og (w.forCall tape i).memory)/\sizedMet enc Tryz.prog Tryz.f3 (OpenSpec.ofChange Rows.readerStepsSpec) false (w.forCall tape i).memory i.args)/\Assume.holds {} Tryz.prog (lone (Frame.enter Tryz.prog 3 i.args .normal) [] (w.forCall tape i)))
 (os) (a:os.Started) (H) (enc:cg×cr->H):
 ReturnsInHanded {} Tryz.checked os 3 .any (λw args=>(Rows.readerStepsSpec.pre enc Tryz.prog Tryz.f3 [] false w args/\laidMetH Tryz.prog og w)/\sizedMet enc Tryz.prog Tryz.f3 (OpenSpec.ofChange Rows.readerStepsSpec) false w args)
  (Rows.readerStepsSpec.post enc Tryz.prog Tryz.f3 false true false false):=by
 refine returnsInHanded_of_change_and (C:=Tryz.checked) (X:=λw _=>laidMetH Tryz.prog og w) (λ_ _ _ hh h=>h.of_heap hh) ajW a kr Tryz.func3 (M8 os H enc) ?_;intro W base args ds gs before c R _ ab hL _;have hval:∀(j:Nat)t v,Tryz.f3.params[j]?=some t->args[j]?=some v->Value.okWide Tryz.prog W .any base t v:=c;have f:=R;obtain⟨p,q,g,hV,rfl,ad,ae⟩:=R;have hA:DataW.TrodAll enc Tryz.prog W 0 (λ_=>true) true Tryz.f3.params.toList args.toList ds p:=g;obtain⟨S,af,d0,ag,p0,q0,k,rfl,rfl,T,r0⟩:=trodAll_cons hA;obtain⟨U,ah,d1,ai,p1,q1,rfl,rfl,rfl,V,r1⟩:=trodAll_cons r0;obtain⟨Y,aj,d2,ak,p2,q2,rfl,rfl,rfl,Z,r2⟩:=trodAll_cons r1;obtain⟨v3,al,d3,am,p3,q3,rfl,rfl,rfl,h3,r3⟩:=trodAll_cons r2;obtain⟨v4,an,d4,ao,p4,q4,rfl,rfl,rfl,h4,r4⟩:=trodAll_cons r3;obtain⟨v5,ap,d5,aq,p5,q5,rfl,rfl,rfl,h5,r5⟩:=trodAll_cons r4;obtain⟨v6,ar,d6,au,p6,q6,rfl,rfl,rfl,h6,r6⟩:=trodAll_cons r5;obtain⟨rfl,rfl,rfl⟩:=trodAll_nil r6;obtain rfl:args= #[S,U,Y,v3,v4,v5,v6]:=by cases args;simp_all
 obtain⟨rfl,rfl⟩:=trodVars_none hV;obtain⟨us,rfl,l⟩:=okWide_struct Tryz.underlying29 (hval 0 29 S rfl rfl);obtain⟨a1,CB,aa,rfl⟩:=okWide_slice Tryz.underlying30 (hval 1 30 U rfl rfl);obtain⟨ss,rfl,n⟩:=okWide_struct Tryz.underlying33 (hval 2 33 Y rfl rfl);obtain⟨xs,rfl,o⟩:=okWide_struct Tryz.underlying36 (hval 3 36 v3 rfl rfl);obtain⟨key,rfl,rfl,rfl,w4⟩:=open_int Tryz.underlying22 (hval 4 22 v4 rfl rfl) h4;obtain⟨cookie,rfl,rfl,rfl,w5⟩:=open_int Tryz.underlying23 (hval 5 23 v5 rfl rfl) h5;obtain⟨left,rfl,rfl,rfl,w6⟩:=open_int Tryz.underlying2 (hval 6 2 v6 rfl rfl) h6;have k0:=T;have k1:=V;have k2:=Z;have k3:=h3;have r:∀x∈p0,x.block<W.heap.size:=by obtain⟨m,d⟩:=k0;exact DataW.trod_lt m _ _ _ d
 have s:∀x∈p1,x.block<W.heap.size:=by obtain⟨m,d⟩:=k1;exact DataW.trod_lt m _ _ _ d
 have u:∀x∈p2,x.block<W.heap.size:=by obtain⟨m,d⟩:=k2;exact DataW.trod_lt m _ _ _ d
 have z:∀x∈p3,x.block<W.heap.size:=by obtain⟨m,d⟩:=k3;exact DataW.trod_lt m _ _ _ d
 obtain⟨A,B⟩:=T;obtain⟨fuel,hf⟩:=V;obtain⟨D,E⟩:=Z;obtain⟨F,G⟩:=h3;obtain⟨v,pv,e1,⟨rows,rfl,-,hr⟩,hR⟩:=agF _ _ _ hf;cases e1;obtain⟨-,z0,-,I,J⟩:=ahX _ _ _ B;obtain⟨-,z2,-,K,L⟩:=akb _ _ _ E;obtain⟨-,z3,-,M,N⟩:=adP _ _ _ G;obtain⟨y,l0,rfl,⟨x0,rfl,-⟩,ayS⟩:=dY I;obtain⟨y,l1,rfl,⟨x1,rfl,-⟩,ayT⟩:=dY ayS;obtain⟨y,l2,rfl,⟨x2,rfl,-⟩,ayU⟩:=dY ayT;obtain⟨y,l3,rfl,⟨x3,rfl,-⟩,ayV⟩:=dY ayU;obtain⟨y,l4,rfl,⟨x4,rfl,-⟩,ayW⟩:=dY ayV;obtain⟨y,l5,rfl,⟨x5,rfl,-⟩,ayX⟩:=dY ayW;obtain⟨y,l6,rfl,⟨x6,rfl,-⟩,ayY⟩:=dY ayX;obtain⟨y,l7,rfl,⟨x7,rfl,-⟩,ayZ⟩:=dY ayY;obtain⟨y,l8,rfl,⟨x8,rfl,-⟩,aza⟩:=dY ayZ;obtain⟨y,l9,rfl,⟨x9,rfl,-⟩,azb⟩:=dY aza;obtain⟨y,l10,rfl,⟨av,rfl,-⟩,azc⟩:=dY azb;obtain rfl:=s_ azc;obtain⟨y,m0,rfl,⟨id,rfl,-⟩,azd⟩:=dY K;obtain⟨y,m1,rfl,⟨limit,rfl,-⟩,aze⟩:=dY azd;obtain⟨y,m2,rfl,⟨ro,rfl⟩,azf⟩:=dY aze;obtain⟨y,m3,rfl,⟨grows,rfl,aw,O⟩,azg⟩:=dY azf;obtain rfl:=s_ azg;obtain⟨y,n0,rfl,⟨cap,rfl,-⟩,azh⟩:=dY M;obtain⟨y,n1,rfl,⟨lf,rfl,-⟩,azi⟩:=dY azh;obtain⟨y,n2,rfl,⟨P,rfl,ax,Q⟩,azj⟩:=dY azi;obtain rfl:=s_ azj;refine(afb (key:=key) (cookie:=cookie) (left:=left) hR hr l J n L O om o N Q om).mono λe W'⟨he,b⟩=>?_
 subst he;exact⟨_,rfl,_,_,_,[],_,[],f,trodAll_mk1 (shut_bool Tryz.underlying4 _),(trodAll_cons_mk (Below.trod EC kr (dZ kr) k0 b r) (trodAll_cons_mk (Below.trod EC kr (dZ kr) k1 b s) (trodAll_cons_mk (Below.trod EC kr (dZ kr) k2 b u) (trodAll_cons_mk (Below.trod EC kr (dZ kr) k3 b z) (trodAll_cons_mk (shut_int Tryz.underlying22 w4) (trodAll_cons_mk (shut_int Tryz.underlying23 w5) (trodAll_cons_mk (shut_int Tryz.underlying2 w6) trodAll_mk0))))))),rfl,b.frame _,λh=>by cases h⟩
end
end
end Go.Proofs.YtndegphojkiblaaGreatDoor
