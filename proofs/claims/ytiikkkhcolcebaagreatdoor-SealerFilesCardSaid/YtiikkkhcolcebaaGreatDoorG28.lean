/- A part. -/
import Derived.Test.YtiikkkhcolcebaaGreatDoorG5
import Derived.Test.YtiikkkhcolcebaaGreatDoorG6
import Derived.Test.YtiikkkhcolcebaaGreatDoorG13
import Derived.Test.YtiikkkhcolcebaaGreatDoorG15
import Derived.Test.YtiikkkhcolcebaaGreatDoorG16
import Derived.Test.YtiikkkhcolcebaaGreatDoorG18
import Derived.Test.YtiikkkhcolcebaaGreatDoorG21
import Derived.Test.YtiikkkhcolcebaaGreatDoorG23
import Derived.Test.YtiikkkhcolcebaaGreatDoorG27
import Derived.Test.YtiikkkhcolcebaaGreatDoorRows
import Derived.ProofKit
import Derived.LaidMore
import Derived.OpenShut
import Derived.Below
import Derived.Stop.Joined
set_option linter.all false
set_option maxHeartbeats 4000000
set_option maxRecDepth 100000
namespace Go.Proofs.YtiikkkhcolcebaaGreatDoor
noncomputable section
section
open Go.RowKit Pl AI
attribute [local irreducible] bp.wp
def GQ:Fs:=λ_=>none
def p9:Fs:=cq GQ 0 (some (il 1 1 0))
def aaF:∀n lo,iJ GQ lo n=[]
 |0,_=>rfl
 |n+1,lo=>by rw[iJ,aaF n];rfl
def Ye:Inv p9 [kP 0] (λ_=>il 1 1 0) 16:=by
 have f:=qB 1 1 0;have one:∀{i},i< [kP 0].length->i=0:=λ{i}h=>by have h:i<1:=h;omega
 refine⟨Lb,λj b a=>?_,λi c=>?_,λi c y g=>?_,λi c d=>?_,λi c d=>?_,λj a=>?_⟩
 .unfold p9 at a;by_cases e:j=0
  .subst e;rw[gN]at a;cases a;exact⟨vr _ _ _,om⟩
  .rw[dN e]at a;cases a
 .obtain rfl:=one c;exact⟨vr _ _ _,by rw[f];rfl,om,[],λx l=>(by cases l),by rw[gd];rfl⟩
 .obtain rfl:=one c;cases g
 .obtain rfl:=one c;exact⟨gN,λk n m=>by unfold p9;rw[dN om];rfl⟩
 .obtain rfl:=one c;have d:(1:Int)=3:=d;omega
 .have a:9*1<=j:=a;unfold p9;rw[dN om];rfl
def azj(k):has [kP 0] (λ_=>il 1 1 0) k=none:=by
 unfold has;rw[GZ];rfl;intro i a;have a:i<1:=a;obtain rfl:i=0:=om;rfl
def VV:HF [.i 1,.i 9000]=some [.i 0,.i (-1),.i 1,.i 9000,.r ([kP 0].map gR),.r ((cT p9).map bK)]:=by
 have a:dG GQ:=λj b e=>by cases e
 have d:=aaU a [kP 0] (.r []) (n:=0) dc rfl;rw[show cT GQ=[]from aaF 72 0]at d;have c:KW [.i 0]=some [.i 0]:=by
  refine bJ ?_;refine Ln (n:=0) rfl (nW ?_);exact bm rfl
 refine bJ ?_;refine bz aiu ?_;refine bz c ?_;refine bz d ?_;exact bm rfl
def V9{a:Int}:∃v:Int,eC .and .u64 a 7=some (.i v)/\0<=v/\v<8:=by
 have h:(BitVec.ofInt 64 a&&&BitVec.ofInt 64 7).toNat<=7:=by
  rw[QH];exact Nat.and_le_right
 refine⟨_,rfl,?_⟩;show 0<=IntKind.wrap .u64 ((BitVec.ofInt 64 a&&&BitVec.ofInt 64 7).toNat:Int)/\IntKind.wrap .u64 ((BitVec.ofInt 64 a&&&BitVec.ofInt 64 7).toNat:Int)<8;rw[Y6 om om];omega
def ayy{n:Int}(a:0<=n)(b:n<=4294967295):IntKind.wrap .u32 n=n:=yZ .u32 (by simp[IntKind.min,IntKind.signed];omega) (by simp[IntKind.max,IntKind.signed,IntKind.bits];omega)
def aqT{a:Int}:∃v:Int,eC .and .u32 a 3=some (.i v)/\0<=v/\v<4:=by
 have h:(BitVec.ofInt 32 a&&&BitVec.ofInt 32 3).toNat<=3:=by
  rw[QH];exact Nat.and_le_right
 refine⟨_,rfl,?_⟩;show 0<=IntKind.wrap .u32 ((BitVec.ofInt 32 a&&&BitVec.ofInt 32 3).toNat:Int)/\IntKind.wrap .u32 ((BitVec.ofInt 32 a&&&BitVec.ofInt 32 3).toNat:Int)<4;rw[ayy om om];omega
def rm:List AC:=[.int .u64 0 18446744073709551615,.int .u32 0 4294967295,.bool,.sl 9223372036854775807 [.int .u8 0 255]]
def uC:List AC:=[.int .i64 (-9223372036854775808) 9223372036854775807,.sl 9223372036854775807 rm,.int .i64 (-9223372036854775808) 9223372036854775807,.sl 9223372036854775807 [.int .u64 0 18446744073709551615]]
def UG:∀{rows},AC.rows [.int .u8 0 255] rows->∃l:List Nat,B8 l/\rows=l.map b1
 |[],_=>⟨[],λx a=>(by cases a),rfl⟩
 |r ::rows,h=>by
  have b:=h r jg;obtain⟨l,c,rfl⟩:=UG (rows:=rows) λr d=>h r (je _ d)
  match r,b with
  |[q],⟨⟨n,e,f,g⟩,_⟩=>
   refine⟨n.toNat::l,λx a=>?_,?_⟩
   .rcases fh.1 a with rfl|a
    .omega
    .exact c x a
   .rw[e,dE,b1,zG f]
def rO{c cs r}(h:AC.lP (c::cs) r):∃q l,r=q::l/\AC.ok c q/\AC.lP cs l:=by
 cases r with
 |nil=>cases h
 |cons q l=>exact⟨q,l,rfl,h.1,h.2⟩
def MU{r}(h:AC.lP [] r):r=[]:=by
 cases r with
 |nil=>rfl
 |cons q l=>cases h
def ajv{r}(h:AC.lP rm r):∃(key cookie:Int)(del:Bool)(b:List Nat),r=[.sc (.int .u64 key),.sc (.int .u32 cookie),.sc (.bool del),.sl (b.map b1)]/\B8 b:=by
 obtain⟨q0,l,rfl,⟨c,e0,_⟩,a⟩:=rO h;obtain⟨q1,m,rfl,⟨e,f,_⟩,a⟩:=rO a;obtain⟨q2,n,rfl,⟨d,g⟩,a⟩:=rO a;obtain⟨q3,o,rfl,⟨rows,i,_,j⟩,a⟩:=rO a;obtain rfl:=MU a;obtain⟨b,k,rfl⟩:=UG j;exact⟨c,e,d,b,by rw[e0,f,g,i],k⟩
def agZ{r}(h:AC.lP uC r):∃(kind g:Int)(l ks:List (List PV)),r=[.sc (.int .i64 kind),.sl l,.sc (.int .i64 g),.sl ks]/\AC.rows rm l/\AC.rows [.int .u64 0 18446744073709551615] ks:=by
 obtain⟨q0,k,rfl,⟨b,e0,_⟩,a⟩:=rO h;obtain⟨q1,m,rfl,⟨l,c,_,d⟩,a⟩:=rO a;obtain⟨q2,n,rfl,⟨e,f,_⟩,a⟩:=rO a;obtain⟨q3,o,rfl,⟨ks,i,_,j⟩,a⟩:=rO a;obtain rfl:=MU a;exact⟨b,e,l,ks,by rw[e0,c,f,i],d,j⟩
def VH(l:List Nl):cC 4 (l.map Nl.row)=true:=by
 unfold cC;rw[cI];intro x a;obtain⟨y,_,rfl⟩:=gg.1 a;rfl
def LO{ρ Q k}{l:List (List PV)}{x i:At}{n j:Nat}(a:(x.ev ρ).bE=l)(b:(i.ev ρ).br=j)(c:j<l.length)(d:l[j].length=n)(e:k.wp (ρ++[.c l[j]]) Q):(bp.op (.row x i n) k).wp ρ Q:=
 jy om (by rw[a,b,eO,db c]) d e
def Tv{l}(h:AC.rows rm l){m:Nat}(hm:m<=12):∃ls:List Nl,OP [.r l,.i m]=some [.r (ls.map Nl.row)]/\ls.length<=m/\∀x∈ls,k_ x:=by
 suffices sy:∃o,Fo Ut [.r l,.i m]=some o/\∃ls:List Nl,o=[.r (ls.map Nl.row)]/\ls.length<=m/\∀x∈ls,k_ x by
  obtain⟨o,h1,ls,rfl,h2⟩:=sy;exact⟨ls,h1,h2⟩
 refine kT ?_;refine bO (λxs=>∃ls:List Nl,xs=[.r (ls.map Nl.row)]/\ls.length<=m/\∀x∈ls,k_ x) ?_ (by rintro _ ⟨ls,rfl,h⟩;refine nW ?_;exact bm ⟨ls,rfl,h⟩);refine wp_loop (I:=λa=>∃(i:Nat)(ls:List Nl),a=[.i i,.r (ls.map Nl.row)]/\i<=m/\ls.length=i/\∀x∈ls,k_ x) (mu:=cN m) ⟨0,[],rfl,om,rfl,λx hx=>by cases hx⟩ ?_;rintro a ⟨i,ls,rfl,e1,e2,e3⟩;refine bO (dp (i<l.length/\i<m)) ?_ ?_
 .refine uR ?_;refine cD rfl (λhc=>?_) (λhc=>bm (fF om));refine uR ?_;exact bm (fK om)
 rintro _ ⟨t,rfl,ht⟩;refine nW ?_;refine jL rfl ht (λhc=>?_) (λhc=>?_);rotate_left
 .exact bm ⟨ls,rfl,om,e3⟩
 obtain⟨key,cookie,del,b,hr,hb⟩:=ajv (h _ (cV hc.1));refine LO (l:=l) (j:=i) rfl rfl hc.1 (by rw[hr];rfl) ?_;rw[hr];refine uR ?_;refine bO (λxs=>xs=[.r ((b.take 30).map b1)]) ?_ ?_
 .refine uR ?_;rw[bA];refine cD rfl (λhx=>?_) (λhx=>?_)
  .refine uR ?_;refine gx (a:=0) (c:=30) rfl rfl rfl om om (nW ?_);exact bm rfl
  .refine bm ?_;show[L.r (b.map b1)]=_;rw[eP om]
 rintro _ rfl;obtain⟨dt,Ip⟩:∃dt,(if del=true then[]else b.take 30)=dt:=⟨_,rfl⟩
 refine nW ?_;refine bO (λxs=>xs=[.r (dt.map b1)]) ?_ ?_
 .subst Ip
  cases del with
  |true=>exact y7 rfl (bm rfl)
  |false=>exact qo rfl (bm rfl)
 rintro _ rfl;obtain⟨k',nj,hk2,hk3⟩:=V9 (a:=key);obtain⟨c',hc1,hc2,hc3⟩:=aqT (a:=cookie);refine nW ?_;refine dw (l:=.i k') nj (nW ?_);refine dw (l:=.i c') hc1 (uR ?_);refine eI (r:=(ls++[(⟨k',c',del,dt⟩:Nl)]).map Nl.row) (VH ls) rfl (by show(ls.map Nl.row).length<=_;rw[bA];omega) fO dc (by rw[dU];rfl) (nW ?_);refine cj i ?_;refine bm ⟨⟨i+1,ls++[⟨k',c',del,dt⟩],rfl,om,by rw[cw,e2];rfl,λx hx=>?_⟩,?_⟩
 .rcases iP.1 hx with hx|hx
  .exact e3 x hx
  .rw[kY.1 hx];refine⟨hk2,hk3,hc2,by show c'<=_;omega,λhd=>?_,λy hy=>?_,?_⟩
   .have hd:del=true:=hd;show dt=[]
    rw[<-Ip,bB hd]
   .have hy:y∈dt:=hy;rw[<-Ip]at hy;split at hy
    .cases hy
    .exact hb y (ob hy)
   .show dt.length<=30;rw[<-Ip];split
    .exact fu _
    .rw[dH];omega
 .show m- ((i+1:Nat):Int).toNat<m-i;omega
abbrev mA(f:Fs)(gs:List Ge)(ds:List Nl):List L:=[.i 0,.i (-1),.r ((cT f).map bK),.i 1,.i 9000,.b false,.r (gs.map gR),.r (ds.map dR)]
def iy.mono{f gs a ds B}(h:iy f gs a ds B){d}(k:B<=d):iy f gs a ds d:=⟨h.i.mono k,h.d,h.h⟩
def Rh{f gs a ds B}(h:iy f gs a ds B)(m:B<=15000){x}(e:k_ x)(g:x.del=false):
 ∃j b c d,xt (mA f gs ds++[.r [x.row]])=some (.b true::mA j b d)/\iy j b c d (B+248):=by
 obtain⟨n,t2,o,p⟩:=h.i.top;have l:=HL e.len;have i:=XH (h.i.okF om) h.i.s (ds:=ds) e om (by rw[t2];omega);refine⟨_,_,qH gs a x,_,i,(h.i.add om e).mono om,?_,λk=>?_⟩
 .unfold qz;rw[bG (by rw[g];decide)];exact h.d.put
 .unfold qz;rw[bG (by rw[g];decide),Td,axt h.i e g,h.h k]
def Zm{f gs a ds B}(h:iy f gs a ds B)(j:B<=15000):
 ∃b i c d,BO (mA f gs ds)=some (.b b::dA (cT i)++sA c)/\iy i c d ds (B+248):=by
 have e:=awj (h.i.okF om) h.i.s (h.i.ft _ (dz _)) (.r (ds.map dR));by_cases g:gs.length<8
 .rw[bB g]at e;exact⟨true,_,_,sO gs a,e,h.i.rot g,h.d,λk=>by rw[agl h.i];exact h.h k⟩
 .rw[bG g]at e;exact⟨false,_,_,a,e,h.mono om⟩
def ape{f gs c ds B}(h:iy f gs c ds B)(g:B<=15000):
 ∃b d a,GN (mA f gs ds)=some (.b b::dA (cT d)++sA a)/\BY f gs c b d a/\iy d a c ds (B+248):=by
 obtain⟨b,d,a,j,e⟩:=aAw h.i g (.r (ds.map dR));obtain⟨l,m,n⟩:=e.inv h.i om;exact⟨b,d,a,j,e,l,h.d,λk=>(h.h k).trans (HS m (λi _=>n i k) λ_ _ _ _=>rfl).symm⟩
def apR{α:Type}{f:α->List PV}{l:List α}{k:Nat}(a:k<l.length):(((l.map f).take (k+1)).drop k)=[f l[k]]:=by
 rw[<-mo,<-o2,fT a,Qz (by rw[dH];omega)];rfl
def aei{A}(hA:AC.rows uC A){most:Int}(hm:most<=12):
 ∃f gs vol ds,I7 [.r A,.i most]=some (mA f gs ds)/\iy f gs vol ds 12000:=by
 suffices sy:∃o,Fo Ug [.r A,.i most]=some o/\∃f gs vol ds,o=mA f gs ds/\iy f gs vol ds 12000 by
  obtain⟨o,h1,f,gs,vol,ds,rfl,h2⟩:=sy;exact⟨f,gs,vol,ds,h1,h2⟩
 refine kT ?_;refine bz VV ?_;refine bO (λxs=>∃f gs vol ds,xs=mA f gs ds/\iy f gs vol ds 12000) ?_ (by rintro _ ⟨f,gs,vol,ds,rfl,h⟩;refine nW ?_;exact bm ⟨f,gs,vol,ds,rfl,h⟩);refine wp_loop (I:=λa=>∃(i:Nat)(f:Fs)(gs:List Ge)(vol:Nat->List Nat)(ds:List Nl),a=.i i::mA f gs ds/\i<=12/\iy f gs vol ds (16+992*i)) (mu:=cN 12)
  ⟨0,p9,[kP 0],λ_=>il 1 1 0,[],rfl,om,Ye,List.Pairwise.nil,λk=>(azj k).symm⟩ ?_
 rintro a ⟨i,f,gs,vol,ds,rfl,e1,e2⟩;refine bO (dp (i<A.length/\(i:Int)<most)) ?_ ?_
 .refine uR ?_;refine cD rfl (λhc=>?_) (λhc=>bm (fF om));refine uR ?_;exact bm (fK om)
 rintro _ ⟨t,rfl,ht⟩;refine nW ?_;refine jL rfl ht (λhc=>?_) (λhc=>?_);rotate_left
 .exact bm ⟨f,gs,vol,ds,rfl,e2.mono om⟩
 obtain⟨kind,g,l,ks,hr,hl,hks⟩:=agZ (hA _ (cV hc.1));have hi:i<12:=om;refine bO (λxs=>∃f gs vol ds,xs=mA f gs ds/\iy f gs vol ds (16+992*(i+1))) ?_ ?_;rotate_left
 .rintro _ ⟨f',gs',mj,kI,rfl,h'⟩;refine nW ?_;refine cj i ?_;exact bm ⟨⟨i+1,f',gs',mj,kI,rfl,om,h'⟩,dy 12 i⟩
 refine LO (l:=A) (j:=i) rfl rfl hc.1 (by rw[hr];rfl) ?_;rw[hr];refine uR ?_;refine dw rfl (nW ?_);generalize IntKind.wrap .i64 _=q;refine bO (λxs=>∃b:Bool,xs=[.b b]) ?_ ?_
 .refine uR ?_;refine cD rfl (λh1=>bm ⟨_,rfl⟩) (λh1=>?_);refine uR ?_;refine cD rfl (λh2=>bm ⟨_,rfl⟩) (λh2=>?_);refine uR ?_;exact bm ⟨_,rfl⟩
 rintro _ ⟨b,rfl⟩;refine nW ?_;refine dn (λ_=>?_) (λ_=>?_)
 ·
  obtain⟨ls,Qj,hl4,dQ⟩:=Tv hl (m:=4) dc;refine bz Qj ?_;refine wp_loop (I:=λa=>∃(k:Nat)(f:Fs)(gs:List Ge)(vol:Nat->List Nat)(ds:List Nl),a=.i k::mA f gs ds/\k<=ls.length/\iy f gs vol ds (16+992*i+248*k)) (mu:=cN ls.length) ⟨0,f,gs,vol,ds,rfl,om,e2⟩ ?_;rintro a ⟨k,f',gs',mj,kI,rfl,k1,k2⟩;refine uR ?_;rw[bA];refine cD rfl (λhx=>?_) (λhx=>bm ⟨f',gs',mj,kI,rfl,k2.mono om⟩);have hk:k<ls.length:=om;have CW:=dQ _ (cV hk);refine bO (λxs=>∃f gs vol ds,xs=mA f gs ds/\iy f gs vol ds (16+992*i+248*(k+1))) ?_ ?_
  .refine dx Nl.row k hk ?_;refine dn (λhd=>?_) (λhd=>?_)
   .obtain⟨f2,gS,ml,pU,h1,h2⟩:=Zn k2 om CW.k0 CW.k8;refine dx Nl.row k hk ?_;refine bz h1 ?_;exact bm ⟨f2,gS,ml,pU,rfl,h2.mono om⟩
   .obtain⟨f2,gS,ml,pU,h1,h2⟩:=Rh k2 om CW hd;refine Ck k ?_;rw[bA];refine y6 (r:=[ls[k].row]) ⟨by show(0:Int)<=(k:Int);omega,by show(k:Int)<=((k+1:Nat):Int);omega,by show((k+1:Nat):Int).toNat<=(ls.map Nl.row).length;rw[bA];omega,VH ls⟩ (apR hk) (nW ?_);refine bz h1 ?_;exact bm ⟨f2,gS,ml,pU,rfl,h2.mono om⟩
  .rintro _ ⟨f2,gS,ml,pU,rfl,h2⟩;refine nW ?_;refine cj k ?_;exact bm ⟨⟨k+1,f2,gS,ml,pU,rfl,om,h2⟩,dy ls.length k⟩
 refine bO (λxs=>∃b:Bool,xs=[.b b]) ?_ ?_
 .refine uR ?_;refine cD rfl (λh1=>bm ⟨_,rfl⟩) (λh1=>?_);refine uR ?_;exact bm ⟨_,rfl⟩
 rintro _ ⟨b',rfl⟩;refine nW ?_;refine dn (λ_=>?_) (λ_=>?_)
 ·
  obtain⟨b2,f2,gS,ml,h1,h2⟩:=Zm e2 om;refine bz h1 ?_;exact bm ⟨f2,gS,ml,ds,rfl,h2.mono om⟩
 refine cz (λ_=>?_) (λ_=>?_)
 ·
  refine wp_loop (I:=λa=>∃(k:Nat)(f:Fs)(gs:List Ge)(vol:Nat->List Nat)(ds:List Nl),a=.i k::mA f gs ds/\k<=3/\iy f gs vol ds (16+992*i+248*k)) (mu:=cN 3) ⟨0,f,gs,vol,ds,rfl,om,e2⟩ ?_;rintro a ⟨k,f',gs',mj,kI,rfl,k1,k2⟩;refine bO (dp (k<ks.length/\k<3)) ?_ ?_
  .refine uR ?_;refine cD rfl (λhc=>?_) (λhc=>bm (fF om));refine uR ?_;exact bm (fK om)
  rintro _ ⟨t2,rfl,ht2⟩;refine nW ?_;refine jL rfl ht2 (λhx=>?_) (λhx=>bm ⟨f',gs',mj,kI,rfl,k2.mono om⟩);obtain⟨q0,l0,hq,⟨n0,he0,_⟩,hr2⟩:=rO (hks _ (cV hx.1));obtain rfl:=MU hr2;subst he0;obtain⟨v,zo,hv2,hv3⟩:=V9 (a:=n0);obtain⟨f2,gS,ml,pU,h1,h2⟩:=Zn k2 om hv2 hv3;refine LO (l:=ks) (j:=k) rfl rfl hx.1 (by rw[hq];rfl) ?_;rw[hq];refine uR ?_;refine dw (l:=.i v) zo (nW ?_);refine bz h1 ?_;refine cj k ?_;exact bm ⟨⟨k+1,f2,gS,ml,pU,rfl,om,h2.mono om⟩,dy 3 k⟩
 refine bO (λxs=>∃b:Bool,xs=[.b b]) ?_ ?_
 .refine uR ?_;refine cD rfl (λh1=>bm ⟨_,rfl⟩) (λh1=>?_);refine uR ?_;exact bm ⟨_,rfl⟩
 rintro _ ⟨b3,rfl⟩;refine nW ?_;refine dn (λ_=>?_) (λ_=>?_)
 ·
  obtain⟨b2,f2,gS,h1,_,h2⟩:=ape e2 om;refine bz h1 ?_;exact bm ⟨f2,gS,vol,ds,rfl,h2.mono om⟩
 .exact bm ⟨f,gs,vol,ds,rfl,e2.mono om⟩
def apl{c:Cg}(a:AP c){rows g:List (List PV)}{b:List Ge}{i g' j:Int}{k:Hx}(d:Dd c.A=some (.r rows::fx g b i g' j k)):IX c.A=some (.i 0::fx g b i g' j k++[.r rows]):=by
 have e:=a.s1;have f:=a.s8;have hrun:wy [.i c.s,.i c.g,.i c.k,c.h.x0,c.h.x1,c.h.x2,c.h.x3,c.h.c0,c.h.c1,c.h.c2,c.h.c3,c.h.c4,c.h.c5,.r (c.h.it.map bu),.r (c.h.da.map fR)]=some [.b true]:=by
  refine bJ ?_;refine ew [.b true] ?_;refine uR ?_;refine c9 rfl e (uR ?_);exact bm (dT f)
 refine bJ ?_;refine bO (λxs=>xs=[.i 0]) ?_ ?_
 .refine bR (DJ a.g) ?_;refine cu ?_;refine bR hrun ?_;refine cu (uR ?_);refine bT rfl oO ?_;exact bm rfl
 rintro _ rfl;refine uR ?_;refine bT rfl (λh=>h rfl) ?_;refine bz (Rv (by have:=a.l.len;omega) a.l.qs) ?_;refine bz (Yk a.g) ?_;refine bz (NC a.i a.d a.b) ?_;refine bz d ?_;exact bm rfl
theorem aeN(ls:List L):Dd ls=pA ls:=rfl
def ala(x:gh):xO .eql x x=some (.b true):=cW (λb=>some (L.b b)) (beq_self_eq_true x.toList)
def axQ:tV [.i 1,.i 2,.i 6,.b true]=some [.s ⟨#[118,46,49,46,50,46,105,100,120,46,116,109,112]⟩]:=Xy _ _ (tF kr)
def V6:G6 []=some [.b true]:=by
 have b:dG p9:=Ye.okF dc;have c:kG (cT p9):=by rw[<-tK];exact jP b.kv
 have d:ec [kP 0]:=Lb;have g:=IW c d;have e:∀j(h:j< [kP 0].length),[kP 0][j].mode≠2:=λj f=>by
  have f:j<1:=f;obtain rfl:j=0:=om;show(1:Int)≠2;decide
 have a:=ZT (R:=(cT p9).map bK) (h:=z0) (g7:=0) (k:=0) d e;rw[<-aeN]at a;have i:wy [.i 0,.i 0,.i 0,.i 0,.i 0,.i 0,.i 0,.i 0,.i 0,.i 0,.i 0,.i 0,.i 0,.r [],.r []]=some [.b false]:=by
  refine bJ ?_;refine ew [.b false] ?_;refine uR ?_;refine bT rfl dc ?_;exact bm rfl
 refine bJ ?_;refine bz VV ?_;refine bz (Z4 (l:=cT p9) (by have:=c.len;omega) c.qs) ?_;refine bz (S5 (gs:=[kP 0]) d.n8) ?_;refine bz (l:=[]) (show nQ []=some []from rfl) ?_;refine bz SX ?_;refine bz (apl g a) ?_;refine ew [.b true] ?_;refine uR ?_;refine c9 rfl rfl (uR ?_);refine c9 rfl rfl ?_;refine jy (r:=[.sc (.int .i64 0),.sc (.int .i64 6)]) oO rfl rfl (nW ?_);refine r5 (r:=[.sc (.int .i64 0),.sc (.int .i64 6)]) rfl rfl rfl (uR ?_);refine c9 rfl rfl ?_;refine bz axQ ?_;refine mP (l:=.b true) (ala _) (nW ?_);refine gY ?_;refine bz (l:=[]) (show nQ []=some []from rfl) ?_;refine bR i ?_;exact bm rfl
def aBv{A Ls:List (List PV)}(hA:AC.rows uC A)(hL:AC.rows rm Ls):∃f gs vol ds,NK [.r A,.r Ls]=some (mA f gs ds)/\iy f gs vol ds 13736:=by
 suffices sy:∃o,Fo Zz [.r A,.r Ls]=some o/\∃f gs vol ds,o=mA f gs ds/\iy f gs vol ds 13736 by
  obtain⟨o,h1,f,gs,vol,ds,rfl,h2⟩:=sy;exact⟨f,gs,vol,ds,h1,h2⟩
 obtain⟨f,gs,vol,ds,aFW,hst⟩:=aei hA (most:=8) dc;obtain⟨ls,Qj,hl6,dQ⟩:=Tv hL (m:=6) dc;refine kT ?_;refine bz aFW ?_;refine bO (λxs=>∃f gs vol ds,xs=mA f gs ds/\iy f gs vol ds 13488) ?_ ?_;rotate_left
 .rintro _ ⟨f',gs',mj,kI,rfl,h'⟩;obtain⟨b,f2,gS,ml,hr,h2⟩:=Zm h' dc;refine nW ?_;refine bz hr ?_;exact bm ⟨f2,gS,ml,kI,rfl,h2.mono dc⟩
 refine bR Qj ?_;rw[bA];refine wp_loop (I:=λa=>∃(k:Nat)(f:Fs)(gs:List Ge)(vol:Nat->List Nat)(ds:List Nl),a=.i k::mA f gs ds/\k<=ls.length/\iy f gs vol ds (12000+248*k)) (mu:=cN ls.length) ⟨0,f,gs,vol,ds,rfl,om,hst⟩ ?_;rintro a ⟨k,f',gs',mj,kI,rfl,k1,k2⟩;refine uR ?_;refine cD rfl (λhx=>?_) (λhx=>bm ⟨f',gs',mj,kI,rfl,k2.mono om⟩);have hk:k<ls.length:=om;have CW:=dQ _ (cV hk);refine bO (λxs=>∃f gs vol ds,xs=mA f gs ds/\iy f gs vol ds (12000+248*(k+1))) ?_ ?_
 .refine dx Nl.row k hk ?_;refine dn (λhd=>?_) (λhd=>?_)
  .have hd:ls[k].del=false:=by
    have hd:(!ls[k].del)=true:=hd;simpa using hd
   obtain⟨f2,gS,ml,pU,h1,h2⟩:=Rh k2 om CW hd;refine uR ?_;refine bz h1 ?_;exact bm ⟨f2,gS,ml,pU,rfl,h2.mono om⟩
  .exact bm ⟨f',gs',mj,kI,rfl,k2.mono om⟩
 rintro _ ⟨f2,gS,ml,pU,rfl,h2⟩;refine nW ?_;refine cj k ?_;exact bm ⟨⟨k+1,f2,gS,ml,pU,rfl,om,h2⟩,dy ls.length k⟩
def TF{p:Nat->Prop}:∀{n:Nat},(∃j,j<n/\p j)->∃i,i<n/\p i/\∀j,j<i->¬p j
 |0,⟨_,h,_⟩=>om
 |n+1,⟨j,h,b⟩=>by
  by_cases q:∃j,j<n/\p j
  .obtain⟨i,g,c,d⟩:=TF q;exact⟨i,om,c,d⟩
  .have e:j=n:=Nat.le_antisymm om (Nat.le_of_not_lt λa=>q ⟨j,a,b⟩);subst e;exact⟨j,om,b,λt f a=>q ⟨t,f,a⟩⟩
def YT{e:Fs}(k:dG e){J}(b:J<144)(h:e J=none):qZ (dA (dv e)++[.s (eL J)])=some [.i 0,.i 6]:=by
 have a:=Na k;have hlen:(dv e).length<=144:=uv e 144 0;have hR:Rd ⟨0,-1,dv e⟩ (eL J):=⟨a.1,FK b,by show(-1:Int)≠0;omega⟩
 have l:og ⟨0,-1,dv e⟩ (eL J):=by rw[An b h];exact(NL e b).none
 obtain⟨e0,c,m⟩:=HI a.2 (FH J);obtain rfl:e0=0:=m.2 hR;have f:=D4 (d:=⟨0,-1,dv e⟩) (s:=eL J) (by show(dv e).length<=_;omega) (r:= -1) (λi n=>by obtain⟨o,j,_⟩:=n;rw[l i o]at j;cases j) (λ_=>rfl);have g:qy (dA (dv e)++[.s (eL J)])=some [.i (-1),.i 6]:=by
  refine bJ ?_;refine du c rfl rfl (uR ?_);refine bT rfl oO ?_;refine du f rfl rfl (uR ?_);refine c9 rfl oO ?_;exact bm rfl
 refine bJ ?_;refine du g rfl rfl (uR ?_);refine c9 rfl oO ?_;exact bm rfl
def axc{f:Fs}(a:dG f){j}(b:j<72)(h:f j=none):qZ (dA (cT f)++[.s (nm j)])=some [.i 0,.i 6]:=by
 have:=YT a.kv (J:=2*j) om (by rw[tG];exact h)
 rwa [tK,D_]at this
def aBI{f:Fs}(a:dG f){j}(b:j<72):qZ (dA (cT f)++[.s (eL (2*j+1))])=some [.i 0,.i 6]:=by
 have:=YT a.kv (J:=2*j+1) om (Bm f j)
 rwa [tK]at this
def XJ{D:List Nat}{k:Nat}(a:k<4):(dO D).getD k []=tA D k:=by
 unfold dO;rw[iD,nz (by rw[pJ];exact a)];unfold jM;rw[cY,sG a];rfl
def aDy{D:List Nat}{t:Nat}(a:t<D.length):((dO D).getD (Sp.ey t) [])[Sp.eE t]?=some D[t]:=by
 have b:Sp.ey t<4:=by unfold Sp.ey;omega
 have c:Sp.eE t<Sp.cU D.length:=by unfold Sp.eE Sp.cU;omega
 have d:Sp.mO (Sp.ey t) (Sp.eE t)=t:=by unfold Sp.mO Sp.ey Sp.eE;omega
 rw[XJ b];unfold tA;rw[cY,sG c];show some (if Sp.mO (Sp.ey t) (Sp.eE t)<D.length then D.getD (Sp.mO (Sp.ey t) (Sp.eE t)) 0 else 0)=_;rw[d,bB a,iA a]
def kA(d:List Nat):List Int:=d.map λn=>((n:Nat):Int)
def TQ:∀l:List (List Nat),(l.map fR).mapM wA=some (l.map kA)
 |[]=>rfl
 |d::l=>by
  rw[dE,pY,TQ l];show(mD (d.map b1)>>=λx=>some (l.map kA)>>=λy=>some (x::y))=_;rw[KU];rfl
def HH(l:List (List Nat))(k:Nat):(l.map kA).getD k []=kA (l.getD k []):=by
 rw[iD,iD,cY];cases l[k]? <;>rfl
def ayZ(D:List Nat):Sq.rL ((dO D).map kA) D.length=kA D:=by
 unfold Sq.rL;refine acH (by simp[kA]) λt c a=>?_
 have b:t<D.length:=by simpa[kA]using a
 rw[QL,acU,HH];have e:(kA ((dO D).getD (Sp.ey t) []))[Sp.eE t]?=some ((D[t]:Nat):Int):=by unfold kA;rw[cY,aDy b];rfl
 rw[e];simp[kA]
def atx(D:List Nat):fy (kA D)=D.map b1:=by unfold fy kA b1;rw[gW];rfl
def aoJ{D:List Nat}(x:List Nat)(e:D.length<=1048576):vK [.r ((dO D++[x]).map fR),.i 0,.i 6,.i D.length]=some [.r (D.map b1)]:=by
 unfold vK;dsimp only;rw[show(L.r ((dO D++[x]).map fR)).bE=(dO D++[x]).map fR from rfl,TQ];dsimp only;have a:∀k,k<6->((dO D++[x]).map kA).getD k []=((dO D).map kA).getD k []:=λk b=>by
  rw[HH,HH,iD,nz (by rw[oo];exact b),iD]
 rw[show(L.i 0).br.toNat=0 from rfl,show(L.i 6).br.toNat=6 from rfl,show(L.i (D.length:Int)).br=(D.length:Int)from rfl,eO,sI];rw[bB ⟨dc,by rw[bA,cw,oo,w8];decide,om,om,λi c=>by
  rw[kp,a i om,HH,XJ c];unfold kA;rw[bA,QR]⟩]
 have d:Sq.rL ((dO D++[x]).map kA) D.length=Sq.rL ((dO D).map kA) D.length:=by
  unfold Sq.rL;refine ia λt _=>?_
  rw[a _ (by unfold Sp.ey;omega)]
 rw[d,ayZ,atx]
def azs{D x:List Nat}{W:List (List Nat)}(a:dO D++[x]=W)(b:D.length<=1048576):vK [.r (W.map fR),.i 0,.i 6,.i D.length]=some [.r (D.map b1)]:=by
 subst a;exact aoJ x b
def avo{l ds:List (List Nat)}(hl:4<=l.length)(su:l.take 4=ds){m}(hm:m<=4294967296)(hd:ma ds m):MJ [.i 2,.i 4,.r (fm.map b1),.r (l.map fR),.i 0,.i 4]=some [.i 0,.r ((kR fm ds m 2).map fR)]:=by
 have h4:ds.length=4:=by rw[<-su,dH];omega
 have hat':∀i(h:i<ds.length),l[i]'om=ds[i]:=λi h=>by subst su;rw[acT]
 have fS:=hd.at (show 0<ds.length by omega);have hl0:l[0].length=m:=by rw[hat' 0 om];exact fS.2
 refine bJ ?_;refine bO (λxs=>xs=[.b false]) ?_ ?_
 .refine du Uc rfl rfl (uR ?_);refine cu ?_;refine vU (f:=fR) (l:=l) (c:=4) rfl rfl rfl ?_;rw[su];refine uR ?_;refine bm ?_;exact dF (by rw[bA,h4];decide)
 rintro _ rfl;refine nW ?_;refine cu ?_;refine bO (λxs=>xs=[]) ?_ ?_
 .refine vU (f:=fR) (l:=l) (c:=4) rfl rfl rfl ?_;rw[su];refine uR ?_;refine wp_loop (I:=λx=>∃i:Nat,x=[.i i]/\i<=4) (mu:=cN 4) ⟨0,rfl,om⟩ ?_;rintro x ⟨i,rfl,e1⟩;refine uR ?_;refine cD rfl (λhx=>?_) (λhx=>?_);rotate_left
  .exact bm rfl
  rw[bA,h4]at hx;have hi:i<ds.length:=om;refine ti (f:=fR) (l:=l) (c:=4) (j:=i) rfl rfl rfl rfl om om rfl (nW ?_);refine gy (f:=fR) (l:=l) (j:=i) rfl rfl om rfl rfl (uR ?_);refine ti (f:=fR) (l:=l) (c:=4) (j:=0) rfl rfl rfl rfl om om rfl (nW ?_);refine gy (f:=fR) (l:=l) (j:=0) rfl rfl om rfl rfl (uR ?_);refine bT rfl (by rw[bA,bA,hat' i hi,(hd.at hi).2,hl0];exactλh=>h rfl) ?_;refine ri (i:=i) rfl om (nW ?_);exact bm ⟨⟨i+1,rfl,om⟩,dy 4 i⟩
 rintro _ rfl;refine nW ?_;refine tE (r:=(List.replicate 2 ([]:List Nat)).map fR) (by try dsimp only[At.ev,d1,d2,d3,d4,d5,d6,d7,d8,d9,e0,List.map,cZ,Kd.pv];exact⟨dc,dc,dc⟩) rfl (nW ?_);obtain⟨oL,ho⟩:∃oL,kR fm ds m 2=oL:=⟨_,rfl⟩
 have kn:oL.length=2:=by rw[<-ho,sY]
 have sx:∀i(h:i<oL.length),oL[i]=ox fm ds m i:=by subst ho;exactλi h=>Mr h
 rw[ho];refine bO (λxs=>xs=[.r (oL.map fR)]) ?_ ?_;rotate_left
 .rintro _ rfl;refine nW ?_;exact bm rfl
 refine uR ?_;refine wp_loop (I:=λx=>∃i:Nat,x=[.i i,.r ((lO [] oL 2 i).map fR)]/\i<=2) (mu:=cN 2) ⟨0,rfl,om⟩ ?_;rintro x ⟨i,rfl,e1⟩;have wW:=X1 (d:=([]:List Nat)) kn e1;refine uR ?_;refine cD rfl (λhx=>?_) (λhx=>?_);rotate_left
 .have hx:¬(i:Int)<2:=hx;obtain rfl:i=2:=om;refine bm ?_;show[L.r ((lO [] oL 2 2).map fR)]=_;rw[Q0 kn]
 have hx:(i:Int)<2:=hx;have hi:i<2:=om;have hst:=Zl (d:=([]:List Nat)) kn hi (v:=ox fm ds m i) (sx i om).symm;obtain⟨F,hF⟩:∃F,lO [] oL 2 i=F:=⟨_,rfl⟩
 rw[hF]at wW hst⊢;have hEl:fm.length=8:=rfl;refine bO (λxs=>xs=[.r ((lO [] oL 2 (i+1)).map fR)]) ?_ ?_
 .refine ti (f:=fR) (l:=l) (c:=4) (j:=0) rfl rfl rfl rfl om om rfl (nW ?_);refine gy (f:=fR) (l:=l) (j:=0) rfl rfl om rfl rfl (uR ?_);refine tE (r:=(List.replicate m 0).map b1) (by
   show 0<=(((l[0].map b1).length:Nat):Int)/\(((l[0].map b1).length:Nat):Int)<=9223372036854775807/\1*(((l[0].map b1).length:Nat):Int).toNat<=281474976710656;rw[bA,hl0];omega) (by
   show List.replicate (((l[0].map b1).length:Nat):Int).toNat [PV.sc (.int .u8 0)]=_;rw[eO,bA,hl0,C5];rfl) ?_
  refine nW ?_;refine dV (f:=fR) (j:=i) rfl rfl (show i<F.length by omega) rfl (nW ?_);refine sh (f:=fR) (j:=i) (v:=List.replicate m 0) rfl rfl (show i<F.length by omega) rfl rfl (nW ?_);refine vU (f:=fR) (l:=l) (c:=4) rfl rfl rfl ?_;rw[su];refine uR ?_;have hlk:=Bw (c:=λk=>fm.getD (i*4+k) 0) (d:=λk=>ds.getD k []) (m:=m) (n:=4) (λk hk=>by rw[iA om];exact(hd.at om).2);refine wp_loop (I:=λx=>∃k:Nat,x=[.i k,.r ((F.set i (jI (λk=>fm.getD (i*4+k) 0) (λk=>ds.getD k []) (List.replicate m 0) k)).map fR)]/\k<=4) (mu:=cN 4) ⟨0,rfl,om⟩ ?_;rintro x ⟨k,rfl,e2⟩;have ue:=hlk k e2;have dX:jI (λk=>fm.getD (i*4+k) 0) (λk=>ds.getD k []) (List.replicate m 0) (k+1)=l8 (fm.getD (i*4+k) 0) (jI (λk=>fm.getD (i*4+k) 0) (λk=>ds.getD k []) (List.replicate m 0) k) (ds.getD k []):=rfl;refine uR ?_;refine cD rfl (λhy=>?_) (λhy=>?_);rotate_left
  .rw[bA,h4]at hy;obtain rfl:k=4:=om;refine bm ?_;show[L.r ((F.set i (ox fm ds m i)).map fR)]=_;rw[hst]
  rw[bA,h4]at hy;have hk:k<ds.length:=om;have wL:=hd.at hk;obtain⟨u,hu⟩:∃u,jI (λk=>fm.getD (i*4+k) 0) (λk=>ds.getD k []) (List.replicate m 0) k=u:=⟨_,rfl⟩
  obtain⟨v,hv⟩:∃v,jI (λk=>fm.getD (i*4+k) 0) (λk=>ds.getD k []) (List.replicate m 0) (k+1)=v:=⟨_,rfl⟩
  rw[hu,hv,iA hk]at dX;rw[hu]at ue⊢;have iO:(F.set i u).length=2:=by rw[lN];exact wW
  have hat:(F.set i u)[i]'om=u:=IL _;refine ti (f:=fR) (l:=l) (c:=4) (j:=k) rfl rfl rfl rfl om om rfl (nW ?_);refine gy (f:=fR) (l:=l) (j:=k) rfl rfl om rfl rfl ?_;rw[hat' k hk];refine nW ?_;refine dV (f:=fR) (j:=i) rfl rfl (show i< (F.set i u).length by omega) rfl (nW ?_);refine gy (f:=fR) (j:=i) rfl rfl (show i< (F.set i u).length by omega) rfl rfl ?_;rw[hat];refine nW ?_;have n9:i*4+k<fm.length:=om;refine du (Wq om om n9) rfl rfl (nW ?_);have CQ:=Uq (cV n9);refine du (Tc (c:=fm.getD (i*4+k) 0) (by rw[iA n9];exact CQ.1) (by rw[iA n9];exact CQ.2) u ds[k] ue.2 wL.1 om om) rfl rfl (nW ?_);refine dV (f:=fR) (j:=i) rfl rfl (show i< (F.set i u).length by omega) rfl (nW ?_);refine sh (f:=fR) (j:=i) (v:=v) rfl rfl (show i< (F.set i u).length by omega) rfl (by rw[dX];rfl) ?_;rw[List.set_set];refine nW ?_;refine ri (i:=k) rfl om (nW ?_);exact bm ⟨⟨k+1,by rw[hv];rfl,om⟩,dy 4 k⟩
 rintro _ rfl;refine nW ?_;refine ri (i:=i) rfl om (nW ?_);exact bm ⟨⟨i+1,rfl,om⟩,dy 2 i⟩
def ahP{l ds:List (List Nat)}(b:4<=l.length)(a:l.take 4=ds){m}(d:m<=4294967296)(e:ma ds m):J9 [.r (l.map fR),.i 0,.i 4]=some [.i 0,.r (((l_ ds m).drop 4).map fR)]:=by
 have g:ds.length=4:=by rw[<-a,dH];omega
 refine bJ ?_;refine vU (f:=fR) (l:=l) (c:=4) rfl rfl rfl ?_;rw[a];refine uR ?_;rw[bA];refine bT rfl (by rw[g];decide) ?_;refine du Q_ rfl rfl (uR ?_);refine nN (m:=fm) aaH rfl rfl (nW ?_);refine du (avo b a d e) rfl rfl (nW ?_);refine bm ?_;rw[Wy];rfl
def asb{l:List (List Nat)}(h6:6<=l.length){m:Nat}(hd:∀i(h:i<6),(l[i]'om).length=m):N7 [.r (l.map fR),.i 0,.i 6]=some [.b true]:=by
 have h66:(l.take 6).length=6:=by rw[dH];omega
 refine bJ ?_;refine bO (λxs=>xs=[]) ?_ ?_
 .refine vU (f:=fR) (l:=l) (c:=6) rfl rfl rfl (uR ?_);refine wp_loop (I:=λx=>∃i:Nat,x=[.i i]/\i<=6) (mu:=cN 6) ⟨0,rfl,om⟩ ?_;rintro x ⟨i,rfl,e1⟩;refine uR ?_;refine cD rfl (λhx=>?_) (λhx=>?_);rotate_left
  .exact bm rfl
  rw[bA,h66]at hx;have hi:i<6:=om;refine ti (f:=fR) (l:=l) (c:=6) (j:=i) rfl rfl rfl rfl om om rfl (nW ?_);refine gy (f:=fR) (l:=l) (j:=i) rfl rfl om rfl rfl (uR ?_);refine ti (f:=fR) (l:=l) (c:=6) (j:=0) rfl rfl rfl rfl om om rfl (nW ?_);refine gy (f:=fR) (l:=l) (j:=0) rfl rfl om rfl rfl (uR ?_);refine bT rfl (by rw[bA,bA,hd i hi,hd 0 om];exactλh=>h rfl) ?_;refine ri (i:=i) rfl om (nW ?_);exact bm ⟨⟨i+1,rfl,om⟩,dy 6 i⟩
 rintro _ rfl;refine nW ?_;refine vU (f:=fR) (l:=l) (c:=6) rfl rfl rfl (uR ?_);refine bm ?_;exact dT (by rw[bA,h66];rfl)
def avV{b:List Nat}(a:B8 b):Nj [.r (b.map b1),.r (b.map b1)]=some [.b true]:=by
 refine bJ ?_;refine qY (l:=b) rfl (nW ?_);refine qY (l:=b) rfl (nW ?_);refine mP (l:=.b true) (cW (λb=>some (L.b b)) (beq_self_eq_true (sa b).toList)) (nW ?_);exact bm rfl
def arN{D:List Nat}(hB:B8 D)(hl:D.length<=524288)(x:List Nat):MM [.r ((dO D++[x]).map fR),.i 0,.i 6]=some [.b true]:=by
 obtain⟨l,hle⟩:∃l,dO D++[x]=l:=⟨_,rfl⟩
 have h6:=oo D;have h7:l.length=7:=by rw[<-hle,cw,h6];rfl
 have hat:∀i(h:i<6),l[i]'om=(dO D)[i]'om:=λi h=>by subst hle;rw[w9 om]
 have su:l.take 4=jM D:=by
  rw[<-hle];unfold dO;rw[dr];exact zQ (l₁:=jM D)
 have hsz:Sp.cU D.length<=4294967296:=by unfold Sp.cU;omega
 have hlv:=BC hB;rw[hle];refine bJ ?_;refine du (asb om λi h=>by rw[hat i h];exact(hlv.at om).2) rfl rfl (uR ?_);refine cu ?_;refine kh (ls:=[.i 0,.i 4]) ?_ (nW ?_)
 .show(if _ then _ else _)=_;exact bB ⟨by show(0:Int)<=0;decide,by show(0:Int)<=4;decide,by show(4:Nat)<=6;decide,kQ (nD _)⟩
 refine du (ahP om su hsz (Co hB)) rfl rfl (nW ?_);obtain⟨P,hP⟩:∃P,(l_ (jM D) (Sp.cU D.length)).drop 4=P:=⟨_,rfl⟩
 have hPl:P.length=2:=by rw[<-hP,jE];show(kR _ _ _ _).length-4=2;rw[sY]
 have hPa:∀i(h:i<2),l[4+i]'om=P[i]'om:=λi h=>by
  rw[hat (4+i) om];have hs:dO D=jM D++P:=by rw[<-hP];rfl
  simp only[hs];rw[uq (by rw[pJ];omega)];congr 1;rw[pJ];omega
 have hPB:∀i(h:i<P.length),B8 P[i]:=λi h=>by
  have hm:P[i]∈dO D:=by
   have hs:dO D=jM D++P:=by rw[<-hP];rfl
   rw[hs];exact wX _ (cV h)
  exact(hlv _ hm).1
 rw[hP];refine bO (λxs=>xs=[]) ?_ (by rintro _ rfl;refine nW ?_;exact bm rfl);refine uR ?_;rw[bA,hPl];refine wp_loop (I:=λx=>∃i:Nat,x=[.i i]/\i<=2) (mu:=cN 2) ⟨0,rfl,om⟩ ?_;rintro x ⟨i,rfl,e1⟩;refine uR ?_;refine cD rfl (λhx=>?_) (λhx=>?_);rotate_left
 .exact bm rfl
 have hi:i<P.length:=om;refine dV (f:=fR) (l:=P) (j:=i) rfl rfl hi rfl (nW ?_);refine gy (f:=fR) (l:=P) (j:=i) rfl rfl hi rfl rfl (nW ?_);refine fg (((4+i:Nat):Int)) (by show(4:Int)+i=_;omega) ?_;refine ti (f:=fR) (l:=l) (c:=6) (j:=4+i) rfl rfl rfl rfl om om rfl (nW ?_);refine gy (f:=fR) (l:=l) (j:=4+i) rfl rfl om rfl rfl ?_;rw[hPa i om];refine nW ?_;refine du (avV (hPB i hi)) rfl rfl (uR ?_);refine cu ?_;refine ri (i:=i) rfl om (nW ?_);exact bm ⟨⟨i+1,rfl,om⟩,dy 2 i⟩
def agP{n:Nat}(h:n<=1048576):O_ [.i n]=some [.i (Sp.cU n:Nat)]:=by
 refine bJ ?_;refine uR ?_;refine cD rfl (λa=>?_) (λa=>?_)
 .obtain rfl:n=0:=om;exact bm rfl
 refine eb ((n:Int) -1) rfl ?_;refine ayd (n:=(n:Int) -1) (c:=256) rfl rfl om om om (nW ?_);refine fg (((n:Int) -1) /256+1) rfl ?_;refine rU (n:=(Sp.cU n:Nat)) (by show(((n:Int) -1) /256+1)*64=_;unfold Sp.cU;omega) (by unfold Sp.cU;omega) (by unfold Sp.cU;omega) (nW ?_);exact bm rfl
def amj{a g r:Int}{n:Nat}{c:Nat->Int}{l:L}{k:Nat}(j:k<6)(d:n<=1048576){b:List Nat}(e:b.length=Sp.cU n)(f:fo b=c k):
 Jf ([.i a,.i g,.i r,.i n]++cA c++[l,.i k,.r (b.map b1)])=some [.b true]:=by
 have h:Sp.cU n<=1048576:=by unfold Sp.cU;omega
 refine bJ ?_;refine bO (λxs=>xs=[.b true]) ?_ (by rintro _ rfl;refine nW ?_;exact bm rfl);refine uR ?_;refine du (agP d) rfl rfl (uR ?_);refine c9 rfl (by rw[bA,e]) ?_;refine du (Fk b om) rfl rfl (nW ?_);refine nH ⟨by show(0:Int)<=k;omega,by show(k:Int)< (6:Nat);omega⟩ (nW ?_);have i:k=0\/k=1\/k=2\/k=3\/k=4\/k=5:=om;rcases i with rfl|rfl|rfl|rfl|rfl|rfl<;>
  (refine yF (x:=_) rfl (uR ?_);refine bm ?_;exact dT f)
def apk{a g r:Int}{n:Nat}{c:Nat->Int}{l:List It}{k:Nat}(e:k<6)(j:l.length<=1000)(d:jV a g r n l){b:List Nat}(f:b.length=Sp.cU n)(h:fo b=c k):
 Lx ([.i a,.i g,.i r,.i n]++cA c++[.r (l.map bu),.i k,.r (b.map b1)])=some [.b true]:=by
 have i:=d.2.2.1;refine bJ ?_;refine bO (λxs=>xs=[.b true]) ?_ (by rintro _ rfl;refine nW ?_;exact bm rfl);refine uR ?_;refine c9 rfl om (uR ?_);refine c9 rfl om ?_;refine du (Ev a g r n (.i (c 0)) (.i (c 1)) (.i (c 2)) (.i (c 3)) (.i (c 4)) (.i (c 5)) l om (b:=true) ⟨λ_=>d,λ_=>rfl⟩) rfl rfl (nW ?_);refine gY ?_;refine du (amj (a:=a) (g:=g) (r:=r) (l:=.r (l.map bu)) e om f h) rfl rfl (nW ?_);exact bm rfl
def atJ{A Ls:List (List PV)}(hA:AC.rows uC A)(hL:AC.rows rm Ls):BS [.r A,.r Ls]=some [.b true]:=by
 obtain⟨f,gs,vol,ds,zq,hst⟩:=aBv hA hL;have hI:=hst.i;have hS:=hI.s;have Im:=hS.n8;refine bJ ?_;refine du zq rfl rfl (nW ?_);by_cases hsome:∃j,j<gs.length/\∃h:j<gs.length,gs[j].mode=2;rotate_left
 .have hno:∀j(h:j<gs.length),gs[j].mode≠2:=λj hj h=>hsome ⟨j,hj,hj,h⟩
  refine du (aBU hI om hno _) rfl rfl (nW ?_);refine bO (λxs=>xs=[.b true]) ?_ ?_
  .refine uR ?_;refine cu (uR ?_);exact bm (dT dc)
  rintro _ rfl;refine nW ?_;refine gY ?_;refine bO (λxs=>xs=[.b true]) ?_ (by rintro _ rfl;refine nW ?_;exact bm rfl);refine gY (uR ?_);refine c9 rfl rfl ?_;refine du V6 rfl rfl (nW ?_);exact bm rfl
 obtain⟨i,hi,⟨_,hm⟩,hb⟩:=TF hsome;obtain⟨f',hw,hI',aGa⟩:=ayf hI om hi hm (λj hj h2=>hb j hj ⟨om,h2⟩) (.r (ds.map dR));have CR:i<8:=om;have dQ:dG f:=hI.okF om;have Iq:dG f':=hI'.okF om;have hop:=hI.op i hi (by rw[hm];decide);obtain⟨CX,hvs,hvl,-⟩:=hI.vb i hi;have hi':i< (gs.set i (fY gs[i])).length:=by rw[lN];exact hi
 obtain⟨its,iO⟩:=hI'.cl i hi' (by rw[IL];rfl);obtain⟨D,hD⟩:∃D,vol i=D:=⟨_,rfl⟩
 rw[hD]at hop CX hvl iO;have aHk:Sp.cU D.length<=1048576:=by unfold Sp.cU;omega
 have hlv:=BC CX;have h6l:=oo D;obtain⟨X,hX⟩:∃X,iY 1 ((i+1:Nat):Int) 0 D.length (ep D) its=X:=⟨_,rfl⟩
 have Qk:f' (9*i+8)=some X:=by rw[<-hX];exact iO.x
 have hXB:=Iq _ _ Qk;obtain⟨W,hW⟩:∃W,dO D++[X]=W:=⟨_,rfl⟩
 have hWl:W.length=7:=by rw[<-hW,cw,h6l];rfl
 have hWf:∀k(h:k<7),f' (9*i+(2+k))=some (W[k]'om):=λk h=>by
  subst hW;by_cases h6:k<6
  .rw[w9 om,iO.s k h6,iA om]
  .obtain rfl:k=6:=om;rw[uq om];simpa[h6l]using Qk
 have hWX:W[6]'om=X:=by
  have:=hWf 6 dc;rw[show 9*i+(2+6)=9*i+8 by omega,Qk]at this;exact(oc this).symm
 refine du hw rfl rfl (nW ?_);refine bO (λxs=>xs=[.b false]) ?_ ?_
 .refine uR ?_;refine cu (uR ?_);exact bm (dF (λh=>h rfl))
 rintro _ rfl;refine nW ?_;refine cu ?_;refine du (tz CR (t:=0) dc) rfl rfl (nW ?_);refine du (NR dQ (j:=9*i) om hop.1) rfl rfl (nW ?_);refine du (tz CR (t:=0) dc) rfl rfl (nW ?_);refine du (axc Iq (j:=9*i) om aGa) rfl rfl (nW ?_);refine bO (λxs=>xs=[.r (W.map fR)]) ?_ ?_
 .refine wp_loop (I:=λx=>∃k:Nat,x=[.i k,.r ((W.take k).map fR)]/\k<=7) (mu:=cN 7) ⟨0,rfl,om⟩ ?_;rintro x ⟨k,rfl,e1⟩;refine uR ?_;refine cD rfl (λhx=>?_) (λhx=>?_);rotate_left
  .obtain rfl:k=7:=om;refine bm ?_;show[L.r ((W.take 7).map fR)]=_;rw[eP om]
  have hk:k<7:=om;have CI:=Dy CR hk (t:=0) dc;have qS:=Dy CR hk (t:=1) dc;rw[show eL (2*(9*i+(2+k))+0)=nm (9*i+(2+k))from D_ _]at CI;refine du CI rfl rfl (nW ?_);refine du (NR Iq (j:=9*i+(2+k)) om (hWf k hk)) rfl rfl (nW ?_);refine du qS rfl rfl (nW ?_);refine du (aBI Iq (j:=9*i+(2+k)) om) rfl rfl (nW ?_);refine bO (λxs=>xs=[.b false]) ?_ ?_
  .refine uR ?_;refine bT rfl (λh=>h rfl) (uR ?_);exact bm (dF λh=>h rfl)
  rintro _ rfl;refine nW ?_;refine cu ?_;refine YS (nW ?_);refine eI (r:=(W.take (k+1)).map fR) (nD _) rfl (by show((W.take k).map fR).length<=_;rw[bA,dH];omega) fO dc (by
   rw[List.take_add_one,db om,dU];rfl) (nW ?_)
  refine ri (i:=k) rfl om (nW ?_);exact bm ⟨⟨k+1,rfl,om⟩,dy 7 k⟩
 rintro _ rfl;refine nW ?_;refine dV (f:=fR) (l:=W) (j:=6) rfl rfl om rfl (nW ?_);refine gy (f:=fR) (l:=W) (j:=6) rfl rfl om rfl rfl ?_;rw[hWX];refine nW ?_;have hdec:=axS X hXB.1 (by have:=hXB.2;omega);rw[<-hX,axb iO.h (KI D) iO.e (by have:=iO.n;omega),hX]at hdec;refine du hdec rfl rfl (uR ?_);refine lK ⟨by show(0:Int)<=0;decide,by show(0:Int)<=6;decide,by show(6:Nat)<=(W.map fR).length;rw[bA];omega,kQ (nD _)⟩ (uR ?_);rw[bA,bA];refine du (azs hW om) rfl rfl (nW ?_);refine bO (λxs=>xs=[.b false]) ?_ ?_
 .refine uR ?_;refine bT rfl (λh=>h rfl) (uR ?_);refine bT rfl (λh=>h rfl) (uR ?_);refine bT rfl (λh=>h rfl) ?_;refine qY (l:=D) rfl (nW ?_);refine qY (l:=D) rfl (nW ?_);refine zS (a:=D) (b:=D) rfl rfl CX CX (t:=false) ⟨λh=>(by cases h),λh=>absurd rfl h⟩ (nW ?_);refine cu (uR ?_);refine lK ⟨by show(0:Int)<=0;decide,by show(0:Int)<=6;decide,by show(6:Nat)<=(W.map fR).length;rw[bA];omega,kQ (nD _)⟩ (nW ?_);have acm:=arN CX om X;rw[hW]at acm;refine du acm rfl rfl (uR ?_);refine cu (uR ?_);refine bm ?_;exact dF (by rw[bA];exactλh=>h rfl)
 rintro _ rfl;refine nW ?_;refine cu ?_;refine bO (λxs=>xs=[]) ?_ ?_
 .refine wp_loop (I:=λx=>∃k:Nat,x=[.i k]/\k<=6) (mu:=cN 6) ⟨0,rfl,om⟩ ?_;rintro x ⟨k,rfl,e1⟩;refine uR ?_;refine cD rfl (λhx=>?_) (λhx=>bm rfl);have hk:k<6:=om;have hWk:W[k]'om=(dO D)[k]'om:=by subst hW;rw[w9 om]
  refine dV (f:=fR) (l:=W) (j:=k) rfl rfl om rfl (nW ?_);refine gy (f:=fR) (l:=W) (j:=k) rfl rfl om rfl rfl ?_;rw[hWk];refine nW ?_;refine du (apk (c:=ep D) (n:=D.length) hk (by have:=iO.n;omega) iO.h (hlv.at om).2 (by unfold ep;rw[iA om])) rfl rfl (uR ?_);refine cu ?_;refine ri (i:=k) rfl om (nW ?_);exact bm ⟨⟨k+1,rfl,om⟩,dy 6 k⟩
 rintro _ rfl;refine nW ?_;refine du V6 rfl rfl (nW ?_);exact bm rfl
end
section
attribute [local irreducible] BS
open Go.Deep Go.ChangeShapes Go.WideShapes Go.ChangeAt Go.RowKit AI
def ayo:ownKnob Tryz.prog.godebug=none:=kr
section
variable{H:Type}{enc:cf×b8->H}{w:bW}{base:Nat}{spare:Nat->Bool}{held:Bool}
def M0:gE:=λ_=>False
def aCW:oQ enc Tryz.prog w base spare held M0 95 (.sl 9223372036854775807 [.int .u8 0 255]):=
 Ff Tryz.underlying95 kr dc (λ_ h=>h) (aba (yq Tryz.underlying5 λ_=>bounds_u8))
def aks:oQ enc Tryz.prog w base spare held M0 119 (.sl 9223372036854775807 [.int .u64 0 18446744073709551615]):=
 Ff Tryz.underlying119 kr dc (λ_ h=>h) (aba (yq Tryz.underlying85 λ_=>bounds_u64))
def akZ:El enc Tryz.prog w base spare held M0 97 4 rm:=
 Xa Tryz.underlying97 kr rfl rfl rfl rfl kr kr kr kr (yq Tryz.underlying85 λ_=>bounds_u64) (yq Tryz.underlying24 λ_=>bounds_u32) (aAl Tryz.underlying4) aCW
def TD:oQ enc Tryz.prog w base spare held M0 33 (.sl 9223372036854775807 rm):=
 Ff Tryz.underlying33 kr dc (λ_ h=>h) akZ
def arn:El enc Tryz.prog w base spare held M0 208 4 uC:=
 Xa Tryz.underlying208 kr rfl rfl rfl rfl kr kr kr kr (yq Tryz.underlying3 λ_=>bounds_i64) TD (yq Tryz.underlying3 λ_=>bounds_i64) aks
def ayz:oQ enc Tryz.prog w base spare held M0 32 (.sl 9223372036854775807 uC):=
 Ff Tryz.underlying32 kr dc (λ_ h=>h) arn
end
def aCH{w:bW}{c d:b8}{rows a:List (List PV)}(p:RP M0 w (.sl rows) c)(q:AC.rows uC rows)(r:RP M0 w (.sl a) d)(s:AC.rows rm a):
 Calls Tryz.prog 6 #[c,d] w λe w'=>e=.returned (.bool true)/\Below w.heap.size w w':=by
 have t:GU.F=BS:=rfl;have hp:BS [.r rows,.r a]=some [.b true]:=atJ q s;have u:=anL [.r rows,.r a] [.b true] rfl (by rw[t];exact hp) rfl;have o:bad M0 ⟨λ_=>none,[]⟩=M0:=by
  funext g;simp[bad,M0]
 refine(u.call w M0 (λ_=>none) #[c,d] (λg h=>h.elim) (λn x h=>by cases h) (λn x g h=>by cases h) (λn m x y g h=>by cases h) (λn b h=>by simp[GU]at h) rfl (λi x j=>?_)).mono ?_
 .match i with
  |0=>
   cases j;refine⟨c,rfl,?_⟩;show RP (bad M0 _) w (.sl rows) c;rw[o];exact p
  |1=>
   cases j;refine⟨d,rfl,?_⟩;show RP (bad M0 _) w (.sl a) d;rw[o];exact r
  |i+2=>simp[GU]at j
 .rintro e w' ⟨v,E',rfl,f,-,-,l⟩;have l:RP _ w' (.sc (.bool true)) v:=l;cases l;exact⟨rfl,f.os,f.tape,f.output,f.size,λk z=>f.block k z (λ⟨n,x,h,_⟩=>by cases h)⟩
end
section
open Go.ChangeShapes Go.WideShapes Go.ChangeAt Go.RowKit AI
def Tr:laidOutB Tryz.prog=true:=kr
def qA:List (String×DataW Unit):=Rows.sealerFilesRow.laid
def akY (KB:∀(os:Os)(H:Type)(enc:cf×b8->H),∃(w:bW)(tape:Tape)(i:Input),w.os=os/\(w.forCall tape i).Shaped Tryz.prog/\i.vars=[]/\Input.okWide Tryz.prog (w.forCall tape i) .any w.heap.size 6 i/\
 ((Rows.sealerFilesSpec.pre enc Tryz.prog Tryz.f6 [] false (w.forCall tape i).memory i.args/\laidMetH Tryz.prog qA (w.forCall tape i).memory)/\sizedMet enc Tryz.prog Tryz.f6 (OpenSpec.ofChange Rows.sealerFilesSpec) false (w.forCall tape i).memory i.args)/\Assume.holds {} Tryz.prog (lone (Frame.enter Tryz.prog 6 i.args .normal) [] (w.forCall tape i)))
 (os:Os) (a:os.Started) (H:Type) (enc:cf×b8->H):
 ReturnsInHanded {} Tryz.checked os 6 .any (λw args=>(Rows.sealerFilesSpec.pre enc Tryz.prog Tryz.f6 [] false w args/\laidMetH Tryz.prog qA w)/\sizedMet enc Tryz.prog Tryz.f6 (OpenSpec.ofChange Rows.sealerFilesSpec) false w args)
  (Rows.sealerFilesSpec.post enc Tryz.prog Tryz.f6 false true false false):=by
 refine returnsInHanded_of_change_and (C:=Tryz.checked) (X:=λw _=>laidMetH Tryz.prog qA w) (λ_ _ _ M h=>h.of_heap M) ayo a kr Tryz.func6 (KB os H enc) ?_;intro W base args ds gs before b F _ _ hL _;have hval:∀(j:Nat)t v,Tryz.f6.params[j]?=some t->args[j]?=some v->Value.okWide Tryz.prog W .any base t v:=b;have n:=F;obtain⟨p,q,d,N,rfl,O,P⟩:=F;have G:DataW.TrodAll enc Tryz.prog W 0 (λ_=>true) true Tryz.f6.params.toList args.toList ds p:=d;rw[Tryz.params6]at G hval;obtain⟨I,Q,d0,R,S,q0,o,rfl,rfl,J,r0⟩:=trodAll_cons G;obtain⟨K,T,d1,U,V,q1,rfl,rfl,rfl,L,Y⟩:=trodAll_cons r0;obtain⟨rfl,rfl,rfl⟩:=trodAll_nil Y;obtain rfl:args= #[I,K]:=by cases args;simp_all
 obtain⟨rfl,rfl⟩:=trodVars_none N;obtain⟨Z,f,g,rfl⟩:=okWide_slice Tryz.underlying32 (hval 0 32 I rfl rfl);obtain⟨a1,k,l,rfl⟩:=okWide_slice Tryz.underlying33 (hval 1 33 K rfl rfl);have k0:=J;have r:∀x∈S,x.block<W.heap.size:=by obtain⟨m,s⟩:=k0;exact DataW.trod_lt m _ _ _ s
 have k1:=L;have y:∀x∈V,x.block<W.heap.size:=by obtain⟨m,s⟩:=k1;exact DataW.trod_lt m _ _ _ s
 obtain⟨z,A⟩:=L;obtain⟨u,pu,B,⟨aa,rfl,-,hn⟩,D⟩:=TD _ _ _ A;have B:[Value.slice a1 k l]=[u]:=B;cases B;obtain⟨fuel,hf⟩:=J;obtain⟨v,pv,E,⟨rows,rfl,-,hr⟩,hR⟩:=ayz _ _ _ hf;have E:[Value.slice Z f g]=[v]:=E;cases E;clear d b;refine(aCH hR hr D hn).mono λe W'⟨he,c⟩=>?_
 subst he;exact⟨_,rfl,_,_,_,[],_,[],n,trodAll_mk1 (shut_bool Tryz.underlying4 _),(trodAll_cons_mk (Below.trod Tr kr (fc kr) k0 c r) (trodAll_cons_mk (Below.trod Tr kr (fc kr) k1 c y) trodAll_mk0)),rfl,c.frame _,λh=>by cases h⟩
end
end
end Go.Proofs.YtiikkkhcolcebaaGreatDoor
