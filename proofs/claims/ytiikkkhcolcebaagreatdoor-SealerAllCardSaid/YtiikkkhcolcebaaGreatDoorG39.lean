/- A part. -/
import Derived.Test.YtiikkkhcolcebaaGreatDoorG33
import Derived.Test.YtiikkkhcolcebaaGreatDoorG34
import Derived.Test.YtiikkkhcolcebaaGreatDoorG37
import Derived.Test.YtiikkkhcolcebaaGreatDoorG38
set_option linter.all false
set_option maxHeartbeats 4000000
set_option maxRecDepth 100000
namespace Go.Proofs.YtiikkkhcolcebaaGreatDoor
noncomputable section
section
open Go.RowKit AI
attribute [local irreducible] bl.wp
def kK(c:Nat->Nat)(d:Nat->List Nat)(z:List Nat):Nat->List Nat
 |0=>z
 |k+1=>lY (c k) (kK c d z k) (d k)
def qy(E:List Nat)(ds:List (List Nat))(m j:Nat):List Nat:=kK (λk=>E.getD (j*4+k) 0) (λk=>ds.getD k []) (List.replicate m 0) 4
def l_(E:List Nat)(ds:List (List Nat))(m nr:Nat):List (List Nat):=(List.range nr).map (qy E ds m)
theorem R2(m):B8 (List.replicate m 0):=λx a=>by rw[List.eq_of_mem_replicate a];decide
theorem Ec{c:Nat->Nat}{d:Nat->List Nat}{m n:Nat}(a:∀k,k<n->(d k).length=m):∀k,k<=n->(kK c d (List.replicate m 0) k).length=m/\B8 (kK c d (List.replicate m 0) k)
 |0,_=>⟨pU,R2 m⟩
 |k+1,h=>by
  have b:=Ec (c:=c) a k om;have e:=a k om;unfold kK;exact⟨by rw[I3 om];exact e,aoy b.2⟩
theorem jC{α:Type}{d}{l:List α}{i}(h):l.getD i d=l[i]:=by rw[jZ,cY h];rfl
def mI(ds:List (List Nat))(m:Nat):Prop:=∀d∈ds,B8 d/\d.length=m
theorem mI.at{ds m}(h:mI ds m){k}(a:k<ds.length):B8 ds[k]/\ds[k].length=m:=h _ (cQ a)
theorem Ti{E ds m}(a:ds.length=4)(h:mI ds m)(j):(qy E ds m j).length=m/\B8 (qy E ds m j):=
 Ec (n:=4) (λk b=>by rw[jC om];exact(h.at om).2) 4 om
theorem vT(E)(ds)(m nr):(l_ E ds m nr).length=nr:=by simp[l_]
theorem T5{E ds m nr i}(h):(l_ E ds m nr)[i]=qy E ds m i:=by simp[l_]
theorem ajV{E ds m nr}(a:ds.length=4)(h:mI ds m):mI (l_ E ds m nr) m:=λd b=>by
 obtain⟨j,_,rfl⟩:=fE.1 b;exact⟨(Ti a h j).2,(Ti a h j).1⟩
section
variable{α:Type}{d:α}{l:List α}{n:Nat}
def nS(d:α)(l:List α)(n i:Nat):List α:=l.take i++List.replicate (n-i) d
theorem aqP(h:l.length=n){i}(a:i<=n):(nS d l n i).length=n:=by simp only[nS,cD,dz,pU];omega
theorem auW(h:l.length=n){i}(b:i<n){v}(a:v=l[i]'om):(nS d l n i).set i v=nS d l n (i+1):=by
 unfold nS;rw[OG _ _ (by rw[dz];omega),fi om,dI,dz];rw[show i-min i l.length=0 by omega,show n-i=(n- (i+1))+1 by omega,List.replicate_succ,OH,a];rfl
theorem aaz(h:l.length=n):nS d l n n=l:=by unfold nS;rw[eo om,sO];simp
end
theorem qb(l:List (List Nat)):ct 1 (l.map fR)=true:=by
 unfold ct;rw[cz];intro x a;obtain⟨y,_,rfl⟩:=fE.1 a;rfl
theorem anh{E:List Nat}{nr i k:Nat}(a:i<=16)(b:k<4)(h:i*4+k<E.length):mZ [.i nr,.i 4,.r (E.map b1),.i i,.i k]=some [.i (E.getD (i*4+k) 0:Nat)]:=by
 refine bF ?_;refine iV (n:=((i*4:Nat):Int)) oO om om (nW ?_);refine dp (n:=((i*4+k:Nat):Int)) oO om om (nW ?_);refine bS (f:=b1) (j:=i*4+k) rfl rfl h rfl (uR ?_);refine bk ?_;rw[jC h];rfl
theorem arS:lR [.i 6,.i 4]=some [.b true]:=vu _ _ kr
theorem abL{nr:Nat}(c:nr<=16)(a:lR [.i nr,.i 4]=some [.b true]){E:List Nat}(b:E.length=nr*4):pB [.i nr,.i 4,.r (E.map b1)]=some [.b true]:=by
 refine bF ?_;refine bz (λxs=>xs=[.b true]) ?_ ?_
 .refine bm a rfl rfl (nW ?_);refine fT rfl (uR ?_);refine iV (n:=((nr*4:Nat):Int)) oO om om (uR ?_);refine bk ?_;exact dT (by rw[bD,b])
 rintro _ rfl;refine nW ?_;exact bk rfl
theorem X'{α:Type}{f:α->List PV}(a:∀x,(f x).all PV.bare=true)(l:List α):(l.map f).all (·.all PV.bare)=true:=by
 rw[cz];intro x b;obtain⟨y,_,rfl⟩:=fE.1 b;exact a y
section
variable{ρ:List L}{Q:Lf×List L->Prop}{k:bl}{α:Type}{f:α->List PV}
theorem E1{t F args n j l}{m:List α}(a:∀x,(f x).all PV.bare=true)(h:F (args.map (At.ev ρ))=some l)(b:l.length=n)(c:l[j]?=some (.r (m.map f)))(e:k.wp (ρ++l) Q):(bl.op (.call t F args n [j]) k).wp ρ Q:=
 bm h b (by simp only[Gs,List.all_nil,Bool.and_true,c,gx];exact X' a m) e
theorem ala{l:List α}{x lo ln i:At}{n j c:Nat}(e:(x.ev ρ).bC=l.map f)(a:(lo.ev ρ).br=0)(b:(ln.ev ρ).br=c)(g:(i.ev ρ).br=j)(h)(m:j<c)(o:(f l[j]).length=n)(p:k.wp (ρ++[.i (j:Nat)]) Q):(bl.op (.jv x lo ln i n) k).wp ρ Q:=
 jy (ls:=[.i (j:Nat)]) (by
  simp only[Nd.ev];rw[e,a,b,g,bA om,ey,Bj,jV,cX,cY h];exact bA ⟨o,by exact m⟩) p
theorem arX{l:List α}{x lo ln:At}{c:Nat}(e:(x.ev ρ).bC=l.map f)(a:(lo.ev ρ).br=0)(b:(ln.ev ρ).br=c)(g:k.wp (ρ++[.r ((l.take c).map f)]) Q):(bl.op (.vw x lo ln) k).wp ρ Q:=
 QU (by rw[e,a,b,ey,Bj,vh,<-lj];exact g)
end
theorem aaO{E}(hE:E.length=6*4)(hc:∀x∈E,x<256){ds}(h4:ds.length=4){m}(hm:m<=4294967296)(hd:mI ds m):MS [.i 6,.i 4,.r (E.map b1),.r (ds.map fR)]=some [.i 0,.r ((l_ E ds m 6).map fR)]:=by
 refine bF ?_;refine bz (λxs=>xs=[.b false]) ?_ ?_
 .refine bm (abL (nr:=6) dc arS hE) rfl rfl (nW ?_);refine sT rfl ?_;refine nW ?_;refine cn rfl (uR ?_);refine bk ?_;exact dF (by rw[bD,h4];decide)
 rintro _ rfl;refine nW ?_;refine cn rfl ?_;have fA:=hd.at (show 0<ds.length by omega);refine bz (λxs=>xs=[]) ?_ ?_
 .refine wp_loop (I:=λx=>∃i:Nat,x=[.i i]/\i<=4) (mu:=λx=>match x with|[.i i]=>4-i.toNat|_=>0) ⟨0,rfl,om⟩ ?_;rintro x ⟨i,rfl,e1⟩;refine uR ?_;refine bO rfl (λhx=>?_) (λhx=>?_);rotate_left
  .exact bk rfl
  rw[bD,h4]at hx;have hi:i<ds.length:=om;refine bS (f:=fR) (j:=i) rfl rfl (show i<ds.length by omega) rfl (nW ?_);refine cK (f:=fR) (j:=i) rfl rfl (show i<ds.length by omega) rfl rfl (uR ?_);refine bS (f:=fR) (j:=0) rfl rfl (show 0<ds.length by omega) rfl (nW ?_);refine cK (f:=fR) (j:=0) rfl rfl (show 0<ds.length by omega) rfl rfl (uR ?_);refine bR rfl (by rw[bD,bD,(hd.at hi).2,fA.2];exactλh=>h rfl) ?_;refine b8 (i:=i) rfl om (nW ?_);refine bk ⟨⟨i+1,rfl,om⟩,?_⟩;show 4- ((i+1:Nat):Int).toNat<4-i;omega
 rintro _ rfl;refine nW ?_;obtain⟨oL,ho⟩:∃oL,l_ E ds m 6=oL:=⟨_,rfl⟩
 have kY:oL.length=6:=by rw[<-ho,vT]
 have va:∀i(h:i<oL.length),oL[i]=qy E ds m i:=by subst ho;exactλi h=>T5 h
 rw[ho];refine bz (λxs=>xs=[.r (oL.map fR)]) ?_ ?_;rotate_left
 .rintro _ rfl;refine nW ?_;exact bk rfl
 refine wp_loop (I:=λx=>∃i:Nat,x=[.i i,.r ((oL.take i).map fR)]/\i<=6) (mu:=λx=>match x with|[.i i,_]=>6-i.toNat|_=>0) ⟨0,rfl,om⟩ ?_;rintro x ⟨i,rfl,e1⟩;refine uR ?_;refine bO rfl (λhx=>?_) (λhx=>?_);rotate_left
 .refine bk ?_;show[L.r ((oL.take i).map fR)]=_;rw[eo om]
 have hi:i<oL.length:=om;refine bS (f:=fR) (j:=0) rfl rfl (show 0<ds.length by omega) rfl (nW ?_);refine cK (f:=fR) (j:=0) rfl rfl (show 0<ds.length by omega) rfl rfl (uR ?_);refine wV (r:=(List.replicate m 0).map b1) (by
  show 0<=(((ds[0].map b1).length:Nat):Int)/\(((ds[0].map b1).length:Nat):Int)<=9223372036854775807/\1*(((ds[0].map b1).length:Nat):Int).toNat<=281474976710656;rw[bD,fA.2];omega) (by
  show List.replicate (((ds[0].map b1).length:Nat):Int).toNat [PV.sc (.int .u8 0)]=_;rw[ey,bD,fA.2,Gv];rfl) ?_
 refine nW ?_;refine bz (λxs=>xs=[.r ((qy E ds m i).map b1)]) ?_ ?_
 .have hlk:=Ec (c:=λk=>E.getD (i*4+k) 0) (d:=λk=>ds.getD k []) (m:=m) (n:=4) (λk hk=>by rw[jC om];exact(hd.at om).2);refine wp_loop (I:=λx=>∃k:Nat,x=[.i k,.r ((kK (λk=>E.getD (i*4+k) 0) (λk=>ds.getD k []) (List.replicate m 0) k).map b1)]/\k<=4) (mu:=λx=>match x with|[.i k,_]=>4-k.toNat|_=>0) ⟨0,rfl,om⟩ ?_;rintro x ⟨k,rfl,e2⟩;have A4:=hlk k e2;have dM:kK (λk=>E.getD (i*4+k) 0) (λk=>ds.getD k []) (List.replicate m 0) (k+1)=lY (E.getD (i*4+k) 0) (kK (λk=>E.getD (i*4+k) 0) (λk=>ds.getD k []) (List.replicate m 0) k) (ds.getD k []):=rfl;refine uR ?_;refine bO rfl (λhy=>?_) (λhy=>?_);rotate_left
  .obtain rfl:k=4:=om;exact bk rfl
  have hk:k<ds.length:=om;have A3:=hd.at hk;obtain⟨u,hu⟩:∃u,kK (λk=>E.getD (i*4+k) 0) (λk=>ds.getD k []) (List.replicate m 0) k=u:=⟨_,rfl⟩
  obtain⟨v,hv⟩:∃v,kK (λk=>E.getD (i*4+k) 0) (λk=>ds.getD k []) (List.replicate m 0) (k+1)=v:=⟨_,rfl⟩
  rw[hu,hv,jC hk]at dM;rw[hu]at A4⊢;refine bS (f:=fR) (j:=k) rfl rfl (show k<ds.length by omega) rfl (nW ?_);refine cK (f:=fR) (j:=k) rfl rfl (show k<ds.length by omega) rfl rfl (nW ?_);refine iV (n:=((i*4:Nat):Int)) oO om om (nW ?_);refine dp (n:=((i*4+k:Nat):Int)) oO om om (nW ?_);have sJ:i*4+k<E.length:=om;refine bS (f:=b1) (j:=i*4+k) rfl rfl sJ rfl (uR ?_);rw[jC sJ]at dM;refine E1 (f:=b1) (m:=lY E[i*4+k] u ds[k]) (λ_=>rfl) (amy (hc _ (cQ sJ)) u ds[k] A4.2 A3.1 om om) rfl rfl ?_;rw[<-dM];refine nW ?_;refine b8 (i:=k) rfl om (nW ?_);refine bk ⟨⟨k+1,by rw[hv];rfl,om⟩,?_⟩;show 4- ((k+1:Nat):Int).toNat<4-k;omega
 rintro _ rfl;refine uR ?_;refine er (r:=(oL.take (i+1)).map fR) (qb _) rfl oO oO dc (by rw[fi hi,dE,va i hi];rfl) (nW ?_);refine b8 (i:=i) rfl om (nW ?_);refine bk ⟨⟨i+1,rfl,om⟩,?_⟩;show 6- ((i+1:Nat):Int).toNat<6-i;omega
section
variable{ρ:List L}{Q:Lf×List L->Prop}{k:bl}{α:Type}{f:α->List PV}
theorem nq{t F args n j l}{m:List Nat}(h:F (args.map (At.ev ρ))=some l)(a:l.length=n)(b:l[j]?=some (.r (m.map b1)))(c:k.wp (ρ++l) Q):(bl.op (.call t F args n [j]) k).wp ρ Q:=E1 (f:=b1) (λ_=>rfl) h a b c
theorem tO{x y n b r}(a:ct n (x.ev ρ).bC=true)(c:ct n (y.ev ρ).bC=true)(i:(x.ev ρ).bC.length<=1048576)(j:(y.ev ρ).bC.length<=1048576)(e:b<=1024)(g:(x.ev ρ).bC++(y.ev ρ).bC=r)(h:k.wp (ρ++[.r r]) Q):(bl.op (.app x y n b) k).wp ρ Q:=
 VJ ⟨om,by
  have:((x.ev ρ).bC.length+(y.ev ρ).bC.length)*b<=2097152*1024:=Oz om e;omega,a,c⟩ (by rw[g];exact h)
theorem fc{x y}{a c:List Nat}(b:(x.ev ρ).bC=a.map b1)(e:(y.ev ρ).bC=c.map b1)(h:a.length<=2097152)(i:c.length<=2097152)(g:k.wp (ρ++[.r ((a++c).map b1)]) Q):(bl.op (.app x y 1 1) k).wp ρ Q:=
 er (r:=(a++c).map b1) (by rw[b];exact nN a) (by rw[e];exact nN c) (by rw[b,bD];omega) (by rw[e,bD];omega) dc (by rw[b,e,dE]) g
end
end
section
open Go.RowKit Pl AI
attribute [local irreducible] bl.wp
def Ku(e:Nat):List UInt8:=cond (Nat.beq e 0) [100,97,116] (cond (Nat.beq e 1) [100,101,108] (cond (Nat.beq e 8) [105,100,120] [101,99,UInt8.ofNat (46+e)]))
def kT(j:Nat):List UInt8:=[118,46,49,46,UInt8.ofNat (49+j/9),46]++Ku (j%9)
def nm(j:Nat):fu:=⟨(kT j).toArray⟩
theorem lP(j):(nm j).toList=kT j:=by rw[Lib.toList_data];rfl
def Dp(n:Nat):Bool:=(Nat.ble 97 n&&Nat.ble n 122)|| (Nat.ble 48 n&&Nat.ble n 57)||Nat.beq n 46||Nat.beq n 45
theorem arF:(List.range 72).all (λj=>(kT j).all λc=>Dp c.toNat)=true:=kr
theorem atZ:(List.range 71).all (λj=>Op.bytesLess (kT j) (kT (j+1)))=true:=kr
theorem EG(j):1<=(kT j).length/\(kT j).length<=9:=by
 have:(Ku (j%9)).length=3:=by
  unfold Ku
  cases Nat.beq (j%9) 0 with
  |true=>rfl
  |false=>cases Nat.beq (j%9) 1 with
   |true=>rfl
   |false=>cases Nat.beq (j%9) 8<;>rfl
 unfold kT;rw[cD,this];exact⟨by show 1<=6+3;omega,by show 6+3<=9;omega⟩
theorem NA(j):(nm j).size=(kT j).length:=by
 show(kT j).toArray.size=_;rw[kD]
theorem zJ(j):(nm j).size<=4611686018427387904:=by
 have:=EG j;rw[NA];omega
theorem zK{j}(a:j<72):fP (nm j):=by
 refine⟨λi b h=>?_,?_,?_⟩
 .rw[chars]at h;have c:b∈kT j:=eb h;have e:=cz.1 (cz.1 arF j (jr.2 a)) b c;simp only[Dp,oX,cu,Nat.ble_eq,Nat.beq_eq]at e;unfold ko;omega
 .rw[NA];exact(EG j).1
 .rw[NA];have:=(EG j).2;omega
theorem qP:∀{b a:Nat},a<b->b<72->kT a<kT b
 |0,_,h,_=>om
 |b+1,a,h,g=>by
  have c:=(tF _ _).1 (cz.1 atZ b (jr.2 om));by_cases e:a=b
  .subst e;exact c
  .exact yh (qP (b:=b) om om) c
theorem X2{a b}(h:a≠b)(c:a<72)(g:b<72):((nm a).toList==(nm b).toList)=false:=by
 rw[lP,lP];rcases OI h with h|h
 .exact beq_false_of_ne λe=>by have:=qP h g;rw[e]at this;exact lq _ this
 .exact beq_false_of_ne λe=>by have:=qP h c;rw[e]at this;exact lq _ this
abbrev Fs:=Nat->Option (List Nat)
def fj(j:Nat)(b:List Nat):Fl:=⟨nm j,b.map b1,[]⟩
def gP(f:Fs):Nat->Nat->List Fl
 |_,0=>[]
 |lo,n+1=>(match f lo with|some b=>[fj lo b]|none=>[])++gP f (lo+1) n
def okB(b:List Nat):Prop:=B8 b/\b.length<=1048576
def dx(f:Fs):Prop:=∀j b,f j=some b->okB b
def ch(f:Fs)(j:Nat)(b:Option (List Nat)):Fs:=λi=>if i=j then b else f i
theorem gj{f j b}:ch f j b j=b:=bA rfl
theorem dv{f i j b}(h:i≠j):ch f j b i=f i:=bH h
theorem dx.ch{f}(h:dx f){j b}(m:∀x,b=some x->okB x):dx (ch f j b):=λi x a=>by
 by_cases e:i=j
 .subst e;rw[gj]at a;exact m x a
 .rw[dv e]at a;exact h i x a
theorem pZ(f):∀n lo,(gP f lo n).length<=n
 |0,_=>de 0
 |n+1,lo=>by
  have:=pZ f n (lo+1);rw[gP,cD]
  cases f lo with
  |none=>simp only[jH];omega
  |some b=>simp only[GC];omega
theorem nz{f x}:∀{n lo},x∈gP f lo n->∃j b,lo<=j/\j<lo+n/\f j=some b/\x=fj j b
 |0,_,h=>by cases h
 |n+1,lo,h=>by
  rw[gP]at h;rcases gI.1 h with h|h
  .cases a:f lo with
   |none=>rw[a]at h;cases h
   |some b=>rw[a]at h;exact⟨lo,b,om,om,a,jX.1 h⟩
  .obtain⟨j,b,g,i,c,e⟩:=nz h;exact⟨j,b,om,om,c,e⟩
theorem Rb(f):∀m n lo,gP f lo (m+n)=gP f lo m++gP f (lo+m) n
 |0,n,lo=>by rw[jV,lh];rfl
 |m+1,n,lo=>by
  rw[show m+1+n=(m+n)+1 by omega,gP,gP,Rb f m n (lo+1),dI,show lo+1+m=lo+(m+1)by omega]
theorem IE{f g:Fs}:∀{n lo},(∀j,lo<=j->j<lo+n->f j=g j)->gP f lo n=gP g lo n
 |0,_,_=>rfl
 |n+1,lo,h=>by
  rw[gP,gP,h lo om om,IE (n:=n) (lo:=lo+1) λj a b=>h j om om]
def dL(f:Fs)(j:Nat):List Fl:=gP f 0 j
def jw(f:Fs)(j:Nat):List Fl:=gP f (j+1) (71-j)
def cM(f:Fs):List Fl:=gP f 0 72
theorem QP{f j}(a:j<72):cM f=dL f j++((match f j with|some b=>[fj j b]|none=>[])++jw f j):=by
 unfold cM dL jw;rw[show(72:Nat)=j+((71-j)+1)by omega,Rb,jV,gP]
theorem TN{f j b}:dL (ch f j b) j=dL f j:=IE λi _ h=>dv om
theorem PM{f j b}:jw (ch f j b) j=jw f j:=IE λi h _=>dv om
def ep(f:Fs)(j:Nat)(g:Fl):List Fl:=dL f j++g::jw f j
theorem yk{f j b}(a:j<72)(h:f j=some b):cM f=ep f j (fj j b):=by rw[QP a,h];rfl
theorem TK{f j}(a:j<72)(h:f j=none):cM f=dL f j++jw f j:=by rw[QP a,h];rfl
theorem UW{f j b}(a:j<72):cM (ch f j (some b))=ep f j (fj j b):=by
 rw[yk a gj,ep,ep,TN,PM]
theorem aov{f j}(a:j<72):cM (ch f j none)=dL f j++jw f j:=by
 rw[TK a gj,TN,PM]
abbrev dA(l:List Fl):List L:=[.i 0,.i (-1),.r (l.map bJ)]
structure qw(j:Nat)(g:Fl):Prop where
 hj:j<72
 hn:g.name=nm j
 hb:okF g.base g.bM
 hf:jb g
theorem sX{j}(c:j<72){b}(a:okB b):qw j (fj j b):=
 ⟨c,rfl,⟨by show(b.map b1).length<=_;rw[bD];exact a.2,trivial⟩,nN b,by show(b.map b1).length<=_;rw[bD];have:=a.2;omega,eM _,λw e=>by cases e⟩
theorem atV{f}(e:dx f){j g}(a:qw j g){x}(m:x∈ep f j g):∃i,qw i x:=by
 rcases gI.1 m with h|h
 .obtain⟨i,b,o,p,c,rfl⟩:=nz h;exact⟨i,sX (by have:=a.hj;omega) (e i b c)⟩
 .rcases eG.1 h with rfl|h
  .exact⟨j,a⟩
  .obtain⟨i,b,o,p,c,rfl⟩:=nz h;exact⟨i,sX (by have:=a.hj;omega) (e i b c)⟩
theorem y6(f){j}(a:j<72)(g):(ep f j g).length<=72:=by
 have b:=pZ f j 0;have c:=pZ f (71-j) (j+1);unfold ep dL jw;rw[cD,gy];omega
abbrev Cs(f:Fs)(j:Nat)(g:Fl):Dk:=⟨0,-1,ep f j g⟩
theorem EV(f):∀n lo,lo+n<=72->(gP f lo n).Pairwise λx y=>x.name.toList<y.name.toList
 |0,_,_=>List.Pairwise.nil
 |n +1,lo,h=>by
  rw[gP];refine GG.2 ⟨?_,EV f n (lo+1) om,λx a y g=>?_⟩
  .cases f lo with
   |none=>exact List.Pairwise.nil
   |some b=>exact ZZ _ _
  .obtain⟨j,b,i,m,_,rfl⟩:=nz g
   cases e:f lo with
   |none=>rw[e]at a;cases a
   |some c=>
    rw[e]at a;rw[jX.1 a];show(nm lo).toList< (nm j).toList;rw[lP,lP];exact qP om om
theorem ajB{f j g}(e:qw j g):(ep f j g).Pairwise λx y=>x.name.toList<y.name.toList:=by
 have p:=e.hj;refine GG.2 ⟨EV f j 0 om,gK.2 ⟨λy a=>?_,EV f _ _ om⟩,λx h y a=>?_⟩
 .obtain⟨i,b,m,o,_,rfl⟩:=nz a;rw[e.hn];show(nm j).toList< (nm i).toList;rw[lP,lP];exact qP om om
 .obtain⟨i,b,m,o,_,rfl⟩:=nz h;show(nm i).toList<_;rcases eG.1 a with rfl|a
  .rw[e.hn,lP,lP];exact qP om om
  .obtain⟨k,c,q,r,_,rfl⟩:=nz a;show _< (nm k).toList;rw[lP,lP];exact qP om om
theorem WO{a b:fu}(h:a.toList<b.toList):pD b a=false:=by
 unfold pD;rw[Bool.or_eq_false_iff];constructor
 .exact ZX.2 λc=>lq _ (yh h ((tF _ _).1 c))
 .exact beq_false_of_ne λe=>by rw[e]at h;exact lq _ h
theorem RM{l:List Fl}(h:l.length<=72)(c:∀x∈l,∃i,qw i x)(e:l.Pairwise λx y=>x.name.toList<y.name.toList):iw ⟨0,-1,l⟩/\kc ⟨0,-1,l⟩:=by
 refine⟨⟨⟨by show(0:Int)<=0;omega,by show(-1:Int)<=-1;omega,by show l.length<=256;omega⟩,λi b=>?_⟩,⟨by show l.length<=_;omega,λx g=>?_⟩⟩
 .obtain⟨k,a⟩:=c _ (cQ b);refine⟨⟨by show fP (l[i]).name;rw[a.hn];exact zK a.hj,a.hb⟩,λj=>?_⟩;exact WO (kE.1 e (i-1) i (by have:i<l.length:=b;omega) b om)
 .obtain⟨k,a⟩:=c x g;exact⟨a.hf,by rw[a.hn];exact zJ k⟩
theorem DZ{f}(b:dx f){j g}(a:qw j g):iw (Cs f j g)/\kc (Cs f j g):=
 RM (y6 f a.hj g) (λ_ c=>atV b a c) (ajB a)
theorem alf{f}(a:dx f):iw ⟨0,-1,cM f⟩/\kc ⟨0,-1,cM f⟩:=
 RM (pZ f 72 0) (λx c=>by obtain⟨i,b,_,g,e,rfl⟩:=nz c;exact⟨i,sX om (a i b e)⟩) (EV f 72 0 om)
theorem zC{f j g}(h):(ep f j g)[(dL f j).length]'h=g:=by
 simp only[ep,yj (de _),sO,List.getElem_cons_zero]
theorem nY(f)(j)(g):(dL f j).length< (ep f j g).length:=by
 unfold ep;rw[cD,gy];omega
theorem Ln{f j g}(e:qw j g):kx (Cs f j g) (nm j) (dL f j).length:=by
 refine⟨nY f j g,?_,λk a=>?_⟩
 .show(((ep f j g)[(dL f j).length]'_).name.toList==(nm j).toList)=true;rw[zC,e.hn];exact beq_self_eq_true _
 .have:(ep f j g)[k]'(Nat.lt_trans a (nY f j g))=(dL f j)[k]:=by
   unfold ep;rw[GH a]
  show(((ep f j g)[k]'_).name.toList==_)=false;rw[this];obtain⟨i,b,h,m,_,c⟩:=nz (cQ a);have c:(dL f j)[k]=fj i b:=c;rw[c];have:=e.hj;exact X2 om om om
theorem acy{f j}(g:j<72)(h:f j=none):nX ⟨0,-1,cM f⟩ (nm j):=λk m=>by
 obtain⟨i,b,o,p,c,a⟩:=nz (cQ m);have a:(cM f)[k]=fj i b:=a;show((cM f)[k].name.toList==_)=false;rw[a];exact X2 (λe=>by subst e;rw[h]at c;cases c) om g
theorem G8{f}(b:dx f){j g}(a:qw j g):qz (dA (ep f j g)++[.s (nm j)])=some [.i (dL f j).length,.i 0]:=
 (Ja (DZ b a).2 (zJ j)).1 _ ⟨(DZ b a).1,zK a.hj,by show(-1:Int)≠0;omega⟩ (Ln a)
theorem lO(l:List Fl):ct 3 (l.map bJ)=true:=by
 unfold ct;rw[cz];intro x a;obtain⟨y,_,rfl⟩:=fE.1 a;rfl
theorem Ei(c)(l:List Fl)(a:l.length<=1000000):wy [c,.i (-1),.r (l.map bJ)]=some [.i (-1),.r (l.map bJ)]:=by
 refine bF ?_;refine uR ?_;refine er (r:=l.map bJ) rfl (lO l) oO oO dc rfl (nW ?_);refine bz (λxs=>xs=[.i (-1)]) ?_ (by rintro _ rfl;refine nW ?_;exact bk rfl);refine uR ?_;refine cn rfl ?_;exact bk rfl
end
section
open Go.RowKit AI
def Sx:=rG V_ []
theorem alz:Gk Sx DS:=rK [] trivial
def IA:List L->Option (List L):=oo
theorem ME:Gk IA oo:=λ_ _ h=>h
def PK:=rG TZ [(2021,IA)]
theorem anU:Gk PK DR:=rK [(2021,oo)] ⟨cH rfl ME,trivial⟩
def Wt:List L->Option (List L):=tt
theorem awu:Gk Wt tt:=λ_ _ h=>h
def JJ:=rG WW [(332,Sx),(2021,IA),(331,PK),(2022,Wt)]
theorem VH:Gk JJ xe:=rK [(332,DS),(2021,oo),(2021,oo),(331,DR),(2022,tt)] ⟨cH rfl alz,cH rfl ME,cH rfl ME,cH rfl anU,cH rfl awu,trivial⟩
def Qg:=rG WV [(336,JJ)]
theorem arZ:Gk Qg r4:=rK [(336,xe)] ⟨cH rfl VH,trivial⟩
def SP:=rG TI []
theorem abQ:Gk SP BQ:=rK [] trivial
def Xi:=rG VG []
theorem K3:Gk Xi so:=rK [] trivial
def KP:=rG Vs [(54,SP),(53,Xi)]
theorem PO:Gk KP xa:=rK [(54,BQ),(53,so),(53,so),(53,so)] ⟨cH rfl abQ,cH rfl K3,cH rfl K3,cH rfl K3,trivial⟩
def UR:=rG QC [(55,KP)]
theorem aAg:Gk UR qL:=rK [(55,xa)] ⟨cH rfl PO,trivial⟩
def VX:=rG XP [(55,KP)]
theorem aiK:Gk VX Cy:=rK [(55,xa)] ⟨cH rfl PO,trivial⟩
def Eb(t:Nat):Nat:=cond (Nat.beq t 0) 1 (cond (Nat.beq t 1) 3 4)
def eA(t:Nat):Nat:=cond (Nat.beq t 0) 0 (cond (Nat.beq t 1) 1 8)
theorem adK:(List.range 24).all (λj=>wu (UR [.i (Eb (j/8):Nat),.i 1,.i (j%8+1:Nat)]) [.s (nm (9*(j%8)+eA (j/8)))])=true:=kr
theorem ahF:(List.range 24).all (λj=>cond (Nat.beq (j/8) 1) true (wu (Qg [.i (Eb (j/8):Nat),.i 1,.i (j%8+1:Nat)]) [.s (nm (9*(j%8)+eA (j/8)))]))=true:=kr
theorem aaq:(List.range 48).all (λj=>wu (VX [.i 1,.i (j%8+1:Nat),.i (j/8:Nat)]) [.s (nm (9*(j%8)+(2+j/8)))])=true:=kr
theorem wP{n t:Nat}(a:n<8)(b:t<3):qL [.i (Eb t:Nat),.i 1,.i (n+1:Nat)]=some [.s (nm (9*n+eA t))]:=by
 have:=aAg _ _ (sb (cz.1 adK _ (jr.2 (show t*8+n<24 by omega))))
 rwa [show(t*8+n) /8=t by omega,show(t*8+n)%8=n by omega]at this
theorem ara{n t:Nat}(b:n<8)(c:t<3)(a:t≠1):r4 [.i (Eb t:Nat),.i 1,.i (n+1:Nat)]=some [.s (nm (9*n+eA t))]:=by
 have:=cz.1 ahF _ (jr.2 (show t*8+n<24 by omega));rw[show(t*8+n) /8=t by omega,show(t*8+n)%8=n by omega,show Nat.beq t 1=false from ZX.2 λh=>a (sU h)]at this;exact arZ _ _ (sb this)
theorem anY{n k:Nat}(a:n<8)(b:k<6):Cy [.i 1,.i (n+1:Nat),.i k]=some [.s (nm (9*n+(2+k)))]:=by
 have:=aiK _ _ (sb (cz.1 aaq _ (jr.2 (show k*8+n<48 by omega))))
 rwa [show(k*8+n) /8=k by omega,show(k*8+n)%8=n by omega]at this
end
section
open Go.RowKit AI
attribute [local irreducible] bl.wp
theorem arT{α:Type}{l:List α}{i x}(h:l[i]?=some x):l.set i x=l:=by
 obtain⟨a,rfl⟩:=dO.1 h;exact List.set_getElem_self a
theorem W8{α:Type}{f:α->List PV}{n}(a:∀x,(f x).length=n)(l:List α):ct n (l.map f)=true:=by
 unfold ct;rw[cz];intro x b;obtain⟨y,_,rfl⟩:=fE.1 b;simp[a y]
section
variable{ρ:List L}{Q:Lf×List L->Prop}{k:bl}{α:Type}{f:α->List PV}
theorem Ju{A B:List (List PV)}{r}{n:Int}(a:n=(A.length:Nat)):(A++r::B)[n.toNat]?=some r:=by
 rw[a,ey,kF (de _),sO];rfl
theorem Ai{A B:List (List PV)}{r}{y i:At}{n}(a:(y.ev ρ).bC=A++r::B)(b:(i.ev ρ).br=(A.length:Nat))(c:r.length=n)(e:k.wp (ρ++[.c r]) Q):(bl.op (.row y i n) k).wp ρ Q:=
 iG om (by rw[a];exact Ju b) c e
theorem ou{A B:List (List PV)}{r}{y i:At}{c a q z}(b:(y.ev ρ).bC=A++r::B)(e:(i.ev ρ).br=(A.length:Nat))(g:r[c]?=some q)(h:a.of q=some z)(j:k.wp (ρ++[z]) Q):(bl.op (.rc y i c a) k).wp ρ Q:=
 qG (by rw[b];exact Ju e) g h j
theorem K5{A B:List (List PV)}{r r'}{y i:At}{j ps}(a:(y.ev ρ).bC=A++r::B)(b:(i.ev ρ).br=(A.length:Nat))(c:j+ps.length<=r.length)(e:r.take j++db ρ ps++r.drop (j+ps.length)=r')(g:k.wp (ρ++[.r (A++r'::B)]) Q):(bl.op (.set y i j ps) k).wp ρ Q:=by
 refine yB (r:=r) (by rw[a];exact Ju b) c ?_;rw[e,a,b,ey,OG _ _ (de _),sO,OH];exact g
variable{A B:List α}{x v:α}
theorem ug:(A++x::B).map f=A.map f++f x::B.map f:=by rw[dE,dk]
theorem C_{y i:At}{n}(a:(y.ev ρ).bC=(A++x::B).map f)(b:(i.ev ρ).br=(A.length:Nat))(c:(f x).length=n)(e:k.wp (ρ++[.c (f x)]) Q):(bl.op (.row y i n) k).wp ρ Q:=
 Ai (by rw[a,ug]) (by rw[b,bD]) c e
theorem qT{y i:At}{c a q z}(b:(y.ev ρ).bC=(A++x::B).map f)(e:(i.ev ρ).br=(A.length:Nat))(g:(f x)[c]?=some q)(h:a.of q=some z)(j:k.wp (ρ++[z]) Q):(bl.op (.rc y i c a) k).wp ρ Q:=
 ou (by rw[b,ug]) (by rw[e,bD]) g h j
theorem P2{y i:At}{j ps}(a:(y.ev ρ).bC=(A++x::B).map f)(b:(i.ev ρ).br=(A.length:Nat))(c:j+ps.length<=(f x).length)(e:(f x).take j++db ρ ps++(f x).drop (j+ps.length)=f v)(g:k.wp (ρ++[.r ((A++v::B).map f)]) Q):(bl.op (.set y i j ps) k).wp ρ Q:=
 K5 (by rw[a,ug]) (by rw[b,bD]) c e (by rw[<-ug];exact g)
theorem lN{l:List α}{y i:At}{j n ps}(a:(y.ev ρ).bC=l.map f)(c:(i.ev ρ).br=(n:Nat))(e:n<l.length)(g:j+ps.length<=(f l[n]).length)(h:(f l[n]).take j++db ρ ps++(f l[n]).drop (j+ps.length)=f l[n])(m:k.wp (ρ++[.r (l.map f)]) Q):(bl.op (.set y i j ps) k).wp ρ Q:=by
 have b:(y.ev ρ).bC[((i.ev ρ).br).toNat]?=some (f l[n]):=by rw[a,c,ey,cX,cY e];rfl
 refine yB b g ?_;rw[h,arT b,a];exact m
end
theorem MB(l:List Wr):ct 3 (l.map df)=true:=W8 (f:=df) (n:=3) (λ_=>rfl) l
theorem Xo{l:List Wr}(a:l.length<=4294967296):JB [.r (l.map df)]=some []:=bA ⟨MB l,by rw[bD];omega⟩
theorem IQ{l:List Fl}(a:l.length<=4294967296):Fe [.r (l.map bJ)]=some []:=bA ⟨lO l,by rw[bD];omega⟩
theorem aAk{f}(hf:jb f):K4 [.s f.name,.r f.base,.r (f.bM.map df)]=some [.r (f.bM.map df)]:=by
 have hp:=hf.2.2.1;refine bF ?_;refine bm (qe hf.1 hf.2.1) rfl rfl (nW ?_);refine bm (Xo hp) rfl rfl (nW ?_);refine bz (λxs=>xs=[.r (f.bM.map df)]) ?_ (by rintro _ rfl;refine nW ?_;exact bk rfl);refine uR ?_;rw[bD];refine wp_loop (I:=λa=>∃i:Nat,a=[.i i,.r (f.bM.map df)]/\i<=f.bM.length) (mu:=λa=>match a with|[.i i,_]=>f.bM.length-i.toNat|_=>0) ⟨0,rfl,om⟩ ?_;rintro a ⟨i,rfl,e1⟩;refine uR ?_;refine bO rfl (λhc=>?_) (λhc=>?_);rotate_left
 .exact bk rfl
 have hi:i<f.bM.length:=om;have hw:=hf.2.2.2 _ (cQ hi);refine bS (f:=df) (l:=f.bM) (j:=i) rfl rfl hi rfl (nW ?_);refine cK (f:=df) (l:=f.bM) (j:=i) rfl rfl hi rfl rfl (nW ?_);refine cK (f:=df) (l:=f.bM) (j:=i) rfl rfl hi rfl rfl (nW ?_);refine cK (f:=df) (l:=f.bM) (j:=i) rfl rfl hi rfl rfl (nW ?_);refine bm (qe hw.1 hw.2) rfl rfl (nW ?_);refine bS (f:=df) (l:=f.bM) (j:=i) rfl rfl hi rfl (nW ?_);refine lN (f:=df) (l:=f.bM) (n:=i) rfl rfl hi (by show(2:Nat)<=3;omega) rfl (nW ?_);refine b8 (i:=i) rfl om (nW ?_);refine bk ⟨⟨i+1,rfl,om⟩,?_⟩;show f.bM.length- ((i+1:Nat):Int).toNat<f.bM.length-i;omega
theorem QJ{l:List Fl}(hl:l.length<=1000)(hf:∀x∈l,jb x){a b}:LW [a,b,.r (l.map bJ)]=some [.r (l.map bJ)]:=by
 refine bF ?_;refine bm (IQ om) rfl rfl (nW ?_);refine bz (λxs=>xs=[.r (l.map bJ)]) ?_ (by rintro _ rfl;refine nW ?_;exact bk rfl);refine uR ?_;rw[bD];refine wp_loop (I:=λa=>∃i:Nat,a=[.i i,.r (l.map bJ)]/\i<=l.length) (mu:=λa=>match a with|[.i i,_]=>l.length-i.toNat|_=>0) ⟨0,rfl,om⟩ ?_;rintro a ⟨i,rfl,e1⟩;refine uR ?_;refine bO rfl (λhc=>?_) (λhc=>?_);rotate_left
 .exact bk rfl
 have hi:i<l.length:=om;refine bS (f:=bJ) (l:=l) (j:=i) rfl rfl hi rfl (nW ?_);refine cK (f:=bJ) (l:=l) (j:=i) rfl rfl hi rfl rfl (nW ?_);refine cK (f:=bJ) (l:=l) (j:=i) rfl rfl hi rfl rfl (nW ?_);refine cK (f:=bJ) (l:=l) (j:=i) rfl rfl hi rfl rfl (nW ?_);refine bm (aAk (hf _ (cQ hi))) rfl rfl (nW ?_);refine bS (f:=bJ) (l:=l) (j:=i) rfl rfl hi rfl (nW ?_);refine lN (f:=bJ) (l:=l) (n:=i) rfl rfl hi (by show(3:Nat)<=3;omega) rfl (nW ?_);refine b8 (i:=i) rfl om (nW ?_);refine bk ⟨⟨i+1,rfl,om⟩,?_⟩;show l.length- ((i+1:Nat):Int).toNat<l.length-i;omega
structure jB(l:List Fl):Prop where
 d:iw ⟨0,-1,l⟩
 f:kc ⟨0,-1,l⟩
theorem jB.len{l}(h:jB l):l.length<=256:=h.d.1.2.2
theorem jB.pn{l}(h:jB l):∀x∈l,jb x:=λx a=>(h.f.2 x a).1
structure uf(A B:List Fl)(s:fu):Prop where
 n:fP s
 z:s.size<=4611686018427387904
 a:∀x∈A,x.name.toList<s.toList
 b:∀x∈B,s.toList<x.name.toList
theorem uf.none{A B s}(h:uf A B s):nX ⟨0,-1,A++B⟩ s:=λj a=>by
 have m:(A++B)[j]∈A++B:=cQ a;refine beq_false_of_ne λe=>?_
 rcases gI.1 m with q|q
 .have:=h.a _ q;rw[e]at this;exact lq _ this
 .have:=h.b _ q;rw[e]at this;exact lq _ this
theorem W_{A B s}(h:uf A B s)(j:iw ⟨0,-1,A++B⟩){x y}:qx [x,y,.r ((A++B).map bJ),.s s]=some [.i (A.length:Nat),.b false]:=by
 obtain⟨lo,b,m,i,o,p,r⟩:=Vw j (s:=s);have i:lo<=(A++B).length:=i;have t:(A++B).length=A.length+B.length:=cD;have c:lo=A.length:=by
  rcases Bf lo A.length with q|q|q
  .refine absurd ?_ (p lo (by show lo< (A++B).length;omega) (de _));show((A++B)[lo]'_).name.toList<_;rw[GH q];exact h.a _ (cQ q)
  .exact q
  .have a:A.length< (A++B).length:=om;have:=o A.length a q;have e:((A++B)[A.length]'a)∈B:=by
    rw[yj (de _)];exact cQ _
   exact absurd (yh this (h.b _ e)) (lq _)
 subst c;have g:b=false:=gF r (by
  rintro⟨a,e⟩;have a:A.length< (A++B).length:=a;have e:((A++B)[A.length]'a).name.toList=s.toList:=e;have u:((A++B)[A.length]'a)∈B:=by
   rw[yj (de _)];exact cQ _
  have:=h.b _ u;rw[e]at this;exact lq _ this)
 subst g;have w:E9 [.r ((A++B).map bJ),.s s]=some [.i (A.length:Nat),.b false]:=by
  refine bF ?_;refine bm m rfl rfl (nW ?_);exact bk rfl
 refine bF ?_;refine bm w rfl rfl (nW ?_);exact bk rfl
theorem awm{d}(j:kc d)(e:iw d){s}(m:s.size<=4611686018427387904)(o:fP s)(p:d.left≠0)(c:nX d s):p0 [.i d.cap,.i d.left,.r (d.files.map bJ),.s s]=some [.i 0,.i 6]:=by
 obtain⟨bd,a⟩:=fH (iw d);obtain⟨r,b⟩:=fH (fP s);have g:=w8 j a;have h:=vH s m b;rw[a.2 e]at g;rw[b.2 o]at h;obtain⟨i,q⟩:=(Hu e (x:=.i d.cap) (y:=.i d.left)).2 c;refine bF ?_;refine bz (λxs=>xs=[.b false]) ?_ ?_
 .refine bm g rfl rfl (uR ?_);refine cn rfl ?_;refine bm h rfl rfl (uR ?_);exact bk rfl
 rintro _ rfl;refine nW ?_;refine cn rfl (uR ?_);refine bR rfl p ?_;refine bm q rfl rfl (uR ?_);refine fT rfl ?_;exact bk rfl
structure kM(A:List Fl)(x:Fl)(B:List Fl)(s:fu):Prop where
 n:fP s
 z:s.size<=4611686018427387904
 d:jB (A++x::B)
 e:x.name=s
theorem Fj{α:Type}{A B:List α}{x}(h):(A++x::B)[A.length]'h=x:=by
 rw[yj (de _)];simp
theorem qE{α:Type}(A B:List α)(x):A.length< (A++x::B).length:=by
 rw[cD,gy];omega
theorem kM.at{A x B s}(h:kM A x B s):kx ⟨0,-1,A++x::B⟩ s A.length:=by
 refine⟨qE A B x,?_,λj a=>?_⟩
 .show(((A++x::B)[A.length]'_).name.toList==s.toList)=true;rw[Fj,h.e];exact beq_self_eq_true _
 .have:=Ma h.d.d a (qE A B x);have this:((A++x::B)[j]'(Nat.lt_trans a (qE A B x))).name.toList< ((A++x::B)[A.length]'(qE A B x)).name.toList:=this;rw[Fj,h.e]at this;exact beq_false_of_ne λe=>by
   have e:((A++x::B)[j]'(Nat.lt_trans a (qE A B x))).name.toList=s.toList:=e;rw[e]at this;exact lq _ this
theorem kM.open{A x B s}(h:kM A x B s):p0 (dA (A++x::B)++[.s s])=some [.i (A.length:Nat),.i 0]:=
 (Xv h.d.f h.z).1 _ ⟨h.d.d,h.n,by show(-1:Int)≠0;omega⟩ h.at
theorem kM.ok{A x B s}(h:kM A x B s):okF x.base x.bM/\jb x:=by
 have m:=qE A B x;have a:=(h.d.d.2 A.length m).1.2;have a:okF ((A++x::B)[A.length]'m).base ((A++x::B)[A.length]'m).bM:=a;rw[Fj]at a;exact⟨a,h.d.pn x (by simp)⟩
theorem HR{A x B s}(h:kM A x B s):tY (dA (A++x::B)++[.s s,.b true])=some [.i (A.length:Nat),.i 0,.i 0,.i (-1),.r ((A++x::B).map bJ)]:=by
 refine bF ?_;refine bm h.open rfl rfl (nW ?_);refine bz (λxs=>xs=[.i (A.length:Nat),.i 0]) ?_ ?_
 .refine bz (λxs=>xs=[.b false]) ?_ ?_
  .refine uR ?_;refine bR rfl oO ?_;exact bk rfl
  rintro _ rfl;refine nW ?_;refine cn rfl ?_;refine bz (λxs=>xs=[.b false]) ?_ ?_
  .refine uR ?_;refine cP rfl rfl (uR ?_);exact bk rfl
  rintro _ rfl;refine nW ?_;refine cn rfl ?_;exact bk rfl
 rintro _ rfl;refine uR ?_;refine bR rfl (λh=>h rfl) ?_;refine bm (QJ (by have:=h.d.len;omega) h.d.pn) rfl rfl (nW ?_);refine bz (λxs=>xs=[.i (-1)]) ?_ ?_
 .refine uR ?_;refine bR rfl oO ?_;exact bk rfl
 rintro _ rfl;refine nW ?_;exact bk rfl
theorem azU{A B s}(h:uf A B s)(a:jB (A++B)):tY (dA (A++B)++[.s s,.b false])=some [.i (A.length:Nat),.i 0,.i 0,.i (-1),.r ((A++B).map bJ)]:=by
 refine bF ?_;refine bm (awm a.f a.d h.z h.n (by show(-1:Int)≠0;omega) h.none) rfl rfl (nW ?_);refine bz (λxs=>xs=[.i (A.length:Nat),.i 0]) ?_ ?_
 .refine bz (λxs=>xs=[.b true]) ?_ ?_
  .refine uR ?_;refine cP rfl rfl (uR ?_);exact bk rfl
  rintro _ rfl;refine nW ?_;refine fT rfl ?_;refine bm (W_ h a.d) rfl rfl (nW ?_);exact bk rfl
 rintro _ rfl;refine uR ?_;refine bR rfl (λh=>h rfl) ?_;refine bm (QJ (by have:=a.len;omega) a.pn) rfl rfl (nW ?_);refine bz (λxs=>xs=[.i (-1)]) ?_ ?_
 .refine uR ?_;refine bR rfl oO ?_;exact bk rfl
 rintro _ rfl;refine nW ?_;exact bk rfl
theorem RH{A B:List Fl}(g:Fl)(h:(A++B).length<=1000):tG [.r ((A++B).map bJ),.i (A.length:Nat),.r [bJ g]]=some [.r ((A++g::B).map bJ)]:=by
 have e:((A++B).map bJ).take A.length++[bJ g]++((A++B).map bJ).drop A.length=(A++g::B).map bJ:=by
  rw[<-lj,<-nR,GI,List.drop_left,ug,dI];rfl
 unfold tG;dsimp only;rw[bA ⟨om,by rw[ey,bD,cD];omega,rfl,lO _,rfl,by rw[bD];omega⟩,ey,e]
theorem Ps{A B:List Fl}(g:Fl):tE [.r ((A++g::B).map bJ),.i (A.length:Nat),.i (A.length+1:Nat)]=some [.r ((A++B).map bJ)]:=by
 have e:((A++g::B).map bJ).take A.length++((A++g::B).map bJ).drop (A.length+1)=(A++B).map bJ:=by
  rw[<-lj,<-nR,GI,show A++g::B=(A++[g])++B by simp,Ow (by simp),dE]
 unfold tE;dsimp only;rw[bA ⟨om,om,by rw[ey,bD];exact qE A B g,lO _⟩,ey,ey,e]
theorem anm{A B s}(h:uf A B s)(a:jB (A++B))(b:(A++B).length<256):Hl (dA (A++B)++[.s s])=some (.i 0::dA (A++⟨s,[],[]⟩::B)):=by
 refine bF (f:=Ui) ?_;refine bm (azU h a) rfl rfl (uR ?_);refine bR rfl (λh=>h rfl) (uR ?_);rw[bD];refine bR rfl om ?_;refine uR ?_;refine bm (RH ⟨s,[],[]⟩ om) rfl rfl (nW ?_);exact bk rfl
theorem adj{A x B s}(h:kM A x B s):AD (dA (A++x::B)++[.s s])=some (.i 0::dA (A++B)):=by
 have a:=h.d.len;have b:=qE A B x;refine bF (f:=Yi) ?_;refine bm (HR h) rfl rfl (uR ?_);refine bR rfl (λh=>h rfl) ?_;refine b8 (i:=A.length) rfl om (nW ?_);refine bm (Ps x) rfl rfl (nW ?_);exact bk rfl
theorem aAm{A x B s}(h:kM A x B s):MD (dA (A++x::B)++[.s s])=some (.i 0::dA (A++⟨x.name,dm x.base x.bM,[]⟩::B)):=by
 have a:=h.ok;refine bF (f:=T8) ?_;refine bm (HR h) rfl rfl (uR ?_);refine bR rfl (λh=>h rfl) ?_;refine C_ (f:=bJ) (A:=A) (x:=x) (B:=B) rfl rfl rfl (nW ?_);refine qT (f:=bJ) (A:=A) (x:=x) (B:=B) rfl rfl rfl rfl (nW ?_);refine qT (f:=bJ) (A:=A) (x:=x) (B:=B) rfl rfl rfl rfl (nW ?_);refine qT (f:=bJ) (A:=A) (x:=x) (B:=B) rfl rfl rfl rfl (nW ?_);refine bm (WA a.2 a.1) rfl rfl (nW ?_);refine P2 (f:=bJ) (A:=A) (x:=x) (B:=B) (v:=⟨x.name,dm x.base x.bM,x.bM⟩) rfl rfl (by show(2:Nat)<=3;omega) rfl (nW ?_);refine P2 (f:=bJ) (A:=A) (x:=⟨x.name,dm x.base x.bM,x.bM⟩) (B:=B) (v:=⟨x.name,dm x.base x.bM,[]⟩) rfl rfl (by show(3:Nat)<=3;omega) rfl (nW ?_);exact bk rfl
theorem ain{A x B s t}(h:kM A x B s)(b:uf A B t)(c:jB (A++B)):E3 (dA (A++x::B)++[.s s,.s t])=some (.i 0::dA (A++⟨t,x.base,x.bM⟩::B)):=by
 have g:=h.d.len;have j:=qE A B x;obtain⟨m,a⟩:=fH (fP t);have e:=vH t b.z a;rw[a.2 b.n]at e;refine bF (f:=Yd) ?_;refine bm e rfl rfl (uR ?_);refine cn rfl ?_;refine bm (HR h) rfl rfl (uR ?_);refine bR rfl (λh=>h rfl) ?_;refine C_ (f:=bJ) (A:=A) (x:=x) (B:=B) rfl rfl rfl (nW ?_);refine qT (f:=bJ) (A:=A) (x:=x) (B:=B) rfl rfl rfl rfl (nW ?_);refine qT (f:=bJ) (A:=A) (x:=x) (B:=B) rfl rfl rfl rfl (nW ?_);refine qT (f:=bJ) (A:=A) (x:=x) (B:=B) rfl rfl rfl rfl (nW ?_);refine b8 (i:=A.length) rfl om (nW ?_);refine bm (Ps x) rfl rfl (nW ?_);refine bm (W_ b c.d) rfl rfl (nW ?_);refine bz (λxs=>xs=[.r ((A++⟨t,x.base,x.bM⟩::B).map bJ)]) ?_ ?_
 .refine cn rfl (uR ?_);refine bm (RH ⟨t,x.base,x.bM⟩ (by have:=c.len;omega)) rfl rfl (nW ?_);exact bk rfl
 rintro _ rfl;refine nW ?_;exact bk rfl
end
end
end Go.Proofs.YtiikkkhcolcebaaGreatDoor
