/- A part. -/
import Derived.Test.YtndegphojkiblaaGreatDoorG12
import Derived.Test.YtndegphojkiblaaGreatDoorG26
set_option linter.all false
set_option maxHeartbeats 4000000
set_option maxRecDepth 100000
namespace Go.Proofs.YtndegphojkiblaaGreatDoor
noncomputable section
section
open Go.RowKit Pl AI
open Classical
attribute [local irreducible] a8.wp
theorem lS{ρ Q k}{α:Type}{f}{l:List α}{x i:At}{ps}{j:Nat}{v}(a:(x.ev ρ).bm=l.map f)(b:(i.ev ρ).a_=j)(c)(g:(f l[j]).length=ps.length)(d:cH ρ ps=f v)(e:k.wp (ρ++[.r ((l.set j v).map f)]) Q):(a8.op (.set x i 0 ps) k).wp ρ Q:=
 aac (r:=f l[j]) (by rw[a,b,fM,cN,cW c];rfl) om (by
  rw[a,b,fM,d,List.take_zero,gC,qv om,ju,<-List.map_set];exact e)
theorem aeT(l:List It)(hl:l.length<=4294967296)(x):∃r,Ld [.r (l.map bw),.i x.key,.i x.cookie,.i x.off,.i x.size]=some [.i r]/\(0<=r↔x∈l):=by
 have run:a8.wp Tl [.r (l.map bw),.i x.key,.i x.cookie,.i x.off,.i x.size] (dX λy=>∃r:Int,y=[.i r]/\(0<=r↔x∈l)):=by
  refine bE (λxs=>xs=[]/\x∉l) ?_ ?_;rotate_left
  .rintro _ ⟨rfl,h⟩;refine nW ?_;exact a7 ⟨-1,rfl,λh=>by omega,λh'=>absurd h' h⟩
  refine uR ?_;refine wp_loop (I:=λa=>∃i:Nat,a=[.i i]/\i<=l.length/\∀(j:Nat)(h:j<l.length),j<i->l[j]≠x) (mu:=λa=>match a with|[.i i]=>l.length-i.toNat|_=>0) ⟨0,rfl,om,λj _ hj=>by omega⟩ ?_;rintro a ⟨i,rfl,e1,e2⟩;refine uR ?_;refine bG rfl (λhc=>?_) (λhc=>?_);rotate_left
  .rw[bC]at hc;exact a7 ⟨rfl,λh=>by obtain⟨j,hj,h⟩:=iE h;exact e2 j hj om h⟩
  rw[bC]at hc;have hi:i<l.length:=om;refine bU (f:=bw) (j:=i) rfl rfl hi rfl (uR ?_);refine bZ (λhy=>?_) (λhy=>?_)
  .have hy:(((decide (x.key=l[i].key)&&decide (x.cookie=l[i].cookie))&&decide (x.off=l[i].off))&&decide (x.size=l[i].size))=true:=hy;simp only[cd,dj]at hy;refine a7 ⟨i,rfl,λ_=>?_,λ_=>by omega⟩;have:x=l[i]:=by obtain⟨⟨⟨h1,h2⟩,h3⟩,h4⟩:=hy;cases x;cases h:l[i];simp only[h]at*;subst h1 h2 h3 h4;rfl
   rw[this];exact cT hi
  .have hg:l[i]≠x:=λh=>by
    have hy:(((decide (x.key=l[i].key)&&decide (x.cookie=l[i].cookie))&&decide (x.off=l[i].off))&&decide (x.size=l[i].size))=false:=hy;rw[<-h]at hy;simp at hy
   refine cm (i:=i) rfl om (nW ?_);refine a7 ⟨⟨i+1,rfl,om,λj hj kG=>?_⟩,?_⟩
   .by_cases he:j=i
    .subst he;exact hg
    .exact e2 j hj om
   .show l.length- ((i+1:Nat):Int).toNat<l.length-i;omega
 obtain⟨o,h1,r,rfl,h2⟩:=gi run;exact⟨r,h1,h2⟩
theorem aka(l:List It)(a:l.length<=4294967296)(x){b}(c:b=true↔x∈l):tg [.r (l.map bw),.i x.key,.i x.cookie,.i x.off,.i x.size]=some [.b b]:=by
 obtain⟨r,d,e⟩:=aeT l a x;refine bN ?_;refine bu d rfl rfl (uR ?_);refine a7 ?_;show[L.b (decide (r>=0))]=[L.b b]
 rw[hZ.2 (show decide (r>=0)=true↔b=true by rw[dj,c,<-e])]
def fR(f:List Nat):List PV:=[.sl (f.map b1)]
def hR(t:Bool):List PV:=[.sc (.bool t)]
def kR(a:Nat):List PV:=[.sc (.int .i64 (a:Nat))]
theorem G'(k):kv k=(mZ.getD k []).map kR:=rfl
theorem UL(a g r n)(d e f h i j)(l)(o:l.length<=4294967296)(fs:List (List Nat))(p:fs.length=6)(m:List Bool)(q:m.length=6){b}(s:b=true↔js a g r n l):rH [.i a,.i g,.i r,.i n,d,e,f,h,i,j,.r (l.map bw),.r (fs.map fR),.r (m.map hR)]=some [.b b]:=by
 refine bN ?_;refine bE (λxs=>xs=[.b b]) ?_ ?_
 .refine bu (TY a g r n d e f h i j l o s) rfl rfl (nW ?_);refine bZ (λc=>?_) (λc=>?_)
  .subst c;refine uR ?_;refine fD rfl (by rw[bC,p];rfl) (uR ?_);refine a7 ?_;exact dT (by rw[bC,q];rfl)
  .subst c;exact a7 rfl
 rintro _ rfl;refine nW ?_;exact a7 rfl
theorem agm(n)(b:0<=n)(c:n<=1048576):JE [.i n]=some [.i (i_ n)]:=by
 refine bN ?_;refine uR ?_;refine bG rfl (λa=>?_) (λa=>?_)
 .refine a7 ?_;show[L.i 0]=[L.i (i_ n)]
  unfold i_;rw[bF a]
 refine dk (n:=n-1) rfl om om (nW ?_);refine cP (l:=.i ((n-1) /256)) (by
  show(if(256:Int)≠0 then some (L.i (IntKind.wrap .i64 ((n-1).tdiv 256)))else none)=_;rw[bF dc,Bw om,wrap64 om om]) ?_
 refine nW ?_;refine c_ (n:=(n-1) /256+1) rfl om om (nW ?_);refine fZ (n:=((n-1) /256+1)*64) rfl om om (nW ?_);refine a7 ?_;show[L.i _]=[L.i (i_ n)]
 unfold i_;rw[bO a]
theorem anR(n)(b:0<=n)(c:n<=1048576):MR [.i n]=some [.i (i_ n)]:=by
 refine bN ?_;refine uR ?_;refine db rfl om ?_;refine cP (l:=.i (n/256)) (by
  show(if(256:Int)≠0 then some (L.i (IntKind.wrap .i64 (n.tdiv 256)))else none)=_;rw[bF dc,Bw om,wrap64 om om]) ?_
 refine nW ?_;refine bE (λxs=>xs=[.i ((n+255) /256)]) ?_ ?_
 .refine cP (l:=.i (n%256)) (by
   show(if(256:Int)≠0 then some (L.i (n.tmod 256))else none)=_;rw[bF dc,Bx om]) ?_
  refine uR ?_;refine bG rfl (λa=>?_) (λa=>?_)
  .refine c_ (n:=(n+255) /256) (by try dsimp only[At.ev,d1,d2,d3,d4,d5,d6,d7,d8,d9,e0,List.map,cH,Kd.pv];omega) om om (nW ?_);exact a7 rfl
  .refine a7 ?_;show[L.i (n/256)]=[L.i _]
   rw[show n/256=(n+255) /256 by omega]
 rintro _ rfl;refine nW ?_;refine fZ (n:=(n+255) /256*64) rfl om om (nW ?_);refine a7 ?_;show[L.i _]=[L.i (i_ n)]
 unfold i_;split
 .rw[show(n+255) /256*64=0 by omega]
 .rw[show(n+255) /256*64=((n-1) /256+1)*64 by omega]
theorem ahc(s:List Nat)(hs:s.length<=4294967296)(k:Nat):∃r,Om [.r (s.map kR),.i k]=some [.i r]/\(0<=r↔k∈s):=by
 have run:a8.wp R2 [.r (s.map kR),.i k] (dX λy=>∃r:Int,y=[.i r]/\(0<=r↔k∈s)):=by
  refine bE (λxs=>xs=[]/\k∉s) ?_ ?_;rotate_left
  .rintro _ ⟨rfl,h⟩;refine nW ?_;exact a7 ⟨-1,rfl,λh=>by omega,λh'=>absurd h' h⟩
  refine uR ?_;refine wp_loop (I:=λa=>∃i:Nat,a=[.i i]/\i<=s.length/\∀(j:Nat)(h:j<s.length),j<i->s[j]≠k) (mu:=λa=>match a with|[.i i]=>s.length-i.toNat|_=>0) ⟨0,rfl,om,λj _ hj=>by omega⟩ ?_;rintro a ⟨i,rfl,e1,e2⟩;refine uR ?_;refine bG rfl (λhc=>?_) (λhc=>?_);rotate_left
  .rw[bC]at hc;exact a7 ⟨rfl,λh=>by obtain⟨j,hj,h⟩:=iE h;exact e2 j hj om h⟩
  rw[bC]at hc;have hi:i<s.length:=om;refine bU (f:=kR) (j:=i) rfl rfl hi rfl (uR ?_);refine bG rfl (λhy=>?_) (λhy=>?_)
  .refine a7 ⟨i,rfl,λ_=>?_,λ_=>by omega⟩;have:k=s[i]:=Qm.1 hy;rw[this];exact cT hi
  .have hg:s[i]≠k:=λh=>hy (by subst h;rfl)
   refine cm (i:=i) rfl om (nW ?_);refine a7 ⟨⟨i+1,rfl,om,λj hj kG=>?_⟩,?_⟩
   .by_cases he:j=i
    .subst he;exact hg
    .exact e2 j hj om
   .show s.length- ((i+1:Nat):Int).toNat<s.length-i;omega
 obtain⟨o,h1,r,rfl,h2⟩:=gi run;exact⟨r,h1,h2⟩
theorem avf(s:List Nat)(a:s.length<=4294967296)(k){b}(c:b=true↔k∈s):Ha [.r (s.map kR),.i k]=some [.b b]:=by
 obtain⟨r,d,e⟩:=ahc s a k;refine bN ?_;refine bu d rfl rfl (uR ?_);refine a7 ?_;show[L.b (decide (r>=0))]=[L.b b]
 rw[hZ.2 (show decide (r>=0)=true↔b=true by rw[dj,c,<-e])]
def xJ(fs:List (List Nat))(a:List Bool)(sk:List Nat)(n:Int)(i:Nat):Bool:=decide (a.getD i false=true/\i∉sk/\((fs.getD i []).length:Int)=i_ n)
def iy(fs:List (List Nat))(a:List Bool)(sk:List Nat)(n:Int):List Bool:=(List.range 6).map (xJ fs a sk n)
theorem Rw(fs)(a)(sk)(n):(iy fs a sk n).length=6:=rfl
theorem Jq{fs a sk n i}(h):(iy fs a sk n)[i]=xJ fs a sk n i:=by simp[iy]
def fill(us:List Bool)(i:Nat):List Bool:=us.take i++List.replicate (6-i) false
theorem M3{us}(h:us.length=6){i}(a:i<=6):(fill us i).length=6:=by simp only[fill,ez,eA,mT];omega
theorem V'{us}(h:us.length=6){i}(g:i<6)(j):(fill us i).set i us[i]=fill us (i+1):=by
 match us,h with
 |[a,b,c,d,e,f],_=>
  match i,g with
  |0,_=>rfl
  |1,_=>rfl
  |2,_=>rfl
  |3,_=>rfl
  |4,_=>rfl
  |5,_=>rfl
theorem VV{us}(h:us.length=6):fill us 6=us:=by
 match us,h with
 |[a,b,c,d,e,f],_=>rfl
theorem Wu(us:List Bool)(i):(us.take i).count true<=i:=qo (List.count_le_length) (by rw[eA];omega)
theorem FH{α:Type}{d}{l:List α}{i}(h):l[i]=l.getD i d:=by rw[sE,cW h];rfl
theorem alF(a g r n)(m4 m5 m6 m7 m8 m9 m10)(h0:0<=n)(h1:n<=1048576)(fs)(hf:fs.length=6)(hv)(hh:hv.length=6)(sk)(hs:sk.length<=6):
 Tu [.i a,.i g,.i r,.i n,m4,m5,m6,m7,m8,m9,m10,.r (fs.map fR),.r (hv.map hR),.r (sk.map kR)]=some [.i ((iy fs hv sk n).count true:Nat),.r ((iy fs hv sk n).map hR)]:=by
 obtain⟨us,gP⟩:∃us,iy fs hv sk n=us:=⟨_,rfl⟩
 have hlen:us.length=6:=by rw[<-gP];rfl
 have hat:∀i(h:i<us.length),us[i]=true↔hv.getD i false=true/\i∉sk/\((fs.getD i []).length:Int)=i_ n:=λi h=>by subst gP;rw[Jq h];unfold xJ;rw[dj]
 rw[gP];refine bN ?_;refine nu (r:=List.replicate 6 (hR false)) (by try dsimp only[At.ev,d1,d2,d3,d4,d5,d6,d7,d8,d9,e0,List.map,cH,Kd.pv];exact⟨dc,dc,dc⟩) rfl (nW ?_);refine bE (λxs=>xs=[.i ((us.count true:Nat):Int),.r (us.map hR)]) ?_ ?_;rotate_left
 .rintro _ rfl;refine nW ?_;exact a7 rfl
 refine uR ?_;refine wp_loop (I:=λx=>∃i:Nat,x=[.i ((us.take i).count true:Nat),.i i,.r ((fill us i).map hR)]/\i<=6) (mu:=λx=>match x with|[_,.i i,_]=>6-i.toNat|_=>0) ⟨0,rfl,om⟩ ?_;rintro x ⟨i,rfl,e1⟩;have uU:=M3 hlen e1;have hct:=Wu us i;refine uR ?_;refine bG rfl (λhc=>?_) (λhc=>?_);rotate_left
 .rw[bC,hf]at hc;obtain rfl:i=6:=om;refine a7 ?_;show[L.i ((List.count true (us.take 6):Nat):Int),L.r ((fill us 6).map hR)]=_;rw[VV hlen,gX om]
 rw[bC,hf]at hc;have hi:i<us.length:=om;have hst:((fill us i).set i us[i])=fill us (i+1):=V' hlen om hi;have o7:(fs[i]'om)=fs.getD i []:=FH _;have Bb:(hv[i]'om)=hv.getD i false:=FH _;refine bE (λxs=>xs=[.i ((us.take (i+1)).count true:Nat),.r ((fill us (i+1)).map hR)]) ?_ ?_
 .refine bU (f:=fR) (j:=i) rfl rfl om rfl (uR ?_);refine bE (λxs=>xs=[.r ((fill us (i+1)).map hR)]) ?_ ?_
  .refine bU (f:=hR) (j:=i) rfl rfl om rfl (uR ?_);refine bZ (λhy=>?_) (λhy=>?_)
   .obtain⟨b,hb⟩:=dC (i∈sk);refine bu (avf sk om i hb) rfl rfl (uR ?_);refine bZ (λhz=>?_) (λhz=>?_)
    .have hz:i∉sk:=λh=>by rw[hb.2 h]at hz;cases hz
     refine uR ?_;refine bu (agm n h0 h1) rfl rfl (uR ?_);refine bU (f:=hR) (j:=i) rfl rfl om rfl (nW ?_);have hu:us[i]=decide (((((fs[i]'om).map b1).length:Nat):Int)=i_ n):=by
      rw[hZ,hat i hi,dj,bC,o7,<-Bb];exact⟨λh=>h.2.2,λh=>⟨hy,hz,h⟩⟩
     refine lS (f:=hR) (j:=i) (v:=us[i]) rfl rfl om rfl (by rw[hu];rfl) ?_;rw[hst];refine nW ?_;exact a7 rfl
    .have hz:i∈sk:=hb.1 (by have hz:(!b)=false:=hz;simpa using hz);refine bU (f:=hR) (j:=i) rfl rfl om rfl (nW ?_);have hu:us[i]=false:=by
      rw[Qn,Ne,hat i hi];exactλh=>h.2.1 hz
     refine lS (f:=hR) (j:=i) (v:=us[i]) rfl rfl om rfl (by rw[hu];rfl) ?_;rw[hst];refine nW ?_;exact a7 rfl
   .have hy:hv[i]'om=false:=hy;refine bU (f:=hR) (j:=i) rfl rfl om rfl (nW ?_);have hu:us[i]=false:=by
     rw[Qn,Ne,hat i hi,<-Bb,hy];exactλh=>by cases h.1
    refine lS (f:=hR) (j:=i) (v:=us[i]) rfl rfl om rfl (by rw[hu];rfl) ?_;rw[hst];refine nW ?_;exact a7 rfl
  rintro _ rfl;refine nW ?_;have aAc:=M3 hlen (i:=i+1) om;refine bU (f:=hR) (j:=i) rfl rfl om rfl (nW ?_);have hg:(fill us (i+1))[i]'om=us[i]:=by
   have:(fill us (i+1))[i]?=some us[i]:=by rw[<-hst,G4 om]
   rw[cW om]at this;exact pf this
  refine eb (f:=hR) (j:=i) rfl rfl om rfl rfl (nW ?_);rw[hg];have fI:us.take (i+1)=us.take i++[us[i]]:=gW hi;refine bZ (λhy=>?_) (λhy=>?_)
  .have hy:us[i]=true:=hy;refine cm (i:=(us.take i).count true) rfl om (nW ?_);refine a7 ?_;rw[fI,hy,Qo];rfl
  .have hy:us[i]=false:=hy;refine a7 ?_;rw[fI,hy,Qo];rfl
 rintro _ rfl;refine nW ?_;refine cm (i:=i) rfl om (nW ?_);refine a7 ⟨⟨i+1,rfl,om⟩,?_⟩;show 6- ((i+1:Nat):Int).toNat<6-i;omega
theorem asv(a g r n)(m4 m5 m6 m7 m8 m9 m10)(h0:0<=n)(h1:n<=1048576)(fs)(hf:fs.length=6)(hv)(hh:hv.length=6)(sk)(hs:sk.length<=6):
 Mx [.i a,.i g,.i r,.i n,m4,m5,m6,m7,m8,m9,m10,.r (fs.map fR),.r (hv.map hR),.r (sk.map kR)]=some [.r ((iy fs hv sk n).map hR)]:=by
 obtain⟨us,gP⟩:∃us,iy fs hv sk n=us:=⟨_,rfl⟩
 have hlen:us.length=6:=by rw[<-gP];rfl
 have hat:∀i(h:i<us.length),us[i]=true↔hv.getD i false=true/\i∉sk/\((fs.getD i []).length:Int)=i_ n:=λi h=>by subst gP;rw[Jq h];unfold xJ;rw[dj]
 rw[gP];refine bN ?_;refine nu (r:=List.replicate 6 (hR false)) (by try dsimp only[At.ev,d1,d2,d3,d4,d5,d6,d7,d8,d9,e0,List.map,cH,Kd.pv];exact⟨dc,dc,dc⟩) rfl (nW ?_);refine bE (λxs=>xs=[.r (us.map hR)]) ?_ ?_;rotate_left
 .rintro _ rfl;refine nW ?_;exact a7 rfl
 refine wp_loop (I:=λx=>∃i:Nat,x=[.i i,.r ((fill us i).map hR)]/\i<=6) (mu:=λx=>match x with|[.i i,_]=>6-i.toNat|_=>0) ⟨0,rfl,om⟩ ?_;rintro x ⟨i,rfl,e1⟩;have uU:=M3 hlen e1;refine uR ?_;refine bG rfl (λhc=>?_) (λhc=>?_);rotate_left
 .obtain rfl:i=6:=om;refine a7 ?_;show[L.r ((fill us 6).map hR)]=_;rw[VV hlen]
 have hi:i<us.length:=om;have hst:((fill us i).set i us[i])=fill us (i+1):=V' hlen om hi;have o7:(fs[i]'om)=fs.getD i []:=FH _;have Bb:(hv[i]'om)=hv.getD i false:=FH _;refine bE (λxs=>xs=[.r ((fill us (i+1)).map hR)]) ?_ ?_
 .refine bE (λxs=>∃t:Bool,xs=[.r (((fill us i).set i t).map hR)]/\(t=true↔hv.getD i false=true/\((fs.getD i []).length:Int)=i_ n)) ?_ ?_
  .refine bU (f:=hR) (j:=i) rfl rfl om rfl (uR ?_);refine bZ (λhy=>?_) (λhy=>?_)
   .refine bU (f:=fR) (j:=i) rfl rfl om rfl (uR ?_);refine bu (anR n h0 h1) rfl rfl (uR ?_);refine bU (f:=hR) (j:=i) rfl rfl om rfl (nW ?_);refine lS (f:=hR) (j:=i) (v:=decide (((((fs[i]'om).map b1).length:Nat):Int)=i_ n)) rfl rfl om rfl rfl (nW ?_);exact a7 ⟨_,rfl,by rw[dj,bC,o7,<-Bb];exact⟨λh=>⟨hy,h⟩,λh=>h.2⟩⟩
   .have hy:hv[i]'om=false:=hy;refine bU (f:=hR) (j:=i) rfl rfl om rfl (nW ?_);refine lS (f:=hR) (j:=i) (v:=false) rfl rfl om rfl rfl (nW ?_);exact a7 ⟨_,rfl,by rw[<-Bb,hy];exact⟨λh=>(by cases h),λh=>(by cases h.1)⟩⟩
  rintro _ ⟨t,rfl,ht⟩;refine nW ?_;refine wp_loop (I:=λx=>∃(j:Nat)(u:Bool),x=[.i j,.r (((fill us i).set i u).map hR)]/\j<=sk.length/\(u=true↔t=true/\i∉sk.take j)) (mu:=λx=>match x with|[.i j,_]=>sk.length-j.toNat|_=>0) ⟨0,t,rfl,om,by simp⟩ ?_;rintro x ⟨j,u,rfl,e2,hu⟩;have AX:((fill us i).set i u).length=6:=by rw[G2];exact uU
  have hg:((fill us i).set i u)[i]'om=u:=List.getElem_set_self _;refine uR ?_;refine bG rfl (λhy=>?_) (λhy=>?_);rotate_left
  .rw[bC]at hy;refine a7 ?_;show[L.r _]=[L.r _]
   rw[<-hst,show us[i]=u by
    rw[hZ,hat i hi,hu,ht,gX om];exact⟨λh=>⟨⟨h.1,h.2.2⟩,h.2.1⟩,λh=>⟨h.1.1,h.2,h.1.2⟩⟩]
  rw[bC]at hy;have hj:j<sk.length:=om;have fI:sk.take (j+1)=sk.take j++[sk[j]]:=gW hj;refine bE (λxs=>∃v:Bool,xs=[.r (((fill us i).set i v).map hR)]/\(v=true↔t=true/\i∉sk.take (j+1))) ?_ ?_
  .refine bU (f:=hR) (j:=i) rfl rfl om rfl (nW ?_);refine eb (f:=hR) (j:=i) rfl rfl om rfl rfl (nW ?_);rw[hg];refine bZ (λhz=>?_) (λhz=>?_)
   .refine bU (f:=kR) (j:=j) rfl rfl hj rfl (uR ?_);refine bU (f:=hR) (j:=i) rfl rfl om rfl (nW ?_);refine lS (f:=hR) (j:=i) (v:=decide (((sk[j]:Nat):Int)≠(i:Int))) rfl rfl om rfl rfl ?_;rw[Qp];refine nW ?_;refine a7 ⟨_,rfl,?_⟩;rw[dj,fI,fo,fO,not_or];have:=hu.1 hz;exact⟨λh=>⟨this.1,this.2,λh'=>h (by rw[<-h'])⟩,λh h'=>h.2.2 (Qm.1 h').symm⟩
   .refine bU (f:=hR) (j:=i) rfl rfl om rfl (nW ?_);refine lS (f:=hR) (j:=i) (v:=false) rfl rfl om rfl rfl ?_;rw[Qp];refine nW ?_;refine a7 ⟨_,rfl,?_⟩;rw[fI,fo,not_or];exact⟨λh=>(by cases h),λh=>by rw[hu.2 ⟨h.1,h.2.1⟩]at hz;cases hz⟩
  rintro _ ⟨v,rfl,hv'⟩;refine nW ?_;refine cm (i:=j) rfl om (nW ?_);refine a7 ⟨⟨j+1,v,rfl,om,hv'⟩,?_⟩;show sk.length- ((j+1:Nat):Int).toNat<sk.length-j;omega
 rintro _ rfl;refine nW ?_;refine cm (i:=i) rfl om (nW ?_);refine a7 ⟨⟨i+1,rfl,om⟩,?_⟩;show 6- ((i+1:Nat):Int).toNat<6-i;omega
end
section
open Go.RowKit AI
def mD(a b:Nat):Nat->Nat
 |0=>0
 |k+1=>if(b>>>k)%2=1 then mD a b k^^^ (a<<<k)else mD a b k
def jx(p:Nat):Nat->Nat
 |0=>p
 |n+1=>if(jx p n>>> (14-n))%2=1 then jx p n^^^ (285<<< (6-n))else jx p n
def gm(a b:Nat):Nat:=jx (mD a b 8) 7%256
theorem LH{a b:Nat}(d:a<256):∀k,k<=8->mD a b k<2^15
 |0,_=>by show 0<2^15;decide
 |k+1,h=>by
  have c:=LH (b:=b) d k om;unfold mD;split
  .refine BC c ?_;have:2^k<=2^7:=G5 dc om;have:a*2^k<=255*2^7:=Qd om this;omega
  .exact c
theorem W0{p:Nat}(hp:p<2^15):∀n,n<=7->jx p n<2^15
 |0,_=>hp
 |n+1,h=>by
  have a:=W0 hp n om;unfold jx;split
  .refine BC a ?_;have:2^ (6-n)<=2^6:=G5 dc om;omega
  .exact a
theorem HK(a b):gm a b<256:=Nat.mod_lt _ dc
theorem zR{p n}(h:(List.range n).all p=true){i}(a:i<n):p i=true:=cj.1 h i (jZ.2 a)
theorem Ta{b}(h:b<256):gm 0 b=0:=pg (zR (p:=λb=>Nat.beq (gm 0 b) 0) (n:=256) kr h)
theorem apP{b}(h:b<256):gm 1 b=b:=pg (zR (p:=λb=>Nat.beq (gm 1 b) b) (n:=256) kr h)
theorem ais{b}(h:b<256):gm b 0=0:=pg (zR (p:=λb=>Nat.beq (gm b 0) 0) (n:=256) kr h)
theorem MD{x k:Nat}(h:k<=62)(a:x*2^k<=4611686018427387904):cw .shl .i64 (x:Int) (k:Int)=some (.i ((x<<<k:Nat):Int)):=by
 show(if 0<=(k:Int)then some (L.i (IntKind.wrap .i64 ((x:Int)*2^ (min (k:Int).toNat IntKind.i64.bits))))else none)=_;rw[bF om,fM,u7 (show k<=IntKind.i64.bits by show k<=64;omega),adn];have e:(x:Int)*2^k=((x*2^k:Nat):Int):=by rfl
 rw[e,wrap64 om om]
theorem ofInt8{x:Nat}(h:x<256):(BitVec.ofInt 8 (x:Int)).toNat=x:=by rw[Bz];omega
theorem ofInt64{x:Nat}(h:x<4611686018427387904):(BitVec.ofInt 64 (x:Int)).toNat=x:=by rw[Bz];omega
theorem yc{x:Nat}(h:x<256):IntKind.wrap .u8 (x:Int)=x:=rn .u8 (by simp[IntKind.min,IntKind.signed]) (by simp[IntKind.max,IntKind.signed,IntKind.bits];omega)
theorem XY{a b:Nat}(c:a<256)(d:b<256):cw .xor .u8 (a:Int) (b:Int)=some (.i ((a^^^b:Nat):Int)):=by
 show some (L.i (IntKind.wrap .u8 ((BitVec.ofInt 8 (a:Int) ^^^BitVec.ofInt 8 (b:Int)).toNat:Int)))=_;rw[BitVec.toNat_xor,ofInt8 c,ofInt8 d,yc (BC (n:=8) c d)]
theorem EY{a b:Nat}(c:a<2^15)(d:b<2^15):cw .xor .i64 (a:Int) (b:Int)=some (.i ((a^^^b:Nat):Int)):=by
 have:=BC c d;show some (L.i (IntKind.wrap .i64 ((BitVec.ofInt 64 (a:Int) ^^^BitVec.ofInt 64 (b:Int)).toNat:Int)))=_;rw[BitVec.toNat_xor,ofInt64 om,ofInt64 om,wrap64 om om]
theorem Zv{a:Nat}(b:a<256):cw .and .u8 (a:Int) 1=some (.i ((a%2:Nat):Int)):=by
 show some (L.i (IntKind.wrap .u8 ((BitVec.ofInt 8 (a:Int)&&&BitVec.ofInt 8 ((1:Nat):Int)).toNat:Int)))=_;rw[adi,ofInt8 b,ofInt8 dc,Nat.and_one_is_mod,yc om]
theorem afa{a:Nat}(b:a<2^15):cw .and .i64 (a:Int) 1=some (.i ((a%2:Nat):Int)):=by
 show some (L.i (IntKind.wrap .i64 ((BitVec.ofInt 64 (a:Int)&&&BitVec.ofInt 64 ((1:Nat):Int)).toNat:Int)))=_;rw[adi,ofInt64 om,ofInt64 dc,Nat.and_one_is_mod,wrap64 om om]
def eP(c:Nat)(d s:List Nat):List Nat:=List.zipWith (λx y=>x^^^gm c y) d s
theorem Ao{c d s}(h:d.length=s.length):(eP c d s).length=s.length:=by unfold eP;rw[List.length_zipWith];omega
theorem xZ{c d s i}(h)(a:i<d.length)(b:i<s.length):(eP c d s)[i]=d[i] ^^^gm c s[i]:=by simp only[eP,List.getElem_zipWith]
theorem ahq{c d s}(b:B8 d):B8 (eP c d s):=λx e=>by
 obtain⟨i,a,rfl⟩:=iE e;have h:i<d.length/\i<s.length:=by unfold eP at a;rw[List.length_zipWith]at a;omega
 rw[xZ a h.1 h.2];exact BC (n:=8) (b _ (cT h.1)) (HK _ _)
def jP(o d:List Nat)(i:Nat):List Nat:=o.take i++d.drop i
theorem ahG{o d}(h:o.length=d.length)(i):(jP o d i).length=d.length:=by unfold jP;rw[ez,eA,iw];omega
theorem Qy{o d}(h:o.length=d.length){i}(a)(b):(jP o d i)[i]=d[i]:=by
 have e:(jP o d i)[i]?=some d[i]:=by
  unfold jP;rw[nV (by rw[eA];omega),pb,eA,show i+(i-min i o.length)=i by omega,cW a]
 rw[cW b]at e;exact pf e
theorem St{o d}(h:o.length=d.length){i}(a:i<d.length){v}(b:v=o[i]'om):(jP o d i).set i v=jP o d (i+1):=by
 unfold jP;rw[List.set_append_right _ _ (by rw[eA];omega),gW om,eU,eA];rw[show i-min i o.length=0 by omega,sA a,ado,b];rfl
theorem adO{o d}(h:o.length=d.length):jP o d d.length=o:=by unfold jP;rw[gX om,List.drop_length,ju]
def hU(c:Nat):Nat:=cond (Nat.blt (vH.getD c 0) 255) (vH.getD c 0) 0
def zZ(n:Nat):Nat:=(la++la).getD n 0
theorem N4(c):hU c<255:=by
 unfold hU
 cases h:Nat.blt (vH.getD c 0) 255 with
 |true=>exact G6 h
 |false=>exact(by decide:0<255)
theorem Zh{c}(h:c<256):wD[c]?=some (.i (hU c:Nat)):=by
 have a:vH.length=256:=kr;unfold wD hU;rw[cN,sE,cW om];rfl
theorem aeN{n}(h:n<510):Ah[n]?=some (.i (zZ n:Nat)):=by
 have a:(la++la).length=510:=kr;unfold Ah zZ;rw[cN,sE,cW om];rfl
def EM(c:Nat):List Nat->List Nat->Bool
 |a::l,b::m=>Nat.beq a (gm c b)&&EM c l m
 |_,[]=>true
 |[],_=>false
def uk(c:Nat):Bool:=EM c ((la++la).drop (hU c)) la
theorem We{c:Nat}:∀{l m:List Nat},EM c l m=true->∀{n:Nat},n<m.length->l.getD n 0=gm c (m.getD n 0)
 |a::l,b::m,h,n,d=>by
  rw[EM,cd]at h
  cases n with
  |zero=>exact pg h.1
  |succ n=>exact We (l:=l) (m:=m) h.2 (by simpa using d)
 |[],[],_,n,d=>absurd d (sD _)
 |_::_,[],_,n,d=>absurd d (sD _)
 |[],_::_,h,_,_=>by cases h
theorem aeO{y}(h:y<256)(a:y≠0):la.getD (hU y) 0=y:=by
 have:=zR (p:=λy=>Nat.beq y 0||Nat.beq (la.getD (hU y) 0) y) (n:=256) kr h;rw[qu]at this;rcases this with h|h
 .exact absurd (pg h) a
 .exact pg h
theorem awt{c y}(h:uk c=true)(b:y<256)(d:y≠0):zZ (hU c+hU y)=gm c y:=by
 have e:la.length=255:=kr;have a:=We h (n:=hU y) (by have:=N4 y;omega);rw[aeO b d]at a;rw[<-a];unfold zZ;rw[sE,sE,pb]
end
section
open Go.RowKit AI
attribute [local irreducible] a8.wp
theorem I0{a b:Nat}(ha:a<256)(hb:b<256):pW [.i a,.i b]=some [.i (gm a b:Nat)]:=by
 refine bN ?_;refine bE (λxs=>xs=[.i (mD a b 8:Nat)]) ?_ ?_
 .refine wp_loop (I:=λx=>∃k:Nat,x=[.i (mD a b k:Nat),.i k]/\k<=8) (mu:=λx=>match x with|[_,.i k]=>8-k.toNat|_=>0) ⟨0,rfl,om⟩ ?_;rintro x ⟨k,rfl,e1⟩;refine uR ?_;refine bG rfl (λhc=>?_) (λhc=>?_);rotate_left
  .obtain rfl:k=8:=om;exact a7 rfl
  have hp:=LH (b:=b) ha k e1;refine bE (λxs=>xs=[.i (mD a b (k+1):Nat)]) ?_ ?_
  .refine qe (n:=(k:Int)) rfl om om (nW ?_);refine cP (l:=.i ((b>>>k:Nat):Int)) (yv (show k<=8 by omega)) (nW ?_);refine cP (l:=.i ((b>>>k%2:Nat):Int)) (Zv (Nat.lt_of_le_of_lt (Nat.shiftRight_le _ _) hb)) (uR ?_);refine bG rfl (λhx=>?_) (λhx=>?_)
   .refine od (n:=(a:Int)) rfl om om (nW ?_);refine qe (n:=(k:Int)) rfl om om (nW ?_);have h2:2^k<=2^7:=G5 dc om;have h3:a*2^k<=255*2^7:=Qd om h2;refine cP (l:=.i ((a<<<k:Nat):Int)) (MD om om) (nW ?_);refine cP (l:=.i ((mD a b k^^^ (a<<<k):Nat):Int)) (EY hp om) (nW ?_);refine a7 ?_;show[L.i _]=[L.i _]
    rw[mD,bF om]
   .refine a7 ?_;show[L.i _]=[L.i _]
    rw[mD,bO om]
  rintro _ rfl;refine nW ?_;refine cm (i:=k) rfl om (nW ?_);refine a7 ⟨⟨k+1,rfl,om⟩,?_⟩;show 8- ((k+1:Nat):Int).toNat<8-k;omega
 rintro _ rfl;refine nW ?_;have hq:=LH (b:=b) ha 8 om;obtain⟨p,Bc⟩:∃p,mD a b 8=p:=⟨_,rfl⟩
 unfold gm;rw[Bc]at hq⊢;refine bE (λxs=>xs=[.i (jx p 7:Nat)]) ?_ ?_
 .refine wp_loop (I:=λx=>∃n:Nat,x=[.i (jx p n:Nat),.i ((14:Int) -n)]/\n<=7) (mu:=λx=>match x with|[_,.i k]=>k.toNat-7|_=>0) ⟨0,rfl,om⟩ ?_;rintro x ⟨n,rfl,e1⟩;refine uR ?_;refine bG rfl (λhc=>?_) (λhc=>?_);rotate_left
  .obtain rfl:n=7:=om;exact a7 rfl
  have hp:=W0 hq n e1;have e14:(14:Int) -n=((14-n:Nat):Int):=om;refine bE (λxs=>xs=[.i (jx p (n+1):Nat)]) ?_ ?_
  .refine qe (n:=((14-n:Nat):Int)) e14 om om (nW ?_);refine cP (l:=.i ((jx p n>>> (14-n):Nat):Int)) (yv (show 14-n<=64 by omega)) (nW ?_);refine cP (l:=.i ((jx p n>>> (14-n)%2:Nat):Int)) (afa (Nat.lt_of_le_of_lt (Nat.shiftRight_le _ _) hp)) (uR ?_);refine bG rfl (λhx=>?_) (λhx=>?_)
   .refine dk (n:=((6-n:Nat):Int)) oO om om (nW ?_);refine qe (n:=((6-n:Nat):Int)) rfl om om (nW ?_);have h2:2^ (6-n)<=2^6:=G5 dc om;refine cP (l:=.i ((285<<< (6-n):Nat):Int)) (MD (x:=285) om om) (nW ?_);refine cP (l:=.i ((jx p n^^^ (285<<< (6-n)):Nat):Int)) (EY hp om) (nW ?_);refine a7 ?_;show[L.i _]=[L.i _]
    rw[jx,bF om]
   .refine a7 ?_;show[L.i _]=[L.i _]
    rw[jx,bO om]
  rintro _ rfl;refine nW ?_;refine dk (n:=(14:Int) - ((n+1:Nat):Int)) oO om om (nW ?_);refine a7 ⟨⟨n+1,rfl,om⟩,?_⟩;show((14:Int) - ((n+1:Nat):Int)).toNat-7< ((14:Int) - (n:Int)).toNat-7;omega
 rintro _ rfl;refine nW ?_;refine pN (n:=((jx p 7%256:Nat):Int)) (by
  show IntKind.wrap .u8 ((jx p 7:Nat):Int)=_;simp[IntKind.wrap,IntKind.bits,IntKind.signed]) ?_
 refine nW ?_;exact a7 rfl
theorem X1{c:Nat}(hc:c<256)(d s)(hd:B8 d)(hs:B8 s)(hl:d.length=s.length)(hn:s.length<=4294967296):qD [.r (d.map b1),.r (s.map b1),.i c]=some [.i 0,.r ((eP c d s).map b1)]:=by
 refine bN ?_;refine uR ?_;refine db rfl (by rw[bC,bC];omega) ?_;obtain⟨o,ho⟩:∃o,eP c d s=o:=⟨_,rfl⟩
 have sg:o.length=s.length:=by rw[<-ho];exact Ao hl
 have qm:∀i(h:i<o.length)(h1:i<d.length)(h2:i<s.length),o[i]=d[i] ^^^gm c s[i]:=by subst ho;exactλi h h1 h2=>xZ h h1 h2
 rw[ho];refine bE (λxs=>xs=[.r (o.map b1)]) ?_ ?_;rotate_left
 .rintro _ rfl;refine nW ?_;exact a7 rfl
 refine wp_loop (I:=λx=>∃i:Nat,x=[.i i,.r ((o.take i).map b1)]/\i<=o.length) (mu:=λx=>match x with|[.i i,_]=>o.length-i.toNat|_=>0) ⟨0,rfl,om⟩ ?_;rintro x ⟨i,rfl,e1⟩;refine uR ?_;refine bG rfl (λhc'=>?_) (λhc'=>?_);rotate_left
 .rw[bC]at hc';refine a7 ?_;show[L.r ((o.take i).map b1)]=_;rw[gX om]
 rw[bC]at hc';have hi:i<d.length:=om;refine bU (f:=b1) (j:=i) rfl rfl hi rfl (uR ?_);refine bU (f:=b1) (j:=i) rfl rfl (show i<s.length by omega) rfl (uR ?_);refine bu (I0 hc (hs _ (cT (show i<s.length by omega)))) rfl rfl (nW ?_);refine cP (l:=.i ((o[i]'om:Nat):Int)) (by rw[qm i om hi om];exact XY (hd _ (cT hi)) (HK _ _)) (uR ?_);refine fa (r:=(o.take (i+1)).map b1) (lO _) rfl oO oO dc (by rw[gW om,eB];rfl) (nW ?_);refine cm (i:=i) rfl om (nW ?_);refine a7 ⟨⟨i+1,rfl,om⟩,?_⟩;show o.length- ((i+1:Nat):Int).toNat<o.length-i;omega
theorem agn:vD []=some []:=rfl
theorem afS{c}(hc:c<256)(ht:c=0\/uk c=true)(d s)(hd:B8 d)(hs:B8 s)(hl:d.length=s.length)(hn:s.length<=4294967296):OB [.r (d.map b1),.r (s.map b1),.i c]=some [.i 0,.r ((eP c d s).map b1)]:=by
 refine bN ?_;refine uR ?_;refine db rfl (by rw[bC,bC];omega) ?_;refine bu agn rfl rfl (nW ?_);refine fa (r:=d.map b1) rfl (lO _) oO oO dc rfl (nW ?_);obtain⟨o,ho⟩:∃o,eP c d s=o:=⟨_,rfl⟩
 have sg:o.length=s.length:=by rw[<-ho];exact Ao hl
 have qm:∀i(h:i<o.length)(h1:i<d.length)(h2:i<s.length),o[i]=d[i] ^^^gm c s[i]:=by subst ho;exactλi h h1 h2=>xZ h h1 h2
 rw[ho];have xv:o.length=d.length:=om;refine bE (λxs=>xs=[.r (o.map b1)]) ?_ ?_;rotate_left
 .rintro _ rfl;refine nW ?_;exact a7 rfl
 refine uR ?_;refine wp_loop (I:=λx=>∃i:Nat,x=[.i i,.r ((jP o d i).map b1)]/\i<=o.length) (mu:=λx=>match x with|[.i i,_]=>o.length-i.toNat|_=>0) ⟨0,rfl,om⟩ ?_;rintro x ⟨i,rfl,e1⟩;have xu:=ahG xv i;refine uR ?_;refine bG rfl (λhc'=>?_) (λhc'=>?_);rotate_left
 .rw[bC]at hc';obtain rfl:i=d.length:=om;refine a7 ?_;show[L.r ((jP o d d.length).map b1)]=_;rw[adO xv]
 rw[bC]at hc';have hi:i<d.length:=om;have Py:i<s.length:=om;have hy:=hs _ (cT Py);have hdx:=hd _ (cT hi);refine bE (λxs=>xs=[.r ((jP o d (i+1)).map b1)]) ?_ ?_
 .refine bU (f:=b1) (j:=i) rfl rfl Py rfl (uR ?_);have Gt:=qm i om hi Py;refine bE (cI (c≠0/\s[i]≠0)) ?_ ?_
  .refine uR ?_;refine bG rfl (λhx=>?_) (λhx=>?_)
   .refine uR ?_;exact a7 (d' om)
   .exact a7 (d_ om)
  rintro _ ⟨t,rfl,hT⟩;refine nW ?_;refine bZ (λhz=>?_) (λhz=>?_)
  .have hz:=hT.1 hz;refine bU (f:=b1) (j:=i) rfl rfl om rfl (nW ?_);refine eb (f:=b1) (j:=i) rfl rfl om rfl rfl ?_;rw[Qy xv hi];refine nW ?_;refine lD ⟨by show(0:Int)<=(c:Int);omega,by show(c:Int)<256;omega⟩ (nW ?_);refine vE (x:=.i (hU c:Nat)) (Zh hc) (nW ?_);refine lD ⟨by show(0:Int)<=(s[i]:Int);omega,by show(s[i]:Int)<256;omega⟩ (nW ?_);refine vE (x:=.i (hU s[i]:Nat)) (Zh hy) (nW ?_);have h1:=N4 c;have h2:=N4 s[i];refine c_ (n:=((hU c+hU s[i]:Nat):Int)) rfl om om (nW ?_);refine lD ⟨by show(0:Int)<=((hU c+hU s[i]:Nat):Int);omega,by show((hU c+hU s[i]:Nat):Int)<510;omega⟩ (nW ?_);refine vE (x:=.i (zZ (hU c+hU s[i]):Nat)) (aeN (n:=hU c+hU s[i]) om) ?_;rw[awt (ht.resolve_left hz.1) hy hz.2];refine nW ?_;refine cP (l:=.i ((d[i] ^^^gm c s[i]:Nat):Int)) (XY hdx (HK _ _)) (nW ?_);refine bU (f:=b1) (j:=i) rfl rfl om rfl (nW ?_);refine lS (f:=b1) (j:=i) (v:=d[i] ^^^gm c s[i]) rfl rfl om rfl rfl ?_;rw[St xv hi Gt.symm];refine nW ?_;exact a7 rfl
  .have hz:¬(c≠0/\s[i]≠0):=λh=>by rw[hT.2 h]at hz;cases hz
   have hg:gm c s[i]=0:=by
    by_cases h0:c=0
    .rw[h0,Ta hy]
    .rw[show s[i]=0 by omega,ais hc]
   refine a7 ?_;show[L.r ((jP o d i).map b1)]=_;rw[<-St xv hi (v:=d[i]) (by rw[Gt,hg,Nat.xor_zero])];rw[show(jP o d i).set i d[i]=jP o d i by
    rw[<-Qy xv hi om];exact List.set_getElem_self _]
 rintro _ rfl;refine nW ?_;refine cm (i:=i) rfl om (nW ?_);refine a7 ⟨⟨i+1,rfl,om⟩,?_⟩;show o.length- ((i+1:Nat):Int).toNat<o.length-i;omega
def wh(a:Nat):Nat->Nat->Option Nat
 |0,_=>none
 |n+1,b=>cond (Nat.beq (gm a b) 1) (some b) (wh a n (b+1))
def Sd(o:Option Nat):List L:=match o with|some b=>[.i (b:Nat),.i 0]|none=>[.i 0,.i 1]
theorem afX{a:Nat}(ha:a<256):D7 [.i a]=some (Sd (wh a 255 1)):=by
 obtain⟨o,ho⟩:∃o,wh a 255 1=o:=⟨_,rfl⟩
 rw[ho];refine bN ?_;refine bE (λxs=>xs=[]/\o=none) ?_ ?_;rotate_left
 .rintro _ ⟨rfl,rfl⟩;refine nW ?_;exact a7 rfl
 refine wp_loop (I:=λx=>∃i:Nat,x=[.i i]/\i<=256/\1<=i/\wh a (256-i) i=o) (mu:=λx=>match x with|[.i i]=>256-i.toNat|_=>0) ⟨1,rfl,om,om,ho⟩ ?_;rintro x ⟨i,rfl,e1,e0,e2⟩;refine uR ?_;refine bG rfl (λhc=>?_) (λhc=>?_);rotate_left
 .obtain rfl:i=256:=om;exact a7 ⟨rfl,e2.symm⟩
 have hi:i<256:=om;rw[show 256-i=(255-i)+1 by omega,wh]at e2;refine pN (n:=(i:Int)) (yc hi) (nW ?_);refine bu (I0 ha hi) rfl rfl (uR ?_);refine bG rfl (λhx=>?_) (λhx=>?_)
 .have hx:gm a i=1:=om;rw[hx]at e2;refine pN (n:=(i:Int)) (yc hi) (nW ?_);refine a7 ?_;rw[<-e2];rfl
 .have hx:Nat.beq (gm a i) 1=false:=by rw[Qn];exactλh=>hx (by rw[pg h];rfl)
  rw[hx]at e2;refine cm (i:=i) rfl om (nW ?_);refine a7 ⟨⟨i+1,rfl,om,om,?_⟩,?_⟩
  .rw[show 256- (i+1)=255-i by omega];exact e2
  .show 256- ((i+1:Nat):Int).toNat<256-i;omega
def td(x:Nat):Nat:=if x*2/256=1 then(x*2) ^^^285 else x*2
def pm:Nat->Nat->Nat->Nat->Nat
 |0,_,_,_=>0
 |n+1,b,p,x=>if b=0 then p else pm n (b/2) (if b%2=1 then p^^^x else p) (td x)
theorem apy{x}(h:x<256):td x<256:=by
 have:∀x,x<256->td x<256:=λx h=>G6 (zR (p:=λx=>Nat.blt (td x) 256) (n:=256) kr h)
 exact this x h
theorem aoS{a b:Nat}(ha:a<256)(hb:b<256):vT [.i a,.i b]=some [.i (pm 9 b 0 a:Nat)]:=by
 obtain⟨o,ho⟩:∃o,pm 9 b 0 a=o:=⟨_,rfl⟩
 rw[ho];refine bN ?_;refine od (n:=(a:Int)) rfl om om (nW ?_);refine bE (λxs=>xs=[.i (o:Nat)]/\o<256) ?_ ?_;rotate_left
 .rintro _ ⟨rfl,h⟩;refine nW ?_;refine pN (n:=(o:Int)) (yc h) (nW ?_);exact a7 rfl
 refine wp_loop (I:=λy=>∃n b p x:Nat,y=[.i b,.i p,.i x]/\b<2^n/\n<=8/\p<256/\x<256/\pm (n+1) b p x=o) (mu:=λy=>match y with|[.i b,_,_]=>b.toNat|_=>0) ⟨8,b,0,a,rfl,hb,om,om,ha,ho⟩ ?_;rintro y ⟨n,b,p,x,rfl,hb,hn,hp,hx,e⟩;have hb8:b<256:=mO hb (G5 dc hn);refine uR ?_;refine bG rfl (λhc=>?_) (λhc=>?_);rotate_left
 .obtain rfl:b=0:=om;refine a7 ⟨?_,?_⟩
  .show[L.i (p:Int)]=[L.i (o:Int)]
   rw[<-e,pm,bF rfl]
  .rw[<-e,pm,bF rfl];exact hp
 rw[pm,bO om]at e;have hxp:=BC (n:=8) hp hx;refine bE (λxs=>xs=[.i ((if b%2=1 then p^^^x else p:Nat):Int),.i (td x:Nat)]) ?_ ?_
 .refine bE (λxs=>xs=[.i ((if b%2=1 then p^^^x else p:Nat):Int)]) ?_ ?_
  .refine cP (l:=.i ((b%2:Nat):Int)) (Zv hb8) (uR ?_);refine bG rfl (λhy=>?_) (λhy=>?_)
   .refine cP (l:=.i ((p^^^x:Nat):Int)) (EY om om) (nW ?_);refine a7 ?_;show[L.i _]=[L.i _]
    rw[bF om]
   .refine a7 ?_;show[L.i _]=[L.i _]
    rw[bO om]
  rintro _ rfl;refine nW ?_;refine cP (l:=.i ((x*2:Nat):Int)) ((MD (x:=x) (k:=1) om om).trans (by rw[adn])) (nW ?_);refine cP (l:=.i ((x*2/256:Nat):Int)) ((yv (x:=x*2) (k:=8) dc).trans (by rw[Qe])) (uR ?_);refine bG rfl (λhy=>?_) (λhy=>?_)
  .refine cP (l:=.i (((x*2) ^^^285:Nat):Int)) (EY (a:=x*2) (b:=285) om om) (nW ?_);refine a7 ?_;show[L.i _,L.i _]=[L.i _,L.i _]
   rw[show td x=(x*2) ^^^285 from bF om]
  .refine a7 ?_;show[L.i _,L.i _]=[L.i _,L.i _]
   rw[show td x=x*2 from bO om]
 rintro _ rfl;refine nW ?_;refine cP (l:=.i ((b/2:Nat):Int)) ((yv (x:=b) (k:=1) dc).trans (by rw[Qe])) (nW ?_);refine a7 ⟨?_,?_⟩
 .match n,hb,e with
  |0,hb,_=>exact absurd hb om
  |n+1,hb,e=>exact⟨n,b/2,_,_,rfl,om,om,by split<;>omega,apy hx,e⟩
 .show((b/2:Nat):Int).toNat<b;omega
end
section
open Go.RowKit
section
variable{α:Type}
def BX(n:Int)(k:Int->α):α:=match n with
 |.ofNat 0=>k (.ofNat 0)
 |.ofNat (m+1)=>k (.ofNat (m+1))
 |.negSucc m=>k (.negSucc m)
def yb:List PV->(List PV->α)->α
 |.sc (.int a n)::r,k=>BX n λn=>yb r λr=>k (.sc (.int a n)::r)
 |p::r,k=>yb r λr=>k (p::r)
 |[],k=>k []
def F3:List (List PV)->(List (List PV)->α)->α
 |a::r,k=>yb a λa=>F3 r λr=>k (a::r)
 |[],k=>k []
def K7(x:L)(k:L->α):α:=match x with
 |.i n=>BX n λn=>k (.i n)
 |.b true=>k (.b true)
 |.b false=>k (.b false)
 |.r rows=>F3 rows λrows=>k (.r rows)
 |x=>k x
def vg:List L->(List L->α)->α
 |a::r,k=>K7 a λa=>vg r λr=>k (a::r)
 |[],k=>k []
def xh:List L->List L->(List L->α)->α
 |a::r,m,k=>xh r m λr=>k (a::r)
 |[],m,k=>k m
theorem Xl(n)(k:Int->α):BX n k=k n:=by
 unfold BX;split<;>rfl
theorem HV:∀(r:List PV)(k:List PV->α),yb r k=k r
 |[],_=>rfl
 |p::r,k=>by
  unfold yb;split
  .rename_i h;cases h;rw[Xl,HV]
  .rename_i h;cases h;rw[HV]
  .rename_i h;cases h
theorem aal:∀(r:List (List PV))(k:List (List PV)->α),F3 r k=k r
 |[],_=>rfl
 |a::r,k=>by rw[F3,HV,aal]
theorem aih(x)(k:L->α):K7 x k=k x:=by
 unfold K7;split
 .rw[Xl]
 .rfl
 .rfl
 .rw[aal]
 .rfl
theorem Gq:∀(r:List L)(k:List L->α),vg r k=k r
 |[],_=>rfl
 |a::r,k=>by rw[vg,aih,Gq]
theorem EF:∀(a m:List L)(k:List L->α),xh a m k=k (a++m)
 |[],_,_=>rfl
 |x::a,m,k=>by rw[xh,EF];rfl
end
abbrev GT:=Nat->Option (List L->Option (List L))
def Nd.run(tb:GT)(ρ:List L)(nd:Nd):Option (List L):=match nd with
 |.call t _ args n us=>match tb t with
  |some g=>match g (args.map (At.ev ρ))with
   |some l=>if l.length=n/\(us.all λi=>((l[i]?).getD (.b false)).bm.all (·.all PV.bare))=true then some l else none
   |none=>none
  |none=>none
 |nd=>nd.ev ρ
def a8.run(tb:GT)(fuel:Nat):a8->List L->Out
 |.br x,ρ=>some (x,ρ)
 |.op d k,ρ=>match d.run tb ρ with
  |some ls=>vg ls λls=>xh ρ ls λρ=>k.run tb fuel ρ
  |none=>none
 |.ite c a b,ρ=>match(c.ev ρ).ck with
  |true=>a.run tb fuel ρ
  |false=>b.run tb fuel ρ
 |.join body rest,ρ=>match body.run tb fuel ρ with
  |some (.jump 0 args,ρ')=>vg (args.map (At.ev ρ')) λa=>xh ρ a λρ=>rest.run tb fuel ρ
  |some (.jump (k+1) args,ρ')=>some (.jump k args,ρ')
  |r=>r
 |.loop init body,ρ=>fP (λa=>vg a λa=>xh ρ a λρ=>jk (body.run tb fuel ρ)) fuel (init.map (At.ev ρ))
def ny(tb:GT):a8->Prop
 |.br _=>True
 |.op a k=>(match a with| .call t F _ _ _=>∀g,tb t=some g->∀ls o,g ls=some o->F ls=some o|_=>True)/\ny tb k
 |.ite _ x y=>ny tb x/\ny tb y
 |.join x y=>ny tb x/\ny tb y
 |.loop _ y=>ny tb y
theorem Nd.mE{tb ρ}{a:Nd}{ls}(d:match a with| .call t F _ _ _=>∀g,tb t=some g->∀ls o,g ls=some o->F ls=some o|_=>True)(h:a.run tb ρ=some ls):a.ev ρ=some ls:=by
 cases a with
 |call t F args n us=>
  simp only[Nd.run]at h;split at h
  .rename_i g m;split at h
   .rename_i l q;simp only[Nd.ev,d g m _ _ q];exact h
   .cases h
  .cases h
 |_=>exact h
theorem VC{A R f g}(h:∀a x,f a=some x->g a=some x):∀{n}{a:A}{r:R},fP f n a=some r->fP g n a=some r
 |0,_,_,b=>by cases b
 |n+1,a,r,b=>by
  simp only[fP]at b⊢;split at b
  .rename_i d c;rw[h _ _ c];exact VC h b
  .rename_i e c;rw[h _ _ c];exact b
  .cases b
theorem a8.mE{tb:GT}{fuel:Nat}:∀{f:a8}{ρ:List L}{r:Lf×List L},ny tb f->f.run tb fuel ρ=some r->f.a6 ρ=some r
 |.br x,ρ,r,_,h=>h
 |.op D k,ρ,r,d,h=>by
  simp only[a8.run]at h;split at h
  .rename_i ls q;rw[Gq,EF]at h;rw[a8.a6,Nd.mE d.1 q];exact a8.mE d.2 h
  .cases h
 |.ite c a b,ρ,r,d,h=>by
  simp only[a8.run]at h;split at h
  .rename_i t;rw[a8.a6,t];exact a8.mE d.1 h
  .rename_i t;rw[a8.a6,t];exact a8.mE d.2 h
 |.join a b,ρ,r,d,h=>by
  simp only[a8.run]at h;split at h
  .rename_i args ρ' m;rw[Gq,EF]at h;rw[a8.a6,a8.mE d.1 m];exact a8.mE d.2 h
  .rename_i k args ρ' m;rw[a8.a6,a8.mE d.1 m];exact h
  .rename_i u A;have:=a8.mE d.1 h;obtain⟨B,ρ'⟩:=r;rw[a8.a6,this]
   cases B with
   |st=>rfl
   |jump k args=>cases k with
    |zero=>exact absurd h (u _ _)
    |succ k=>exact absurd h (A _ _ _)
 |.loop init body,ρ,r,d,h=>by
  refine C2 (n:=fuel) (VC (λa x o=>?_) h);rw[Gq,EF]at o
  cases m:body.run tb fuel (ρ++a)with
  |none=>rw[m]at o;cases o
  |some y=>rw[m]at o;rw[show body.a6 (ρ++a)=some y from a8.mE (f:=body) (fuel:=fuel) d m];exact o
def nq(tb:GT):List (Nat×(List L->Option (List L)))->Prop
 |[]=>True
 |(t,F)::r=>(∀g,tb t=some g->∀ls o,g ls=some o->F ls=some o)/\nq tb r
theorem nq.left{tb}:∀{a b},nq tb (a++b)->nq tb a
 |[],_,_=>trivial
 |(_,_)::_,_,h=>⟨h.1,h.2.left⟩
theorem nq.right{tb}:∀{a b},nq tb (a++b)->nq tb b
 |[],_,h=>h
 |(_,_)::a,_,h=>nq.right (a:=a) h.2
theorem sa{tb}:∀{f},nq tb (AI.a8.calls f)->ny tb f
 |.br _,_=>trivial
 |.op b k,h=>by
  refine⟨?_,sa h.right⟩
  cases b with
  |call t F a n u=>exact h.left.1
  |_=>trivial
 |.ite _ _ _,h=>⟨sa h.left,sa h.right⟩
 |.join _ _,h=>⟨sa h.left,sa h.right⟩
 |.loop _ y,h=>sa (f:=y) h
theorem X_{tb f cs}(e:AI.a8.calls f=cs)(h:nq tb cs):ny tb f:=sa (by rw[e];exact h)
theorem tbg{tb:GT}{t}{g F:List L->Option (List L)}(e:tb t=some g)(h:∀ls o,g ls=some o->F ls=some o):∀g,tb t=some g->∀ls o,g ls=some o->F ls=some o:=λg' a=>by
 rw[e]at a;cases a;exact h
theorem Rm{tb fuel f}(b:ny tb f):∀ls o,gu (f.run tb fuel ls)=some o->gu (f.a6 ls)=some o:=λls o h=>by
 cases a:f.run tb fuel ls with
 |none=>rw[a]at h;cases h
 |some r=>rw[a]at h;rw[a8.mE b a];exact h
def Ad(l:List (Nat×(List L->Option (List L)))):GT:=λt=>AI.lk l t
theorem ngk{tb:GT}{t}{F:List L->Option (List L)}(e:tb t=none):∀g,tb t=some g->∀ls o,g ls=some o->F ls=some o:=λg a=>by
 rw[e]at a;cases a
def rG(f:a8)(l:List (Nat×(List L->Option (List L)))):List L->Option (List L):=λls=>gu (f.run (Ad l) 40 ls)
abbrev Gk(g F:List L->Option (List L)):Prop:=∀ls o,g ls=some o->F ls=some o
theorem rK{f l}(cs)(h:nq (Ad l) cs)(e:AI.a8.calls f=cs:=by kernel_rfl):Gk (rG f l) (Fo f):=Rm (X_ e h)
structure Gz where
 t:Nat
 g:List L->Option (List L)
 F:List L->Option (List L)
 h:Gk g F
def Gz.look(t:Nat):List Gz->Option Gz
 |[]=>none
 |z::l=>cond (Nat.beq z.t t) (some z) (Gz.look t l)
theorem rZ{f:a8}{E:List Gz}(b:AI.a8.calls f=(AI.a8.calls f).map λc=>(c.1,((Gz.look c.1 E).map Gz.F).getD c.2)):Gk (λls=>gu (f.run (λt=>(Gz.look t E).map Gz.g) 40 ls)) (Fo f):=by
 refine Rm (sa ?_);generalize AI.a8.calls f=l at b
 induction l with
 |nil=>trivial
 |cons c l ih=>
  obtain⟨t,F⟩:=c;simp only[ct,GY,Prod.mk.injEq,true_and]at b;refine⟨λg a=>?_,ih b.2⟩;dsimp only at a
  cases d:Gz.look t E with
  |none=>rw[d]at a;cases a
  |some z=>rw[d]at a;cases a;rw[b.1,d];exact z.h
def rz(t:Nat)(f:a8)(E:List Gz)(a:AI.a8.calls f=(AI.a8.calls f).map λc=>(c.1,((Gz.look c.1 E).map Gz.F).getD c.2):=by kernel_rfl):Gz:=⟨t,_,Fo f,rZ a⟩
def G9:PV->PV->Bool
 |.sc (.int k n),.sc (.int a b)=>decide (k=a)&&decide (n=b)
 |_,_=>false
def Dn:List PV->List PV->Bool
 |a::l,b::m=>G9 a b&&Dn l m
 |[],[]=>true
 |_,_=>false
def Gc:List (List PV)->List (List PV)->Bool
 |a::l,b::m=>Dn a b&&Gc l m
 |[],[]=>true
 |_,_=>false
def Jc:L->L->Bool
 |.i a,.i b=>decide (a=b)
 |.s a,.s b=>decide (a.data.toList=b.data.toList)
 |.r a,.r b=>Gc a b
 |_,_=>false
def F':List L->List L->Bool
 |a::l,b::m=>Jc a b&&F' l m
 |[],[]=>true
 |_,_=>false
def lW(o:Option (List L))(l:List L):Bool:=match o with|some m=>F' m l|none=>false
theorem amn{a b}(h:G9 a b=true):a=b:=by
 unfold G9 at h;split at h
 .rw[cd,dj,dj]at h;rw[h.1,h.2]
 .cases h
theorem ZC:∀{a b:List PV},Dn a b=true->a=b
 |[],[],_=>rfl
 |a::l,b::m,h=>by
  rw[Dn,cd]at h;rw[amn h.1,ZC h.2]
 |[],_::_,h=>by cases h
 |_::_,[],h=>by cases h
theorem Uy:∀{a b:List (List PV)},Gc a b=true->a=b
 |[],[],_=>rfl
 |a::l,b::m,h=>by
  rw[Gc,cd]at h;rw[ZC h.1,Uy h.2]
 |[],_::_,h=>by cases h
 |_::_,[],h=>by cases h
theorem ahP{a b}(h:Jc a b=true):a=b:=by
 unfold Jc at h;split at h
 .rw[dj]at h;rw[h]
 .rename_i x y;rw[dj]at h;obtain⟨⟨x⟩⟩:=x;obtain⟨⟨y⟩⟩:=y;have h:x=y:=h;rw[h]
 .rw[Uy h]
 .cases h
theorem Q9:∀{a b:List L},F' a b=true->a=b
 |[],[],_=>rfl
 |a::l,b::m,h=>by
  rw[F',cd]at h;rw[ahP h.1,Q9 h.2]
 |[],_::_,h=>by cases h
 |_::_,[],h=>by cases h
theorem mH{o l}(h:lW o l=true):o=some l:=by
 unfold lW at h;split at h
 .rw[Q9 h]
 .cases h
theorem aqD{α:Type}{q:List α}{f:α->Option (List L)}{g:α->List L}(h:q.all (λx=>lW (f x) (g x))=true){x}(a:x∈q):f x=some (g x):=mH (cj.1 h x a)
end
section
open Go.RowKit AI
attribute [local irreducible] a8.wp
section
variable{ρ:List L}{Q:Lf×List L->Prop}{k:a8}
theorem Qt{x y n c}(b:(x.ev ρ).a_=n)(d:(y.ev ρ).a_=c)(a:0<=n)(g:n<=9223372036854775807)(e:0<c)(f:k.wp (ρ++[.i (n/c)]) Q):(a8.op (.bi .quo .i64 x y) k).wp ρ Q:=cP (by
 rw[b,d];show(if c≠0 then some (L.i (IntKind.wrap .i64 (n.tdiv c)))else none)=_;have h:=adg c a;have i:=Qc a (Int.le_of_lt e);rw[bF om,Bw a,wrap64 om om]) f
theorem Kn{x y n c}(a:(x.ev ρ).a_=n)(b:(y.ev ρ).a_=c)(d:0<=n)(f:0<c)(e:k.wp (ρ++[.i (n%c)]) Q):(a8.op (.bi .rem .i64 x y) k).wp ρ Q:=cP (by
 rw[a,b];show(if c≠0 then some (L.i (n.tmod c))else none)=_;rw[bF om,Bx d]) e
end
theorem aea(off e)(h:off<=e):∃K,Full off e K:=by
 have key:∀m:Nat,(∃K,Full off e K)\/∀j,j<m->cV off e j<e:=by
  intro m
  induction m with
  |zero=>exact .inr λj b=>absurd b om
  |succ m ih=>
   rcases ih with a|a
   .exact .inl a
   .have g:=(yx off e h m).2;by_cases c:cV off e m=e
    .exact .inl ⟨m,c,a⟩
    .refine .inr λj b=>?_
     by_cases d:j=m
     .subst d;omega
     .exact a j om
 rcases key ((e-off).toNat+1)with a|a
 .exact a
 .have f:=a (e-off).toNat om;have:=BV off e h _ f;omega
open Classical in
theorem anL{off n}(h:¬lV off n){K}(a:Full off (off+n) K):zh [.i off,.i n]=some [.r (g_ off (off+n) K),.i 0]:=by
 have b:∃K,Full off (off+n) K:=⟨K,a⟩
 show(if lV off n then some [L.r [],L.i 1]else if h:∃K,Full off (off+n) K then some [L.r (g_ off (off+n) h.choose),L.i 0]else none)=_;rw[bO h,dif_pos b,Full.uniq b.choose_spec a]
theorem agh{s}(a:0<=s)(b:s<=9000000000000000000):K4 [.i s]=some [.i (fA s),.i (eE s),.i 0]:=by
 refine bN ?_;refine uR ?_;refine db rfl om ?_;refine Qt (n:=s) (c:=64) rfl rfl a om dc (nW ?_);refine Kn (n:=s/64) (c:=4) rfl rfl om dc (nW ?_);refine Qt (n:=s/64) (c:=4) rfl rfl om om dc (nW ?_);refine fZ (n:=s/64/4*64) rfl om om (nW ?_);refine Kn (n:=s) (c:=64) rfl rfl a dc (nW ?_);refine c_ (n:=eE s) rfl (by unfold eE;omega) (by unfold eE;omega) (nW ?_);exact a7 rfl
theorem aif(off e)(k):g_ off e (k+1)=g_ off e k++[wC e (cV off e k)]:=by
 unfold g_;rw[BB,eB];rfl
theorem LO(off e)(k):(g_ off e k).length=k:=by simp[g_]
theorem akf(off e)(k):cf 3 (g_ off e k)=true:=by
 unfold cf g_;rw[cj];intro x a;obtain⟨j,_,rfl⟩:=eV.1 a;rfl
theorem ads{off n}(h:¬lV off n){K}(hK:Full off (off+n) K):Lk [.i off,.i n]=some [.i 0,.r (g_ off (off+n) K)]:=by
 unfold lV at h;have hle:off<=off+n:=om;have hKn:=hK.le hle;obtain⟨e,he⟩:∃e,off+n=e:=⟨_,rfl⟩
 rw[he]at hK hKn hle⊢;refine bN ?_;refine bE (λxs=>xs=[.b false]) ?_ ?_
 .refine uR ?_;refine db rfl om (uR ?_);refine db rfl om (uR ?_);refine db rfl om (uR ?_);refine a7 ?_;exact dF om
 rintro _ rfl;refine nW ?_;refine cZ rfl ?_;refine bE (λxs=>xs=[.r (g_ off e K)]) ?_ ?_;rotate_left
 .rintro _ rfl;refine nW ?_;exact a7 rfl
 refine wp_loop (I:=λx=>∃k:Nat,x=[.i (cV off e k-off),.r (g_ off e k)]/\k<=K) (mu:=λx=>match x with|[.i d,_]=>(n-d).toNat|_=>0) ⟨0,by show[L.i 0,L.r []]=[L.i (off-off),L.r []];rw[Int.sub_self],om⟩ ?_;rintro x ⟨k,rfl,e1⟩;have hb:=yx off e hle k;refine uR ?_;refine bG rfl (λhc=>?_) (λhc=>?_);rotate_left
 .have hk:k=K:=by
   by_cases hk:k<K
   .have:=hK.2 k hk;omega
   .omega
  subst hk;exact a7 rfl
 have hk:k<K:=by
  by_cases hk:k=K
  .subst hk;have:=hK.1;omega
  .omega
 have hs:=hK.2 k hk;have hp:=CP e (cV off e k) hs;have e7:cV off e (k+1)=cV off e k+ew e (cV off e k):=rfl;obtain⟨s,gQ⟩:∃s,cV off e k=s:=⟨_,rfl⟩
 have hsu:=aif off e k;rw[gQ]at hb hs hp hc e7 hsu⊢;refine c_ (n:=s) (by show off+(s-off)=s;omega) om om (nW ?_);refine bu (agh (show 0<=s by omega) om) rfl rfl (nW ?_);refine c_ (n:=s) (by show off+(s-off)=s;omega) om om (nW ?_);refine Kn (n:=s) (c:=64) rfl rfl om dc (nW ?_);refine dk (n:=64-s%64) rfl om om (nW ?_);refine dk (n:=e-s) (by show n- (s-off)=e-s;omega) om om (nW ?_);refine Ce (n:=ew e s) rfl (uR ?_);refine fa (r:=g_ off e (k+1)) (akf off e k) rfl (by try dsimp only[At.ev,d1,d2,d3,d4,d5,d6,d7,d8,d9,e0,List.map,cH,Kd.pv];rw[LO];omega) oO dc hsu.symm (nW ?_);refine c_ (n:=cV off e (k+1) -off) (by show s-off+ew e s=_;omega) om om (nW ?_);refine a7 ⟨⟨k+1,rfl,om⟩,?_⟩;show(n- (cV off e (k+1) -off)).toNat< (n- (s-off)).toNat;omega
def Lc:=rz 323 YH []
theorem avy:(List.range 22).all (λk=>lW (Lc.g [.i (k:Nat)]) [.r (kv k)])=true:=kr
theorem arH{k}(h:k<22):KP [.i (k:Nat)]=some [.r (kv k)]:=Lc.h _ _ (aqD (f:=λk:Nat=>Lc.g [.i k]) (g:=λk=>[.r (kv k)]) avy (jZ.2 h))
end
end
end Go.Proofs.YtndegphojkiblaaGreatDoor
