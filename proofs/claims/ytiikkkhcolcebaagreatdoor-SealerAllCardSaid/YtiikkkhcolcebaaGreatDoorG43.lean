/- A part. -/
import Derived.Test.YtiikkkhcolcebaaGreatDoorG35
import Derived.Test.YtiikkkhcolcebaaGreatDoorG39
import Derived.Test.YtiikkkhcolcebaaGreatDoorG41
import Derived.Test.YtiikkkhcolcebaaGreatDoorG42
set_option linter.all false
set_option maxHeartbeats 4000000
set_option maxRecDepth 100000
namespace Go.Proofs.YtiikkkhcolcebaaGreatDoor
noncomputable section
section
open Go.RowKit Pl AI
attribute [local irreducible] bl.wp
theorem vR(a:List Nat)(ha:a.length<=1048576)(v:Int)(n:Nat)(h0:0<=v)(hn:n<=8):qd [.r (a.map b1),.i v,.i n]=some [.r ((a++num v n).map b1)]:=by
 refine bF ?_;refine bz (λxs=>xs=[.r ((a++num v n).map b1)]) ?_ (by rintro _ rfl;refine nW ?_;exact bk rfl);refine di (n:=(n:Int) -1) rfl om om (nW ?_);refine wp_loop (I:=λy=>∃k:Nat,y=[.i ((n:Int) -1-k),.r ((a++(num v n).take k).map b1)]/\k<=n) (mu:=λy=>match y with|[.i i,_]=>(i+1).toNat|_=>0) ⟨0,by show[L.i ((n:Int) -1),L.r (a.map b1)]=_;simp,om⟩ ?_;rintro y ⟨k,rfl,e1⟩;have hl:=dY v n;refine uR ?_;refine bO rfl (λhc=>?_) (λhc=>?_);rotate_left
 .refine bk ?_;show[L.r ((a++(num v n).take k).map b1)]=_;rw[eo om]
 have hk:k<n:=om;obtain⟨m,hm⟩:∃m:Nat,n-1-k=m:=⟨_,rfl⟩
 have N1:m<=7:=om;refine iV (n:=((8*m:Nat):Int)) (by show 8*((n:Int) -1-k)=_;omega) om om (nW ?_);refine dn (l:=.i (v.fdiv (2^ (8*m)))) ?_ (nW ?_)
 .show(if(0:Int)<=((8*m:Nat):Int)then some (L.i (v.fdiv (2^ (min ((8*m:Nat):Int).toNat IntKind.i64.bits))))else none)=_;rw[bA om,ey,nQ (by show 8*m<=64;omega)]
 refine iP (uR ?_);refine fc (a:=(a++(num v n).take k)) (c:=[eF v (8*m)]) rfl (by show[[PV.sc _]]=[b1 _];rw[<-nj]) (by rw[cD,dz];omega) (by show(1:Nat)<=_;omega) (nW ?_);refine di (n:=(n:Int) -1- ((k+1:Nat):Int)) (by show(n:Int) -1-k-1=_;omega) om om (nW ?_);refine bk ⟨⟨k+1,?_,om⟩,?_⟩
 .show[L.i _,L.r (((a++(num v n).take k)++[eF v (8*m)]).map b1)]=_;rw[fi (show k< (num v n).length by omega),Dc,hm,dI]
 .show((n:Int) -1- ((k+1:Nat):Int)+1).toNat< ((n:Int) -1-k+1).toNat;omega
theorem Nq(a:List Nat)(ha:a.length<=1048576)(v:Int)(n:Nat)(h0:0<=v)(hn:n<=8):zG [.r (a.map b1),.i v,.i n]=some [.r ((a++num v n).map b1)]:=by
 refine bF ?_;refine bz (λxs=>xs=[.r ((a++num v n).map b1)]) ?_ (by rintro _ rfl;refine nW ?_;exact bk rfl);refine di (n:=(n:Int) -1) rfl om om (nW ?_);refine wp_loop (I:=λy=>∃k:Nat,y=[.i ((n:Int) -1-k),.r ((a++(num v n).take k).map b1)]/\k<=n) (mu:=λy=>match y with|[.i i,_]=>(i+1).toNat|_=>0) ⟨0,by show[L.i ((n:Int) -1),L.r (a.map b1)]=_;simp,om⟩ ?_;rintro y ⟨k,rfl,e1⟩;have hl:=dY v n;refine uR ?_;refine bO rfl (λhc=>?_) (λhc=>?_);rotate_left
 .refine bk ?_;show[L.r ((a++(num v n).take k).map b1)]=_;rw[eo om]
 have hk:k<n:=om;obtain⟨m,hm⟩:∃m:Nat,n-1-k=m:=⟨_,rfl⟩
 have N1:m<=7:=om;refine iV (n:=((8*m:Nat):Int)) (by show 8*((n:Int) -1-k)=_;omega) om om (nW ?_);refine dn (l:=.i (v.fdiv (2^ (8*m)))) ?_ (nW ?_)
 .show(if(0:Int)<=((8*m:Nat):Int)then some (L.i (v.fdiv (2^ (min ((8*m:Nat):Int).toNat IntKind.u64.bits))))else none)=_;rw[bA om,ey,nQ (by show 8*m<=64;omega)]
 refine iP (uR ?_);refine fc (a:=(a++(num v n).take k)) (c:=[eF v (8*m)]) rfl (by show[[PV.sc _]]=[b1 _];rw[<-nj]) (by rw[cD,dz];omega) (by show(1:Nat)<=_;omega) (nW ?_);refine di (n:=(n:Int) -1- ((k+1:Nat):Int)) (by show(n:Int) -1-k-1=_;omega) om om (nW ?_);refine bk ⟨⟨k+1,?_,om⟩,?_⟩
 .show[L.i _,L.r (((a++(num v n).take k)++[eF v (8*m)]).map b1)]=_;rw[fi (show k< (num v n).length by omega),Dc,hm,dI]
 .show((n:Int) -1- ((k+1:Nat):Int)+1).toNat< ((n:Int) -1-k+1).toNat;omega
theorem ahM(v:Int)(n:Nat)(h0:0<=v)(hn:n<=8):IH [.i v,.i n]=some [.r ((num v n).map b1)]:=by
 refine bF ?_;refine bz (λxs=>xs=[.r ((num v n).map b1)]) ?_ (by rintro _ rfl;refine nW ?_;exact bk rfl);refine di (n:=(n:Int) -1) rfl om om (nW ?_);refine wp_loop (I:=λy=>∃k:Nat,y=[.i ((n:Int) -1-k),.r (((num v n).take k).map b1)]/\k<=n) (mu:=λy=>match y with|[.i i,_]=>(i+1).toNat|_=>0) ⟨0,by show[L.i ((n:Int) -1),L.r []]=_;simp,om⟩ ?_;rintro y ⟨k,rfl,e1⟩;have hl:=dY v n;refine uR ?_;refine bO rfl (λhc=>?_) (λhc=>?_);rotate_left
 .refine bk ?_;show[L.r (((num v n).take k).map b1)]=_;rw[eo om]
 have hk:k<n:=om;obtain⟨m,hm⟩:∃m:Nat,n-1-k=m:=⟨_,rfl⟩
 have N1:m<=7:=om;refine iV (n:=((8*m:Nat):Int)) (by show 8*((n:Int) -1-k)=_;omega) om om (nW ?_);refine dn (l:=.i (v.fdiv (2^ (8*m)))) ?_ (nW ?_)
 .show(if(0:Int)<=((8*m:Nat):Int)then some (L.i (v.fdiv (2^ (min ((8*m:Nat):Int).toNat IntKind.u64.bits))))else none)=_;rw[bA om,ey,nQ (by show 8*m<=64;omega)]
 refine iP (uR ?_);refine fc (a:=((num v n).take k)) (c:=[eF v (8*m)]) rfl (by show[[PV.sc _]]=[b1 _];rw[<-nj]) (by rw[dz];omega) (by show(1:Nat)<=_;omega) (nW ?_);refine di (n:=(n:Int) -1- ((k+1:Nat):Int)) (by show(n:Int) -1-k-1=_;omega) om om (nW ?_);refine bk ⟨⟨k+1,?_,om⟩,?_⟩
 .show[L.i _,L.r ((((num v n).take k)++[eF v (8*m)]).map b1)]=_;rw[fi (show k< (num v n).length by omega),Dc,hm]
 .show((n:Int) -1- ((k+1:Nat):Int)+1).toNat< ((n:Int) -1-k+1).toNat;omega
theorem LS(l:List Nat)(hb:B8 l)(hl:l.length<=4294967296):AB [.r (l.map b1)]=some [.i (val l).toInt]:=by
 refine bF ?_;refine bz (λxs=>xs=[.i (val l).toInt]) ?_ ?_;rotate_left
 .rintro _ rfl;refine nW ?_;exact bk rfl
 refine uR ?_;refine wp_loop (I:=λa=>∃i:Nat,a=[.i (val (l.take i)).toInt,.i i]/\i<=l.length) (mu:=λa=>match a with|[_,.i i]=>l.length-i.toNat|_=>0) ⟨0,rfl,om⟩ ?_;rintro a ⟨i,rfl,e1⟩;refine uR ?_;refine bO rfl (λhc=>?_) (λhc=>?_)
 .rw[bD]at hc;have hi:i<l.length:=om;have hx:=hb _ (cQ hi);refine bS (f:=b1) (j:=i) rfl rfl hi rfl (uR ?_);refine dn (adw _) (nW ?_);refine pL (n:=(l[i]:Int)) rfl om om (nW ?_);refine dn (aks _ _) (nW ?_);refine b8 (i:=i) rfl om (nW ?_);refine bk ⟨⟨i+1,?_,om⟩,?_⟩
  .show[L.i _,L.i _]=_;rw[Vj hi]
  .show l.length- ((i+1:Nat):Int).toNat<l.length-i;omega
 .rw[bD]at hc;obtain rfl:i=l.length:=om;refine bk ?_;show[L.i ((val (l.take l.length)).toInt)]=_;rw[jY]
theorem EO(c)(k):L.i (IntKind.wrap .u8 (c.fdiv (2^k)))=.i (eF c k):=by
 unfold eF;have h:(0:Int)<=c/2^k%256:=Int.emod_nonneg _ dc;rw[GD _ (OC dc),Bd h];congr 1
theorem apf(c:Int):J6 [.i c]=some [.i (eF c 0),.i (eF c 8),.i (eF c 16),.i (eF c 24)]:=by
 refine bF ?_;refine iP (nW ?_);refine dn (l:=.i (c.fdiv (2^8))) rfl (nW ?_);refine iP (nW ?_);refine dn (l:=.i (c.fdiv (2^16))) rfl (nW ?_);refine iP (nW ?_);refine dn (l:=.i (c.fdiv (2^24))) rfl (nW ?_);refine iP (nW ?_);refine bk ?_;have a:=EO c 0;rw[show c.fdiv (2^0)=c by simp]at a;show[L.i (IntKind.wrap .u8 c),L.i (IntKind.wrap .u8 (c.fdiv (2^8))),L.i (IntKind.wrap .u8 (c.fdiv (2^16))),L.i (IntKind.wrap .u8 (c.fdiv (2^24)))]=_;rw[a,EO,EO,EO]
theorem ayf{a g r}(h:0<=a/\a<4/\1<=g/\g<=8/\0<=r/\r<4294967296){x}(k:B8 x)(m:x.length<=2097152):M6 [.r ((gA a g r++x).map b1)]=some [.i 0,.i a,.i g,.i r]:=by
 obtain⟨b,d⟩:∃b,gA a g r++x=b:=⟨_,rfl⟩
 have e:b=[78,86,79,76]++(num a 2++(num g 2++(num r 4++(eH (ec a g r)++x)))):=by rw[<-d];simp[gA,gb,ec]
 have f:=dY a 2;have i:=dY g 2;have n:=dY r 4;have c1:fe b 0 4=[78,86,79,76]:=lM (p:=[]) e rfl rfl;have c2:fe b 4 6=num a 2:=lM e rfl om;have c3:fe b 6 8=num g 2:=lM (p:=[78,86,79,76]++num a 2) (by rw[e,<-dI]) (by rw[cD,f];rfl) om;have c4:fe b 8 12=num r 4:=lM (p:=[78,86,79,76]++num a 2++num g 2) (by rw[e,<-dI,<-dI]) (by rw[cD,cD,f,i];rfl) om;have c5:fe b 0 12=ec a g r:=lM (p:=[]) (r:=eH (ec a g r)++x) (by rw[e];simp[ec]) rfl (by rw[rz]);have c6:fe b 12 16=eH (ec a g r):=lM (p:=ec a g r) (r:=x) (by rw[e];simp[ec]) (rz _ _ _) rfl;have j:b.length=16+x.length:=by rw[<-d,cD,pz]
 rw[d];refine bF ?_;refine uR ?_;rw[bD];refine bR rfl om ?_;refine uR ?_;refine lT (a:=0) (c:=4) rfl rfl rfl om om ?_;show bl.wp _ (_++[L.r ((fe b 0 4).map b1)]) _;rw[c1];refine nW ?_;refine Bv (l:=[78,86,79,76]) rfl (nW ?_);refine GU (a:=[78,86,79,76]) (b:=[78,86,79,76]) (t:=false) rfl (by rfl) (by unfold B8;decide) (by unfold B8;decide) (by simp) (nW ?_);refine cn rfl ?_;refine uR ?_;refine lT (a:=0) (c:=12) rfl rfl rfl om om ?_;show bl.wp _ (_++[L.r ((fe b 0 12).map b1)]) _;rw[c5];refine nW ?_;refine bm (JU (ec a g r) (by rw[rz];omega)) rfl rfl (nW ?_);refine bm (apf _) rfl rfl (uR ?_);refine lT (a:=12) (c:=16) rfl rfl rfl om om ?_;show bl.wp _ (_++[L.r ((fe b 12 16).map b1)]) _;rw[c6];refine nW ?_;refine lT (l:=eH (ec a g r)) (a:=0) (c:=4) rfl rfl rfl om (by rw[qk];omega) ?_;show bl.wp _ (_++[L.r [b1 (eF (eV (ec a g r)) 0),b1 (eF (eV (ec a g r)) 8),b1 (eF (eV (ec a g r)) 16),b1 (eF (eV (ec a g r)) 24)]]) _;refine nW ?_;refine qG (r:=b1 (eF (eV (ec a g r)) 0)) rfl rfl rfl (nW ?_);refine qG (r:=b1 (eF (eV (ec a g r)) 8)) rfl rfl rfl (nW ?_);refine qG (r:=b1 (eF (eV (ec a g r)) 16)) rfl rfl rfl (nW ?_);refine qG (r:=b1 (eF (eV (ec a g r)) 24)) rfl rfl rfl (uR ?_);refine iG (r:=[.sc (.int .u8 (eF (eV (ec a g r)) 0:Nat)),.sc (.int .u8 (eF (eV (ec a g r)) 8:Nat)),.sc (.int .u8 (eF (eV (ec a g r)) 16:Nat)),.sc (.int .u8 (eF (eV (ec a g r)) 24:Nat))]) oO rfl rfl (uR ?_);refine cn (by
  show(!(((decide (((eF (eV (ec a g r)) 0:Nat):Int)=((eF (eV (ec a g r)) 0:Nat):Int))&&decide _)&&decide _)&&decide _))=false;simp) ?_
 refine uR ?_;refine lT (a:=4) (c:=6) rfl rfl rfl om om ?_;show bl.wp _ (_++[L.r ((fe b 4 6).map b1)]) _;rw[c2];refine nW ?_;refine bm (LS _ (gC a 2) om) rfl rfl ?_;rw[GY a 2 om om (by show a<65536;omega) om];refine uR ?_;refine lT (a:=6) (c:=8) rfl rfl rfl om om ?_;show bl.wp _ (_++[L.r ((fe b 6 8).map b1)]) _;rw[c3];refine nW ?_;refine bm (LS _ (gC g 2) om) rfl rfl ?_;rw[GY g 2 om om (by show g<65536;omega) om];refine uR ?_;refine lT (a:=8) (c:=12) rfl rfl rfl om om ?_;show bl.wp _ (_++[L.r ((fe b 8 12).map b1)]) _;rw[c4];refine nW ?_;refine bm (LS _ (gC r 4) om) rfl rfl ?_;rw[GY r 4 om om (by show r<4294967296;omega) om];refine nW ?_;refine bm (Xc a g r (b:=true) ⟨λ_=>h,λ_=>rfl⟩) rfl rfl (uR ?_);refine cn rfl ?_;exact bk rfl
theorem agP{l:List It}(hv:VL l)(hE:∀x∈l,sh x)(hl:l.length<=1000):CA [.r (l.map bt)]=some [.i 0,.r ((fX l).map b1)]:=by
 refine bF ?_;refine bm (Kp l om (jt hv)) rfl rfl (uR ?_);refine cn rfl ?_;refine bz (λxs=>xs=[.r ((fX l).map b1)]) ?_ (by rintro _ rfl;refine nW ?_;exact bk rfl);refine uR ?_;rw[bD];refine wp_loop (I:=λa=>∃i:Nat,a=[.i i,.r ((fX (l.take i)).map b1)]/\i<=l.length) (mu:=λa=>match a with|[.i i,_]=>l.length-i.toNat|_=>0) ⟨0,rfl,om⟩ ?_;rintro a ⟨i,rfl,e1⟩;refine uR ?_;refine bO rfl (λhc=>?_) (λhc=>?_);rotate_left
 .refine bk ?_;show[L.r ((fX (l.take i)).map b1)]=_;rw[eo om]
 have hi:i<l.length:=om;have hx:=hE _ (cQ hi);have hb:=yU (hv.2 _ (cQ hi));have A6:=v8 (l.take i);rw[dz]at A6;have kZ:=fi hi;obtain⟨x,sL⟩:∃x,l[i]=x:=⟨_,rfl⟩
 rw[sL]at hx hb kZ;obtain⟨h1,h2,h3,h4⟩:=hx;have l1:=dY x.key 8;have l2:=dY x.cookie 4;have l3:=dY x.off 4;have l4:=dY x.size 4;refine bS (f:=bt) (j:=i) rfl rfl hi rfl ?_;rw[sL];refine uR ?_;refine bm (ahM x.key 8 om om) rfl rfl (nW ?_);refine gE (n:=x.cookie) rfl om om (nW ?_);refine bm (Nq (num x.key 8) om x.cookie 4 om om) rfl rfl (nW ?_);refine gE (n:=x.off) rfl om om (nW ?_);refine bm (Nq (num x.key 8++num x.cookie 4) (by rw[cD];omega) x.off 4 om om) rfl rfl (nW ?_);refine gE (n:=x.size) rfl om om (nW ?_);refine bm (Nq (num x.key 8++num x.cookie 4++num x.off 4) (by simp only[cD];omega) x.size 4 om om) rfl rfl ?_;show bl.wp _ (_++[L.r ((gw x).map b1)]) _;have jE:=IW x;refine nW ?_;refine fc (a:=fX (l.take i)) (c:=gw x) rfl rfl om om (nW ?_);refine nq (m:=eH (gw x)) (atz (gw x) om) rfl rfl (nW ?_);refine fc (a:=fX (l.take i)++gw x) (c:=eH (gw x)) rfl rfl (by rw[cD];omega) (by rw[qk];omega) (nW ?_);refine b8 (i:=i) rfl om (nW ?_);refine bk ⟨⟨i+1,?_,om⟩,?_⟩
 .rw[kZ,O_];show[L.i _,L.r ((fX (l.take i)++gw x++eH (gw x)).map b1)]=[L.i _,L.r ((fX (l.take i)++(gw x++eH (gw x))).map b1)]
  rw[dI]
 .show l.length- ((i+1:Nat):Int).toNat<l.length-i;omega
attribute [local irreducible] qd CA zX DC
theorem aid{a g r n:Int}{c:Nat->Int}{l:List It}(hH:ma a g r n l)(hc:∀k,0<=c k/\c k<4294967296)(hE:∀x∈l,sh x)(hl:l.length<=1000):
 J5 ([.i a,.i g,.i r,.i n]++cA c++[.r (l.map bt)])=some [.i 0,.r ((jA a g r n c l).map b1)]:=by
 have hH1:=hH.1;have hH2:=hH.2.1;have hH3:=hH.2.2.1;have l1:=dY a 2;have l2:=dY g 2;have l3:=dY r 4;have l4:=dY n 8;have l5:=dY l.length 4;have l6:=v8 l;refine bF ?_;refine bm (Q0 a g r n (.i (c 0)) (.i (c 1)) (.i (c 2)) (.i (c 3)) (.i (c 4)) (.i (c 5)) l om (jt hH)) rfl rfl (uR ?_);refine cn rfl ?_;refine uR ?_;refine iG (r:=b1 78) oO rfl rfl (nW ?_);obtain⟨q,hq⟩:∃q,[78,73,68,88]++num a 2=q:=⟨_,rfl⟩
 have hql:q.length=6:=by rw[<-hq];simp[dY]
 have e1:=vR [78,73,68,88] dc a 2 om om;rw[hq]at e1;refine bm e1 rfl rfl (nW ?_);refine bm (vR q om g 2 om om) rfl rfl (nW ?_);refine bm (vR (q++num g 2) (by simp only[cD];omega) r 4 om om) rfl rfl (nW ?_);refine bm (vR (q++num g 2++num r 4) (by simp only[cD];omega) n 8 om om) rfl rfl ?_;obtain⟨p,hp⟩:∃p,q++num g 2++num r 4++num n 8=p:=⟨_,rfl⟩
 have hpl:p.length=20:=by rw[<-hp];simp[dY,hql]
 have hh:lI a g r n c l=p++iQ c 6++num l.length 4++fX l:=by rw[<-hp,<-hq];rfl
 have hhl:=yC a g r n c l;rw[hp];refine nW ?_;refine bz (λxs=>xs=[.r ((p++iQ c 6).map b1)]) ?_ ?_
 .refine wp_loop (I:=λy=>∃i:Nat,y=[.i i,.r ((p++iQ c i).map b1)]/\i<=6) (mu:=λy=>match y with|[.i i,_]=>6-i.toNat|_=>0) ⟨0,by show[L.i 0,L.r (p.map b1)]=_;simp[iQ],om⟩ ?_;rintro y ⟨i,rfl,e1⟩;have mg:=vJ c i;refine uR ?_;refine bO rfl (λhx=>?_) (λhx=>?_);rotate_left
  .obtain rfl:i=6:=om;exact bk rfl
  have hi:i<6:=om;have AY:=hc i;refine lK ⟨by show(0:Int)<=i;omega,by show(i:Int)< (6:Nat);omega⟩ (nW ?_);refine TF (c:=c) hi (by rfl) (nW ?_);refine pL (n:=c i) rfl om om (nW ?_);refine bm (vR (p++iQ c i) (by rw[cD];omega) (c i) 4 om om) rfl rfl (nW ?_);refine b8 (i:=i) rfl om (nW ?_);refine bk ⟨⟨i+1,?_,om⟩,?_⟩
  .rw[CQ,<-dI];rfl
  .show 6- ((i+1:Nat):Int).toNat<6-i;omega
 rintro _ rfl;have mg:=vJ c 6;refine nW ?_;refine bm (agP hH.2.2.2.1 hE hl) rfl rfl (uR ?_);rw[bD];refine bm (vR (p++iQ c 6) (by rw[cD];omega) l.length 4 om om) rfl rfl (nW ?_);refine fc (a:=p++iQ c 6++num l.length 4) (c:=fX l) rfl rfl (by simp only[cD];omega) om ?_;rw[<-hh];refine nW ?_;refine nq (m:=eH (lI a g r n c l)) (TR (lI a g r n c l) om) rfl rfl (nW ?_);refine fc (a:=lI a g r n c l) (c:=eH (lI a g r n c l)) rfl rfl om (by rw[qk];omega) (nW ?_);exact bk rfl
end
section
open Go.RowKit Pl AI
attribute [local irreducible] bl.wp
def wS(b:List Nat)(i:Nat):List Nat:=(List.range (Sp.dw b.length)).map λj=>if Sp.pw i j<b.length then b.getD (Sp.pw i j) 0 else 0
def lL(b:List Nat):List (List Nat):=(List.range 4).map (wS b)
theorem Z8(b)(i):(wS b i).length=Sp.dw b.length:=by simp[wS]
theorem awz{b}(a:B8 b)(i):B8 (wS b i):=λx c=>by
 obtain⟨j,_,rfl⟩:=fE.1 c;split
 .rename_i h;rw[jC h];exact a _ (cQ h)
 .decide
theorem Fi{b}(a:B8 b):mI (lL b) (Sp.dw b.length):=λd c=>by
 obtain⟨i,_,rfl⟩:=fE.1 c;exact⟨awz a i,Z8 b i⟩
theorem sf(b):(lL b).length=4:=rfl
theorem Qa(b:List Nat)(a:b.length<=1048576):vk [.r (b.map b1)]=some [.r ((lL b).map fR)]:=by
 unfold vk;dsimp only;rw[show(L.r (b.map b1)).bC=b.map b1 from rfl,RG];dsimp only;rw[bA (by rw[bD];exact a)];congr 3;unfold Sp.mj lL;rw[gp];refine gz λi _=>?_
 show Sp.uA _ i=fR (wS b i);unfold Sp.uA fR wS;rw[bD];congr 2;unfold gV;rw[gp,gp];refine gz λj _=>?_
 show[PV.sc (.int .u8 (Sp.fill _ _ i j))]=b1 _;unfold Sp.fill b1;dsimp only;by_cases h:Sp.pw i j<b.length
 .rw[bA h,bA h,cX,jZ,cY h];rfl
 .rw[bH h,bH h];rfl
theorem akh{ds:List (List Nat)}(h4:ds.length=4){m}(hd:mI ds m):ID [.r (ds.map fR),.i 4]=some [.b true]:=by
 refine bF ?_;refine uR ?_;rw[bD];refine bR rfl (by rw[h4];decide) ?_;refine bz (λxs=>xs=[]) ?_ (by rintro _ rfl;refine nW ?_;exact bk rfl);refine wp_loop (I:=λa=>∃i:Nat,a=[.i i]/\i<=4) (mu:=λa=>match a with|[.i i]=>4-i.toNat|_=>0) ⟨0,rfl,om⟩ ?_;rintro a ⟨i,rfl,e1⟩;refine uR ?_;refine bO rfl (λhx=>?_) (λhx=>bk rfl);have hi:i<ds.length:=om;have h0:0<ds.length:=om;refine bS (f:=fR) (j:=i) rfl rfl hi rfl (uR ?_);refine bS (f:=fR) (j:=0) rfl rfl h0 rfl (uR ?_);refine bR rfl (by rw[bD,bD,(hd.at hi).2,(hd.at h0).2];exactλh=>h rfl) ?_;refine b8 (i:=i) rfl om (nW ?_);refine bk ⟨⟨i+1,rfl,om⟩,?_⟩;show 4- ((i+1:Nat):Int).toNat<4-i;omega
def mF(ds:List (List Nat))(m:Nat):List (List Nat):=l_ xp ds m 6
theorem aeP:∀x∈xp,x<256:=by decide
theorem aoj{ds:List (List Nat)}(a:ds.length=4){m}(b:m<=4294967296)(c:mI ds m):GN [.r (ds.map fR)]=some [.r ((mF ds m).map fR)]:=by
 refine bF ?_;refine bm ait rfl rfl (nW ?_);refine bm (aaO (E:=xp) dc aeP a b c) rfl rfl (nW ?_);exact bk rfl
theorem ajn{ds:List (List Nat)}(b:ds.length=4){m}(d:m<=4294967296)(c:mI ds m):IL [.r (ds.map fR)]=some [.r (((mF ds m).drop 4).map fR),.i 0]:=by
 have a:(mF ds m).length=6:=vT _ _ _ _;refine bF ?_;refine bm (akh b c) rfl rfl (uR ?_);refine cn rfl ?_;refine bm (aoj b d c) rfl rfl (uR ?_);rw[bD,a];refine mc ⟨by show(0:Int)<=4;omega,by show(4:Int)<=6;omega,by show(6:Nat)<=((mF ds m).map fR).length;rw[bD,a];omega,lV (qb _)⟩ (nW ?_);refine jy (ls:=[.r (((mF ds m).drop 4).map fR)]) ?_ (nW ?_)
 .show some [L.r ((((mF ds m).map fR).drop 4).take 2)]=_;rw[<-nR,eo (by rw[bD,mh,a];decide)]
 exact bk rfl
def eT(b:List Nat):List (List Nat):=lL b++(mF (lL b) (Sp.dw b.length)).drop 4
theorem rP(b):(eT b).length=6:=by unfold eT;rw[cD,mh,sf];show 4+((l_ _ _ _ _).length-4)=6;rw[vT]
theorem Lp{b}(a:B8 b):mI (eT b) (Sp.dw b.length):=λd c=>by
 rcases gI.1 c with h|h
 .exact Fi a d h
 .exact ajV (sf b) (Fi a) d (nP h)
def d_(b:List Nat)(k:Nat):Int:=eV ((eT b).getD k [])
theorem Rl(b)(k):0<=d_ b k/\d_ b k<4294967296:=by
 have:=aek ((eT b).getD k []);unfold d_;omega
def Ea(c:Nat->Int)(i k:Nat):Int:=if k<i then c k else 0
theorem aqH{b:List Nat}(hb:B8 b){a g r:Int}{l:List It}(hH:ma a g r b.length l)(hl:l.length<=1000):Nt [.r (b.map b1),.i a,.i g,.i r,.r (l.map bt)]=some ([.i 0,.r ((eT b).map fR),.i a,.i g,.i r,.i b.length]++cA (d_ b)++[.r (l.map bt)]):=by
 have uZ:=hH.2.1;have hn2:=hH.2.2.1;have aBY:Sp.dw b.length<=1048576:=by unfold Sp.dw;omega
 have h6:=rP b;refine bF ?_;refine uR ?_;rw[bD];refine er (r:=l.map bt) rfl (fY _) (by show(0:Nat)<=_;omega) (by show(l.map bt).length<=_;rw[bD];omega) dc rfl (nW ?_);refine bm (XY a g r b.length (.i 0) (.i 0) (.i 0) (.i 0) (.i 0) (.i 0) l om (jt hH)) rfl rfl (uR ?_);refine cn rfl ?_;refine bm (Qa b om) rfl rfl (nW ?_);refine bm (ajn (sf b) om (Fi hb)) rfl rfl (nW ?_);refine er (r:=(eT b).map fR) (qb _) (qb _) (by show((lL b).map fR).length<=_;rw[bD,sf];omega) (by show(((mF (lL b) (Sp.dw b.length)).drop 4).map fR).length<=_;rw[bD,mh];show(l_ _ _ _ _).length-4<=_;rw[vT];omega) dc (by unfold eT;rw[dE];rfl) (nW ?_);refine bz (λxs=>xs=cA (d_ b)) ?_ (by rintro _ rfl;refine nW ?_;exact bk rfl);refine wp_loop (I:=λy=>∃i:Nat,y=.i i::cA (Ea (d_ b) i)/\i<=6) (mu:=λy=>match y with| .i i::_=>6-i.toNat|_=>0) ⟨0,rfl,om⟩ ?_;rintro y ⟨i,rfl,e1⟩;refine uR ?_;refine bO rfl (λhx=>?_) (λhx=>?_);rotate_left
 .obtain rfl:i=6:=om;exact bk rfl
 have hi:i< (eT b).length:=om;have hll:=(Lp hb).at hi;refine bz (λxs=>xs=.i i::cA (Ea (d_ b) (i+1))) ?_ ?_;rotate_left
 .rintro _ rfl;refine nW ?_;refine b8 (i:=i) rfl om (nW ?_);refine bk ⟨⟨i+1,rfl,om⟩,?_⟩;show 6- ((i+1:Nat):Int).toNat<6-i;omega
 have hcs:eV (eT b)[i]=d_ b i:=by unfold d_;rw[jC hi]
 refine bS (f:=fR) (j:=i) rfl rfl hi rfl (nW ?_);refine cK (f:=fR) (l:=eT b) (j:=i) rfl rfl hi rfl rfl (nW ?_);refine bm (O7 (eT b)[i] om) rfl rfl ?_;rw[hcs];refine nW ?_;have N3:i=0\/i=1\/i=2\/i=3\/i=4\/i=5:=om;rcases N3 with rfl|rfl|rfl|rfl|rfl|rfl<;>
  (repeat (first| (refine cP rfl dc ?_)| (refine bR rfl dc ?_)| (refine sT rfl ?_;try dsimp only[At.ev,d1,d2,d3,d4,d5,d6,d7,d8,d9,e0,List.map,db,Kd.pv])))<;>exact bk rfl
theorem agD(b:List Nat)(a:b.length<=1048576):yF [.r (b.map b1)]=some [.r ((lL b).map fR)]:=Qa b a
def im:List Nat:=[27,28,18,20,28,27,20,18]
theorem azr:vp [.i 6,.i 4,.r (xp.map b1),.r [[.sc (.int .i64 4)],[.sc (.int .i64 5)]]]=some [.i 0,.i 2,.i 4,.r (im.map b1)]:=Tm _ _ (sb kr)
theorem aio:mX [.i 2,.i 4,.r (im.map b1)]=some [.b true]:=zW _ _ kr
theorem ark:im.all (λc=>Nat.blt c 256&& (Nat.beq c 0||BM c))=true:=kr
theorem ajc{c:Nat}(h:c∈im):c<256/\(c=0\/BM c=true):=by
 have:=cz.1 ark c h;rw[cu,oX]at this;exact⟨wo this.1,this.2.imp sU id⟩
theorem anD(ds:List (List Nat))(m:Nat):(mF ds m).drop 4=l_ im ds m 2:=rfl
theorem ahS{ds}(h4:ds.length=4){m}(hm:m<=4294967296)(hd:mI ds m):Ns [.i 2,.i 4,.r (im.map b1),.r (ds.map fR)]=some [.i 0,.r ((l_ im ds m 2).map fR)]:=by
 refine bF ?_;refine bz (λxs=>xs=[.b false]) ?_ ?_
 .refine bm aio rfl rfl (uR ?_);refine cn rfl (uR ?_);refine bk ?_;exact dF (by rw[bD,h4];decide)
 rintro _ rfl;refine nW ?_;refine cn rfl ?_;have fA:=hd.at (show 0<ds.length by omega);refine bz (λxs=>xs=[]) ?_ ?_
 .refine uR ?_;refine wp_loop (I:=λx=>∃i:Nat,x=[.i i]/\i<=4) (mu:=λx=>match x with|[.i i]=>4-i.toNat|_=>0) ⟨0,rfl,om⟩ ?_;rintro x ⟨i,rfl,e1⟩;refine uR ?_;refine bO rfl (λhx=>?_) (λhx=>?_);rotate_left
  .exact bk rfl
  rw[bD,h4]at hx;have hi:i<ds.length:=om;refine bS (f:=fR) (j:=i) rfl rfl hi rfl (nW ?_);refine cK (f:=fR) (l:=ds) (j:=i) rfl rfl hi rfl rfl (uR ?_);refine bS (f:=fR) (j:=0) rfl rfl (show 0<ds.length by omega) rfl (nW ?_);refine cK (f:=fR) (l:=ds) (j:=0) rfl rfl (show 0<ds.length by omega) rfl rfl (uR ?_);refine bR rfl (by rw[bD,bD,(hd.at hi).2,fA.2];exactλh=>h rfl) ?_;refine b8 (i:=i) rfl om (nW ?_);refine bk ⟨⟨i+1,rfl,om⟩,?_⟩;show 4- ((i+1:Nat):Int).toNat<4-i;omega
 rintro _ rfl;refine nW ?_;refine wV (r:=(List.replicate 2 ([]:List Nat)).map fR) (by try dsimp only[At.ev,d1,d2,d3,d4,d5,d6,d7,d8,d9,e0,List.map,db,Kd.pv];exact⟨dc,dc,dc⟩) rfl (nW ?_);obtain⟨oL,ho⟩:∃oL,l_ im ds m 2=oL:=⟨_,rfl⟩
 have kY:oL.length=2:=by rw[<-ho,vT]
 have va:∀i(h:i<oL.length),oL[i]=qy im ds m i:=by subst ho;exactλi h=>T5 h
 rw[ho];refine bz (λxs=>xs=[.r (oL.map fR)]) ?_ ?_;rotate_left
 .rintro _ rfl;refine nW ?_;exact bk rfl
 refine uR ?_;refine wp_loop (I:=λx=>∃i:Nat,x=[.i i,.r ((nS [] oL 2 i).map fR)]/\i<=2) (mu:=λx=>match x with|[.i i,_]=>2-i.toNat|_=>0) ⟨0,rfl,om⟩ ?_;rintro x ⟨i,rfl,e1⟩;have Gi:=aqP (d:=([]:List Nat)) kY e1;refine uR ?_;refine bO rfl (λhx=>?_) (λhx=>?_);rotate_left
 .have hx:¬(i:Int)<2:=hx;obtain rfl:i=2:=om;refine bk ?_;show[L.r ((nS [] oL 2 2).map fR)]=_;rw[aaz kY]
 have hx:(i:Int)<2:=hx;have hi:i<2:=om;have hst:=auW (d:=([]:List Nat)) kY hi (v:=qy im ds m i) (va i om).symm;obtain⟨F,hF⟩:∃F,nS [] oL 2 i=F:=⟨_,rfl⟩
 rw[hF]at Gi hst⊢;have hEl:im.length=8:=rfl;refine bz (λxs=>xs=[.r ((nS [] oL 2 (i+1)).map fR)]) ?_ ?_
 .refine bS (f:=fR) (j:=0) rfl rfl (show 0<ds.length by omega) rfl (nW ?_);refine cK (f:=fR) (l:=ds) (j:=0) rfl rfl (show 0<ds.length by omega) rfl rfl (uR ?_);refine wV (r:=(List.replicate m 0).map b1) (by
   show 0<=(((ds[0].map b1).length:Nat):Int)/\(((ds[0].map b1).length:Nat):Int)<=9223372036854775807/\1*(((ds[0].map b1).length:Nat):Int).toNat<=281474976710656;rw[bD,fA.2];omega) (by
   show List.replicate (((ds[0].map b1).length:Nat):Int).toNat [PV.sc (.int .u8 0)]=_;rw[ey,bD,fA.2,Gv];rfl) ?_
  refine nW ?_;refine bS (f:=fR) (j:=i) rfl rfl (show i<F.length by omega) rfl (nW ?_);refine uL (f:=fR) (j:=i) (v:=List.replicate m 0) rfl rfl (show i<F.length by omega) rfl rfl (uR ?_);have hlk:=Ec (c:=λk=>im.getD (i*4+k) 0) (d:=λk=>ds.getD k []) (m:=m) (n:=4) (λk hk=>by rw[jC om];exact(hd.at om).2);refine wp_loop (I:=λx=>∃k:Nat,x=[.i k,.r ((F.set i (kK (λk=>im.getD (i*4+k) 0) (λk=>ds.getD k []) (List.replicate m 0) k)).map fR)]/\k<=4) (mu:=λx=>match x with|[.i k,_]=>4-k.toNat|_=>0) ⟨0,rfl,om⟩ ?_;rintro x ⟨k,rfl,e2⟩;have A4:=hlk k e2;have dM:kK (λk=>im.getD (i*4+k) 0) (λk=>ds.getD k []) (List.replicate m 0) (k+1)=lY (im.getD (i*4+k) 0) (kK (λk=>im.getD (i*4+k) 0) (λk=>ds.getD k []) (List.replicate m 0) k) (ds.getD k []):=rfl;refine uR ?_;refine bO rfl (λhy=>?_) (λhy=>?_);rotate_left
  .rw[bD,h4]at hy;obtain rfl:k=4:=om;refine bk ?_;show[L.r ((F.set i (qy im ds m i)).map fR)]=_;rw[hst]
  rw[bD,h4]at hy;have hk:k<ds.length:=om;have A3:=hd.at hk;obtain⟨u,hu⟩:∃u,kK (λk=>im.getD (i*4+k) 0) (λk=>ds.getD k []) (List.replicate m 0) k=u:=⟨_,rfl⟩
  obtain⟨v,hv⟩:∃v,kK (λk=>im.getD (i*4+k) 0) (λk=>ds.getD k []) (List.replicate m 0) (k+1)=v:=⟨_,rfl⟩
  rw[hu,hv,jC hk]at dM;rw[hu]at A4⊢;have mg:(F.set i u).length=2:=by rw[lr];exact Gi
  have hat:(F.set i u)[i]'om=u:=OK _;refine bS (f:=fR) (j:=k) rfl rfl hk rfl (nW ?_);refine cK (f:=fR) (l:=ds) (j:=k) rfl rfl hk rfl rfl (nW ?_);refine bS (f:=fR) (j:=i) rfl rfl (show i< (F.set i u).length by omega) rfl (nW ?_);refine cK (f:=fR) (j:=i) rfl rfl (show i< (F.set i u).length by omega) rfl rfl ?_;rw[hat];refine nW ?_;have sJ:i*4+k<im.length:=om;refine bm (anh om om sJ) rfl rfl (nW ?_);have Zp:=ajc (cQ sJ);refine bm (afL (c:=im.getD (i*4+k) 0) (by rw[jC sJ];exact Zp.1) (by rw[jC sJ];exact Zp.2) u ds[k] A4.2 A3.1 om om) rfl rfl (nW ?_);refine bS (f:=fR) (j:=i) rfl rfl (show i< (F.set i u).length by omega) rfl (nW ?_);refine uL (f:=fR) (j:=i) (v:=v) rfl rfl (show i< (F.set i u).length by omega) rfl (by rw[dM];rfl) ?_;rw[List.set_set];refine nW ?_;refine b8 (i:=k) rfl om (nW ?_);refine bk ⟨⟨k+1,by rw[hv];rfl,om⟩,?_⟩;show 4- ((k+1:Nat):Int).toNat<4-k;omega
 rintro _ rfl;refine nW ?_;refine b8 (i:=i) rfl om (nW ?_);refine bk ⟨⟨i+1,rfl,om⟩,?_⟩;show 2- ((i+1:Nat):Int).toNat<2-i;omega
theorem abb{ds:List (List Nat)}(a:ds.length=4){m}(b:m<=4294967296)(c:mI ds m):GQ [.r (ds.map fR)]=some [.i 0,.r (((mF ds m).drop 4).map fR)]:=by
 refine bF ?_;refine uR ?_;rw[bD];refine bR rfl (by rw[a];decide) ?_;refine bm abg rfl rfl (uR ?_);refine nq (m:=im) azr rfl rfl (nW ?_);refine bm (ahS a b c) rfl rfl (nW ?_);refine bk ?_;rw[anD];rfl
theorem agr(n:Nat)(a:0<n)(b:n<=1000):KK [.i n]=some [.r ((List.replicate n ([]:List Nat)).map fR)]:=by
 refine bF ?_;refine bz (λxs=>xs=[]) ?_ ?_
 .refine uR ?_;exact bR rfl om (bk rfl)
 rintro _ rfl;refine nW ?_;refine bz (λxs=>xs=[.r ((List.replicate n ([]:List Nat)).map fR)]) ?_ (by rintro _ rfl;refine nW ?_;exact bk rfl);refine di (n:=(n:Int)) (by show(n:Int) -0=n;omega) om om (uR ?_);refine cP rfl om ?_;refine mc ⟨by show(0:Int)<=0;omega,by show(0:Int)<=0;omega,eM _,rfl⟩ (nW ?_);refine wV (r:=(List.replicate n ([]:List Nat)).map fR) ⟨by show(0:Int)<=n;omega,by show(n:Int)<=_;omega,by show 24*((n:Int)).toNat<=_;omega⟩ (by rw[Gv];rfl) (nW ?_);refine bS (f:=fR) (l:=List.replicate n ([]:List Nat)) (j:=0) rfl rfl (by rw[pU];omega) rfl (nW ?_);refine er (r:=(List.replicate n ([]:List Nat)).map fR) rfl (qb _) (by show(0:Nat)<=_;omega) (by show((List.replicate n ([]:List Nat)).map fR).length<=_;rw[bD,pU];omega) dc rfl (uR ?_);refine mc ⟨by show(0:Int)<=0;omega,by show(0:Int)<=0;omega,eM _,lV (qb _)⟩ (nW ?_);exact bk rfl
theorem akR{ρ Q k}{x ln y:At}{a b c:List (List Nat)}{i:Nat}(e:(x.ev ρ).bC=(a++c).map fR)(f:(ln.ev ρ).br=i)(g:i=a.length)(d:(y.ev ρ).bC=b.map fR)(j:b.length<=c.length)
 (h:k.wp (ρ++[.r ((a++b++c.drop b.length).map fR),.i ((i+b.length:Nat):Int)]) Q):(bl.op (.sq x ln y 1) k).wp ρ Q:=by
 refine jy (ls:=[.r ((a++b++c.drop b.length).map fR),.i ((i+b.length:Nat):Int)]) ?_ h;simp only[Nd.ev];subst g;rw[bA ⟨by rw[d];exact qb _,by rw[d,f,e,bD,bD,cD,ey];omega⟩,f,d,e,ey];have:((a++c).map fR).take a.length++b.map fR++((a++c).map fR).drop (a.length+(b.map fR).length)=(a++b++c.drop b.length).map fR:=by
  rw[<-lj,<-nR,GI,bD,Ov,Gz om,show a.length+b.length-a.length=b.length by omega,dE,dE,dE];rfl
 rw[this,bD]
theorem aaa(a b:List (List Nat))(ha:0<a.length)(h:a.length+b.length<=1000):I' [.r [[.sl (a.map fR)],[.sl (b.map fR)]]]=some [.i (a.length+b.length:Nat),.r ((a++b).map fR)]:=by
 obtain⟨g,hg⟩:∃g:List (List Nat)->List PV,g=λx=>[PV.sl (x.map fR)]:=⟨_,rfl⟩
 have xX:∀x,(g x).length=1:=λx=>by rw[hg];rfl
 have e0:[[PV.sl (a.map fR)],[PV.sl (b.map fR)]]=[a,b].map g:=by rw[hg];rfl
 have two:∀{i:Nat}(hi:i<2)(hi':i< [a,b].length),[a,b][i]=a/\i=0\/[a,b][i]=b/\i=1:=λ{i}hi hi'=>by
  match i,hi with
  |0,_=>exact .inl ⟨rfl,rfl⟩
  |1,_=>exact .inr ⟨rfl,rfl⟩
 have rowA:∀{i:Nat}(hi':i< [a,b].length),g [a,b][i]=[.sl ([a,b][i].map fR)]:=λ{i}hi'=>by rw[hg]
 rw[e0];refine bF ?_;refine bz (λxs=>xs=[.i (a.length+b.length:Nat)]) ?_ ?_
 .refine uR ?_;refine wp_loop (I:=λx=>∃i n:Nat,x=[.i n,.i i]/\i<=2/\n=(([a,b].take i).map List.length).sum) (mu:=λx=>match x with|[_,.i i]=>2-i.toNat|_=>0) ⟨0,0,rfl,om,rfl⟩ ?_;rintro x ⟨i,n,rfl,e1,e2⟩;refine uR ?_;refine bO rfl (λhc=>?_) (λhc=>?_);rotate_left
  .have hc:¬(i:Int)<2:=hc;obtain rfl:i=2:=om;refine bk ?_;show[L.i n]=_;rw[e2];simp
  have hc:(i:Int)<2:=hc;have hi:i<2:=om;have hi':i< [a,b].length:=hi;have hs:n+ [a,b][i].length=(([a,b].take (i+1)).map List.length).sum:=by
   rw[fi hi',dE,List.sum_append,<-e2];simp
  have hle:n+ [a,b][i].length<=1000:=by
   rcases two hi hi' with⟨q1,rfl⟩| ⟨q1,rfl⟩
   .rw[q1,e2];simp;omega
   .rw[q1,e2];simp;omega
  refine bz (λxs=>xs=[.i ((n+ [a,b][i].length:Nat):Int)]) ?_ ?_
  .refine bS (f:=g) (l:=[a,b]) (j:=i) rfl rfl hi' (xX _) ?_;rw[rowA hi'];refine uR ?_;rw[bD];refine dp (n:=((n+ [a,b][i].length:Nat):Int)) rfl om om (uR ?_);exact bR rfl om (bk rfl)
  .rintro _ rfl;refine nW ?_;refine b8 (i:=i) rfl om (nW ?_);refine bk ⟨⟨i+1,n+ [a,b][i].length,rfl,om,hs⟩,?_⟩;show 2- ((i+1:Nat):Int).toNat<2-i;omega
 rintro _ rfl;refine nW ?_;refine bm (agr (a.length+b.length) om h) rfl rfl (nW ?_);refine bz (λxs=>xs=[.i (a.length+b.length:Nat),.r ((a++b).map fR)]) ?_ (by rintro _ rfl;refine nW ?_;exact bk rfl);refine uR ?_;refine wp_loop (I:=λx=>∃(i:Nat)(p q:List (List Nat)),x=[.i p.length,.i i,.r ((p++q).map fR)]/\i<=2/\p=([a,b].take i).flatten/\p.length+q.length=a.length+b.length) (mu:=λx=>match x with|[_,.i i,_]=>2-i.toNat|_=>0) ⟨0,[],List.replicate (a.length+b.length) [],rfl,om,rfl,by simp⟩ ?_;rintro x ⟨i,p,q,rfl,e1,e2,e3⟩;refine uR ?_;refine bO rfl (λhc=>?_) (λhc=>?_);rotate_left
 .have hc:¬(i:Int)<2:=hc;obtain rfl:i=2:=om;have hp:p=a++b:=by rw[e2];simp
  have hq:q=[]:=mN (by rw[hp,cD]at e3;omega);refine bk ?_;show[L.i p.length,L.r ((p++q).map fR)]=_;rw[hp,hq,fW,cD]
 have hc:(i:Int)<2:=hc;have hi:i<2:=om;have hi':i< [a,b].length:=hi;have hs:p++[a,b][i]=([a,b].take (i+1)).flatten:=by
  rw[fi hi',List.flatten_append,<-e2];simp
 have hle:[a,b][i].length<=q.length:=by
  rcases two hi hi' with⟨q1,rfl⟩| ⟨q1,rfl⟩
  .rw[q1];rw[e2]at e3;have:(0:Nat)+q.length=a.length+b.length:=e3;omega
  .rw[q1];rw[e2]at e3;have:([a].flatten).length+q.length=a.length+b.length:=e3;rw[show[a].flatten=a by simp]at this;omega
 refine bS (f:=g) (l:=[a,b]) (j:=i) rfl rfl hi' (xX _) ?_;rw[rowA hi'];refine uR ?_;refine akR (a:=p) (b:=[a,b][i]) (c:=q) (i:=p.length) rfl rfl rfl rfl hle (nW ?_);refine b8 (i:=i) rfl om (nW ?_);refine bk ⟨⟨i+1,p++[a,b][i],q.drop [a,b][i].length,?_,om,hs,?_⟩,?_⟩
 .rw[cD];rfl
 .rw[cD,mh];omega
 .show 2- ((i+1:Nat):Int).toNat<2-i;omega
theorem apQ{b:List Nat}(hb:B8 b){a g r:Int}{l:List It}(hH:ma a g r b.length l)(hl:l.length<=1000):Jf [.r (b.map b1),.i a,.i g,.i r,.r (l.map bt)]=some ([.i 0,.r ((eT b).map fR),.i a,.i g,.i r,.i b.length]++cA (d_ b)++[.r (l.map bt)]):=by
 have uZ:=hH.2.1;have hn2:=hH.2.2.1;have aBY:Sp.dw b.length<=1048576:=by unfold Sp.dw;omega
 have h6:=rP b;have hpl:((mF (lL b) (Sp.dw b.length)).drop 4).length=2:=by rw[mh];show(l_ _ _ _ _).length-4=2;rw[vT]
 have hcc:=aaa (lL b) ((mF (lL b) (Sp.dw b.length)).drop 4) (by rw[sf];omega) (by rw[sf,hpl];omega);rw[sf,hpl,show lL b++(mF (lL b) (Sp.dw b.length)).drop 4=eT b from rfl]at hcc;refine bF ?_;refine uR ?_;rw[bD];refine bm (HB l hl) rfl rfl (nW ?_);refine bm (Q0 a g r b.length (.i 0) (.i 0) (.i 0) (.i 0) (.i 0) (.i 0) l om (jt hH)) rfl rfl (uR ?_);refine cn rfl ?_;refine bm (agD b om) rfl rfl (nW ?_);refine bm (abb (sf b) om (Fi hb)) rfl rfl (uR ?_);refine bm hcc rfl rfl (nW ?_);refine bz (λxs=>xs=cA (d_ b)) ?_ ?_;rotate_left
 .rintro _ rfl;refine uR ?_;refine bk ?_;show[L.i 0,L.r (((eT b).map fR).take 6),_,_,_,_,_,_,_,_,_,_,_]=_;rw[eo (by rw[bD,h6];omega)];rfl
 refine arX (f:=fR) (l:=eT b) (c:=6) rfl rfl rfl ?_;rw[eo om];refine uR ?_;rw[bD];refine wp_loop (I:=λy=>∃i:Nat,y=.i i::cA (Ea (d_ b) i)/\i<=6) (mu:=λy=>match y with| .i i::_=>6-i.toNat|_=>0) ⟨0,rfl,om⟩ ?_;rintro y ⟨i,rfl,e1⟩;refine uR ?_;refine bO rfl (λhx=>?_) (λhx=>?_);rotate_left
 .obtain rfl:i=6:=om;exact bk rfl
 have hi:i< (eT b).length:=om;have hll:=(Lp hb).at hi;refine bz (λxs=>xs=.i i::cA (Ea (d_ b) (i+1))) ?_ ?_;rotate_left
 .rintro _ rfl;refine nW ?_;refine b8 (i:=i) rfl om (nW ?_);refine bk ⟨⟨i+1,rfl,om⟩,?_⟩;show 6- ((i+1:Nat):Int).toNat<6-i;omega
 have hcs:eV (eT b)[i]=d_ b i:=by unfold d_;rw[jC hi]
 refine ala (f:=fR) (l:=eT b) (j:=i) (c:=6) rfl rfl rfl rfl hi om rfl (nW ?_);refine cK (f:=fR) (l:=eT b) (j:=i) rfl rfl hi rfl rfl (nW ?_);refine bm (JU (eT b)[i] om) rfl rfl ?_;rw[hcs];refine nW ?_;have N3:i=0\/i=1\/i=2\/i=3\/i=4\/i=5:=om;rcases N3 with rfl|rfl|rfl|rfl|rfl|rfl<;>
  (repeat (first| (refine cP rfl dc ?_)| (refine bR rfl dc ?_)| (refine sT rfl ?_;try dsimp only[At.ev,d1,d2,d3,d4,d5,d6,d7,d8,d9,e0,List.map,db,Kd.pv])))<;>exact bk rfl
end
section
open Go.RowKit Pl
def pk(D:List Nat)(x:It):List Nat:=fe D (x.off.toNat+20) (x.off.toNat+20+x.size.toNat)
def mD(D:List Nat)(x:It):Nl:=⟨x.key,x.cookie,false,pk D x⟩
structure oj(D:List Nat)(x:It):Prop where
 c0:0<=x.cookie
 c4:x.cookie<=4294967295
 rc:fe D x.off.toNat (x.off.toNat+dw x.size.toNat)=ja x.key x.cookie false (pk D x)
 ln:(pk D x).length=x.size.toNat
theorem Xt{D E:List Nat}{a c}(h:c<=D.length):fe (D++E) a c=fe D a c:=by
 unfold fe;rw[aCr h]
theorem aaP{x:It}(h:eN x=true):∃o n:Nat,x.off=o/\x.size=n/\n<=4096/\ends x=((o+dw n:Nat):Int):=by
 have c:=yU h;obtain⟨o,a⟩:∃o:Nat,x.off=o:=⟨x.off.toNat,om⟩
 obtain⟨n,b⟩:∃n:Nat,x.size=n:=⟨x.size.toNat,om⟩
 refine⟨o,n,a,b,om,?_⟩;unfold ends;rw[b,HK om,a];omega
theorem oj.app{D E x}(h:oj D x)(m:eN x=true)(t:ends x<=D.length):oj (D++E) x/\pk (D++E) x=pk D x:=by
 obtain⟨o,n,u,y,z,B⟩:=aaP m;have q:=wc n;have d:x.off.toNat=o:=om;have k:x.size.toNat=n:=om;have a:pk (D++E) x=pk D x:=by unfold pk;rw[d,k,Xt om]
 refine⟨⟨h.c0,h.c4,?_,by rw[a];exact h.ln⟩,a⟩;rw[a,<-h.rc,Xt (by rw[d,k];omega)]
theorem oj.new{D:List Nat}{x:Nl}(h:ka x)(a:x.del=false):oj (D++ja x.key x.cookie x.del x.data) ⟨x.key,x.cookie,D.length,x.data.length⟩/\mD (D++ja x.key x.cookie x.del x.data) ⟨x.key,x.cookie,D.length,x.data.length⟩=x:=by
 have k:=wc x.data.length;have m:=Mt x.key x.cookie x.del x.data;have d:pk (D++ja x.key x.cookie x.del x.data) ⟨x.key,x.cookie,D.length,x.data.length⟩=x.data:=by
  unfold pk;refine lM (p:=D++([78,165,cond x.del 1 0,0]++num x.cookie 4++num x.key 8++num x.data.length 4)) (r:=eH (rr x.key x.cookie x.del x.data)++List.replicate (dw x.data.length- (x.data.length+24)) 0) ?_ ?_ ?_
  .simp[ja,gb,rr]
  .simp[dY]
  .rfl
 refine⟨⟨h.c0,h.c4,?_,by rw[d];rfl⟩,?_⟩
 .rw[d];refine lM (p:=D) (r:=[]) ?_ rfl ?_
  .rw[fW,a]
  .show(D.length:Int).toNat+_=(D.length:Int).toNat+dw (x.data.length:Int).toNat;rw[<-a,m];rfl
 .unfold mD;rw[d];cases x;cases a;rfl
structure Sld(f:Fs)(i:Nat)(D:List Nat)(l its:List It):Prop where
 h:ma 1 ((i+1:Nat):Int) 0 D.length its
 e:∀x∈its,sh x
 n:its.length<=8
 m:∀x∈l,x∈its
 x:f (9*i+8)=some (jA 1 ((i+1:Nat):Int) 0 D.length (d_ D) its)
 s:∀k,k<6->f (9*i+(2+k))=some ((eT D).getD k [])
structure Inv(f:Fs)(gs:List Ge)(vol:Nat->List Nat)(B:Nat):Prop where
 s:dG gs
 fb:∀j b,f j=some b->B8 b/\b.length<=B
 vb:∀(i:Nat)(h:i<gs.length),B8 (vol i)/\((vol i).length:Int)=gs[i].size/\(vol i).length<=B/\∃r,B8 r/\vol i=gA 1 ((i+1:Nat):Int) 0++r
 rc:∀(i:Nat)(h:i<gs.length),∀x∈gs[i].l,oj (vol i) x
 op:∀(i:Nat)(h:i<gs.length),gs[i].mode≠3->f (9*i)=some (vol i)/\∀k,2<=k->k<9->f (9*i+k)=none
 cl:∀(i:Nat)(h:i<gs.length),gs[i].mode=3->∃its,Sld f i (vol i) gs[i].l its
 ft:∀j,9*gs.length<=j->f j=none
def look(gs:List Ge)(i:Nat)(k:Int):Option It:=c_ (gs.getD i ⟨0,0,[],0⟩).l k
def ly(gs:List Ge)(k:Int):Nat->Option (Nat×It)
 |0=>none
 |i+1=>match look gs i k with
  |some x=>some (i,x)
  |none=>ly gs k i
theorem tA{gs i}(h:i<gs.length)(k):look gs i k=c_ gs[i].l k:=by unfold look;rw[jC h]
theorem Lb{gs a:List Ge}{k}:∀{n},(∀i,i<n->look gs i k=look a i k)->ly gs k n=ly a k n
 |0,_=>rfl
 |n+1,h=>by
  rw[ly,ly,h n (pV n),Lb λi b=>h i om]
theorem EJ{gs k}:∀{n},(∀i,i<n->look gs i k=none)->ly gs k n=none
 |0,_=>rfl
 |n+1,h=>by rw[ly,h n (pV n),EJ λi a=>h i om]
theorem Jn{gs k}:∀{n}{p:Nat×It},ly gs k n=some p->p.1<n/\look gs p.1 k=some p.2
 |0,_,h=>by cases h
 |n+1,p,h=>by
  rw[ly]at h
  cases a:look gs n k with
  |none=>
   rw[a]at h;have:=Jn h;exact⟨om,this.2⟩
  |some x=>
   rw[a]at h;cases h;exact⟨pV n,a⟩
def has(gs:List Ge)(a:Nat->List Nat)(k:Int):Option Nl:=(ly gs k gs.length).map λp=>mD (a p.1) p.2
def dR(x:Nl):List PV:=.sc (.int .u64 x.key)::x.row
def od(x:Nl):List Nl->List Nl
 |[]=>[x]
 |y::l=>if x.key=y.key then x::l else y::od x l
def iY(k:Int):List Nl->List Nl
 |[]=>[]
 |y::l=>if k=y.key then l else y::iY k l
def kh(k:Int):List Nl->Option Nl
 |[]=>none
 |y::l=>if k=y.key then some y else kh k l
theorem SD(z)(y:Nl):gS z (dR y)=(z==y.key):=rfl
theorem Vl(x:Nl):∀l:List Nl,oI x.key x.row (l.map dR)=(od x l).map dR
 |[]=>rfl
 |y::l=>by
  rw[dk,oI,od,SD];by_cases h:x.key=y.key
  .rw[bA (by simp[h]),bA h];rfl
  .rw[bH (by simp[h]),bH h,Vl x l];rfl
theorem C3(k:Int):∀l:List Nl,oF k (l.map dR)=(iY k l).map dR
 |[]=>rfl
 |y::l=>by
  rw[dk,oF,iY,SD];by_cases h:k=y.key
  .rw[bA (by simp[h]),bA h]
  .rw[bH (by simp[h]),bH h,C3 k l];rfl
def pa(l:List Nl):Prop:=l.Pairwise λa b=>a.key≠b.key
theorem Yv{x y:Nl}:∀{l:List Nl},y∈od x l->y=x\/y∈l
 |[],h=>.inl (jX.1 h)
 |z::l,h=>by
  rw[od]at h;split at h
  .rcases eG.1 h with h|h
   .exact .inl h
   .exact .inr (iz _ h)
  .rcases eG.1 h with h|h
   .exact .inr (h▸iA)
   .rcases Yv h with h|h
    .exact .inl h
    .exact .inr (iz _ h)
theorem Qo{k}{y:Nl}:∀{l:List Nl},y∈iY k l->y∈l
 |[],h=>h
 |z::l,h=>by
  rw[iY]at h;split at h
  .exact iz _ h
  .rcases eG.1 h with h|h
   .exact h▸iA
   .exact iz _ (Qo h)
theorem pa.put{x:Nl}:∀{l:List Nl},pa l->pa (od x l)
 |[],_=>ZZ _ _
 |y::l,h=>by
  have d:=gK.1 h;rw[od];split
  .rename_i e;exact gK.2 ⟨λz a=>by rw[e];exact d.1 z a,d.2⟩
  .rename_i e;refine gK.2 ⟨λz a=>?_,pa.put d.2⟩;rcases Yv a with rfl|a
   .exact λk=>e k.symm
   .exact d.1 z a
theorem pa.del{k}:∀{l:List Nl},pa l->pa (iY k l)
 |[],h=>h
 |y::l,h=>by
  have a:=gK.1 h;rw[iY];split
  .exact a.2
  .exact gK.2 ⟨λz d=>a.1 z (Qo d),pa.del a.2⟩
theorem QM{x:Nl}{k}:∀{l:List Nl},kh k (od x l)=if k=x.key then some x else kh k l
 |[]=>rfl
 |y::l=>by
  rw[od];by_cases e:x.key=y.key
  .rw[bA e,kh,kh,e];by_cases h:k=y.key
   .rw[bA h,bA h]
   .rw[bH h,bH h,bH h]
  .rw[bH e,kh,kh,QM (l:=l)];by_cases h:k=y.key
   .rw[bA h,bH om,bA h]
   .rw[bH h,bH h]
theorem Uu{k}:∀{l:List Nl},(∀y∈l,y.key≠k)->kh k l=none
 |[],_=>rfl
 |y::l,h=>by rw[kh,bH (λe=>h y iA e.symm),Uu λz a=>h z (iz _ a)]
theorem E0{b k}:∀{l:List Nl},pa l->kh k (iY b l)=if k=b then none else kh k l
 |[],_=>by rw[iY,kh];split<;>rfl
 |y::l,h=>by
  have c:=gK.1 h;rw[iY];by_cases e:b=y.key
  .rw[bA e,kh];by_cases a:k=b
   .rw[bA a];exact Uu λz d f=>c.1 z d om
   .rw[bH a,bH om]
  .rw[bH e,kh,kh,E0 c.2];by_cases a:k=y.key
   .rw[bA a,bH om,bA a]
   .rw[bH a,bH a]
end
section
open Go.RowKit Pl AI
attribute [local irreducible] bl.wp
theorem Inv.okF{f gs a B}(h:Inv f gs a B)(k:B<=1000000):dx f:=λj b d=>⟨(h.fb j b d).1,by have:=(h.fb j b d).2;omega⟩
theorem Q2{f gs a B}(h:Inv f gs a B)(j):B8 (gg f j)/\(gg f j).length<=B:=by
 unfold gg
 cases c:f j with
 |none=>exact⟨λx d=>(by cases d),eM _⟩
 |some b=>exact h.fb j b c
theorem YH{f}(d:dx f)(gs:List Ge)(data:L){n:Nat}(e:n<8)(a:f (9*n)=none):
 CZ (dA (cM f)++sA gs++[data,.i (n+1:Nat)])=some (dA (cM (ch f (9*n) (some (gA 1 ((n+1:Nat):Int) 0))))):=by
 have b:gg f (9*n)=[]:=by unfold gg;rw[a]
 have c:=(vx d (j:=9*n) om (x:=gA 1 ((n+1:Nat):Int) 0) ⟨tS _ _ _,by rw[pz];omega⟩ (by rw[b];show(gA _ _ _).length<=_;rw[pz];omega) (.i 1) (.i 9000) (.b false) (.r (gs.map gR)) data).1;rw[b,lp]at c;refine bF ?_;refine bm (aup 1 ((n+1:Nat):Int) 0 om) rfl rfl (nW ?_);refine bm (wP (t:=0) e dc) rfl rfl (nW ?_);refine bm c rfl rfl (nW ?_);exact bk rfl
def l9(gs:List Ge)(x:Nl):List Ge:=gs.set (cT gs).n ((cT gs).add x)
def r5(f:Fs)(gs:List Ge)(x:Nl):Fs:=ch f (9*(cT gs).n) (some (gg f (9*(cT gs).n)++ja x.key x.cookie x.del x.data))
def py(ds:List Nl)(x:Nl):List Nl:=if x.del=true then iY x.key ds else od x ds
theorem Ge.M8(e:Ge)(x):(e.add x).n=e.n/\(e.add x).mode=e.mode:=by
 unfold Ge.add;split<;>exact⟨rfl,rfl⟩
theorem dG.set{gs}(h:dG gs){e:Ge}(k:fp e)(u:e.n<gs.length)(m:e.mode=1↔e.n=gs.length-1):dG (gs.set e.n e):=by
 have q:=h.n1;have t:=h.n8;refine⟨by rw[lr];exact q,by rw[lr];exact t,λi a=>?_⟩;rw[lr]at a⊢;by_cases d:e.n=i
 .subst d;rw[OK];exact⟨k,rfl,m⟩
 .rw[Bm d];exact h.ok i a
theorem V5{gs}(h:dG gs){x}(c:ka x)(d:(cT gs).size+c7 x.data.length<=17000):dG (l9 gs x):=by
 have b:=lA h;have e:=h.n1;have a:=Ge.M8 (cT gs) x;have:=dG.set h (b.1.add c d) (by rw[a.1];omega) (by rw[a.1,a.2,b.2.1,b.2.2];exact⟨λ_=>rfl,λ_=>rfl⟩)
 rwa [a.1]at this
theorem Vr{f}(hf:dx f){gs}(h:dG gs){ds:List Nl}{x}(hx:ka x)(hs:(cT gs).size+c7 x.data.length<=17000)(hg:(gg f (9*(cT gs).n)).length<=1000000):
 vK (dA (cM f)++sA gs++[.r (ds.map dR),.r [x.row]])=some (.b true::dA (cM (r5 f gs x))++sA (l9 gs x)++[.r ((py ds x).map dR)]):=by
 have hl:=lA h;have h1:=h.n1;have ha:=Ge.M8 (cT gs) x;have hsz:=wc x.data.length;have FX:=hx.len;have A6:=Mt x.key x.cookie x.del x.data;have hch:=Hc h (e:=(cT gs).add x) (by rw[ha.1];omega) (by rw[ha.1];exact V5 h hx hs);rw[ha.1]at hch;have hre:=afu (key:=x.key) (cookie:=x.cookie) (del:=x.del) (data:=x.data) om hx.d hx.k0 hx.c0 hx.c4;have hw:=(vx hf (j:=9*(cT gs).n) (by have:=hl.1.n8;omega) (x:=ja x.key x.cookie x.del x.data) ⟨Hb _ _ _ hx.b,om⟩ (by rw[cD];omega) (.i 1) (.i 9000) (.b false) (.r ((l9 gs x).map gR)) (.r (ds.map dR))).1;refine bF ?_;refine bm (TX h) rfl rfl (nW ?_);refine bm (anP hl.1 hl.2.2 hx) rfl rfl (nW ?_);refine bm hch rfl rfl (nW ?_);refine bz (λxs=>xs=[.b false]) ?_ ?_
 .refine uR ?_;refine bR rfl oO (uR ?_);exact bk rfl
 rintro _ rfl;refine nW ?_;refine cn rfl ?_;refine bz (λxs=>xs=dA (cM (r5 f gs x))++[.r ((py ds x).map dR)]) ?_ ?_;rotate_left
 .rintro _ rfl;refine nW ?_;exact bk rfl
 refine wp_loop (I:=λa=>a=.i 0::dA (cM f)++[.r (ds.map dR)]\/a=.i 1::dA (cM (r5 f gs x))++[.r ((py ds x).map dR)]) (mu:=λa=>match a with| .i i::_=>1-i.toNat|_=>0) (.inl rfl) ?_;rintro a (rfl|rfl);rotate_left
 .refine uR ?_;refine bR rfl oO ?_;exact bk rfl
 refine uR ?_;refine cP rfl oO ?_;refine bz (λxs=>xs=[.i 0,.i (-1),.r ((py ds x).map dR),.r ((cM (r5 f gs x)).map bJ)]) ?_ ?_;rotate_left
 .rintro _ rfl;refine nW ?_;refine b8 (i:=0) rfl om (nW ?_);exact bk ⟨.inr rfl,by show 1- (1:Int).toNat<1- (0:Int).toNat;decide⟩
 refine iG (r:=x.row) oO rfl rfl (uR ?_);refine bm hre rfl rfl (nW ?_);refine bm (wP (n:=(cT gs).n) (t:=0) hl.1.n8 dc) rfl rfl (nW ?_);refine bm hw rfl rfl (nW ?_);refine iG (r:=x.row) oO rfl rfl (uR ?_);by_cases hd:x.del=true
 .have ed:py ds x=iY x.key ds:=bA hd;refine fT hd ?_;refine iG (r:=x.row) oO rfl rfl (uR ?_);refine bm (l:=[.r ((py ds x).map dR)]) (by rw[ed,<-C3];rfl) rfl rfl (nW ?_);exact bk rfl
 .have ed:py ds x=od x ds:=bH hd;refine cn (by show x.del=false;simpa using hd) ?_;refine iG (r:=x.row) oO rfl rfl (uR ?_);refine iG (r:=x.row) oO rfl rfl (uR ?_);refine bm (l:=[.r ((py ds x).map dR)]) (by rw[ed,<-Vl];rfl) rfl rfl (nW ?_);exact bk rfl
def B5(f:Fs)(gs:List Ge):Fs:=
 let a:=ch f (9*gs.length) (some (gA 1 ((gs.length+1:Nat):Int) 0))
 ch a (9*(gs.length-1)+1) (some (gg a (9*(gs.length-1)+1)))
theorem asL{f}(s:dx f){gs}(h:dG gs)(o:f (9*gs.length)=none)(data:L):
 Aa (dA (cM f)++sA gs++[data])=some (if gs.length<8 then .b true::dA (cM (B5 f gs))++sA (eI gs)else .b false::dA (cM f)++sA gs):=by
 have z:=h.n1;by_cases g:gs.length<8
 .rw[bA g];have i:=lA h;obtain⟨v,e⟩:=tw h;obtain⟨c,d⟩:∃c,ch f (9*gs.length) (some (gA 1 ((gs.length+1:Nat):Int) 0))=c:=⟨_,rfl⟩
  have a:dx c:=by
   rw[<-d];exact s.ch λy p=>by cases p;exact⟨tS _ _ _,by rw[pz];omega⟩
  have k:=YH s (eI gs) data g o;rw[d]at k;have q:(gg c (9*(gs.length-1)+1)).length<=1048576:=by
   unfold gg
   cases w:c (9*(gs.length-1)+1)with
   |none=>exact eM _
   |some b=>exact(a _ b w).2
  have u:=(vx a (j:=9*(gs.length-1)+1) om (x:=[]) ⟨λy p=>(by cases p),dc⟩ (by rw[fW];exact q) (.i 1) (.i 9000) (.b false) (.r ((eI gs).map gR)) data).2;rw[fW]at u;have r:B5 f gs=ch c (9*(gs.length-1)+1) (some (gg c (9*(gs.length-1)+1))):=by rw[<-d];rfl
  rw[r];refine bF ?_;refine bm (ave h g) rfl rfl (uR ?_);refine bR rfl oO (uR ?_);rw[bD];refine di (n:=((gs.length-1:Nat):Int)) (by show(gs.length:Int) -1=_;omega) om om (nW ?_);refine bS (f:=gR) (l:=gs) (j:=gs.length-1) rfl rfl v rfl ?_;rw[e];refine uR ?_;refine dp (n:=((gs.length+1:Nat):Int)) (by show(((cT gs).n+1:Nat):Int)+1=_;omega) om om (nW ?_);refine bm k rfl rfl (nW ?_);have m:=wP (n:=gs.length-1) (t:=1) om dc;rw[<-i.2.1]at m;refine bm m rfl rfl ?_;rw[i.2.1];refine nW ?_;refine bm u rfl rfl (nW ?_);exact bk rfl
 .rw[bH g];refine bF ?_;refine bm (atp h g) rfl rfl (uR ?_);refine cP rfl oO ?_;exact bk rfl
end
end
end Go.Proofs.YtiikkkhcolcebaaGreatDoor
