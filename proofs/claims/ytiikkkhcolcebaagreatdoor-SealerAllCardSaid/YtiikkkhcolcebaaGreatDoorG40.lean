/- A part. -/
import Derived.Test.YtiikkkhcolcebaaGreatDoorG35
import Derived.Test.YtiikkkhcolcebaaGreatDoorG39
set_option linter.all false
set_option maxHeartbeats 4000000
set_option maxRecDepth 100000
namespace Go.Proofs.YtiikkkhcolcebaaGreatDoor
noncomputable section
section
open Go.RowKit Pl AI
attribute [local irreducible] bl.wp
def qi(x:It)(s:Bool×List It)(y:It):Bool×List It:=if s.1=false/\x.key<=y.key then(true,s.2++[x])else s
def e8(x:It)(s:Bool×List It)(y:It):Bool×List It:=if y.key≠x.key then((qi x s y).1,(qi x s y).2++[y])else qi x s y
def xu(x:It)(s:Bool×List It):List It:=if s.1=false then s.2++[x]else s.2
def Mu(x:It)(l:List It):List It:=xu x (l.foldl (e8 x) (false,[]))
theorem L3{x o}:∀{l:List It},(∀y∈l,x.key<y.key)->l.foldl (e8 x) (true,o)=(true,o++l)
 |[],_=>by simp
 |y::l,h=>by
  have d:=h y iA;have a:qi x (true,o) y=(true,o):=bH λh=>by cases h.1
  have b:e8 x (true,o) y=(true,o++[y]):=by unfold e8;rw[a];exact bA om
  rw[Bc,b,L3 λz c=>h z (iz _ c),dI];rfl
theorem X5{x}:∀{l:List It}{o},fg l->xu x (l.foldl (e8 x) (false,o))=o++ins x l
 |[],o,_=>by simp[xu,ins]
 |y::l,o,h=>by
  have d:=gK.1 h;rw[Bc,ins];by_cases f:y.key<x.key
  .have b:qi x (false,o) y=(false,o):=bH λh=>by have:=h.2;omega
   have a:e8 x (false,o) y=(false,o++[y]):=by unfold e8;rw[b];exact bA om
   rw[a,bA f,X5 d.2,dI];rfl
  rw[bH f];have b:qi x (false,o) y=(true,o++[x]):=bA ⟨rfl,om⟩;by_cases c:y.key=x.key
  .have a:e8 x (false,o) y=(true,o++[x]):=by unfold e8;rw[b];exact bH (λh=>h c)
   rw[a,bA c,L3 (λz e=>by have:=d.1 z e;omega)];simp[xu]
  .have a:e8 x (false,o) y=(true,o++[x]++[y]):=by unfold e8;rw[b];exact bA c
   rw[a,bH c,L3 (λz e=>by have:=d.1 z e;omega)];simp[xu]
theorem aiE{x l}(h:fg l):Mu x l=ins x l:=by
 have:=X5 (x:=x) (o:=[]) h
 rwa [lp]at this
theorem ady{x s y}:(e8 x s y).2.length<=s.2.length+2:=by
 unfold e8 qi;split<;>split<;>simp
theorem HD{x}:∀{l:List It}{s},(l.foldl (e8 x) s).2.length<=s.2.length+2*l.length
 |[],s=>by simp
 |y::l,s=>by
  have a:=HD (x:=x) (l:=l) (s:=e8 x s y);have b:=ady (x:=x) (s:=s) (y:=y);rw[Bc,gy];omega
theorem avl(l:List It)(hl:l.length<=1000)(x:It):Iz [.r (l.map bt),.i x.key,.i x.cookie,.i x.off,.i x.size]=some [.r ((Mu x (gX l)).map bt)]:=by
 obtain⟨o,h1,rfl⟩:=DB (.r (l.map bt)) l rfl om;have mg:=yp l;obtain⟨m,hm⟩:∃m,gX l=m:=⟨_,rfl⟩
 rw[hm]at h1 mg⊢;refine bF ?_;refine bm h1 rfl rfl (nW ?_);refine bz (λxs=>xs=[.b (m.foldl (e8 x) (false,[])).1,.r ((m.foldl (e8 x) (false,[])).2.map bt)]) ?_ ?_;rotate_left
 .rintro _ rfl;have hlen:=HD (x:=x) (l:=m) (s:=(false,[]));simp only[jH]at hlen;unfold Mu xu;obtain⟨s,hs⟩:∃s,m.foldl (e8 x) (false,[])=s:=⟨_,rfl⟩
  rw[hs]at hlen⊢;refine nW ?_;refine bz (λxs=>xs=[.r ((if s.1=false then s.2++[x]else s.2).map bt)]) ?_ (by rintro _ rfl;refine nW ?_;exact bk rfl);refine uR ?_;refine r6 rfl Iff.rfl (λh=>?_) (λh=>?_)
  .have h:s.1=false:=by simpa using h
   rw[bA h];refine uR ?_;refine er (r:=(s.2++[x]).map bt) (fY _) rfl (by show(s.2.map bt).length<=_;rw[bD];omega) (by show(1:Nat)<=_;omega) dc (by rw[dE];rfl) (nW ?_);exact bk rfl
  .rw[bH (by rw[h];decide)];exact bk rfl
 refine wp_loop (I:=λa=>∃i:Nat,a=[.b ((m.take i).foldl (e8 x) (false,[])).1,.i i,.r (((m.take i).foldl (e8 x) (false,[])).2.map bt)]/\i<=m.length) (mu:=λa=>match a with|[_,.i i,_]=>m.length-i.toNat|_=>0) ⟨0,rfl,om⟩ ?_;rintro a ⟨i,rfl,e1⟩;have hlen:=HD (x:=x) (l:=m.take i) (s:=(false,[]));rw[dz]at hlen;simp only[jH]at hlen;refine uR ?_;rw[bD];refine bO rfl (λhc=>?_) (λhc=>?_);rotate_left
 .refine bk ?_;show[L.b _,L.r _]=_;rw[eo om]
 have hi:i<m.length:=om;have dM:(m.take (i+1)).foldl (e8 x) (false,[])=e8 x ((m.take i).foldl (e8 x) (false,[])) m[i]:=by rw[fi hi,yg];rfl
 obtain⟨s,hs⟩:∃s,(m.take i).foldl (e8 x) (false,[])=s:=⟨_,rfl⟩
 obtain⟨y,hy⟩:∃y,m[i]=y:=⟨_,rfl⟩
 rw[hs]at hlen dM;rw[hs];rw[hy]at dM;obtain⟨s1,hs1⟩:∃s1,qi x s y=s1:=⟨_,rfl⟩
 have hput:e8 x s y=if y.key≠x.key then(s1.1,s1.2++[y])else s1:=by rw[<-hs1];rfl
 unfold qi at hs1;have oQ:s1.2.length<=s.2.length+1:=by rw[<-hs1];split<;>simp
 refine bz (λxs=>xs=[.b (e8 x s y).1,.r ((e8 x s y).2.map bt)]) ?_ ?_;rotate_left
 .rintro _ rfl;refine nW ?_;refine b8 (i:=i) rfl om (nW ?_);refine bk ⟨⟨i+1,?_,om⟩,?_⟩
  .rw[dM];rfl
  .show m.length- ((i+1:Nat):Int).toNat<m.length-i;omega
 refine bz (λxs=>xs=[.b s1.1,.r (s1.2.map bt)]) ?_ ?_
 .refine bz (c8 (s.1=false/\x.key<=y.key)) ?_ ?_
  .refine uR ?_;refine r6 rfl Iff.rfl (λh=>?_) (λh=>bk (e7 λk=>by rw[h]at k;cases k.1));have h:s.1=false:=by simpa using h
   refine bS (f:=bt) (j:=i) rfl rfl hi rfl (nW ?_);refine cK (f:=bt) (l:=m) (j:=i) rfl rfl hi rfl rfl ?_;rw[hy];refine uR ?_;exact bk (e_ ⟨λk=>⟨h,k⟩,λk=>k.2⟩)
  .rintro _ ⟨t,rfl,ht⟩;refine nW ?_;refine iU rfl ht (λh=>?_) (λh=>?_)
   .rw[bA h]at hs1;refine uR ?_;refine er (r:=(s.2++[x]).map bt) (fY _) rfl (by show(s.2.map bt).length<=_;rw[bD];omega) (by show(1:Nat)<=_;omega) dc (by rw[dE];rfl) (nW ?_);refine bk ?_;rw[<-hs1];rfl
   .rw[bH h]at hs1;refine bk ?_;rw[<-hs1];rfl
 .rintro _ rfl;refine nW ?_;refine bS (f:=bt) (j:=i) rfl rfl hi rfl (nW ?_);refine cK (f:=bt) (l:=m) (j:=i) rfl rfl hi rfl rfl ?_;rw[hy];refine uR ?_;refine bO rfl (λh=>?_) (λh=>?_)
  .rw[bA h]at hput;refine bS (f:=bt) (j:=i) rfl rfl hi rfl (nW ?_)
   repeat refine cK (f:=bt) (l:=m) (j:=i) rfl rfl hi rfl rfl (nW ?_)
   rw[hy];refine uR ?_;refine er (r:=(s1.2++[y]).map bt) (fY _) rfl (by show(s1.2.map bt).length<=_;rw[bD];omega) (by show(1:Nat)<=_;omega) dc (by rw[dE];rfl) (nW ?_);refine bk ?_;rw[hput];rfl
  .rw[bH h]at hput;refine bk ?_;rw[hput];rfl
def fh(k:Int)(l:List It):List It:=l.filter λy=>decide (y.key≠k)
theorem ajZ(k)(l)(y):fh k (l++[y])=if y.key≠k then fh k l++[y]else fh k l:=by
 unfold fh;rw[Z0];by_cases h:y.key=k<;>simp[h]
theorem atY(l:List It)(hl:l.length<=1000)(k:Int):LF [.r (l.map bt),.i k]=some [.r ((fh k (gX l)).map bt)]:=by
 obtain⟨o,h1,rfl⟩:=DB (.r (l.map bt)) l rfl om;have mg:=yp l;obtain⟨m,hm⟩:∃m,gX l=m:=⟨_,rfl⟩
 rw[hm]at h1 mg⊢;refine bF ?_;refine bm h1 rfl rfl (nW ?_);refine bz (λxs=>xs=[.r ((fh k m).map bt)]) ?_ (by rintro _ rfl;refine nW ?_;exact bk rfl);refine wp_loop (I:=λa=>∃i:Nat,a=[.i i,.r ((fh k (m.take i)).map bt)]/\i<=m.length) (mu:=λa=>match a with|[.i i,_]=>m.length-i.toNat|_=>0) ⟨0,rfl,om⟩ ?_;rintro a ⟨i,rfl,e1⟩;have jE:(fh k (m.take i)).length<=m.length:=by
  have:=OJ (λy=>decide (y.key≠k)) (m.take i);rw[dz]at this;unfold fh;omega
 refine uR ?_;rw[bD];refine bO rfl (λhc=>?_) (λhc=>?_);rotate_left
 .refine bk ?_;show[L.r _]=_;rw[eo om]
 have hi:i<m.length:=om;have dM:=ajZ k (m.take i) m[i];rw[<-fi hi]at dM;obtain⟨y,hy⟩:∃y,m[i]=y:=⟨_,rfl⟩
 rw[hy]at dM;refine bz (λxs=>xs=[.r ((fh k (m.take (i+1))).map bt)]) ?_ ?_
 .refine bS (f:=bt) (j:=i) rfl rfl hi rfl (nW ?_);refine cK (f:=bt) (l:=m) (j:=i) rfl rfl hi rfl rfl ?_;rw[hy];refine uR ?_;refine bO rfl (λh=>?_) (λh=>?_)
  .rw[bA h]at dM;refine bS (f:=bt) (j:=i) rfl rfl hi rfl (nW ?_)
   repeat refine cK (f:=bt) (l:=m) (j:=i) rfl rfl hi rfl rfl (nW ?_)
   rw[hy];refine uR ?_;refine er (r:=(fh k (m.take i)++[y]).map bt) (fY _) rfl (by show((fh k (m.take i)).map bt).length<=_;rw[bD];omega) (by show(1:Nat)<=_;omega) dc (by rw[dE];rfl) (nW ?_);refine bk ?_;rw[dM];rfl
  .rw[bH h]at dM;refine bk ?_;rw[dM];rfl
 .rintro _ rfl;refine nW ?_;refine b8 (i:=i) rfl om (nW ?_);refine bk ⟨⟨i+1,rfl,om⟩,?_⟩;show m.length- ((i+1:Nat):Int).toNat<m.length-i;omega
def dC(l:List It)(s:Nat):List It:=l.filter λx=>Nat.beq (jo x.key).toNat s
def fI(l:List It)(g:Int):Mp:=⟨dC l,cS l,g⟩
theorem ahX(l)(x)(s):dC (l++[x]) s=if Nat.beq (jo x.key).toNat s=true then dC l s++[x]else dC l s:=by
 unfold dC;rw[Z0];by_cases h:Nat.beq (jo x.key).toNat s=true
 .rw[bA h,Z1 (by exact h)];rfl
 .rw[bH h,Z2 (by exact h),Z3,fW]
theorem AF(l)(s):(dC l s).length<=l.length:=OJ _ _
abbrev mW(l:List It):List L:=[.r ((dC l 0).map bt),.r ((dC l 1).map bt),.r ((dC l 2).map bt),.r ((dC l 3).map bt),.r ((dC l 4).map bt),.r ((dC l 5).map bt),.r ((dC l 6).map bt),.r ((dC l 7).map bt)]
theorem anq(l)(hl:l.length<=1000000):MW [.r (l.map bt)]=some [.i (cS l)]:=by
 refine bF ?_;refine bz (λxs=>xs=[.i (cS l)]) ?_ (by rintro _ rfl;exact bk rfl);refine wp_loop (I:=λa=>∃i:Nat,a=[.i (cS (l.take i)),.i i]/\i<=l.length) (mu:=λa=>match a with|[_,.i i]=>l.length-i.toNat|_=>0) ⟨0,rfl,om⟩ ?_;rintro a ⟨i,rfl,e1⟩;refine uR ?_;rw[bD];refine bO rfl (λhc=>?_) (λhc=>?_);rotate_left
 .refine bk ?_;show[L.i (cS (l.take i))]=[L.i (cS l)]
  rw[eo om]
 have hi:i<l.length:=om;have h1:=oH (l.take i);have h2:=AG l[i].size;have h3:(l.take i).length=i:=by rw[dz];omega
 have e:cS (l.take i)+c7 l[i].size=cS (l.take (i+1)):=by rw[fi hi,vo];simp[cS]
 refine bS (f:=bt) (l:=l) (j:=i) rfl rfl hi rfl (nW ?_);refine cK (f:=bt) (l:=l) (j:=i) rfl rfl hi rfl rfl (nW ?_);refine bm (ng l[i].size) rfl rfl (nW ?_);refine dp (n:=cS (l.take (i+1))) e om om (nW ?_);refine b8 (i:=i) rfl om (nW ?_);refine bk ⟨⟨i+1,rfl,om⟩,?_⟩;show l.length- ((i+1:Nat):Int).toNat<l.length-i;omega
theorem Ud{l:List It}(hl:l.length<=1000)(dB:∀x∈l,eN x=true){g:Int}(h0:0<=g)(h1:g<=1099511627776):
 Cw [.r (l.map bt),.i g]=some ([.i (cS (gX l)),.i g]++mW (gX l)):=by
 obtain⟨o,hs,rfl⟩:=DB (.r (l.map bt)) l rfl om;have mg:=yp l;obtain⟨m,hm⟩:∃m,gX l=m:=⟨_,rfl⟩
 rw[hm]at hs mg⊢;refine bF ?_;refine bz (λxs=>xs=[]) ?_ ?_
 .refine wp_loop (I:=λa=>∃i:Nat,a=[.i i]/\i<=l.length) (mu:=λa=>match a with|[.i i]=>l.length-i.toNat|_=>0) ⟨0,rfl,om⟩ ?_;rintro a ⟨i,rfl,e1⟩;refine uR ?_;rw[bD];refine bO rfl (λhc=>?_) (λhc=>bk rfl);have hi:i<l.length:=om;refine bS (f:=bt) (j:=i) rfl rfl hi rfl (uR ?_);refine bm (Cm l[i] (jt (dB _ (cQ hi)))) rfl rfl (uR ?_);refine cn rfl ?_;refine b8 (i:=i) rfl om (nW ?_);refine bk ⟨⟨i+1,rfl,om⟩,?_⟩;show l.length- ((i+1:Nat):Int).toNat<l.length-i;omega
 rintro _ rfl;refine nW ?_;refine bz (λxs=>xs=[.b false]) ?_ ?_
 .refine uR ?_;refine bR rfl om ?_;refine uR ?_;exact bk (dF om)
 rintro _ rfl;refine nW ?_;refine cn rfl ?_;refine bm hs rfl rfl (nW ?_);refine bm (anq m om) rfl rfl (nW ?_);refine bz (λxs=>xs=mW m) ?_ ?_;rotate_left
 .rintro _ rfl;refine nW ?_;exact bk rfl
 refine wp_loop (I:=λa=>∃i:Nat,a=.i i::mW (m.take i)/\i<=m.length) (mu:=λa=>match a with| .i i::_=>m.length-i.toNat|_=>0) ⟨0,rfl,om⟩ ?_;rintro a ⟨i,rfl,e1⟩;have xO:=λs=>AF (m.take i) s
 have htl:(m.take i).length<=1000:=by rw[dz];omega
 refine uR ?_;rw[bD];refine bO rfl (λhc=>?_) (λhc=>?_);rotate_left
 .refine bk ?_;show mW (m.take i)=_;rw[eo om]
 have hi:i<m.length:=om;have dM:=λs=>ahX (m.take i) m[i] s
 rw[<-fi hi]at dM;obtain⟨y,hy⟩:∃y,m[i]=y:=⟨_,rfl⟩
 rw[hy]at dM;have hr:=BJ y.key;obtain⟨s,ig⟩:∃s:Nat,(jo y.key).toNat=s:=⟨_,rfl⟩
 have hs8:s<8:=om;have hst:jo y.key=(s:Int):=om;rw[ig]at dM;refine bz (λxs=>xs=mW (m.take (i+1))) ?_ ?_;rotate_left
 .rintro _ rfl;refine nW ?_;refine b8 (i:=i) rfl om (nW ?_);refine bk ⟨⟨i+1,rfl,om⟩,?_⟩;show m.length- ((i+1:Nat):Int).toNat<m.length-i;omega
 refine bS (f:=bt) (j:=i) rfl rfl hi rfl (nW ?_);refine cK (f:=bt) (l:=m) (j:=i) rfl rfl hi rfl rfl ?_;rw[hy];refine nW ?_;refine bm (Jw y.key) rfl rfl ?_;rw[hst];have h8:s=0\/s=1\/s=2\/s=3\/s=4\/s=5\/s=6\/s=7:=om;have sK:∀t,((dC (m.take i) t).map bt).length<=17179869184:=λt=>by rw[bD];exact oU (xO t) om
 have Zm:mW (m.take (i+1))=[.r ((if Nat.beq s 0=true then dC (m.take i) 0++[y]else dC (m.take i) 0).map bt),.r ((if Nat.beq s 1=true then dC (m.take i) 1++[y]else dC (m.take i) 1).map bt),.r ((if Nat.beq s 2=true then dC (m.take i) 2++[y]else dC (m.take i) 2).map bt),.r ((if Nat.beq s 3=true then dC (m.take i) 3++[y]else dC (m.take i) 3).map bt),.r ((if Nat.beq s 4=true then dC (m.take i) 4++[y]else dC (m.take i) 4).map bt),.r ((if Nat.beq s 5=true then dC (m.take i) 5++[y]else dC (m.take i) 5).map bt),.r ((if Nat.beq s 6=true then dC (m.take i) 6++[y]else dC (m.take i) 6).map bt),.r ((if Nat.beq s 7=true then dC (m.take i) 7++[y]else dC (m.take i) 7).map bt)]:=by
  unfold mW;rw[dM 0,dM 1,dM 2,dM 3,dM 4,dM 5,dM 6,dM 7]
 rw[Zm];clear Zm dM;generalize m.take i=q at*;rcases h8 with rfl|rfl|rfl|rfl|rfl|rfl|rfl|rfl
 .refine uR ?_;refine cP rfl dc ?_;refine bS (f:=bt) (j:=i) rfl rfl hi rfl (nW ?_)
  repeat refine cK (f:=bt) (l:=m) (j:=i) rfl rfl hi rfl rfl (nW ?_)
  rw[hy];refine uR ?_;refine er (r:=(dC q 0++[y]).map bt) (fY _) rfl (sK 0) (by show(1:Nat)<=_;omega) dc (by rw[dE];rfl) (nW ?_);exact bk rfl
 .refine uR ?_;refine bR rfl dc (uR ?_);refine cP rfl dc ?_;refine bS (f:=bt) (j:=i) rfl rfl hi rfl (nW ?_)
  repeat refine cK (f:=bt) (l:=m) (j:=i) rfl rfl hi rfl rfl (nW ?_)
  rw[hy];refine uR ?_;refine er (r:=(dC q 1++[y]).map bt) (fY _) rfl (sK 1) (by show(1:Nat)<=_;omega) dc (by rw[dE];rfl) (nW ?_);exact bk rfl
 .refine uR ?_;refine bR rfl dc (uR ?_);refine bR rfl dc (uR ?_);refine cP rfl dc ?_;refine bS (f:=bt) (j:=i) rfl rfl hi rfl (nW ?_)
  repeat refine cK (f:=bt) (l:=m) (j:=i) rfl rfl hi rfl rfl (nW ?_)
  rw[hy];refine uR ?_;refine er (r:=(dC q 2++[y]).map bt) (fY _) rfl (sK 2) (by show(1:Nat)<=_;omega) dc (by rw[dE];rfl) (nW ?_);exact bk rfl
 .refine uR ?_;refine bR rfl dc (uR ?_);refine bR rfl dc (uR ?_);refine bR rfl dc (uR ?_);refine cP rfl dc ?_;refine bS (f:=bt) (j:=i) rfl rfl hi rfl (nW ?_)
  repeat refine cK (f:=bt) (l:=m) (j:=i) rfl rfl hi rfl rfl (nW ?_)
  rw[hy];refine uR ?_;refine er (r:=(dC q 3++[y]).map bt) (fY _) rfl (sK 3) (by show(1:Nat)<=_;omega) dc (by rw[dE];rfl) (nW ?_);exact bk rfl
 .refine uR ?_;refine bR rfl dc (uR ?_);refine bR rfl dc (uR ?_);refine bR rfl dc (uR ?_);refine bR rfl dc (uR ?_);refine cP rfl dc ?_;refine bS (f:=bt) (j:=i) rfl rfl hi rfl (nW ?_)
  repeat refine cK (f:=bt) (l:=m) (j:=i) rfl rfl hi rfl rfl (nW ?_)
  rw[hy];refine uR ?_;refine er (r:=(dC q 4++[y]).map bt) (fY _) rfl (sK 4) (by show(1:Nat)<=_;omega) dc (by rw[dE];rfl) (nW ?_);exact bk rfl
 .refine uR ?_;refine bR rfl dc (uR ?_);refine bR rfl dc (uR ?_);refine bR rfl dc (uR ?_);refine bR rfl dc (uR ?_);refine bR rfl dc (uR ?_);refine cP rfl dc ?_;refine bS (f:=bt) (j:=i) rfl rfl hi rfl (nW ?_)
  repeat refine cK (f:=bt) (l:=m) (j:=i) rfl rfl hi rfl rfl (nW ?_)
  rw[hy];refine uR ?_;refine er (r:=(dC q 5++[y]).map bt) (fY _) rfl (sK 5) (by show(1:Nat)<=_;omega) dc (by rw[dE];rfl) (nW ?_);exact bk rfl
 .refine uR ?_;refine bR rfl dc (uR ?_);refine bR rfl dc (uR ?_);refine bR rfl dc (uR ?_);refine bR rfl dc (uR ?_);refine bR rfl dc (uR ?_);refine bR rfl dc (uR ?_);refine cP rfl dc ?_;refine bS (f:=bt) (j:=i) rfl rfl hi rfl (nW ?_)
  repeat refine cK (f:=bt) (l:=m) (j:=i) rfl rfl hi rfl rfl (nW ?_)
  rw[hy];refine uR ?_;refine er (r:=(dC q 6++[y]).map bt) (fY _) rfl (sK 6) (by show(1:Nat)<=_;omega) dc (by rw[dE];rfl) (nW ?_);exact bk rfl
 .refine uR ?_;refine bR rfl dc (uR ?_);refine bR rfl dc (uR ?_);refine bR rfl dc (uR ?_);refine bR rfl dc (uR ?_);refine bR rfl dc (uR ?_);refine bR rfl dc (uR ?_);refine bR rfl dc (uR ?_);refine cP rfl dc ?_;refine bS (f:=bt) (j:=i) rfl rfl hi rfl (nW ?_)
  repeat refine cK (f:=bt) (l:=m) (j:=i) rfl rfl hi rfl rfl (nW ?_)
  rw[hy];refine uR ?_;refine er (r:=(dC q 7++[y]).map bt) (fY _) rfl (sK 7) (by show(1:Nat)<=_;omega) dc (by rw[dE];rfl) (nW ?_);exact bk rfl
end
section
open Go.RowKit Pl
structure SL(l:List It):Prop where
 v:VL l
 k:∀x∈l,0<=x.key/\x.key<8
theorem SL.len{l}(h:SL l):l.length<=8:=by
 have:=ani h.v.1 0 8 h.k;omega
theorem SL.nil:SL []:=⟨⟨List.Pairwise.nil,λx a=>by cases a⟩,λx a=>by cases a⟩
theorem B3{l}(h:SL l):gX l=l:=Iy h.v.1
theorem D0{l s x}:x∈dC l s↔x∈l/\(jo x.key).toNat=s:=by
 unfold dC;rw[Gw,Nat.beq_eq]
theorem Hj{l}(h:VL l)(g):qI (fI l g):=λs b=>by
 refine⟨⟨h.1.sublist (GJ),λx a=>h.2 x (D0.1 a).1⟩,λx a=>?_⟩;have c:=(D0.1 a).2;have d:=BJ x.key;omega
theorem YI{l}(h:VL l)(g):(cat (fI l g)).Perm l:=by
 have b:l.Nodup:=h.1.imp λh e=>by subst e;omega
 have c:(cat (fI l g)).Nodup:=(Di (Hj h g)).imp λh e=>h (by rw[e])
 refine(List.perm_ext_iff_of_nodup c b).2 λx=>?_
 rw[WE];constructor
 .rintro⟨s,_,a⟩;exact(D0.1 a).1
 .intro a;have:=BJ x.key;exact⟨(jo x.key).toNat,om,D0.2 ⟨a,rfl⟩⟩
theorem wZ{l}(h:VL l)(g):items (fI l g)=l:=J7 h.1 (YI h g).symm (Di (Hj h g))
theorem alh{a b:List It}(h:a.Perm b):cS a=cS b:=by
 unfold cS
 induction h with
 |nil=>rfl
 |cons x _ ih=>simp only[dk,List.sum_cons,ih]
 |swap x y l=>simp only[dk,List.sum_cons];omega
 |trans _ _ c d=>exact c.trans d
theorem asv{l}(h:VL l){g}(a:0<=g)(b:g<=1099511627776):MV (fI l g):=⟨Hj h g,(alh (YI h g)).symm,a,b⟩
theorem apF{l}(h:SL l)(g):WM (fI l g):=⟨λs=>oU (AF l s) h.len⟩
theorem td{x:It}:∀{l:List It},fg l->∀{y},y∈ins x l↔y=x\/(y∈l/\y.key≠x.key)
 |[],_,y=>by simp[ins]
 |a::l,h,y=>by
  have d:=gK.1 h;unfold ins;by_cases e:a.key<x.key
  .rw[bA e,eG,td d.2,eG];constructor
   .rintro(rfl|rfl| ⟨c,b⟩)
    .exact .inr ⟨.inl rfl,om⟩
    .exact .inl rfl
    .exact .inr ⟨.inr c,b⟩
   .rintro(rfl| ⟨rfl|c,b⟩)
    .exact .inr (.inl rfl)
    .exact .inl rfl
    .exact .inr (.inr ⟨c,b⟩)
  rw[bH e];by_cases c:a.key=x.key
  .rw[bA c,eG,eG];constructor
   .rintro(rfl|b)
    .exact .inl rfl
    .have:=d.1 y b;exact .inr ⟨.inr b,om⟩
   .rintro(rfl| ⟨rfl|b,f⟩)
    .exact .inl rfl
    .exact absurd c f
    .exact .inr b
  .rw[bH c,eG,eG];constructor
   .rintro(rfl|rfl|b)
    .exact .inl rfl
    .exact .inr ⟨.inl rfl,c⟩
    .have:=d.1 y b;exact .inr ⟨.inr b,om⟩
   .rintro(rfl| ⟨b,f⟩)
    .exact .inl rfl
    .exact .inr b
theorem SL.ins{l}(h:SL l){x}(d:eN x=true)(k:0<=x.key)(m:x.key<8):SL (ins x l):=by
 refine⟨⟨y9 x h.v.1,λy a=>?_⟩,λy a=>?_⟩
 .rcases tR a with rfl|a
  .exact d
  .exact h.v.2 y a
 .rcases tR a with rfl|a
  .exact⟨k,m⟩
  .exact h.k y a
theorem qX{k l y}:y∈fh k l↔y∈l/\y.key≠k:=by
 unfold fh;rw[Gw,decide_eq_true_iff]
theorem SL.drop{l}(h:SL l)(k):SL (fh k l):=
 ⟨⟨h.v.1.sublist (GJ),λx a=>h.v.2 x (qX.1 a).1⟩,λx a=>h.k x (qX.1 a).1⟩
def fx:Option It->Int
 |some y=>c7 y.size
 |none=>0
theorem pO(x)(l):cS (x::l)=c7 x.size+cS l:=by simp[cS]
theorem V'{l}(h:fg l)(k):c_ l k=l.find? λx=>decide (x.key=k):=by
 cases a:l.find? λx=>decide (x.key=k)with
 |none=>
  refine CT λx c=>?_
  have:=OB.1 a x c;simpa using this
 |some x=>
  have d:=ZP a;have b:=ZO a;have b:x.key=k:=by simpa using b
  rw[<-b];exact tf h.apart d
theorem azJ{x}:∀{l:List It},fg l->cS (ins x l)+fx (c_ l x.key)=cS l+c7 x.size:=by
 intro l h;rw[V' h]
 induction l with
 |nil=>simp[ins,cS,fx]
 |cons a l ih=>
  have c:=gK.1 h;have ih:=ih c.2;unfold ins;rw[OA];by_cases d:a.key<x.key
  .rw[bA d,decide_eq_false (show¬a.key=x.key by omega),pO,pO];dsimp only;omega
  rw[bH d];by_cases b:a.key=x.key
  .rw[bA b,decide_eq_true b,pO,pO];dsimp only[fx];omega
  .have e:l.find? (λy=>decide (y.key=x.key))=none:=OB.2 λy f=>by have:=c.1 y f;simp;omega
   rw[bH b,decide_eq_false b,pO,pO];dsimp only;rw[e];dsimp only[fx];omega
theorem RN{k}:∀{l:List It},fg l->cS (fh k l)+fx (c_ l k)=cS l:=by
 intro l h;rw[V' h]
 induction l with
 |nil=>simp[fh,cS,fx]
 |cons a l ih=>
  have c:=gK.1 h;have ih:=ih c.2;rw[OA];unfold fh at*;by_cases b:a.key=k
  .rw[Z2 (by simpa using b),decide_eq_true b,pO];dsimp only[fx];have d:l.find? (λy=>decide (y.key=k))=none:=OB.2 λy e=>by have:=c.1 y e;simp;omega
   rw[d]at ih;dsimp only[fx]at ih;omega
  .rw[Z1 (by simpa using b),decide_eq_false b,pO,pO];dsimp only;omega
theorem ayd{x}{l:List It}(h:fg l)(k):c_ (ins x l) k=if k=x.key then some x else c_ l k:=by
 have c:=y9 x h;by_cases e:k=x.key
 .rw[bA e,e];exact tf c.apart ((td h).2 (.inl rfl))
 rw[bH e]
 cases a:c_ l k with
 |none=>
  refine CT λy f d=>?_
  rcases(td h).1 f with rfl| ⟨b,_⟩
  .exact e d.symm
  .rw[<-d,tf h.apart b]at a;cases a
 |some y=>
  obtain⟨b,g⟩:=B4 a;rw[<-g];exact tf c.apart ((td h).2 (.inr ⟨b,om⟩))
theorem Ha{a}{l:List It}(h:fg l)(k):c_ (fh a l) k=if k=a then none else c_ l k:=by
 have d:fg (fh a l):=h.sublist (GJ);by_cases e:k=a
 .rw[bA e];refine CT λy b=>?_
  have:=(qX.1 b).2;omega
 rw[bH e]
 cases c:c_ l k with
 |none=>
  refine CT λy b f=>?_
  rw[<-f,tf h.apart (qX.1 b).1]at c;cases c
 |some y=>
  obtain⟨g,i⟩:=B4 c;rw[<-i];exact tf d.apart (qX.2 ⟨g,om⟩)
end
section
open Go.RowKit Pl AI
attribute [local irreducible] bl.wp
theorem gu{a b}(c:B8 a)(d:B8 b):B8 (a++b):=λx e=>(gI.1 e).elim (c x) (d x)
def num(v:Int)(n:Nat):List Nat:=(List.range n).map λi=>eF v (8*(n-1-i))
theorem dY(v)(n):(num v n).length=n:=by simp[num]
theorem gC(v)(n):B8 (num v n):=λx a=>by
 obtain⟨i,_,rfl⟩:=fE.1 a;exact Wl _ _
theorem Dc(v)(n){i}(h):(num v n)[i]=eF v (8*(n-1-i)):=by simp[num]
theorem jP(v)(n:Nat)(h0:0<=v)(hn:n<=8):je [.i v,.i n]=some [.r ((num v n).map b1)]:=by
 refine bF ?_;refine bz (λxs=>xs=[.r ((num v n).map b1)]) ?_ (by rintro _ rfl;refine nW ?_;exact bk rfl);refine di (n:=(n:Int) -1) rfl om om (nW ?_);refine wp_loop (I:=λa=>∃k:Nat,a=[.i ((n:Int) -1-k),.r (((num v n).take k).map b1)]/\k<=n) (mu:=λa=>match a with|[.i i,_]=>(i+1).toNat|_=>0) ⟨0,by show[L.i ((n:Int) -1),L.r []]=_;simp,om⟩ ?_;rintro a ⟨k,rfl,e1⟩;have hl:=dY v n;refine uR ?_;refine bO rfl (λhc=>?_) (λhc=>?_);rotate_left
 .refine bk ?_;show[L.r (((num v n).take k).map b1)]=_;rw[eo om]
 have hk:k<n:=om;obtain⟨m,hm⟩:∃m:Nat,n-1-k=m:=⟨_,rfl⟩
 have N1:m<=7:=om;refine iV (n:=((8*m:Nat):Int)) (by show 8*((n:Int) -1-k)=_;omega) om om (nW ?_);refine gE (n:=((8*m:Nat):Int)) rfl om om (nW ?_);refine dn (l:=.i (v.fdiv (2^ (8*m)))) ?_ (nW ?_)
 .show(if(0:Int)<=((8*m:Nat):Int)then some (L.i (v.fdiv (2^ (min ((8*m:Nat):Int).toNat IntKind.u64.bits))))else none)=_;rw[bA om,ey,nQ (by show 8*m<=64;omega)]
 refine iP (uR ?_);refine fc (a:=(num v n).take k) (c:=[eF v (8*m)]) rfl (by show[[PV.sc _]]=[b1 _];rw[<-nj]) (by rw[dz];omega) (by show(1:Nat)<=_;omega) (nW ?_);refine di (n:=(n:Int) -1- ((k+1:Nat):Int)) (by show(n:Int) -1-k-1=_;omega) om om (nW ?_);refine bk ⟨⟨k+1,?_,om⟩,?_⟩
 .show[L.i _,L.r (((num v n).take k++[eF v (8*m)]).map b1)]=_;rw[fi (show k< (num v n).length by omega),Dc,hm]
 .show((n:Int) -1- ((k+1:Nat):Int)+1).toNat< ((n:Int) -1-k+1).toNat;omega
def px(l:List Nat):Nat:=l.foldl (λv x=>v*256+x) 0
theorem Wg(l)(x):px (l++[x])=px l*256+x:=by unfold px;rw[yg];rfl
theorem acd(l)(x):val (l++[x])=(val l<<<8)|||BitVec.ofNat 64 x:=by unfold val;rw[yg];rfl
theorem aaU(l:List Nat)(n:Nat)(a:l.length=n)(g:n<=8)(b:B8 l):(val l).toNat=px l/\px l<256^n:=by
 induction n generalizing l with
 |zero=>
  rw[mN a];exact⟨rfl,dc⟩
 |succ n ih=>
  obtain⟨m,x,rfl⟩:∃m x,l=m++[x]:=by
   refine⟨l.dropLast,l.getLast (by intro e;rw[e]at a;cases a),(List.dropLast_concat_getLast _).symm⟩
  rw[cD,GC]at a;have h:x<256:=b x (by simp);obtain⟨c,i⟩:=ih m om om λy d=>b y (by simp[d])
  rw[Wg,acd];have f:px m<2^56:=by
   have:256^n<=256^7:=Bl dc om;have e:(256:Nat) ^7=2^56:=by decide
   omega
  constructor
  .rw[BitVec.toNat_or,BitVec.toNat_shiftLeft,c,BitVec.toNat_ofNat,x8 (show x<2^64 by omega),Bh,x8 (show px m*2^8<2^64 by omega)];rw[show px m*2^8=2^8*px m by omega,<-Nat.two_pow_add_eq_or_of_lt (show x<2^8 by omega)]
  .rw[Nat.pow_succ];omega
theorem aiu(v)(n)(b:0<=v):num v (n+1)=num (v/256) n++[eF v 0]:=by
 unfold num;rw[Gy,dE];congr 1
 .refine gz λi a=>?_
  have a:=jr.1 a;unfold eF;rw[show 8*(n+1-1-i)=8+8*(n-1-i)by omega,Int.pow_add,<-Int.ediv_ediv_of_nonneg (OC dc)];rfl
 .simp
theorem aye(n):∀v:Int,0<=v->v<256^n->(px (num v n):Int)=v:=by
 induction n with
 |zero=>
  intro v b a;have a:v<1:=a;show((0:Nat):Int)=v;omega
 |succ n ih=>
  intro v b a;rw[aiu v n b,Wg];have c:=ih (v/256) om (by rw[Int.pow_succ]at a;omega);unfold eF;have d:(0:Int)<=v/2^0%256:=om;rw[show v/2^0=v by simp]at*;omega
theorem EX(v:Int)(n:Nat)(a:0<=v)(b:n<=8)(c:v<256^n):((val (num v n)).toNat:Int)=v:=by
 rw[(aaU (num v n) n (dY v n) b (gC v n)).1,aye n v a c]
theorem GY(v:Int)(n:Nat)(a:0<=v)(b:n<=8)(c:v<256^n)(d:v<9223372036854775808):(val (num v n)).toInt=v:=by
 have h:=EX v n a b c;rw[BitVec.toInt_eq_toNat_cond,bA om,h]
theorem qk(l):(eH l).length=4:=rfl
def gb(h:List Nat):List Nat:=h++eH h
theorem rE(h):(gb h).length=h.length+4:=by unfold gb;rw[cD,qk]
theorem qH{h}(a:B8 h):B8 (gb h):=gu a (Kx h)
def ec(a g r:Int):List Nat:=[78,86,79,76]++num a 2++num g 2++num r 4
def gA(a g r:Int):List Nat:=gb (ec a g r)
theorem rz(a g r):(ec a g r).length=12:=by simp[ec,dY]
theorem pz(a g r):(gA a g r).length=16:=by unfold gA;rw[rE,rz]
theorem aaB(a g r):B8 (ec a g r):=gu (gu (gu (by unfold B8;decide) (gC _ _)) (gC _ _)) (gC _ _)
theorem tS(a g r):B8 (gA a g r):=qH (aaB a g r)
theorem aup(a g r)(h:0<=a/\a<4/\1<=g/\g<=8/\0<=r/\r<4294967296):Mj [.i a,.i g,.i r]=some [.i 0,.r ((gA a g r).map b1)]:=by
 have d:=dY a 2;have e:=dY g 2;have f:=dY r 4;refine bF ?_;refine bm (K7 a g r (b:=true) ⟨λ_=>h,λ_=>rfl⟩) rfl rfl (uR ?_);refine cn rfl ?_;refine uR ?_;refine iG (r:=b1 78) oO rfl rfl (nW ?_);refine gE (n:=a) rfl om om (nW ?_);refine bm (jP a 2 om om) rfl rfl (nW ?_);refine fc (a:=[78,86,79,76]) (c:=num a 2) rfl rfl (by show(4:Nat)<=_;omega) om (nW ?_);refine gE (n:=g) rfl om om (nW ?_);refine bm (jP g 2 om om) rfl rfl (nW ?_);refine fc (a:=[78,86,79,76]++num a 2) (c:=num g 2) rfl rfl (by simp only[cD];show 4+_<=_;omega) om (nW ?_);refine gE (n:=r) rfl om om (nW ?_);refine bm (jP r 4 om om) rfl rfl (nW ?_);refine fc (a:=[78,86,79,76]++num a 2++num g 2) (c:=num r 4) rfl rfl (by simp only[cD];show 4+_+_<=_;omega) om ?_;show bl.wp _ (_++[L.r ((ec a g r).map b1)]) _;have i:=rz a g r;refine nW ?_;refine nq (m:=eH (ec a g r)) (xm (ec a g r) om) rfl rfl (nW ?_);refine fc (a:=ec a g r) (c:=eH (ec a g r)) rfl rfl om (by rw[qk];omega) (nW ?_);exact bk rfl
def rr(key cookie:Int)(del:Bool)(data:List Nat):List Nat:=[78,165,cond del 1 0,0]++num cookie 4++num key 8++num data.length 4++data
def ja(key cookie:Int)(del:Bool)(data:List Nat):List Nat:=gb (rr key cookie del data)++List.replicate (dw data.length- (data.length+24)) 0
theorem WB(key cookie)(del)(data):(rr key cookie del data).length=data.length+20:=by simp[rr,dY];omega
theorem wc(n:Nat):n+24<=dw n/\dw n<=n+31:=by unfold dw;omega
theorem Mt(key cookie)(del)(data):(ja key cookie del data).length=dw data.length:=by
 have:=wc data.length;unfold ja;rw[cD,rE,WB,pU];omega
theorem aql(key cookie)(del){data}(a:B8 data):B8 (rr key cookie del data):=
 gu (gu (gu (gu (by cases del<;>unfold B8<;>decide) (gC _ _)) (gC _ _)) (gC _ _)) a
theorem Hb(key cookie)(del){data}(a:B8 data):B8 (ja key cookie del data):=gu (qH (aql _ _ _ a)) (R2 _)
theorem Yh{key cookie del}{data:List Nat}(h:data.length<=4096)(a:del=true->data=[]):Ds [.i key,.i cookie,.b del,.r (data.map b1)]=some [.b true]:=by
 refine bF ?_;refine bz (λxs=>xs=[.b true]) ?_ (by rintro _ rfl;refine nW ?_;exact bk rfl);refine uR ?_;rw[bD];refine cP rfl om ?_
 cases del with
 |true=>
  obtain rfl:=a rfl;refine fT rfl (uR ?_);exact bk rfl
 |false=>
  refine cn rfl (uR ?_);exact bk rfl
theorem afu{key cookie del}{data:List Nat}(h:data.length<=4096)(hd:del=true->data=[])(hk:0<=key)(hc:0<=cookie)(hc':cookie<=4294967295):Jy [.i key,.i cookie,.b del,.r (data.map b1)]=some [.i 0,.r ((ja key cookie del data).map b1)]:=by
 have l1:=dY cookie 4;have l2:=dY key 8;have l3:=dY data.length 4;have hsz:=wc data.length;obtain⟨q,hq⟩:∃q:Nat,(cond del 1 0:Nat)=q:=⟨_,rfl⟩
 refine bF ?_;refine uR ?_;rw[bD];refine bR rfl om ?_;refine bm (Yh h hd) rfl rfl (uR ?_);refine cn rfl ?_;refine uR ?_;refine bz (λxs=>xs=[.r (([78,165,q,0]:List Nat).map b1)]) ?_ ?_
 .subst hq
  cases del with
  |true=>
   refine fT rfl ?_;refine iG (r:=b1 0) oO rfl rfl (nW ?_);refine yB (r:=b1 0) rfl dc (nW ?_);exact bk rfl
  |false=>
   refine cn rfl ?_;exact bk rfl
 rintro _ rfl;refine nW ?_;refine gE (n:=cookie) rfl om om (nW ?_);refine bm (jP cookie 4 om om) rfl rfl (nW ?_);refine fc (a:=[78,165,q,0]) (c:=num cookie 4) rfl rfl (by show(4:Nat)<=_;omega) om (nW ?_);refine bm (jP key 8 om om) rfl rfl (nW ?_);refine fc (a:=[78,165,q,0]++num cookie 4) (c:=num key 8) rfl rfl (by simp only[cD];show 4+_<=_;omega) om (uR ?_);rw[bD];refine gE (n:=(data.length:Int)) rfl om om (nW ?_);refine bm (jP data.length 4 om om) rfl rfl (nW ?_);refine fc (a:=[78,165,q,0]++num cookie 4++num key 8) (c:=num data.length 4) rfl rfl (by simp only[cD];show 4+_+_<=_;omega) om (nW ?_);refine fc (a:=[78,165,q,0]++num cookie 4++num key 8++num data.length 4) (c:=data) rfl rfl (by simp only[cD];show 4+_+_+_<=_;omega) om ?_;have hl:=WB key cookie del data;rw[show[78,165,q,0]++num cookie 4++num key 8++num data.length 4++data=rr key cookie del data by rw[<-hq];rfl];obtain⟨hh,Zn⟩:∃hh,rr key cookie del data=hh:=⟨_,rfl⟩
 have hres:ja key cookie del data=gb hh++List.replicate (dw data.length- (data.length+24)) 0:=by rw[<-Zn];rfl
 rw[Zn]at hl⊢;have mg:=rE hh;refine nW ?_;refine nq (m:=eH hh) (xm hh om) rfl rfl (nW ?_);refine fc (a:=hh) (c:=eH hh) rfl rfl om (by rw[qk];omega) ?_;show bl.wp _ (_++[L.r ((gb hh).map b1)]) _;refine nW ?_;refine bz (λxs=>xs=[.r ((ja key cookie del data).map b1)]) ?_ (by rintro _ rfl;refine nW ?_;exact bk rfl);rw[hres];refine wp_loop (I:=λa=>∃i:Nat,a=[.r ((gb hh++List.replicate i 0).map b1)]/\i<=dw data.length- (data.length+24)) (mu:=λa=>match a with|[.r r]=>dw data.length-r.length|_=>0) ⟨0,by show[L.r ((gb hh).map b1)]=_;simp,om⟩ ?_;rintro a ⟨i,rfl,e1⟩;have Zj:(gb hh++List.replicate i 0).length=data.length+24+i:=by rw[cD,pU];omega
 refine uR ?_;rw[bD,bD];refine bm (ng (data.length:Int)) rfl rfl ?_;rw[HK h];refine uR ?_;refine bO rfl (λhc=>?_) (λhc=>?_);rotate_left
 .refine bk ?_;obtain rfl:i=dw data.length- (data.length+24):=om;rfl
 refine uR ?_;refine fc (a:=gb hh++List.replicate i 0) (c:=[0]) rfl rfl om (by show(1:Nat)<=_;omega) (nW ?_);refine bk ⟨⟨i+1,?_,om⟩,?_⟩
 .show[L.r ((gb hh++List.replicate i 0++[0]).map b1)]=_;rw[dI,<-List.replicate_succ']
 .show dw data.length- ((gb hh++List.replicate i 0++[0]).map b1).length<dw data.length- ((gb hh++List.replicate i 0).map b1).length;rw[bD,bD,cD,Zj,GC];omega
theorem adY(key)(h0:0<=key):Hd [.r [[.sc (.int .u64 key)]]]=some [.r ((gb (num key 8)).map b1)]:=by
 have l1:=dY key 8;refine bF ?_;refine bz (λxs=>xs=[.r ((gb (num key 8)).map b1)]) ?_ (by rintro _ rfl;refine nW ?_;exact bk rfl);refine wp_loop (I:=λa=>a=[.i 0,.r []]\/a=[.i 1,.r ((gb (num key 8)).map b1)]) (mu:=λa=>match a with|[.i i,_]=>1-i.toNat|_=>0) (.inl rfl) ?_;rintro a (rfl|rfl)
 .refine uR ?_;refine cP rfl oO ?_;refine iG (r:=[.sc (.int .u64 key)]) oO rfl rfl (uR ?_);refine bm (jP key 8 h0 om) rfl rfl (nW ?_);refine fc (a:=[]) (c:=num key 8) rfl rfl (by show(0:Nat)<=_;omega) om (nW ?_);refine nq (m:=eH (num key 8)) (xm (num key 8) om) rfl rfl (nW ?_);refine fc (a:=num key 8) (c:=eH (num key 8)) rfl rfl om (by rw[qk];omega) (nW ?_);refine b8 (i:=0) rfl om (nW ?_);exact bk ⟨.inr rfl,by show 1- (1:Int).toNat<1- (0:Int).toNat;decide⟩
 .refine uR ?_;refine bR rfl oO ?_;exact bk rfl
theorem ans(l:List It):(l.map bt).all (·.all PV.bare)=true:=X' (f:=bt) (λ_=>rfl) l
structure Mb(l:List It)(g:Int):Prop where
 s:SL l
 h0:0<=g
 h1:g<=1000000
theorem Mb.wm{l g}(h:Mb l g):WM (fI l g):=apF h.s g
theorem Mb.mv{l g}(h:Mb l g):MV (fI l g):=asv h.s.v h.h0 (by have:=h.h1;omega)
theorem BX{l g}(h:Mb l g)(k):tN (fy (fI l g)++[.i k])=some (oh (c_ l k)):=by
 have:=asA h.wm h.mv k
 rwa [wZ h.s.v]at this
theorem HF{l g}(h:Mb l g):qn (fy (fI l g))=some [.r (l.map bt)]:=by
 have:=CH h.wm h.mv
 rwa [wZ h.s.v]at this
theorem za(o):0<=fx o/\fx o<=4120:=by
 cases o with
 |none=>exact⟨dc,dc⟩
 |some y=>exact G9 y.size
theorem Rv(a b:L)(l):([2,3,4,5,6,7,8,9].all λi=>((([a,b]++mW l)[i]?).getD (.b false)).bC.all (·.all PV.bare))=true:=by
 have h:=λs=>ans (dC l s)
 show((((dC l 0).map bt).all (·.all PV.bare))&& (((dC l 1).map bt).all (·.all PV.bare)&& (((dC l 2).map bt).all (·.all PV.bare)&& (((dC l 3).map bt).all (·.all PV.bare)&& (((dC l 4).map bt).all (·.all PV.bare)&& (((dC l 5).map bt).all (·.all PV.bare)&& (((dC l 6).map bt).all (·.all PV.bare)&& (((dC l 7).map bt).all (·.all PV.bare)&&true))))))))=true;rw[h,h,h,h,h,h,h,h];rfl
theorem asE{l g}(h:Mb l g)(x)(e:eN x=true)(i:0<=x.key/\x.key<8):
 Jd (fy (fI l g)++[.i x.key,.i x.cookie,.i x.off,.i x.size])=some (fy (fI (ins x l) (g+fx (c_ l x.key)))):=by
 have q:=h.s.len;have r:=za (c_ l x.key);have k:=h.h0;have o:=h.h1;have c:=avl l om x;have b:=h.s.ins e i.1 i.2;have p:=b.len;rw[B3 h.s,aiE h.s.v.1]at c;have d:=Ud (l:=ins x l) om b.v.2 (g:=g+fx (c_ l x.key)) om om;rw[B3 b]at d;refine bF ?_;refine bz (λxs=>xs=[.b false]) ?_ ?_
 .refine bm (En h.wm (jt h.mv)) rfl rfl (uR ?_);refine cn rfl ?_;refine bm (Cm x (jt e)) rfl rfl (uR ?_);exact bk rfl
 rintro _ rfl;refine nW ?_;refine cn rfl ?_;refine bz (λxs=>xs=[.i (fx (c_ l x.key))]) ?_ ?_
 .have a:=BX h x.key
  cases j:c_ l x.key with
  |none=>
   rw[j]at a;simp only[oh]at a;refine bm a rfl rfl (nW ?_);refine cn rfl ?_;exact bk rfl
  |some y=>
   rw[j]at a;simp only[oh]at a;refine bm a rfl rfl (nW ?_);refine fT rfl ?_;refine bm (ng y.size) rfl rfl (nW ?_);exact bk rfl
 rintro _ rfl;refine nW ?_;refine dp (n:=g+fx (c_ l x.key)) rfl om om (uR ?_);refine bR rfl om ?_;refine bm (HF h) rfl rfl (nW ?_);refine E1 (f:=bt) (m:=ins x l) (λ_=>rfl) c rfl rfl (nW ?_);refine dp (n:=g+fx (c_ l x.key)) rfl om om (nW ?_);refine bm d rfl (Rv _ _ _) (nW ?_);exact bk rfl
theorem ava{k l}(h:c_ l k=none)(a:fg l):fh k l=l:=by
 unfold fh;rw[List.filter_eq_self];intro x b;rw[decide_eq_true_iff];intro e;rw[<-e,tf a.apart b]at h;cases h
theorem OP{l g}(h:Mb l g)(k:Int):DE (fy (fI l g)++[.i k])=some (fy (fI (fh k l) (g+fx (c_ l k)))):=by
 have p:=h.s.len;have d:=za (c_ l k);have i:=h.h0;have j:=h.h1;have a:=BX h k;have b:=h.s.drop k;have o:=b.len;have iJ:=atY l om k;rw[B3 h.s]at iJ;have c:=Ud (l:=fh k l) om b.v.2 (g:=g+fx (c_ l k)) om om;rw[B3 b]at c;refine bF ?_
 cases e:c_ l k with
 |none=>
  rw[e]at a;simp only[oh]at a;refine bm a rfl rfl (nW ?_);refine bz (λxs=>xs=[.b true]) ?_ ?_
  .refine uR ?_;refine fT rfl ?_;exact bk rfl
  rintro _ rfl;refine nW ?_;refine fT rfl (bk ?_);rw[ava e h.s.v.1,show g+fx none=g by show g+0=g;omega];rfl
 |some y=>
  rw[e]at a c d;simp only[oh]at a;have d:0<=c7 y.size/\c7 y.size<=4120:=d;refine bm a rfl rfl (nW ?_);refine bz (λxs=>xs=[.b false]) ?_ ?_
  .refine uR ?_;refine cn rfl ?_;refine bm (ng y.size) rfl rfl (nW ?_);refine dp (n:=g+c7 y.size) rfl om om (uR ?_);exact bk (dF om)
  rintro _ rfl;refine nW ?_;refine cn rfl ?_;refine bm (HF h) rfl rfl (nW ?_);refine E1 (f:=bt) (m:=fh k l) (λ_=>rfl) iJ rfl rfl (nW ?_);refine bm (ng y.size) rfl rfl (nW ?_);refine dp (n:=g+c7 y.size) rfl om om (nW ?_);refine bm c rfl (Rv _ _ _) (nW ?_);exact bk rfl
theorem ato{l g}(h:Mb l g){n:Int}(c:0<=n)(d:n<=1000000):IN (fy (fI l g)++[.i n])=some [.i (g+n)]:=by
 have a:=h.h0;have b:=h.h1;refine bF ?_;refine bz (λxs=>xs=[.i (g+n)]) ?_ (by rintro _ rfl;refine nW ?_;exact bk rfl);refine bz (λxs=>xs=[.b true]) ?_ ?_
 .refine bm (En h.wm (jt h.mv)) rfl rfl (uR ?_);refine fT rfl (uR ?_);refine cP rfl om ?_;refine di (n:=1099511627776-g) rfl om om (uR ?_);exact bk (dT (by show n<=1099511627776-g;omega))
 rintro _ rfl;refine nW ?_;refine fT rfl ?_;refine dp (n:=g+n) rfl om om (nW ?_);exact bk rfl
structure Ge where
 n:Nat
 mode:Int
 l:List It
 dD:Int
def Ge.size(e:Ge):Int:=16+cS e.l+e.dD
def Ge.gn(e:Ge):Gn:=⟨(e.n+1:Nat),0,e.mode,e.size,fI e.l e.dD⟩
structure fp(e:Ge):Prop where
 n8:e.n<8
 m1:1<=e.mode
 m3:e.mode<=3
 s:SL e.l
 cl:e.l.Pairwise Clear
 en:∀x∈e.l,ends x<=e.size
 g0:0<=e.dD
 g8:e.dD%8=0
 sz:e.size<=17000
theorem Rw(n):c7 n%8=0:=by unfold c7;split<;>omega
theorem MF:∀l,cS l%8=0
 |[]=>rfl
 |x::l=>by
  have a:=MF l;have b:=Rw x.size;rw[pO];omega
theorem fp.mb{e}(h:fp e):Mb e.l e.dD:=⟨h.s,h.g0,by
 have a:=h.sz;have d:=oH e.l;unfold Ge.size at a;omega⟩
theorem fp.gv{e}(h:fp e):GV e.gn:=by
 have a:=h.sz;have d:=oH e.l;have k:=h.g0;have m:=h.n8;have q:=MF e.l;have t:=h.g8;refine⟨⟨?_,?_,(by show(0:Int)<=0;omega),(by show(0:Int)<4294967296;omega),h.m1,h.m3⟩,⟨?_,?_,?_⟩,h.mb.mv,?_,rfl⟩
 .show(1:Int)<=((e.n+1:Nat):Int);omega
 .show((e.n+1:Nat):Int)<=8;omega
 .show 16<=e.size;unfold Ge.size;omega
 .show e.size<=_;omega
 .show e.size%8=0;unfold Ge.size;omega
 .show(items (fI e.l e.dD)).Pairwise Clear/\∀x∈items (fI e.l e.dD),ends x<=e.size;rw[wZ h.s.v];exact⟨h.cl,h.en⟩
theorem EF{e}(h:fp e):rN (fq e.gn)=some [.b true]:=arl (g:=e.gn) h.mb.wm (jt h.gv)
theorem Xl{e}(h:fp e)(a b:Int)(c:e.mode=a):Dz (fq e.gn++[.i a,.i b])=some (.i 0::fq (Ge.gn {e with mode:=b})):=by
 refine bF ?_;refine bm (EF h) rfl rfl (uR ?_);refine cn rfl (uR ?_);refine bR rfl (λh=>h c) ?_;exact bk rfl
theorem adk{e}(h:fp e)(a:e.mode=2):Lm (fq e.gn)=some (.i 0::fq (Ge.gn {e with mode:=3})):=by
 refine bF ?_;refine bm (Xl h 2 3 a) rfl rfl (nW ?_);exact bk rfl
theorem adO{e}(h:fp e)(a:e.mode=1):Lo (fq e.gn)=some (.i 0::fq (Ge.gn {e with mode:=2})):=by
 refine bF ?_;refine bm (Xl h 1 2 a) rfl rfl (nW ?_);exact bk rfl
theorem Pc{n:Nat}(a:n<8):EZ [.i (n+1:Nat)]=some [.i 0,.i (n+1:Nat),.i 1,.i 16]:=by
 refine bF ?_;refine bz (λxs=>xs=[.b false]) ?_ ?_
 .refine uR ?_;refine bR rfl om (uR ?_);exact bk (dF om)
 rintro _ rfl;refine nW ?_;refine cn rfl ?_;exact bk rfl
def Ge.del(e:Ge)(k:Int):Ge:={e with l:=fh k e.l,dD:=e.dD+fx (c_ e.l k)}
theorem Ge.Mw{e:Ge}(h:fg e.l)(k):(e.del k).size=e.size:=by
 have:=RN (k:=k) h;show 16+cS (fh k e.l)+(e.dD+fx (c_ e.l k))=16+cS e.l+e.dD;omega
theorem Ri(o):fx o%8=0:=by
 cases o with
 |none=>rfl
 |some y=>exact Rw y.size
theorem fp.del{e}(h:fp e)(k):fp (e.del k):=by
 have a:=Ge.Mw h.s.v.1 k;have t:=za (c_ e.l k);have u:=Ri (c_ e.l k);have d:=h.g0;have m:=h.g8;refine⟨h.n8,h.m1,h.m3,h.s.drop k,h.cl.sublist (GJ),λx q=>?_,?_,?_,?_⟩
 .rw[a];exact h.en x (qX.1 q).1
 .show 0<=e.dD+_;omega
 .show(e.dD+_)%8=0;omega
 .rw[a];exact h.sz
theorem akC{e}(h:fp e)(hm:e.mode≠1)(k:Int):Lq (fq e.gn++[.r [[.sc (.int .u64 k)]]])=some (.i 0::fq (e.del k).gn):=by
 have hd:=OP h.mb k;refine bF ?_;refine bm (EF h) rfl rfl (uR ?_);refine cn rfl (uR ?_);refine bR rfl hm ?_;refine bz (λxs=>xs=fy (fI (fh k e.l) (e.dD+fx (c_ e.l k)))) ?_ ?_
 .refine wp_loop (I:=λa=>a=.i 0::fy (fI e.l e.dD)\/a=.i 1::fy (fI (fh k e.l) (e.dD+fx (c_ e.l k)))) (mu:=λa=>match a with| .i i::_=>1-i.toNat|_=>0) (.inl rfl) ?_;rintro a (rfl|rfl)
  .refine uR ?_;refine cP rfl oO ?_;refine iG (r:=[.sc (.int .u64 k)]) oO rfl rfl (uR ?_);refine bm hd rfl rfl (nW ?_);refine b8 (i:=0) rfl om (nW ?_);exact bk ⟨.inr rfl,by show 1- (1:Int).toNat<1- (0:Int).toNat;decide⟩
  .refine uR ?_;refine bR rfl oO ?_;exact bk rfl
 rintro _ rfl;refine nW ?_;refine bk ?_;show(_:List L)=L.i 0::fq (e.del k).gn;unfold fq Ge.gn;dsimp only;rw[Ge.Mw h.s.v.1 k];rfl
structure Nl where
 key:Int
 cookie:Int
 del:Bool
 data:List Nat
def Nl.row(x:Nl):List PV:=[.sc (.int .u64 x.key),.sc (.int .u32 x.cookie),.sc (.bool x.del),.sl (x.data.map b1)]
structure ka(x:Nl):Prop where
 k0:0<=x.key
 k8:x.key<8
 c0:0<=x.cookie
 c4:x.cookie<=4294967295
 d:x.del=true->x.data=[]
 b:B8 x.data
 len:x.data.length<=30
def Ge.item(e:Ge)(x:Nl):It:=⟨x.key,x.cookie,e.size,x.data.length⟩
def Ge.add(e:Ge)(x:Nl):Ge:=if x.del=true then{e with l:=fh x.key e.l,dD:=e.dD+fx (c_ e.l x.key)+24}else{e with l:=ins (e.item x) e.l,dD:=e.dD+fx (c_ e.l x.key)}
theorem W5{x:Nl}(h:ka x)(a:x.del=true):c7 (x.data.length:Int)=24:=by rw[h.d a];rfl
theorem Ge.Io{e:Ge}(h:fg e.l){x}(d:ka x):(e.add x).size=e.size+c7 x.data.length:=by
 unfold Ge.add;by_cases a:x.del=true
 .rw[bA a,W5 d a];have:=RN (k:=x.key) h;show 16+cS (fh x.key e.l)+(e.dD+fx (c_ e.l x.key)+24)=16+cS e.l+e.dD+24;omega
 .rw[bH a];have:=azJ (x:=e.item x) h;have m:(e.item x).key=x.key:=rfl;have q:(e.item x).size=(x.data.length:Int):=rfl;rw[m,q]at this;show 16+cS (ins (e.item x) e.l)+(e.dD+fx (c_ e.l x.key))=16+cS e.l+e.dD+_;omega
theorem FB{n:Nat}(h:n<=30):24<=c7 (n:Int)/\c7 (n:Int)<=56:=by unfold c7;split<;>omega
theorem fp.bd{e}(h:fp e):16<=e.size/\e.size%8=0/\0<=cS e.l/\e.dD<=17000:=by
 have a:=h.sz;have d:=oH e.l;have k:=h.g0;have m:=MF e.l;have q:=h.g8;unfold Ge.size at*;omega
theorem YA{e}(h:fp e){x}(a:ka x):eN (e.item x)=true:=by
 have b:=h.bd;have c:=h.sz;have d:=a.len;simp only[eN,cu,eD];show(((16<=e.size/\e.size<=1048576)/\e.size%8=0)/\0<=(x.data.length:Int))/\(x.data.length:Int)<=4096;omega
theorem fp.add{e}(h:fp e){x}(q:ka x)(O:e.size+c7 x.data.length<=17000):fp (e.add x):=by
 have G:=Ge.Io h.s.v.1 q;have P:=za (c_ e.l x.key);have Q:=Ri (c_ e.l x.key);have R:=FB q.len;have J:=h.g0;have K:=h.g8;have M:=h.bd;by_cases H:x.del=true
 .have F:e.add x={e with l:=fh x.key e.l,dD:=e.dD+fx (c_ e.l x.key)+24}:=bA H;rw[F]at G⊢;refine⟨h.n8,h.m1,h.m3,h.s.drop _,h.cl.sublist (GJ),λy k=>?_,?_,?_,?_⟩
  .have:=h.en y (qX.1 k).1;omega
  .show 0<=e.dD+_+24;omega
  .show(e.dD+_+24)%8=0;omega
  .omega
 .have F :e.add x={e with l:=ins (e.item x) e.l,dD:=e.dD+fx (c_ e.l x.key)}:=bH H;rw[F]at G⊢;have t:∀y∈e.l,Clear (e.item x) y:=λy k=>by
   have N:=h.en y k;have S:=CM (h.s.v.2 y k);unfold Clear;unfold ends at N⊢;show¬(e.size<=y.off/\_)/\¬(y.off<=e.size/\e.size<y.off+c7 y.size);omega
  refine⟨h.n8,h.m1,h.m3,h.s.ins (YA h q) q.k0 q.k8,?_,λy k=>?_,?_,?_,?_⟩
  .have u:∀a∈ins (e.item x) e.l,∀b∈ins (e.item x) e.l,a.key≠b.key->Clear a b:=λa E b m z=>by
    rcases(td h.s.v.1).1 E with rfl| ⟨E,_⟩
    .rcases(td h.s.v.1).1 m with rfl| ⟨m,_⟩
     .exact absurd rfl z
     .exact t b m
    .rcases(td h.s.v.1).1 m with rfl| ⟨m,_⟩
     .exact(t a E).symm
     .obtain⟨i,B,rfl⟩:=jG E;obtain⟨j,D,rfl⟩:=jG m;rcases Bf i j with d|d|d
      .exact kE.1 h.cl i j B D d
      .subst d;exact absurd rfl z
      .exact(kE.1 h.cl j i D B d).symm
   refine kE.2 λi j B D d=>u _ (cQ B) _ (cQ D) ?_
   have:=kE.1 (y9 (e.item x) h.s.v.1) i j B D d;intro I;have I:(ins (e.item x) e.l)[i].key=(ins (e.item x) e.l)[j].key:=I;omega
  .rcases tR k with rfl|k
   .show e.size+c7 (x.data.length:Int)<=_;omega
   .have:=h.en y k;omega
  .show 0<=e.dD+_;omega
  .show(e.dD+_)%8=0;omega
  .omega
theorem anP{e}(h:fp e)(hm:e.mode=1){x}(hx:ka x):H9 (fq e.gn++[.r [x.row]])=some (.i 0::fq (e.add x).gn):=by
 have hz:=Ge.Io h.s.v.1 hx;have F4:=h.bd;have hsz:=h.sz;have h2:=FB hx.len;have jE:=OP h.mb x.key;have hob:=za (c_ e.l x.key);have hit:eN (e.item x)=true:=YA h hx;have hpu:=asE h.mb (e.item x) hit ⟨hx.k0,hx.k8⟩;have hvn:=Yh (key:=x.key) (cookie:=x.cookie) (del:=x.del) (data:=x.data) (by have:=hx.len;omega) hx.d;refine bF ?_;refine bm (EF h) rfl rfl (uR ?_);refine cn rfl ?_;refine bz (λxs=>xs=[.i (e.size+c7 x.data.length)]) ?_ ?_
 .refine wp_loop (I:=λa=>a=[.i e.size,.i 0]\/a=[.i (e.size+c7 x.data.length),.i 1]) (mu:=λa=>match a with|[_,.i i]=>1-i.toNat|_=>0) (.inl rfl) ?_;rintro a (rfl|rfl)
  .refine uR ?_;refine cP rfl oO ?_;refine iG (r:=x.row) oO rfl rfl (uR ?_);refine bm hvn rfl rfl (uR ?_);refine cn rfl ?_;refine iG (r:=x.row) oO rfl rfl (uR ?_);rw[bD];refine bm (ng (x.data.length:Int)) rfl rfl (nW ?_);refine dp (n:=e.size+c7 x.data.length) rfl om om (nW ?_);refine b8 (i:=0) rfl om (nW ?_);exact bk ⟨.inr rfl,by show 1- (1:Int).toNat<1- (0:Int).toNat;decide⟩
  .refine uR ?_;refine bR rfl oO ?_;exact bk rfl
 rintro _ rfl;refine uR ?_;refine bR rfl (λh=>h hm) (uR ?_);refine bR rfl om ?_;refine bz (λxs=>xs=.i (e.add x).size::fy (e.add x).gn.map) ?_ ?_
 .refine wp_loop (I:=λa=>a=.i 0:: .i e.size::fy (fI e.l e.dD)\/a=.i 1:: .i (e.add x).size::fy (e.add x).gn.map) (mu:=λa=>match a with| .i i::_=>1-i.toNat|_=>0) (.inl rfl) ?_;rintro a (rfl|rfl)
  .refine uR ?_;refine cP rfl oO ?_;refine iG (r:=x.row) oO rfl rfl (uR ?_);rw[bD];refine bm (ng (x.data.length:Int)) rfl rfl (nW ?_);refine bz (λxs=>xs=fy (e.add x).gn.map) ?_ ?_
   .by_cases hd:x.del=true
    .have ea:(e.add x).gn.map=fI (fh x.key e.l) (e.dD+fx (c_ e.l x.key)+24):=by unfold Ge.add;rw[bA hd];rfl
     have hw:=ato (l:=fh x.key e.l) (g:=e.dD+fx (c_ e.l x.key)) ⟨h.s.drop _,by have:=h.g0;omega,om⟩ (n:=24) dc dc;rw[ea];refine fT hd ?_;refine bm jE rfl rfl (nW ?_);rw[W5 hx hd];refine bm hw rfl rfl (nW ?_);exact bk rfl
    .have ea:(e.add x).gn.map=fI (ins (e.item x) e.l) (e.dD+fx (c_ e.l x.key)):=by unfold Ge.add;rw[bH hd];rfl
     rw[ea];refine cn (by show x.del=false;simpa using hd) (uR ?_);rw[bD];refine bm hpu rfl rfl (nW ?_);exact bk rfl
   rintro _ rfl;refine nW ?_;refine dp (n:=(e.add x).size) hz.symm om om (nW ?_);refine b8 (i:=0) rfl om (nW ?_);exact bk ⟨.inr rfl,by show 1- (1:Int).toNat<1- (0:Int).toNat;decide⟩
  .refine uR ?_;refine bR rfl oO ?_;exact bk rfl
 rintro _ rfl;refine nW ?_;refine bk ?_;unfold Ge.add;by_cases hd:x.del=true
 .rw[bA hd];rfl
 .rw[bH hd];rfl
end
end
end Go.Proofs.YtiikkkhcolcebaaGreatDoor
