/- A part. -/
import Derived.Test.YtiikkkhcolcebaaGreatDoorG32
import Derived.Test.YtiikkkhcolcebaaGreatDoorG33
import Derived.Test.YtiikkkhcolcebaaGreatDoorG34
import Derived.Test.YtiikkkhcolcebaaGreatDoorG35
import Derived.Test.YtiikkkhcolcebaaGreatDoorG37
set_option linter.all false
set_option maxHeartbeats 4000000
set_option maxRecDepth 100000
namespace Go.Proofs.YtiikkkhcolcebaaGreatDoor
noncomputable section
section
open Go.RowKit
namespace AI
end AI
namespace AI
end AI
namespace AI
end AI
namespace AI
end AI
end
section
namespace Pl
structure Mp where
 st:Nat->List It
 live:Int
 dD:Int
def jo(k:Int):Int:=k*11400714819323198485%18446744073709551616/2305843009213693952
theorem BJ(k):0<=jo k/\jo k<8:=by unfold jo;omega
def cS(l:List It):Int:=(l.map λx=>c7 x.size).sum
def cat(m:Mp):List It:=(List.range 8).flatMap m.st
def qI(m:Mp):Prop:=∀s,s<8->VL (m.st s)/\∀x∈m.st s,jo x.key=(s:Int)
def MV(m:Mp):Prop:=qI m/\m.live=cS (cat m)/\0<=m.dD/\m.dD<=1099511627776
def items(m:Mp):List It:=gX (cat m)
theorem Sr(m)(h:qI m):∀n,n<=8->lX ((List.range n).flatMap m.st)
 |0,_=>by simp[lX]
 |n+1,l=>by
  rw[Gy,ZY];refine GG.2 ⟨Sr m h n om,?_,?_⟩
  .have:=(h n om).1.1.apart;simpa[lX]using this
  .intro a c b f e;obtain⟨s,g,c⟩:=sM.1 c;have i:=jr.1 g;have d:b∈m.st n:=by simpa using f
   have j:=(h s om).2 a c;have k:=(h n om).2 b d;rw[e,k]at j;omega
theorem Di{m}(h:qI m):lX (cat m):=Sr m h 8 om
theorem WE{m x}:x∈cat m↔∃s,s<8/\x∈m.st s:=by
 unfold cat;simp[sM]
theorem aqr{m}(h:qI m):∀x∈cat m,eN x=true:=λx a=>by
 obtain⟨s,c,a⟩:=WE.1 a;exact(h s c).1.2 x a
theorem atQ{m}(h:qI m){x}:x∈items m↔x∈cat m:=(W6 (Di h)).mem_iff
theorem WI{m}(h:qI m):∀x∈items m,eN x=true:=λx a=>aqr h x ((atQ h).1 a)
theorem ani{l}(h:fg l)(lo c)(d:∀x∈l,lo<=x.key/\x.key<c):(l.length:Int)<=max 0 (c-lo):=by
 induction l generalizing lo with
 |nil=>simp;omega
 |cons a l ih=>
  have e:=gK.1 h;have g:=d a (by simp);have:=ih e.2 (a.key+1) λx f=>⟨by have:=e.1 x f;omega,(d x (by simp[f])).2⟩
  simp only[gy];omega
structure Gn where
 num:Int
 rev:Int
 mode:Int
 size:Int
 map:Mp
def GV(g:Gn):Prop:=
 (1<=g.num/\g.num<=8/\0<=g.rev/\g.rev<4294967296/\1<=g.mode/\g.mode<=3)/\
 (16<=g.size/\g.size<=1048576/\g.size%8=0)/\MV g.map/\
 ((items g.map).Pairwise Clear/\∀x∈items g.map,ends x<=g.size)/\g.size=16+g.map.live+g.map.dD
end Pl
end
section
open Go.RowKit Pl
def dr(x:It):List It->Nat
 |[]=>0
 |a::l=>if a.key<x.key then dr x l+1 else 0
theorem P_(x:It):∀l:List It,dr x l<=l.length
 |[]=>de _
 |a::l=>by
  have:=P_ x l;simp only[dr,gy];split<;>omega
theorem Qp{x}:∀{l}{k}(h:k<dr x l),∃y,l[k]?=some y/\y.key<x.key
 |[],k,h=>absurd h (rn k)
 |a::l,k,h=>by
  simp only[dr]at h;split at h
  .rename_i c
   cases k with
   |zero=>exact⟨a,rfl,c⟩
   |succ k=>exact Qp (l:=l) (k:=k) om
  .omega
theorem WX{x}:∀{l}{y},l[dr x l]?=some y->¬y.key<x.key
 |[],y,h=>by cases h
 |a::l,y,h=>by
  simp only[dr]at h;split at h
  .exact WX (l:=l) (by simpa using h)
  .rename_i c;cases h;exact c
theorem We(x):∀l:List It,ins x l=l.take (dr x l)++x::(match l.drop (dr x l)with|y::r=>if y.key=x.key then r else y::r|[]=>[])
 |[]=>rfl
 |a::l=>by
  simp only[dr,ins];split
  .simp only[Ot,List.drop_succ_cons,rb];rw[We x l]
  .simp only[Oy,vh,lp];split<;>rfl
theorem No(x):∀l:List It,(ins x l).length<=l.length+1
 |[]=>de _
 |a::l=>by
  have:=No x l;simp only[ins];split
  .simp only[gy];omega
  .split<;>simp only[gy]<;>omega
namespace AI
theorem DB(l0:L)(l:List It)(hr:l0.bC=l.map bt)(hn:l.length<=1000000):∃o,w4 [l0]=some o/\o=[.r ((gX l).map bt)]:=by
 have hlen:l0.bC.length=l.length:=by rw[hr,bD]
 refine jR ?_;unfold VE;simp only[sx];refine wp_loop (I:=λa=>∃(i:Nat)(out:List It),a=[.i i,.r (out.map bt)]/\i<=l.length/\out.length<=i/\gX l=(l.drop i).foldl (λout x=>ins x out) out) (mu:=λa=>match a with|[.i i,_]=>l.length-i.toNat|_=>0) (by exact⟨0,[],rfl,om,by simp,by simp[gX]⟩) ?_;rintro a ⟨i,out,rfl,e1,e2,e3⟩;by_cases hi:i<l.length;rotate_left
 .have hi':¬(i:Int)< (l0.bC.length:Int):=om;have:l.drop i=[]:=rl om;rw[this]at e3;simp only[List.foldl_nil]at e3;simp[t_,uQ,uO,wB,xB,vV,uq,tZ,tK,te,uy,wa,vn,uI,vW,vZ,ux,uh,xI,wT,xi,ta,qD,uv,sx,dV,mY,At.ev,d6,d7,d8,e0,d9,r7,uD,mT,db,Kd.pv,Kd.of,dk,gJ,d1,d2,d3,d4,d5,b_,hlen,hi,e3]
 have hi0:i<l0.bC.length:=om;have hx:l0.bC[i]=bt l[i]:=by
  have:l0.bC[i]?=some (bt l[i]):=by rw[hr,cX,cY hi];rfl
  rw[cY hi0]at this;exact rm this
 have hd:l.drop i=l[i]::l.drop (i+1):=sS hi;rw[hd]at e3;simp only[Bc]at e3;generalize l[i]=x at hx e3;unfold bt at hx;simp[t_,uQ,uO,wB,xB,vV,uq,tZ,tK,te,uy,wa,vn,uI,vW,vZ,ux,uh,xI,wT,xi,ta,qD,uv,sx,dV,mY,At.ev,d6,d7,d8,e0,d9,r7,uD,mT,db,Kd.pv,Kd.of,dk,gJ,d1,d2,d3,d4,d5,b_,hlen,hi];refine wp_loop (I:=λa=>∃k:Nat,a=[.i k]/\k<=dr x out) (mu:=λa=>match a with|[.i k]=>out.length-k.toNat|_=>0) (by exact⟨0,rfl,om⟩) ?_;rintro a ⟨k,rfl,f1⟩;have hc:=P_ x out;by_cases hk:k<dr x out
 .obtain⟨y,y1,y2⟩:=Qp hk;have f_:k<out.length:=om;have y1':out[k]=y:=rm ((cY f_).symm.trans y1);have w:IntKind.wrap .i64 ((k:Int)+1)=(k:Int)+1:=AI.wrap64 om om;simp[t_,uQ,uO,wB,xB,vV,uq,tZ,tK,te,uy,wa,vn,uI,vW,vZ,ux,uh,xI,wT,xi,ta,qD,uv,sx,dV,mY,At.ev,d6,d7,d8,e0,d9,r7,uD,mT,db,Kd.pv,Kd.of,dk,gJ,d1,d2,d3,d4,d5,b_,f_,y1',bt,Kd.of,hi0,hx,y2,w];exact⟨⟨k+1,om,om⟩,om⟩
 have iN:k=dr x out:=om;subst iN;have ie:=We x out;have Zj:=No x out;have hR:=fY out;have hh:=lV hR;have w:IntKind.wrap .i64 ((i:Int)+1)=(i:Int)+1:=AI.wrap64 om om;have hN:ct 4 []=true:=rfl;have uX:ct 4 (List.take (dr x out) (out.map bt))=true:=by rw[<-lj];exact fY _
 have hL:ct 4 [[PV.sc (.int .u64 x.key),PV.sc (.int .u32 x.cookie),PV.sc (.int .i64 x.off),PV.sc (.int .i64 x.size)]]=true:=rfl;have n1:out.length<=9223372036854775806:=om;have n2:(out.length+1)*32<=140737488355328:=om;have n3:out.length+1<=9223372036854775807:=om;have Gc:ct 4 (List.take (dr x out) (out.map bt)++[[PV.sc (.int .u64 x.key),PV.sc (.int .u32 x.cookie),PV.sc (.int .i64 x.off),PV.sc (.int .i64 x.size)]])=true:=by
  have:=fY (out.take (dr x out)++[x]);rw[dE,lj]at this;exact this
 by_cases f_:dr x out<out.length
 .have iJ:out.drop (dr x out)=out[dr x out]::out.drop (dr x out+1):=sS f_;have hge:=WX (cY f_);rw[iJ]at ie;simp only at ie;have Zk:List.drop (dr x out) (out.map bt)=bt out[dr x out]::(out.drop (dr x out+1)).map bt:=by rw[<-nR,iJ,dk]
  generalize hy:out[dr x out]=y at hge ie Zk iJ;have vc:ct 4 (bt y::(out.drop (dr x out+1)).map bt)=true:=fY (y::out.drop (dr x out+1));have xW:=lV vc;have hld:(out.drop (dr x out+1)).length=out.length- (dr x out+1):=mh;have kZ:List.take (out.length-dr x out) (List.drop (dr x out) (out.map bt))=bt y::(out.drop (dr x out+1)).map bt:=by
   rw[eo (by rw[mh,bD];omega),Zk]
  have NZ:(List.drop (dr x out+1) out).length=out.length-dr x out-1:=by rw[mh];omega
  have Gd:List.take (out.length-dr x out-1) ((out.drop (dr x out+1)).map bt)=(out.drop (dr x out+1)).map bt:=eo (by rw[bD];omega);have q1:out.length<=9223372036854775807+dr x out:=om;have q2:(out.length-dr x out)*32<=140737488355328:=om;have q3:0<out.length-dr x out:=om;have q4:dr x out<=9223372036854775806:=om;have q5:(dr x out+1)*32<=140737488355328:=om;have q6:dr x out+1+(out.length-dr x out-1)<=9223372036854775807:=om;have q7:(dr x out+1+(out.length-dr x out-1))*32<=140737488355328:=om;have q8:(1:Int)<=((out.length-dr x out:Nat):Int):=om;have q9:dr x out+1+(out.length-dr x out)<=9223372036854775807:=om;have z7:(dr x out+1+(out.length-dr x out))*32<=140737488355328:=om;have Gf:=fY (out.drop (dr x out+1));by_cases Gg:y.key=x.key
  .rw[bA Gg]at ie;have sI:(ins x out).map bt=List.take (dr x out) (out.map bt)++[PV.sc (.int .u64 x.key),PV.sc (.int .u32 x.cookie),PV.sc (.int .i64 x.off),PV.sc (.int .i64 x.size)]::(out.drop (dr x out+1)).map bt:=by
    rw[ie,dE,lj,dk];rfl
   generalize (out.drop (dr x out+1))=r at kZ Gd NZ Gf vc xW sI;simp only[bt]at kZ vc xW;have htr:List.take r.length (r.map bt)=r.map bt:=eo (by rw[bD];exact de _);simp[t_,uQ,uO,wB,xB,vV,uq,tZ,tK,te,uy,wa,vn,uI,vW,vZ,ux,uh,xI,wT,xi,ta,qD,uv,sx,dV,mY,At.ev,d6,d7,d8,e0,d9,r7,uD,mT,db,Kd.pv,Kd.of,dk,gJ,d1,d2,d3,d4,d5,b_,f_,hy,bt,hi0,hx,hge,hh,hN,hc,kZ,vc,xW,Gd,Gf,uX,Gc,hL,q1,q2,q3,q4,q5,q6,q7,q8,Gg,w,htr]
   and_intros
   all_goals first|omega|assumption|exact⟨i+1,ins x out,⟨om,sI.symm⟩,om,om,e3⟩|trace_state
  .rw[bH Gg]at ie;have sI:(ins x out).map bt=List.take (dr x out) (out.map bt)++[PV.sc (.int .u64 x.key),PV.sc (.int .u32 x.cookie),PV.sc (.int .i64 x.off),PV.sc (.int .i64 x.size)]::bt y::(out.drop (dr x out+1)).map bt:=by
    rw[ie,dE,lj,dk];rfl
   generalize (out.drop (dr x out+1))=r at kZ Gd NZ Gf vc xW sI;simp only[bt]at kZ vc xW sI;simp[t_,uQ,uO,wB,xB,vV,uq,tZ,tK,te,uy,wa,vn,uI,vW,vZ,ux,uh,xI,wT,xi,ta,qD,uv,sx,dV,mY,At.ev,d6,d7,d8,e0,d9,r7,uD,mT,db,Kd.pv,Kd.of,dk,gJ,d1,d2,d3,d4,d5,b_,f_,hy,bt,hi0,hx,hge,hh,hN,hc,kZ,vc,xW,Gd,Gf,uX,Gc,hL,q1,q2,q3,q4,q5,q6,q7,q8,q9,z7,Gg,w]
   and_intros<;>first|omega|exact⟨i+1,ins x out,⟨om,sI.symm⟩,om,om,e3⟩
 .have ic:dr x out=out.length:=om;rw[rl om]at ie;simp only at ie;rw[ic]at ie uX Gc⊢;have sI:(ins x out).map bt=List.take out.length (out.map bt)++[[PV.sc (.int .u64 x.key),PV.sc (.int .u32 x.cookie),PV.sc (.int .i64 x.off),PV.sc (.int .i64 x.size)]]:=by
   rw[ie,dE,lj];rfl
  simp[t_,uQ,uO,wB,xB,vV,uq,tZ,tK,te,uy,wa,vn,uI,vW,vZ,ux,uh,xI,wT,xi,ta,qD,uv,sx,dV,mY,At.ev,d6,d7,d8,e0,d9,r7,uD,mT,db,Kd.pv,Kd.of,dk,gJ,d1,d2,d3,d4,d5,b_,hi0,hx,Kd.of,hh,hN,uX,hL,w,n1,n2,n3,Gc];exact⟨⟨i+1,ins x out,⟨om,sI.symm⟩,om,om,e3⟩,om⟩
theorem X4:∀(l a:List It),(l.foldl (λa x=>ins x a) a).length<=l.length+a.length
 |[],a=>by simp
 |x::l,a=>by
  have c:=X4 l (ins x a);have d:=No x a;simp only[Bc,gy];omega
theorem yp(l):(gX l).length<=l.length:=by
 have:=X4 l [];simpa[gX]using this
end AI
end
section
open Go.RowKit Pl AI
attribute [local irreducible] bl.wp
def xA(g:Nat->Int)(a i j:Nat):Prop:=∀p q,a<=p->p<q->q<=i->q≠j->g p<=g q
theorem xA.swap{g g' a i j}(h:xA g a i j)(B:a<j)(y:j<=i)(z:g j<g (j-1))(e:∀p,g' p=if p=j-1 then g j else if p=j then g (j-1)else g p):xA g' a i (j-1):=by
 intro p q hp m t u;rw[e,e,bH u];by_cases d:q=j
 .rw[bA d];by_cases k:p=j-1
  .omega
  .rw[bH k,bH om];exact h p (j-1) hp om om om
 .rw[bH d];by_cases k:p=j-1
  .rw[bA k];exact h j q om om t d
  .rw[bH k];by_cases x:p=j
   .rw[bA x];exact h (j-1) q om om t d
   .rw[bH x];exact h p q hp m t d
theorem xA.done{g a i j}(h:xA g a i j)(m:j<=i)(d:j=a\/¬g j<g (j-1)):d' g a (i+1):=by
 intro p q hp k u;by_cases e:q=j
 .subst e;rcases d with d|d
  .omega
  .by_cases t:p=q-1
   .subst t;omega
   .have:=h p (q-1) hp om om om;omega
 .exact h p q hp k om e
theorem T1(l)(hl:l.length<=1000000){a b:Nat}(hab:a<=b)(hb:b<=l.length):∃d,B7 [.r (l.map bt),.i a,.i b]=some [.r (d.map bt)]/\eu a b l d/\d' (cV d) a b:=by
 suffices h:∃o,Fo PN [.r (l.map bt),.i a,.i b]=some o/\∃d:List It,o=[.r (d.map bt)]/\eu a b l d/\d' (cV d) a b by
  obtain⟨o,h1,d,rfl,h2⟩:=h;exact⟨d,h1,h2⟩
 refine jR ?_;refine b8 (i:=a) rfl om (nW ?_);refine wp_loop (I:=λs=>∃(i:Nat)(d:List It),s=[.i i,.r (d.map bt)]/\a+1<=i/\(i<=b\/i=a+1)/\eu a b l d/\d' (cV d) a i) (mu:=λs=>match s with|[.i i,_]=>b-i.toNat|_=>0)
  ⟨a+1,l,rfl,om,.inr rfl,.refl l,λp q h1 h2 h3=>by omega⟩ ?_
 rintro s ⟨i,d,rfl,i0,i1,hs,hd⟩;refine uR ?_;refine bO rfl (λhc=>?_) (λhc=>?_);rotate_left
 .exact bk ⟨d,rfl,hs,λp q h1 h2 h3=>hd p q h1 h2 om⟩
 refine bz (λxs=>∃d:List It,xs=[.r (d.map bt)]/\eu a b l d/\d' (cV d) a (i+1)) ?_ ?_;rotate_left
 .rintro _ ⟨e,rfl,he,ig⟩;refine b8 (i:=i) rfl om (nW ?_);refine bk ⟨⟨i+1,e,rfl,om,om,he,ig⟩,?_⟩;show b- ((i+1:Nat):Int).toNat<b-i;omega
 refine wp_loop (I:=λs=>∃(j:Nat)(d:List It),s=[.i j,.r (d.map bt)]/\a<=j/\j<=i/\eu a b l d/\xA (cV d) a i j) (mu:=λs=>match s with|[.i j,_]=>j.toNat|_=>0)
  ⟨i,d,rfl,om,om,hs,λp q h1 h2 h3 h4=>hd p q h1 h2 om⟩ ?_
 rintro s ⟨j,e,rfl,j0,j1,hs,Zl⟩;have jE:=hs.perm.length_eq;have hj:j<e.length:=om;refine bz (c8 (a<j/\cV e j<cV e (j-1))) ?_ ?_
 .refine uR ?_;refine bO rfl (λhc=>?_) (λhc=>?_);rotate_left
  .exact bk (e7 om)
  have vd:j-1<e.length:=om;refine ju (l:=e) (j:=j) rfl rfl hj (nW ?_);refine di (n:=((j-1:Nat):Int)) (by show(j:Int) -1=_;omega) om om (nW ?_);refine ju (l:=e) (j:=j-1) rfl rfl vd (nW ?_);obtain⟨c,u_,ic⟩:=E6 e[j] e[j-1];rw[<-o_ hj,<-o_ vd]at ic;refine bm u_ rfl rfl (uR ?_);exact bk (e_ ⟨λh=>⟨om,ic.1 h⟩,λh=>ic.2 h.2⟩)
 .rintro _ ⟨t,rfl,ht⟩;refine nW ?_;refine cJ (λhz=>?_) (λhz=>?_);rotate_left
  .exact bk ⟨e,rfl,hs,Zl.done j1 (by
    by_cases ej:j=a
    .exact .inl ej
    .exact .inr λh=>by rw[ht.2 ⟨om,h⟩]at hz;cases hz)⟩
  obtain⟨h0,hlt⟩:=ht.1 hz;have vd:j-1<e.length:=om;refine di (n:=((j-1:Nat):Int)) (by show(j:Int) -1=_;omega) om om (nW ?_);refine di (n:=((j-1:Nat):Int)) (by show(j:Int) -1=_;omega) om om (nW ?_);refine ju (l:=e) (j:=j-1) rfl rfl vd (nW ?_);refine ju (l:=e) (j:=j) rfl rfl hj (nW ?_);refine rX (l:=e) (j:=j) (z:=e[j-1]) rfl rfl hj rfl rfl (nW ?_);refine rX (l:=e.set j e[j-1]) (j:=j-1) (z:=e[j]) rfl rfl (by simpa using vd) rfl rfl (nW ?_);refine di (n:=((j-1:Nat):Int)) (by show(j:Int) -1=_;omega) om om (nW ?_);refine bk ⟨⟨j-1,_,rfl,om,om,hs.trans (.swap hj vd om om om om),Zl.swap h0 j1 hlt λp=>?_⟩,?_⟩
  .have:=Ew hj vd (p:=p)
   (repeat' split at this)<;>rename_i q1<;>first|rw[bA q1]|rw[bH q1]
   all_goals first|exact mG this|skip
   all_goals rename_i q2;first| (rw[bA q2];exact mG this)| (rw[bH q2];exact mG this)
  .show((j-1:Nat):Int).toNat< ((j:Nat):Int).toNat;omega
def pG(g:Nat->Int)(w a n:Nat):Prop:=∀p q,a<=p->p<q->q<n->p/w=q/w->g p<=g q
theorem Fu{l d a b p}(h:eu a b l d)(hp:p<a\/b<=p):cV d p=cV l p:=mG (h.out p hp)
theorem An{e d W a b}(g:W=20\/W=40\/W=80)(l:a%W=0)(m:b<=a+W)(f:eu a b e d)(i:d' (cV d) a b)(h:pG (cV e) W 0 a):pG (cV d) W 0 b:=by
 intro p q hp c j k;by_cases c1:q<a
 .rw[Fu f (.inl om),Fu f (.inl c1)];exact h p q hp c c1 k
 .by_cases c2:a<=p
  .exact i p q c2 c j
  .rcases g with rfl|rfl|rfl<;>omega
theorem aoz(l)(hl:l.length<=64){n}(hn:n=l.length):∃d,L1 [.r (l.map bt),.i n]=some [.r (d.map bt)]/\d.Perm l/\d' (cV d) 0 d.length:=by
 subst hn
 suffices h:∃o,Fo SF [.r (l.map bt),.i (l.length:Int)]=some o/\∃d:List It,o=[.r (d.map bt)]/\d.Perm l/\d' (cV d) 0 d.length by
  obtain⟨o,h1,d,rfl,h2⟩:=h;exact⟨d,h1,h2⟩
 refine jR ?_;refine bz (λxs=>∃(a:Nat)(d:List It),xs=[.i a,.r (d.map bt)]/\a<=l.length/\l.length<a+20/\a%20=0/\eu 0 l.length l d/\pG (cV d) 20 0 a) ?_ ?_
 .refine wp_loop (I:=λs=>∃(a:Nat)(d:List It),s=[.i a,.i ((a+20:Nat):Int),.r (d.map bt)]/\a<=l.length/\a%20=0/\eu 0 l.length l d/\pG (cV d) 20 0 a) (mu:=λs=>match s with|[.i a,_,_]=>64-a.toNat|_=>0)
   ⟨0,l,rfl,om,rfl,.refl l,λp q h1 h2 h3=>by omega⟩ ?_
  rintro s ⟨a,d,rfl,a1,a2,hs,hd⟩;have jE:=hs.perm.length_eq;refine uR ?_;refine bO rfl (λhc=>?_) (λhc=>?_);rotate_left
  .exact bk ⟨a,d,rfl,a1,om,a2,hs,hd⟩
  obtain⟨e,he,ig,ve⟩:=T1 d om (a:=a) (b:=a+20) om om;refine bm he rfl rfl (nW ?_);refine dp (n:=((a+20+20:Nat):Int)) (by rfl) om om (nW ?_);refine bk ⟨⟨a+20,e,rfl,om,om,hs.trans (ig.mono om om),An (.inl rfl) a2 om ig ve hd⟩,?_⟩;show 64- ((a+20:Nat):Int).toNat<64- ((a:Nat):Int).toNat;omega
 .rintro _ ⟨a,d,rfl,a1,a2,a3,hs,hd⟩;have jE:=hs.perm.length_eq;refine nW ?_;obtain⟨e,he,ig,ve⟩:=T1 d om (a:=a) (b:=l.length) a1 om;refine bm he rfl rfl (nW ?_);refine wp_loop (I:=λs=>∃(w:Nat)(d:List It),s=[.i w,.r (d.map bt)]/\(w=20\/w=40\/w=80)/\eu 0 l.length l d/\pG (cV d) w 0 l.length) (mu:=λs=>match s with|[.i w,_]=>80-w.toNat|_=>0)
   ⟨20,e,rfl,.inl rfl,hs.trans (ig.mono om om),An (.inl rfl) a3 om ig ve hd⟩ ?_
  rintro s ⟨w,d,rfl,hw,hs,hd⟩;have jE:=hs.perm.length_eq;refine uR ?_;refine bO rfl (λhc=>?_) (λhc=>?_);rotate_left
  .refine bk ⟨d,rfl,hs.perm,λp q h1 h2 h3=>hd p q h1 h2 om ?_⟩;rcases hw with rfl|rfl|rfl<;>omega
  have hw:w=20\/w=40:=om;have hw2:2*w=20\/2*w=40\/2*w=80:=om;refine iV (n:=((2*w:Nat):Int)) (by show(2:Int)*w=_;omega) om om (nW ?_);refine bz (λxs=>∃(a:Nat)(e:List It),xs=[.i a,.r (e.map bt)]/\a<=l.length/\l.length<a+2*w/\a%(2*w)=0/\eu 0 l.length l e/\pG (cV e) (2*w) 0 a/\pG (cV e) w a l.length) ?_ ?_
  .refine wp_loop (I:=λs=>∃(a:Nat)(e:List It),s=[.i a,.i ((a+2*w:Nat):Int),.r (e.map bt)]/\a<=l.length/\a%(2*w)=0/\eu 0 l.length l e/\pG (cV e) (2*w) 0 a/\pG (cV e) w a l.length) (mu:=λs=>match s with|[.i a,_,_]=>64-a.toNat|_=>0)
    ⟨0,d,by rw[jV];rfl,om,Nat.zero_mod _,hs,λp q h1 h2 h3=>by omega,hd⟩ ?_
   rintro s ⟨a,e,rfl,a1,a2,hs,hd,hr⟩;have jE:=hs.perm.length_eq;refine uR ?_;refine bO rfl (λhc=>?_) (λhc=>?_);rotate_left
   .exact bk ⟨a,e,rfl,a1,om,a2,hs,hd,hr⟩
   refine dp (n:=((a+w:Nat):Int)) (by rfl) om om (nW ?_);obtain⟨e2,he,ig,ve⟩:=YJ e a (a+w) (a+2*w) om om om om om (λp q h1 h2 h3=>hr p q h1 h2 om (by rcases hw with rfl|rfl<;>omega)) (λp q h1 h2 h3=>hr p q om h2 om (by rcases hw with rfl|rfl<;>omega));refine bm he rfl rfl (nW ?_);refine iV (n:=((2*w:Nat):Int)) (by show(2:Int)*w=_;omega) om om (nW ?_);refine dp (n:=((a+2*w+2*w:Nat):Int)) (by rfl) om om (nW ?_);refine bk ⟨⟨a+2*w,e2,rfl,om,by rcases hw with rfl|rfl<;>omega,hs.trans (ig.mono om om),An hw2 a2 om ig ve hd,λp q h1 h2 h3 h4=>?_⟩,?_⟩
   .rw[Fu ig (.inr h1),Fu ig (.inr om)];exact hr p q om h2 h3 h4
   .show 64- ((a+2*w:Nat):Int).toNat<64- ((a:Nat):Int).toNat;omega
  .rintro _ ⟨a,e,rfl,a1,a2,a3,hs,hd,hr⟩;have jE:=hs.perm.length_eq;refine nW ?_;refine bz (λxs=>∃e:List It,xs=[.r (e.map bt)]/\eu 0 l.length l e/\pG (cV e) (2*w) 0 l.length) ?_ ?_;rotate_left
   .rintro _ ⟨e,rfl,h1,h2⟩;refine nW ?_;refine iV (n:=((2*w:Nat):Int)) (by show(w:Int)*2=_;omega) om om (nW ?_);refine bk ⟨⟨2*w,e,rfl,hw2,h1,h2⟩,?_⟩;show 80- ((2*w:Nat):Int).toNat<80- ((w:Nat):Int).toNat;omega
   refine dp (n:=((a+w:Nat):Int)) (by rfl) om om (uR ?_);have ra:d' (cV e) a (min (a+w) l.length):=λp q h1 h2 h3=>hr p q h1 h2 om (by rcases hw with rfl|rfl<;>omega)
   refine bO rfl (λhc=>?_) (λhc=>?_)
   .obtain⟨e2,he,ig,ve⟩:=YJ e a (a+w) l.length om om om om om (by rw[nQ om]at ra;exact ra) (λp q h1 h2 h3=>hr p q om h2 om (by rcases hw with rfl|rfl<;>omega));refine bm he rfl rfl (nW ?_);exact bk ⟨e2,rfl,hs.trans (ig.mono om om),An hw2 a3 om ig ve hd⟩
   .rw[Nat.min_eq_right om]at ra;exact bk ⟨e,rfl,hs,An hw2 a3 om (.refl e) ra hd⟩
theorem atD{l d}(g:lX l)(hp:d.Perm l)(m:d' (cV d) 0 d.length):fg d/\gX l=d:=by
 have c:lX d:=(hp.pairwise_iff λh=>λe=>h e.symm).2 g;have:fg d:=kE.2 λi j k f a=>by
  have n:=m i j (eM _) a f;have o:=kE.1 c i j k f a;rw[o_ k,o_ f]at n;omega
 exact⟨this,J7 this hp g⟩
theorem ayE{ρ Q k}{x ln y:At}{d:List It}{i:Nat}(c:(x.ev ρ).bC=d.map bt)(e:(ln.ev ρ).br=i)(f)(a:(y.ev ρ).bC=[bt d[i]])
 (g:k.wp (ρ++[.r (d.map bt),.i ((i+1:Nat):Int)]) Q):(bl.op (.sq x ln y 4) k).wp ρ Q:=by
 refine jy (ls:=[.r (d.map bt),.i ((i+1:Nat):Int)]) ?_ g;simp only[Nd.ev];rw[bA ⟨by rw[a];rfl,by rw[a,e,c,bD];exact f⟩,e,a,c,ey];have:(d.map bt).take i++[bt d[i]]++(d.map bt).drop (i+1)=d.map bt:=by
  rw[dI,<-lj,<-nR,show[bt d[i]]++(d.drop (i+1)).map bt=(d[i]::d.drop (i+1)).map bt from rfl,<-sS f,<-dE,List.take_append_drop]
 rw[show[bt d[i]].length=1 from rfl,this]
theorem HB(l:List It)(a:l.length<=1000):kU [.r (l.map bt)]=some []:=bA ⟨fY l,by rw[bD];omega⟩
theorem Ht(l)(ha:lX l)(hn:l.length<=64):zl [.r (l.map bt)]=some [.r ((gX l).map bt)]:=by
 refine bF ?_;refine bm (HB l om) rfl rfl (nW ?_);obtain⟨b,hb⟩:=fH (fg l);refine bm (aeu l om hb) rfl rfl (nW ?_);refine cJ (λhc=>?_) (λ_=>?_)
 .refine bk ?_;rw[Iy (hb.1 hc)];rfl
 obtain⟨d,h1,hp,hs⟩:=aoz l hn rfl;obtain⟨hda,hd⟩:=atD ha hp hs;have jE:=hp.length_eq;have h1':Jm [.r (l.map bt)]=some [.r (d.map bt)]:=by
  refine bF ?_;rw[<-bD (f:=bt)]at h1;refine uR ?_;exact bm h1 rfl rfl (bk rfl)
 refine bm h1' rfl rfl (uR ?_);refine mc ⟨by show(0:Int)<=0;omega,om,eM _,by exact lV (fY d)⟩ (nW ?_);refine bz (λxs=>xs=[.i (d.length:Nat),.r (d.map bt)]) ?_ ?_;rotate_left
 .rintro _ rfl;refine uR ?_;refine bk ?_;show[L.r ((d.map bt).take ((d.length:Nat):Int).toNat)]=_;rw[hd,ey,eo (by rw[bD];omega)]
 refine uR ?_;refine wp_loop (I:=λs=>∃i:Nat,s=[.i i,.i i,.r (d.map bt)]/\i<=d.length) (mu:=λs=>match s with|[_,.i i,_]=>d.length-i.toNat|_=>0) ⟨0,rfl,om⟩ ?_;rintro s ⟨i,rfl,e1⟩;rw[bD];refine uR ?_;refine bO rfl (λhc=>?_) (λhc=>?_);rotate_left
 .obtain rfl:i=d.length:=om;exact bk rfl
 have hi:i<d.length:=om;refine bz (λxs=>xs=[.i ((i+1:Nat):Int),.r (d.map bt)]) ?_ ?_;rotate_left
 .rintro _ rfl;refine nW ?_;refine b8 (i:=i) rfl om (nW ?_);refine bk ⟨⟨i+1,rfl,om⟩,?_⟩;show d.length- ((i+1:Nat):Int).toNat<d.length-i;omega
 refine ju (l:=d) (j:=i) rfl rfl hi (nW ?_);refine bz (λxs=>xs=[.b true]) ?_ ?_
 .refine b8 (i:=i) rfl om (uR ?_);rw[bD];refine bO rfl (λhq=>?_) (λhq=>?_)
  .exact bk rfl
  have ie:i+1<d.length:=om;refine b8 (i:=i) rfl om (nW ?_);refine bS (f:=bt) (l:=d) (j:=i+1) rfl rfl ie rfl (nW ?_);refine cK (f:=bt) (l:=d) (j:=i+1) rfl rfl ie rfl rfl (uR ?_);refine bk ?_;have:=kE.1 hda i (i+1) hi ie om;exact dT om
 .rintro _ rfl;refine nW ?_;refine fT rfl (uR ?_);refine ayE (d:=d) (i:=i) rfl rfl hi rfl (nW ?_);exact bk rfl
theorem awf:Mk [.r []]=some []:=by
 have h:HJ [.r []]=some [.i (-1)]:=by
  refine bF ?_;refine CF ?_;refine uR ?_;refine wp_loop (I:=λa=>a=[.i 0]) (mu:=λ_=>0) rfl ?_;rintro a rfl;refine uR ?_;exact cn rfl (bk (bk rfl))
 refine bF ?_;refine bm h rfl rfl (uR ?_);exact fT rfl (bk rfl)
theorem I_(l:List It):([0].all λi=>(([L.r (l.map bt)][i]?).getD (.b false)).bC.all (·.all PV.bare))=true:=by
 show([0].all λ_=>(l.map bt).all (·.all PV.bare))=true;simp[bt,PV.bare]
theorem apE(l)(c:lX l)(d:l.length<=64):M2 [.r (l.map bt)]=some [.r ((gX l).map bt)]:=by
 have e:=yp l;have a:=Ht (gX l) (Jb l).apart om;rw[Iy (Jb l)]at a;refine bF ?_;refine bm (Ht [] List.Pairwise.nil dc) rfl rfl (nW ?_);refine bm awf rfl rfl (nW ?_);refine bm (Ht l c d) rfl (I_ _) (nW ?_);refine er (r:=(gX l).map bt) rfl (fY _) (by show(0:Nat)<=_;omega) (by show((gX l).map bt).length<=_;rw[bD];omega) om rfl (nW ?_);exact bm a rfl (I_ _) (bk rfl)
section
variable{ρ:List L}{Q:Lf×List L->Prop}{P:Prop}{b v:Bool}
theorem nH(a:b=true↔P)(h:¬P):[L.b false]=[L.b b]:=by rw[gF a h]
theorem Mg(a:b=true↔P)(h:P):[L.b true]=[L.b b]:=by rw[a.2 h]
theorem cB{f:bl}(h:f.wp ρ (jQ (c8 P) Q):=by((repeat' first| (refine bO rfl (λa=>?_) (λa=>?_))| (refine uT rfl ?_));all_goals (refine bk ?_;show c8 _ _;try dsimp only[At.ev,d1,d2,d3,d4,d5,d6,d7,d8,d9,e0,List.map,db,Kd.pv];first|exact dQ om|exact e7 om|exact e_ om|exact qv om))):f.wp ρ (jQ (c8 P) Q):=h
theorem rB{n}(a:b=true↔P)(c:n=ρ.length:=by rfl):∀xs,c8 P xs->(bl.bp (.jump 0 [.v n])).wp (ρ++xs) (mT λx=>x=[.b b]):=by
 rintro _ ⟨t,rfl,d⟩;refine bk ?_;show[(At.v n).ev (ρ++[L.b t])]=[L.b b]
 rw[Vv c,jT.2 (d.trans a.symm)]
theorem iU{c f g}(a:c.ev ρ=.b v)(d:v=true↔P)(e:P->f.wp ρ Q)(i:¬P->g.wp ρ Q):(bl.ite c f g).wp ρ Q:=
 cJ (λh=>e (d.1 (by rw[a]at h;exact h))) (λh=>i λp=>by rw[a]at h;rw[d.2 p]at h;cases h)
theorem r6{c f g}(a:c.ev ρ=.b (!v))(d:v=true↔P)(e:¬P->f.wp ρ Q)(i:P->g.wp ρ Q):(bl.ite c f g).wp ρ Q:=
 cJ (λh=>e λp=>by rw[a,d.2 p]at h;cases h) (λh=>i (d.1 (by rw[a]at h;have h:(!v)=false:=h;simpa using h)))
end
abbrev fy(m:Mp):List L:=[.r ((m.st 0).map bt),.r ((m.st 1).map bt),.r ((m.st 2).map bt),.r ((m.st 3).map bt),.r ((m.st 4).map bt),.r ((m.st 5).map bt),.r ((m.st 6).map bt),.r ((m.st 7).map bt),.i m.live,.i m.dD]
structure WM(m:Mp):Prop where
 hn:∀s,(m.st s).length<=8
def Ah(m:Mp)(s:Nat):Prop:=VL (m.st s)/\∀x∈m.st s,jo x.key=(s:Int)
def eO(m:Mp)(s:Nat):List It:=(List.range s).flatMap m.st
theorem qV(m)(s):eO m (s+1)=eO m s++m.st s:=by
 unfold eO;rw[Gy,ZY];simp
theorem uU{m}(h:WM m):∀s:Nat,(eO m s).length<=8*s
 |0=>de 0
 |s+1=>by
  have:=uU h s;have:=h.hn s;rw[qV,cD];omega
theorem y_{m}(h:WM m):(cat m).length<=64:=uU h 8
theorem EH{m}(h:WM m):(items m).length<=64:=oU (yp _) (y_ h)
theorem vo(a b):cS (a++b)=cS a+cS b:=by simp[cS]
theorem AG(n):0<=c7 n/\c7 n<=4120:=by unfold c7;split<;>omega
theorem oH:∀l:List It,0<=cS l/\cS l<=4120*l.length
 |[]=>by simp[cS]
 |x::l=>by
  have a:=oH l;have c:=AG x.size;have e:cS (x::l)=c7 x.size+cS l:=by simp[cS]
  simp only[gy];omega
theorem r8{m}{s:Nat}(d:s<8){ρ a Q k xs}{i:At}(e:(i.ev ρ).br=s)(c:ρ=fy m++a)(f:k.wp (ρ++[.r ((m.st s).map bt)]) Q)(g:xs=w 0 8:=by rfl):(bl.op (.gk xs i) k).wp ρ Q:=by
 subst c g;have:∃x:At,(w 0 8)[s]?=some x/\x.ev (fy m++a)=.r ((m.st s).map bt):=by
  match s,d with
  |0,_=>exact⟨_,rfl,rfl⟩
  |1,_=>exact⟨_,rfl,rfl⟩
  |2,_=>exact⟨_,rfl,rfl⟩
  |3,_=>exact⟨_,rfl,rfl⟩
  |4,_=>exact⟨_,rfl,rfl⟩
  |5,_=>exact⟨_,rfl,rfl⟩
  |6,_=>exact⟨_,rfl,rfl⟩
  |7,_=>exact⟨_,rfl,rfl⟩
 obtain⟨x,h,j⟩:=this;exact xd (x:=x) (by rw[e,ey];exact h) (by rw[j];exact f)
theorem Jw(k):EB [.i k]=some [.i (jo k)]:=by
 have a:=BJ k;refine bF ?_;refine dn (l:=.i (k*11400714819323198485%18446744073709551616)) (by show some (L.i (IntKind.wrap .u64 _))=_;simp[IntKind.wrap,IntKind.bits,IntKind.signed,At.ev,L.br]) (nW ?_);refine dn (l:=.i (jo k)) ?_ (nW ?_)
 .show(if(0:Int)<=61 then some (L.i ((k*11400714819323198485%18446744073709551616).fdiv (2^ (min (61:Int).toNat IntKind.u64.bits))))else none)=_;rw[bA om,show(2:Int) ^ (min (61:Int).toNat IntKind.u64.bits)=2305843009213693952 by simp[IntKind.bits],GD _ om];rfl
 exact pL (n:=jo k) rfl om om (bk rfl)
theorem akm(l)(hl:l.length<=1000000):Mv [.r (l.map bt)]=some [.i (cS l)]:=by
 refine bF ?_;refine bz (λxs=>xs=[.i (cS l)]) ?_ (by rintro _ rfl;exact bk rfl);refine wp_loop (I:=λa=>∃i:Nat,a=[.i (cS (l.take i)),.i i]/\i<=l.length) (mu:=λa=>match a with|[_,.i i]=>l.length-i.toNat|_=>0) ⟨0,rfl,om⟩ ?_;rintro a ⟨i,rfl,e1⟩;refine uR ?_;rw[bD];refine bO rfl (λhc=>?_) (λhc=>?_);rotate_left
 .refine bk ?_;show[L.i (cS (l.take i))]=[L.i (cS l)]
  rw[eo om]
 have hi:i<l.length:=om;have h1:=oH (l.take i);have h2:=AG l[i].size;have h3:(l.take i).length=i:=by rw[dz];omega
 have e:cS (l.take i)+c7 l[i].size=cS (l.take (i+1)):=by rw[fi hi,vo];simp[cS]
 refine bS (f:=bt) (l:=l) (j:=i) rfl rfl hi rfl (uR ?_);refine bm (ng l[i].size) rfl rfl (nW ?_);refine dp (n:=cS (l.take (i+1))) e om om (nW ?_);refine b8 (i:=i) rfl om (nW ?_);refine bk ⟨⟨i+1,rfl,om⟩,?_⟩;show l.length- ((i+1:Nat):Int).toNat<l.length-i;omega
theorem En{m}(h:WM m){b}(hb:b=true↔MV m):vB (fy m)=some [.b b]:=by
 have no:∀s,s<8->¬Ah m s->[L.b false]=[L.b b]:=λs hs hk=>nH hb λhv=>hk (hv.1 s hs)
 refine bF ?_;refine bz (λxs=>qI m/\xs=[.i (cS (cat m))]) ?_ ?_;rotate_left
 .rintro _ ⟨hS,rfl⟩;refine nW ?_;exact bz (c8 (m.live=cS (cat m)/\0<=m.dD/\m.dD<=1099511627776)) cB (rB (hb.trans ⟨λh=>h.2,λh=>⟨hS,h⟩⟩))
 refine wp_loop (I:=λa=>∃s:Nat,a=[.i (cS (eO m s)),.i s]/\s<=8/\∀t,t<s->Ah m t) (mu:=λa=>match a with|[_,.i i]=>8-i.toNat|_=>0) ⟨0,rfl,om,λt ht=>by omega⟩ ?_;rintro a ⟨s,rfl,e1,e2⟩;refine uR ?_;refine bO rfl (λhc=>?_) (λhc=>?_);rotate_left
 .obtain rfl:s=8:=om;exact bk ⟨λt ht=>e2 t ht,rfl⟩
 have hs:s<8:=om;have hlen:=h.hn s;have Gh:(0:Int)<=(s:Int)/\(s:Int)< ((8:Nat):Int):=⟨om,om⟩
 refine lK Gh (nW ?_);refine r8 (m:=m) hs rfl rfl (nW ?_);obtain⟨v,hv⟩:=fH (VL (m.st s));refine bm (Iq (m.st s) om hv) rfl rfl (uR ?_);refine r6 rfl hv (λhx=>bk (no s hs λh=>hx h.1)) λhx=>?_
 refine bz (λxs=>xs=[]/\∀x∈m.st s,jo x.key=(s:Int)) ?_ ?_
 .refine wp_loop (I:=λa=>∃j:Nat,a=[.i j]/\j<=(m.st s).length/\∀(t:Nat)(ht:t< (m.st s).length),t<j->jo (m.st s)[t].key=s) (mu:=λa=>match a with|[.i i]=>(m.st s).length-i.toNat|_=>0) ⟨0,rfl,om,λt ht h=>by omega⟩ ?_;rintro a ⟨j,rfl,f1,f2⟩;refine nW ?_;refine lK Gh (nW ?_);refine r8 (m:=m) hs rfl rfl (uR ?_);rw[bD];refine bO rfl (λhc=>?_) (λhc=>?_);rotate_left
  .refine bk ⟨rfl,λx hx=>?_⟩;obtain⟨t,ht,rfl⟩:=jG hx;exact f2 t ht om
  have hj:j< (m.st s).length:=om;refine lK Gh (nW ?_);refine r8 (m:=m) hs rfl rfl (nW ?_);refine bS (f:=bt) (l:=m.st s) (j:=j) rfl rfl hj rfl (uR ?_);refine bm (Jw _) rfl rfl (uR ?_);refine bO rfl (λhq=>?_) (λhq=>?_)
  .exact bk (no s hs λh=>hq (h.2 _ (cQ hj)))
  refine b8 (i:=j) rfl om (nW ?_);refine bk ⟨⟨j+1,rfl,om,λt ht hlt=>?_⟩,?_⟩
  .by_cases e:t=j
   .subst e;omega
   .exact f2 t ht om
  .show(m.st s).length- ((j+1:Nat):Int).toNat< (m.st s).length-j;omega
 .rintro _ ⟨rfl,hst⟩;have g1:=oH (eO m s);have g2:=uU h s;have g3:=oH (m.st s);refine nW ?_;refine lK Gh (nW ?_);refine r8 (m:=m) hs rfl rfl (nW ?_);refine bm (akm (m.st s) om) rfl rfl (nW ?_);refine dp (n:=cS (eO m (s+1))) (by rw[qV,vo];rfl) (by rw[qV,vo];omega) (by rw[qV,vo];omega) (nW ?_);refine b8 (i:=s) rfl om (nW ?_);refine bk ⟨⟨s+1,rfl,om,λt ht=>?_⟩,?_⟩
  .by_cases e:t=s
   .subst e;exact⟨hx,hst⟩
   .exact e2 t om
  .show 8- ((s+1:Nat):Int).toNat<8-s;omega
theorem CH{m}(h:WM m)(hv:MV m):qn (fy m)=some [.r ((items m).map bt)]:=by
 refine bF ?_;refine bz (λxs=>xs=[.r ((cat m).map bt)]) ?_ ?_;rotate_left
 .rintro _ rfl;refine nW ?_;obtain⟨o,h1,h2⟩:=DB (.r ((cat m).map bt)) (cat m) rfl (by have:=y_ h;omega);rw[h2]at h1;exact bm h1 rfl (I_ (items m)) (bk rfl)
 refine wp_loop (I:=λa=>∃s:Nat,a=[.i s,.r ((eO m s).map bt)]/\s<=8) (mu:=λa=>match a with|[.i i,_]=>8-i.toNat|_=>0) ⟨0,rfl,om⟩ ?_;rintro a ⟨s,rfl,e1⟩;refine bz (c8 (s<8)) ?_ ?_
 .refine uR ?_;refine bO rfl (λhc=>?_) (λhc=>bk (e7 om));exact bm (En h (b:=true) ⟨λ_=>hv,λ_=>rfl⟩) rfl rfl (bk (dQ om))
 rintro _ ⟨t,rfl,ht⟩;refine nW ?_;refine iU rfl ht (λhs=>?_) (λhs=>?_);rotate_left
 .obtain rfl:s=8:=om;exact bk rfl
 have g2:=uU h s;have g3:=h.hn s;refine lK ⟨by show(0:Int)<=s;omega,by show(s:Int)< (8:Nat);omega⟩ (nW ?_);refine r8 (m:=m) hs rfl rfl (nW ?_);refine er (r:=(eO m (s+1)).map bt) (fY _) (fY _) (by show((eO m s).map bt).length<=_;rw[bD];omega) (by show((m.st s).map bt).length<=_;rw[bD];omega) om (by rw[qV,dE];rfl) (nW ?_);refine b8 (i:=s) rfl om (nW ?_);refine bk ⟨⟨s+1,rfl,om⟩,?_⟩;show 8- ((s+1:Nat):Int).toNat<8-s;omega
theorem awN{m}(h:WM m)(a:MV m):Ck (fy m)=some [.i (items m).length]:=by
 refine bF ?_;refine bm (CH h a) rfl rfl (uR ?_);rw[bD];exact bk rfl
def oh:Option It->List L
 |some x=>[.b true,.i x.key,.i x.cookie,.i x.off,.i x.size]
 |none=>[.b false,.i 0,.i 0,.i 0,.i 0]
theorem avr{l:List It}{j k}(a):c_ (l.take (j+1)) k=if l[j].key=k then some l[j]else c_ (l.take j) k:=by
 unfold c_;rw[fi a,List.reverse_append,List.reverse_singleton,List.singleton_append,OA];by_cases h:l[j].key=k
 .rw[bA h,decide_eq_true h]
 .rw[bH h,decide_eq_false h]
theorem amZ(l)(hl:l.length<=1000000)(key):Mn [.r (l.map bt),.i key]=some (oh (c_ l key)):=by
 refine bF ?_;refine bz (λxs=>xs=[]/\c_ l key=none) ?_ (by
  rintro _ ⟨rfl,h⟩;refine bk ?_;rw[h];rfl)
 refine uR ?_;rw[bD];refine di (n:=(l.length:Int) -1) rfl om om (nW ?_);refine wp_loop (I:=λa=>∃i:Nat,a=[.i ((i:Int) -1)]/\i<=l.length/\c_ l key=c_ (l.take i) key) (mu:=λa=>match a with|[.i i]=>(i+1).toNat|_=>0) ⟨l.length,rfl,om,by rw[jY]⟩ ?_;rintro a ⟨i,rfl,e1,e2⟩;refine uR ?_;refine bO rfl (λhc=>?_) (λhc=>?_);rotate_left
 .obtain rfl:i=0:=om;exact bk ⟨rfl,e2⟩
 obtain⟨j,rfl⟩:∃j,i=j+1:=⟨i-1,om⟩
 have hj:j<l.length:=om;have ej:((j+1:Nat):Int) -1=j:=om;rw[ej];refine bS (f:=bt) (l:=l) (j:=j) rfl rfl hj rfl (uR ?_);rw[avr hj]at e2;refine bO rfl (λhq=>?_) (λhq=>?_)
 .refine bS (f:=bt) (l:=l) (j:=j) rfl rfl hj rfl (uR ?_);refine bk ?_;rw[e2,bA hq];rfl
 .rw[bH hq]at e2;refine di (n:=(j:Int) -1) rfl om om (nW ?_);refine bk ⟨⟨j,rfl,om,e2⟩,?_⟩;show((j:Int) -1+1).toNat< ((j:Int)+1).toNat;omega
theorem asA{m}(h:WM m)(a:MV m)(key):tN (fy m++[.i key])=some (oh (c_ (items m) key)):=by
 refine bF ?_;refine bm (CH h a) rfl rfl (nW ?_);refine bm (amZ (items m) (by have:=EH h;omega) key) (by cases c_ (items m) key<;>rfl) rfl ?_;refine bk ?_;cases c_ (items m) key<;>rfl
def yK(l:List It)(size:Int)(i:Nat):Prop:=∀h:i<l.length,ends l[i]<=size/\∀(k:Nat)(a:k<l.length),k≠i->¬(l[i].off<=l[k].off/\l[k].off<ends l[i])
theorem aqA(l)(size):(l.Pairwise Clear/\∀x∈l,ends x<=size)↔∀i,i<l.length->yK l size i:=by
 constructor
 .rintro⟨e,g⟩ i a m;refine⟨g _ (cQ a),λk f c=>?_⟩;rcases OI c with h|h
  .exact(kE.1 e k i f a h).2
  .exact(kE.1 e i k a f h).1
 .intro h;refine⟨kE.2 λi j a d n=>⟨(h i a a).2 j d om,(h j d d).2 i a om⟩,λx o=>?_⟩;obtain⟨i,a,rfl⟩:=jG o;exact(h i a a).1
theorem R6{l:List It}(a:∀x∈l,eN x=true){i}(c:i<l.length):16<=l[i].off/\l[i].off<=1048576/\24<=c7 l[i].size/\c7 l[i].size<=4120:=by
 have h:=a _ (cQ c);have d:=CM h;have e:=AG l[i].size;simp only[eN,cu,eD]at h;omega
theorem axt(l:List It)(hl:l.length<=1000000)(dB:∀x∈l,eN x=true){size b}(hb:b=true↔(l.Pairwise Clear/\∀x∈l,ends x<=size)):MT [.r (l.map bt),.i size]=some [.b b]:=by
 rw[aqA]at hb;refine bF ?_;refine bz (λxs=>xs=[]/\∀i,i<l.length->yK l size i) ?_ (by rintro _ ⟨rfl,h⟩;exact bk (Mg hb h));refine wp_loop (I:=λa=>∃i:Nat,a=[.i i]/\i<=l.length/\∀j,j<i->yK l size j) (mu:=λa=>match a with|[.i i]=>l.length-i.toNat|_=>0) ⟨0,rfl,om,λj hj=>by omega⟩ ?_;rintro a ⟨i,rfl,e1,e2⟩;refine uR ?_;rw[bD];refine bO rfl (λhc=>?_) (λhc=>bk ⟨rfl,λj hj=>e2 j om⟩);have hi:i<l.length:=om;obtain⟨h1,h2,h3,h4⟩:=R6 dB hi;have no:¬yK l size i->[L.b false]=[L.b b]:=λh=>nH hb λhv=>h (hv i hi)
 refine bz (λxs=>xs=[]/\yK l size i) ?_ ?_;rotate_left
 .rintro _ ⟨rfl,h⟩;refine nW ?_;refine b8 (i:=i) rfl om (nW ?_);refine bk ⟨⟨i+1,rfl,om,λj hj=>?_⟩,?_⟩
  .by_cases e:j=i
   .subst e;exact h
   .exact e2 j om
  .show l.length- ((i+1:Nat):Int).toNat<l.length-i;omega
 refine bS (f:=bt) (l:=l) (j:=i) rfl rfl hi rfl (uR ?_);refine bS (f:=bt) (l:=l) (j:=i) rfl rfl hi rfl (uR ?_);refine bm (ng l[i].size) rfl rfl (nW ?_);refine dp (n:=ends l[i]) rfl (by unfold ends;omega) (by unfold ends;omega) (uR ?_);refine bO rfl (λhq=>bk (no λh=>by have:=(h hi).1;omega)) (λhq=>?_);refine wp_loop (I:=λa=>∃k:Nat,a=[.i k]/\k<=l.length/\∀(j:Nat)(hj:j<l.length),j<k->j≠i->¬(l[i].off<=l[j].off/\l[j].off<ends l[i])) (mu:=λa=>match a with|[.i i]=>l.length-i.toNat|_=>0) ⟨0,rfl,om,λj hj h=>by omega⟩ ?_;rintro a ⟨k,rfl,f1,f2⟩;refine uR ?_;rw[bD];refine bO rfl (λhk=>?_) (λhk=>bk ⟨rfl,λ_=>⟨om,λj hj u7=>f2 j hj om u7⟩⟩);have hk:k<l.length:=om;refine bz (c8 (k≠i/\l[i].off<=l[k].off/\l[k].off<ends l[i])) ?_ ?_
 .refine uR ?_;refine bO rfl (λg1=>?_) (λg1=>bk (e7 om));refine bS (f:=bt) (l:=l) (j:=k) rfl rfl hk rfl (uR ?_);refine bS (f:=bt) (l:=l) (j:=i) rfl rfl hi rfl (uR ?_);refine bO rfl (λg2=>?_) (λg2=>bk (e7 om));refine bS (f:=bt) (l:=l) (j:=k) rfl rfl hk rfl (uR ?_);exact bk (e_ om)
 .rintro _ ⟨t,rfl,ht⟩;refine nW ?_;refine iU rfl ht (λg=>bk (no λh=>(h hi).2 k hk g.1 g.2)) λg=>?_
  refine b8 (i:=k) rfl om (nW ?_);refine bk ⟨⟨k+1,rfl,om,λj hj hlt u7=>?_⟩,?_⟩
  .by_cases e:j=k
   .subst e;exactλh=>g ⟨u7,h⟩
   .exact f2 j hj om u7
  .show l.length- ((k+1:Nat):Int).toNat<l.length-k;omega
abbrev fq(g:Gn):List L:=[.i g.num,.i g.rev,.i g.mode,.i g.size,.r ((g.map.st 0).map bt),.r ((g.map.st 1).map bt),.r ((g.map.st 2).map bt),.r ((g.map.st 3).map bt),.r ((g.map.st 4).map bt),.r ((g.map.st 5).map bt),.r ((g.map.st 6).map bt),.r ((g.map.st 7).map bt),.i g.map.live,.i g.map.dD]
def wC(g:Gn):List PV:=[.sc (.int .i64 g.num),.sc (.int .i64 g.rev),.sc (.int .i64 g.mode),.sc (.int .i64 g.size),.sl ((g.map.st 0).map bt),.sl ((g.map.st 1).map bt),.sl ((g.map.st 2).map bt),.sl ((g.map.st 3).map bt),.sl ((g.map.st 4).map bt),.sl ((g.map.st 5).map bt),.sl ((g.map.st 6).map bt),.sl ((g.map.st 7).map bt),.sc (.int .i64 g.map.live),.sc (.int .i64 g.map.dD)]
theorem jt{P}(h:P):true=true↔P:=⟨λ_=>h,λ_=>rfl⟩
theorem I9{P}(h:¬P):false=true↔P:=⟨λa=>(by cases a),λa=>absurd a h⟩
def wL(g:Gn):Prop:=1<=g.num/\g.num<=8/\0<=g.rev/\g.rev<4294967296/\1<=g.mode/\g.mode<=3
def yZ(g:Gn):Prop:=(16<=g.size/\g.size<=1048576/\g.size%8=0)/\MV g.map
def yM(g:Gn):Prop:=(items g.map).Pairwise Clear/\∀x∈items g.map,ends x<=g.size
theorem YF{m}(h:WM m)(a:MV m):0<=m.live/\m.live<=263680:=by
 have c:=oH (cat m);have d:=y_ h;have e:=a.2.1;omega
theorem arl{g}(h:WM g.map){b}(i:b=true↔GV g):rN (fq g)=some [.b b]:=by
 refine bF ?_;refine bz (c8 (¬wL g)) (by unfold wL;exact cB) ?_;rintro _ ⟨t,rfl,j⟩;refine nW ?_;refine iU rfl j (λe=>bk (nH i λa=>e a.1)) λe=>?_
 have e:wL g:=o2 e;refine bz (c8 (¬(yZ g/\yM g))) ?_ ?_
 .refine uR ?_;refine bO rfl (λc=>bk (dQ λa=>by have:=a.1.1;omega)) λc=>?_
  refine uR ?_;refine bO rfl (λk=>bk (dQ λa=>by have:=a.1.1;omega)) λk=>?_
  refine dn (l:=.i (g.size%8)) (by
   show(if(8:Int)≠0 then some (L.i (g.size.tmod 8))else none)=_;rw[bA dc,ZV om]) (uR ?_)
  refine bO rfl (λm=>bk (dQ λa=>by have:=a.1.1;omega)) λm=>?_
  obtain⟨v,a⟩:=fH (MV g.map);refine bm (En h a) rfl rfl (uR ?_);refine r6 rfl a (λf=>bk (dQ λa=>f a.1.2)) λf=>?_
  refine bm (CH h f) rfl rfl (nW ?_);obtain⟨o,d⟩:=fH (yM g);refine bm (axt (items g.map) (by have:=EH h;omega) (WI f.1) d) rfl rfl (uR ?_);refine bk ?_;refine⟨!o,rfl,?_⟩;have:yZ g:=⟨⟨om,om,om⟩,f⟩
  cases o with
  |true=>exact I9 λh=>h ⟨this,d.1 rfl⟩
  |false=>exact jt λh=>by have:=d.2 h.2;cases this
 rintro _ ⟨t,rfl,j⟩;refine nW ?_;refine iU rfl j (λc=>bk (nH i λa=>c ⟨⟨a.2.1,a.2.2.1⟩,a.2.2.2.1⟩)) λc=>?_
 have c:yZ g/\yM g:=o2 c;have k:=YF h c.1.2;have m:=c.1.1;refine di (n:=g.size-16) rfl om om (nW ?_);refine di (n:=g.size-16-g.map.live) rfl om om (uR ?_);refine bk ?_;by_cases p:g.size-16-g.map.live=g.map.dD
 .exact(dT p).trans (Mg i ⟨e,c.1.1,c.1.2,c.2,om⟩)
 .exact(dF p).trans (nH i λa=>by have:=a.2.2.2.2;omega)
def Es(c:Int)(a:List Gn)(i:Nat):Prop:=∀h:i<a.length,GV a[i]/\(a[i].mode=1↔i=a.length-1)/\(∀d:0<i,(a[i-1]'om).num<a[i].num)/\a[i].size<=2*c
def HL(id a:Int)(c:List Gn):Prop:=(0<=id/\id<4)/\(4136<=a/\a<=262144)/\(1<=c.length/\c.length<=8)
def Wk(id c:Int)(a:List Gn):Prop:=HL id c a/\(∀i,i<a.length->Es c a i)/\∀h:a.length-1<a.length,a[a.length-1].size+24*(items a[a.length-1].map).length<=2*c
end
end
end Go.Proofs.YtiikkkhcolcebaaGreatDoor
