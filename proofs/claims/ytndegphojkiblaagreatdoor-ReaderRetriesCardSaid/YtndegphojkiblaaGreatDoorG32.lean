/- A part of the proof. -/
import Derived.Test.YtndegphojkiblaaGreatDoorG14
import Derived.Test.YtndegphojkiblaaGreatDoorG15
import Derived.Test.YtndegphojkiblaaGreatDoorG27
import Derived.Test.YtndegphojkiblaaGreatDoorG28
import Derived.Test.YtndegphojkiblaaGreatDoorG29
import Derived.Test.YtndegphojkiblaaGreatDoorG31
set_option linter.all false
set_option maxHeartbeats 4000000
set_option maxRecDepth 100000
namespace Go.Proofs.YtndegphojkiblaaGreatDoor
noncomputable section
section
open Go.RowKit
namespace AI
end AI
namespace AI
end AI
namespace AI
end AI
namespace AI
end AI
end
section
namespace Pl
structure Mp where
 st:Nat→List It
 live:Int
 cF:Int
def fh (k:Int):Int:=k*11400714819323198485%18446744073709551616/2305843009213693952
theorem wF (k):0≤fh k∧fh k<8:=by unfold fh;omega
def ca (l:List It):Int:=(l.map fun x=>bU x.size).sum
def cat (m:Mp):List It:=(List.range 8).flatMap m.st
def nQ (m:Mp):Prop:=∀s,s<8→VL (m.st s)∧∀x∈m.st s,fh x.key=(s:Int)
def MV (m:Mp):Prop:=nQ m∧m.live=ca (cat m)∧0≤m.cF∧m.cF≤1099511627776
def items (m:Mp):List It:=fX (cat m)
theorem TS (m) (h:nQ m):∀n,n≤8→kI ((List.range n).flatMap m.st)
 |0,_=>by simp[kI]
 |n+1,hn=>by
  rw[H6,abW];refine abX.2 ⟨TS m h n om,?_,?_⟩
  · have:=(h n om).1.1.apart;simpa[kI]using this
  · intro a ha b hb e;obtain⟨s,hs,ha⟩:=th.1 ha;have hs':=lJ.1 hs;have hb':b∈m.st n:=by simpa using hb
    have h1:=(h s om).2 a ha;have h2:=(h n om).2 b hb';rw[e,h2]at h1;omega
theorem EG {m} (h:nQ m):kI (cat m):=TS m h 8 om
theorem Gm {m} {x}:x∈cat m ↔∃s,s<8∧x∈m.st s:=by
 unfold cat;simp[th]
theorem arN {m} (h:nQ m):∀x∈cat m,dm x=true:=fun x hx=>by
 obtain⟨s,hs,hx⟩:=Gm.1 hx;exact(h s hs).1.2 x hx
theorem aim {m} (h:nQ m):kI (items m):=(Eo _).apart
theorem MD {m} (h:nQ m) {x}:x∈items m ↔ x∈cat m:=(Yt (EG h)).mem_iff
theorem Yb {m} (h:nQ m):∀x∈items m,dm x=true:=fun x hx=>arN h x ((MD h).1 hx)
theorem agZ {m} (h:nQ m) (k):bG (items m) k=bG (m.st (fh k).toNat) k:=by
 have hr:=wF k;have hs:(fh k).toNat<8:=om
 cases hf:bG (m.st (fh k).toNat) k with
 |some x=>
  obtain⟨hx,rfl⟩:=zH hf;exact oA (aim h) ((MD h).2 (Gm.2 ⟨_,hs,hx⟩))
 |none=>
  refine xl fun x hx e=> ?_
  obtain⟨s,hs',hx'⟩:=Gm.1 ((MD h).1 hx);have h1:=(h s hs').2 x hx';have h2:s=(fh k).toNat:=by rw[←e];omega
  subst h2;have:=oA (h _ hs).1.1.apart hx';rw[e,hf]at this;cases this
theorem aoy {l} (h:dK l) (lo hi) (hk:∀x∈l,lo≤x.key∧x.key<hi):(l.length:Int)≤max 0 (hi-lo):=by
 induction l generalizing lo with
 |nil=>simp;omega
 |cons a l ih=>
  have h':=gf.1 h;have ha:=hk a (by simp);have:=ih h'.2 (a.key+1) fun x hx=> ⟨by have:=h'.1 x hx;omega,(hk x (by simp[hx])).2⟩
  simp only[ir];omega
structure Gn where
 num:Int
 rev:Int
 mode:Int
 size:Int
 map:Mp
def GV (g:Gn):Prop:=
 (1≤g.num∧g.num≤8∧0≤g.rev∧g.rev<4294967296∧1≤g.mode∧g.mode≤3)∧
 (16≤g.size∧g.size≤1048576∧g.size%8=0)∧MV g.map∧
 ((items g.map).Pairwise Clear∧∀x∈items g.map,ends x≤g.size)∧g.size=16+g.map.live+g.map.cF
end Pl
end
section
open Go.RowKit Pl
def b_ (x:It):List It→Nat
 |[]=>0
 |a::l=>if a.key<x.key then b_ x l+1 else 0
theorem Rg (x:It):∀l:List It,b_ x l≤l.length
 |[]=>cn _
 |a::l=>by
  have:=Rg x l;simp only[b_,ir];split<;>omega
theorem RO {x}:∀{l} {k} (h:k<b_ x l),∃y,l[k]? =some y∧y.key<x.key
 |[],k,h=>absurd h (zo k)
 |a::l,k,h=>by
  simp only[b_]at h;split at h
  · rename_i ha
    cases k with
    |zero=>exact⟨a,rfl,ha⟩
    |succ k=>exact RO (l:=l) (k:=k) om
  · omega
theorem Yl {x}:∀{l} {y},l[b_ x l]? =some y→¬y.key<x.key
 |[],y,h=>by cases h
 |a::l,y,h=>by
  simp only[b_]at h;split at h
  · exact Yl (l:=l) (by simpa using h)
  · rename_i ha;cases h;exact ha
theorem XM (x):∀l:List It,ins x l=l.take (b_ x l)++x::(match l.drop (b_ x l)with|y::r=>if y.key=x.key then r else y::r|[]=> [])
 |[]=>rfl
 |a::l=>by
  simp only[b_,ins];split
  · simp only[abM,List.drop_succ_cons,tg];rw[XM x l]
  · simp only[List.take_zero,zk,mm];split<;>rfl
theorem NM (x):∀l:List It,(ins x l).length≤l.length+1
 |[]=>cn _
 |a::l=>by
  have:=NM x l;simp only[ins];split
  · simp only[ir];omega
  · split<;>simp only[ir]<;>omega
namespace AI
theorem EX (l0:L) (l:List It) (hr:l0.az=l.map ao) (hn:l.length≤1000000):∃o,yd [l0]=some o∧o=[.r ((fX l).map ao)]:=by
 have hlen:l0.az.length=l.length:=by rw[hr,aA]
 refine iH ?_;unfold WX;simp only[sO];refine wp_loop (I:=fun a=>∃(i:Nat) (out:List It),a=[.i i,.r (out.map ao)]∧i≤l.length∧out.length≤i∧fX l=(l.drop i).foldl (fun out x=>ins x out) out) (mu:=fun a=>match a with|[.i i,_]=>l.length-i.toNat|_=>0) (by exact⟨0,[],rfl,om,by simp,by simp[fX]⟩) ?_;rintro a ⟨i,out,rfl,e1,e2,e3⟩;by_cases hi:i<l.length;rotate_left
 · have hi':¬(i:Int)< (l0.az.length:Int):=om;have:l.drop i=[]:=pR om;rw[this]at e3;simp only[List.foldl_nil]at e3;simp[uH,vz,vv,xM,yK,w6,uX,uG,uh,tF,u_,xk,wB,vo,w8,xh,u7,uS,yP,x7,yp,tB,qv,u5,sO,cU,mF,At.ev,d6,d7,d8,e0,d9,si,vf,kW,cb,Kd.pv,Kd.of,cu,iv,d1,d2,d3,d4,d5,aV,hlen,hi,e3]
 have hi0:i<l0.az.length:=om;have hx:l0.az[i]=ao l[i]:=by
   have:l0.az[i]? =some (ao l[i]):=by rw[hr,bV,bW hi];rfl
   rw[bW hi0]at this;exact rJ this
 have hd:l.drop i=l[i]::l.drop (i+1):=zj hi;rw[hd]at e3;simp only[CT]at e3;generalize l[i]=x at hx e3;unfold ao at hx;simp[uH,vz,vv,xM,yK,w6,uX,uG,uh,tF,u_,xk,wB,vo,w8,xh,u7,uS,yP,x7,yp,tB,qv,u5,sO,cU,mF,At.ev,d6,d7,d8,e0,d9,si,vf,kW,cb,Kd.pv,Kd.of,cu,iv,d1,d2,d3,d4,d5,aV,hlen,hi];refine wp_loop (I:=fun a=>∃k:Nat,a=[.i k]∧k≤b_ x out) (mu:=fun a=>match a with|[.i k]=>out.length-k.toNat|_=>0) (by exact⟨0,rfl,om⟩) ?_;rintro a ⟨k,rfl,f1⟩;have hc:=Rg x out;by_cases hk:k<b_ x out
 · obtain⟨y,y1,y2⟩:=RO hk;have bZ:k<out.length:=om;have y1':out[k]=y:=rJ ((bW bZ).symm.trans y1);have w:IntKind.wrap .i64 ((k:Int)+1)=(k:Int)+1:=AI.wrap64 om om;simp[uH,vz,vv,xM,yK,w6,uX,uG,uh,tF,u_,xk,wB,vo,w8,xh,u7,uS,yP,x7,yp,tB,qv,u5,sO,cU,mF,At.ev,d6,d7,d8,e0,d9,si,vf,kW,cb,Kd.pv,Kd.of,cu,iv,d1,d2,d3,d4,d5,aV,bZ,y1',ao,Kd.of,hi0,hx,y2,w];exact⟨⟨k+1,om,om⟩,om⟩
 have bK:k=b_ x out:=om;subst bK;have eR:=XM x out;have n4:=NM x out;have hR:=eY out;have hh:=lT hR;have w:IntKind.wrap .i64 ((i:Int)+1)=(i:Int)+1:=AI.wrap64 om om;have hN:bu 4 []=true:=rfl;have zd:bu 4 (List.take (b_ x out) (out.map ao))=true:=by rw[←nk];exact eY _
 have hL:bu 4 [[PV.sc (.int .u64 x.key),PV.sc (.int .u32 x.cookie),PV.sc (.int .i64 x.off),PV.sc (.int .i64 x.size)]]=true:=rfl;have n1:out.length≤9223372036854775806:=om;have n2:(out.length+1)*32≤140737488355328:=om;have n3:out.length+1≤9223372036854775807:=om;have HO:bu 4 (List.take (b_ x out) (out.map ao)++ [[PV.sc (.int .u64 x.key),PV.sc (.int .u32 x.cookie),PV.sc (.int .i64 x.off),PV.sc (.int .i64 x.size)]])=true:=by
   have:=eY (out.take (b_ x out)++ [x]);rw[dk,nk]at this;exact this
 by_cases bZ:b_ x out<out.length
 · have hdr:out.drop (b_ x out)=out[b_ x out]::out.drop (b_ x out+1):=zj bZ;have mc:=Yl (bW bZ);rw[hdr]at eR;simp only at eR;have aaX:List.drop (b_ x out) (out.map ao)=ao out[b_ x out]::(out.drop (b_ x out+1)).map ao:=by rw[←ml,hdr,cu]
   generalize hy:out[b_ x out]=y at mc eR aaX hdr;have lI:bu 4 (ao y::(out.drop (b_ x out+1)).map ao)=true:=eY (y::out.drop (b_ x out+1));have rn:=lT lI;have hld:(out.drop (b_ x out+1)).length=out.length- (b_ x out+1):=jt;have jJ:List.take (out.length-b_ x out) (List.drop (b_ x out) (out.map ao))=ao y::(out.drop (b_ x out+1)).map ao:=by
     rw[fD (by rw[jt,aA];omega),aaX]
   have gP:(List.drop (b_ x out+1) out).length=out.length-b_ x out-1:=by rw[jt];omega
   have HP:List.take (out.length-b_ x out-1) ((out.drop (b_ x out+1)).map ao)=(out.drop (b_ x out+1)).map ao:=fD (by rw[aA];omega);have q1:out.length≤9223372036854775807+b_ x out:=om;have q2:(out.length-b_ x out)*32≤140737488355328:=om;have q3:0<out.length-b_ x out:=om;have q4:b_ x out≤9223372036854775806:=om;have q5:(b_ x out+1)*32≤140737488355328:=om;have q6:b_ x out+1+(out.length-b_ x out-1)≤9223372036854775807:=om;have q7:(b_ x out+1+(out.length-b_ x out-1))*32≤140737488355328:=om;have q8:(1:Int)≤((out.length-b_ x out:Nat):Int):=om;have q9:b_ x out+1+(out.length-b_ x out)≤9223372036854775807:=om;have Mo:(b_ x out+1+(out.length-b_ x out))*32≤140737488355328:=om;have iJ:=eY (out.drop (b_ x out+1));by_cases HQ:y.key=x.key
   · rw[ay HQ]at eR;have tf:(ins x out).map ao=List.take (b_ x out) (out.map ao)++ [PV.sc (.int .u64 x.key),PV.sc (.int .u32 x.cookie),PV.sc (.int .i64 x.off),PV.sc (.int .i64 x.size)]::(out.drop (b_ x out+1)).map ao:=by
      rw[eR,dk,nk,cu];rfl
     generalize (out.drop (b_ x out+1))=r at jJ HP gP iJ lI rn tf;simp only[ao]at jJ lI rn;have Hz:List.take r.length (r.map ao)=r.map ao:=fD (by rw[aA];exact cn _);simp[uH,vz,vv,xM,yK,w6,uX,uG,uh,tF,u_,xk,wB,vo,w8,xh,u7,uS,yP,x7,yp,tB,qv,u5,sO,cU,mF,At.ev,d6,d7,d8,e0,d9,si,vf,kW,cb,Kd.pv,Kd.of,cu,iv,d1,d2,d3,d4,d5,aV,bZ,hy,ao,hi0,hx,mc,hh,hN,hc,jJ,lI,rn,HP,iJ,zd,HO,hL,q1,q2,q3,q4,q5,q6,q7,q8,HQ,w,Hz]
     and_intros
     all_goals first|omega|assumption|exact⟨i+1,ins x out,⟨om,tf.symm⟩,om,om,e3⟩|trace_state
   · rw[aC HQ]at eR;have tf:(ins x out).map ao=List.take (b_ x out) (out.map ao)++ [PV.sc (.int .u64 x.key),PV.sc (.int .u32 x.cookie),PV.sc (.int .i64 x.off),PV.sc (.int .i64 x.size)]::ao y::(out.drop (b_ x out+1)).map ao:=by
      rw[eR,dk,nk,cu];rfl
     generalize (out.drop (b_ x out+1))=r at jJ HP gP iJ lI rn tf;simp only[ao]at jJ lI rn tf;simp[uH,vz,vv,xM,yK,w6,uX,uG,uh,tF,u_,xk,wB,vo,w8,xh,u7,uS,yP,x7,yp,tB,qv,u5,sO,cU,mF,At.ev,d6,d7,d8,e0,d9,si,vf,kW,cb,Kd.pv,Kd.of,cu,iv,d1,d2,d3,d4,d5,aV,bZ,hy,ao,hi0,hx,mc,hh,hN,hc,jJ,lI,rn,HP,iJ,zd,HO,hL,q1,q2,q3,q4,q5,q6,q7,q8,q9,Mo,HQ,w]
     and_intros<;>first|omega|exact⟨i+1,ins x out,⟨om,tf.symm⟩,om,om,e3⟩
 · have gF:b_ x out=out.length:=om;rw[pR om]at eR;simp only at eR;rw[gF]at eR zd HO⊢;have tf:(ins x out).map ao=List.take out.length (out.map ao)++ [[PV.sc (.int .u64 x.key),PV.sc (.int .u32 x.cookie),PV.sc (.int .i64 x.off),PV.sc (.int .i64 x.size)]]:=by
     rw[eR,dk,nk];rfl
   simp[uH,vz,vv,xM,yK,w6,uX,uG,uh,tF,u_,xk,wB,vo,w8,xh,u7,uS,yP,x7,yp,tB,qv,u5,sO,cU,mF,At.ev,d6,d7,d8,e0,d9,si,vf,kW,cb,Kd.pv,Kd.of,cu,iv,d1,d2,d3,d4,d5,aV,hi0,hx,Kd.of,hh,hN,zd,hL,w,n1,n2,n3,HO];exact⟨⟨i+1,ins x out,⟨om,tf.symm⟩,om,om,e3⟩,om⟩
theorem Zn:∀(l out:List It),(l.foldl (fun out x=>ins x out) out).length≤l.length+out.length
 |[],out=>by simp
 |x::l,out=>by
  have h1:=Zn l (ins x out);have h2:=NM x out;simp only[CT,ir];omega
theorem zy (l):(fX l).length≤l.length:=by
 have:=Zn l [];simpa[fX]using this
end AI
end
section
open Go.RowKit Pl AI
attribute [local irreducible] ae.wp
def yJ (g:Nat→Int) (a i j:Nat):Prop:=∀p q,a≤p→p<q→q≤i→q≠j→g p≤g q
theorem yJ.swap {g g'} {a i j} (h:yJ g a i j) (h0:a<j) (jI:j≤i) (hlt:g j<g (j-1)) (e:∀p,g' p=if p=j-1 then g j else if p=j then g (j-1)else g p):yJ g' a i (j-1):=by
 intro p q hp gG hq hqj;rw[e,e,aC hqj];by_cases e1:q=j
 · rw[ay e1];by_cases e2:p=j-1
   · omega
   · rw[aC e2,aC om];exact h p (j-1) hp om om om
 · rw[aC e1];by_cases e2:p=j-1
   · rw[ay e2];exact h j q om om hq e1
   · rw[aC e2];by_cases e3:p=j
     · rw[ay e3];exact h (j-1) q om om hq e1
     · rw[aC e3];exact h p q hp gG hq e1
theorem yJ.done {g} {a i j} (h:yJ g a i j) (jI:j≤i) (hx:j=a∨¬g j<g (j-1)):cZ g a (i+1):=by
 intro p q hp gG hq;by_cases e:q=j
 · subst e;rcases hx with hx|hx
   · omega
   · by_cases e2:p=q-1
     · subst e2;omega
     · have:=h p (q-1) hp om om om;omega
 · exact h p q hp gG om e
theorem Vj (l) (hl:l.length≤1000000) {a b:Nat} (hab:a≤b) (hb:b≤l.length):∃d,tM [.r (l.map ao),.i a,.i b]=some [.r (d.map ao)]∧de a b l d∧cZ (bQ d) a b:=by
 suffices h:∃o,Fo IX [.r (l.map ao),.i a,.i b]=some o∧∃d:List It,o=[.r (d.map ao)]∧de a b l d∧cZ (bQ d) a b by
   obtain⟨o,h1,d,rfl,h2⟩:=h;exact⟨d,h1,h2⟩
 refine iH ?_;refine bg (i:=a) rfl om (nW ?_);refine wp_loop (I:=fun s=>∃(i:Nat) (d:List It),s=[.i i,.r (d.map ao)]∧a+1≤i∧(i≤b∨i=a+1)∧de a b l d∧cZ (bQ d) a i) (mu:=fun s=>match s with|[.i i,_]=>b-i.toNat|_=>0)
   ⟨a+1,l,rfl,om,.inr rfl,.refl l,fun p q h1 h2 h3=>by omega⟩ ?_
 rintro s ⟨i,d,rfl,i0,i1,hs,hd⟩;refine uR ?_;refine aI rfl (fun hc=> ?_) (fun hc=> ?_);rotate_left
 · exact ad ⟨d,rfl,hs,fun p q h1 h2 h3=>hd p q h1 h2 om⟩
 refine aB (fun xs=>∃d:List It,xs=[.r (d.map ao)]∧de a b l d∧cZ (bQ d) a (i+1)) ?_ ?_;rotate_left
 · rintro _ ⟨e,rfl,he,eM⟩;refine bg (i:=i) rfl om (nW ?_);refine ad ⟨⟨i+1,e,rfl,om,om,he,eM⟩,?_⟩;show b- ((i+1:Nat):Int).toNat<b-i;omega
 refine wp_loop (I:=fun s=>∃(j:Nat) (d:List It),s=[.i j,.r (d.map ao)]∧a≤j∧j≤i∧de a b l d∧yJ (bQ d) a i j) (mu:=fun s=>match s with|[.i j,_]=>j.toNat|_=>0)
   ⟨i,d,rfl,om,om,hs,fun p q h1 h2 h3 h4=>hd p q h1 h2 om⟩ ?_
 rintro s ⟨j,e,rfl,j0,j1,hs,hde⟩;have jn:=hs.perm.length_eq;have hj:j<e.length:=om;refine aB (bT (a<j∧bQ e j<bQ e (j-1))) ?_ ?_
 · refine uR ?_;refine aI rfl (fun hc=> ?_) (fun hc=> ?_);rotate_left
   · exact ad (dN om)
   have pG:j-1<e.length:=om;refine iP (l:=e) (j:=j) rfl rfl hj (nW ?_);refine ck (n:=((j-1:Nat):Int)) (by show(j:Int) -1=_;omega) om om (nW ?_);refine iP (l:=e) (j:=j-1) rfl rfl pG (nW ?_);obtain⟨c,v8,gF⟩:=GI e[j] e[j-1];rw[←oE hj,←oE pG]at gF;refine ag v8 rfl rfl (uR ?_);exact ad (dW ⟨fun h=> ⟨om,gF.1 h⟩,fun h=>gF.2 h.2⟩)
 · rintro _ ⟨t,rfl,ht⟩;refine nW ?_;refine bc (fun hz=> ?_) (fun hz=> ?_);rotate_left
   · exact ad ⟨e,rfl,hs,hde.done j1 (by
      by_cases ej:j=a
      · exact .inl ej
      · exact .inr fun h=>by rw[ht.2 ⟨om,h⟩]at hz;cases hz)⟩
   obtain⟨h0,hlt⟩:=ht.1 hz;have pG:j-1<e.length:=om;refine ck (n:=((j-1:Nat):Int)) (by show(j:Int) -1=_;omega) om om (nW ?_);refine ck (n:=((j-1:Nat):Int)) (by show(j:Int) -1=_;omega) om om (nW ?_);refine iP (l:=e) (j:=j-1) rfl rfl pG (nW ?_);refine iP (l:=e) (j:=j) rfl rfl hj (nW ?_);refine sb (l:=e) (j:=j) (z:=e[j-1]) rfl rfl hj rfl rfl (nW ?_);refine sb (l:=e.set j e[j-1]) (j:=j-1) (z:=e[j]) rfl rfl (by simpa using pG) rfl rfl (nW ?_);refine ck (n:=((j-1:Nat):Int)) (by show(j:Int) -1=_;omega) om om (nW ?_);refine ad ⟨⟨j-1,_,rfl,om,om,hs.trans (.swap hj pG om om om om),hde.swap h0 j1 hlt fun p=> ?_⟩,?_⟩
   · have:=FV hj pG (p:=p)
     (repeat' split at this)<;>rename_i q1<;>first|rw[ay q1]|rw[aC q1]
     all_goals first|exact lX this|skip
     all_goals rename_i q2;first| (rw[ay q2];exact lX this)| (rw[aC q2];exact lX this)
   · show((j-1:Nat):Int).toNat< ((j:Nat):Int).toNat;omega
def pj (g:Nat→Int) (w a n:Nat):Prop:=∀p q,a≤p→p<q→q<n→p/w=q/w→g p≤g q
theorem GX {l d} {a b p} (h:de a b l d) (hp:p<a∨b≤p):bQ d p=bQ l p:=lX (h.out p hp)
theorem BP {e e'} {W a b} (hW:W=20∨W=40∨W=80) (ha:a%W=0) (hb:b≤a+W) (hs:de a b e e') (hm:cZ (bQ e') a b) (h:pj (bQ e) W 0 a):pj (bQ e') W 0 b:=by
 intro p q hp gG hq he;by_cases c1:q<a
 · rw[GX hs (.inl om),GX hs (.inl c1)];exact h p q hp gG c1 he
 · by_cases c2:a≤p
   · exact hm p q c2 gG hq
   · rcases hW with rfl|rfl|rfl<;>omega
theorem apM (l) (hl:l.length≤64) {n} (hn:n=l.length):∃d,F106 [.r (l.map ao),.i n]=some [.r (d.map ao)]∧d.Perm l∧cZ (bQ d) 0 d.length:=by
 subst hn
 suffices h:∃o,Fo KE [.r (l.map ao),.i (l.length:Int)]=some o∧∃d:List It,o=[.r (d.map ao)]∧d.Perm l∧cZ (bQ d) 0 d.length by
   obtain⟨o,h1,d,rfl,h2⟩:=h;exact⟨d,h1,h2⟩
 refine iH ?_;refine aB (fun xs=>∃(a:Nat) (d:List It),xs=[.i a,.r (d.map ao)]∧a≤l.length∧l.length<a+20∧a%20=0∧de 0 l.length l d∧pj (bQ d) 20 0 a) ?_ ?_
 · refine wp_loop (I:=fun s=>∃(a:Nat) (d:List It),s=[.i a,.i ((a+20:Nat):Int),.r (d.map ao)]∧a≤l.length∧a%20=0∧de 0 l.length l d∧pj (bQ d) 20 0 a) (mu:=fun s=>match s with|[.i a,_,_]=>64-a.toNat|_=>0)
     ⟨0,l,rfl,om,rfl,.refl l,fun p q h1 h2 h3=>by omega⟩ ?_
   rintro s ⟨a,d,rfl,a1,a2,hs,hd⟩;have jn:=hs.perm.length_eq;refine uR ?_;refine aI rfl (fun hc=> ?_) (fun hc=> ?_);rotate_left
   · exact ad ⟨a,d,rfl,a1,om,a2,hs,hd⟩
   obtain⟨e,he,eM,wa⟩:=Vj d om (a:=a) (b:=a+20) om om;refine ag he rfl rfl (nW ?_);refine cm (n:=((a+20+20:Nat):Int)) (by rfl) om om (nW ?_);refine ad ⟨⟨a+20,e,rfl,om,om,hs.trans (eM.mono om om),BP (.inl rfl) a2 om eM wa hd⟩,?_⟩;show 64- ((a+20:Nat):Int).toNat<64- ((a:Nat):Int).toNat;omega
 · rintro _ ⟨a,d,rfl,a1,a2,a3,hs,hd⟩;have jn:=hs.perm.length_eq;refine nW ?_;obtain⟨e,he,eM,wa⟩:=Vj d om (a:=a) (b:=l.length) a1 om;refine ag he rfl rfl (nW ?_);refine wp_loop (I:=fun s=>∃(w:Nat) (d:List It),s=[.i w,.r (d.map ao)]∧(w=20∨w=40∨w=80)∧de 0 l.length l d∧pj (bQ d) w 0 l.length) (mu:=fun s=>match s with|[.i w,_]=>80-w.toNat|_=>0)
     ⟨20,e,rfl,.inl rfl,hs.trans (eM.mono om om),BP (.inl rfl) a3 om eM wa hd⟩ ?_
   rintro s ⟨w,d,rfl,hw,hs,hd⟩;have jn:=hs.perm.length_eq;refine uR ?_;refine aI rfl (fun hc=> ?_) (fun hc=> ?_);rotate_left
   · refine ad ⟨d,rfl,hs.perm,fun p q h1 h2 h3=>hd p q h1 h2 om ?_⟩;rcases hw with rfl|rfl|rfl<;>omega
   have hw:w=20∨w=40:=om;have hw2:2*w=20∨2*w=40∨2*w=80:=om;refine iS (n:=((2*w:Nat):Int)) (by show(2:Int)*w=_;omega) om om (nW ?_);refine aB (fun xs=>∃(a:Nat) (e:List It),xs=[.i a,.r (e.map ao)]∧a≤l.length∧l.length<a+2*w∧a%(2*w)=0∧de 0 l.length l e∧pj (bQ e) (2*w) 0 a∧pj (bQ e) w a l.length) ?_ ?_
   · refine wp_loop (I:=fun s=>∃(a:Nat) (e:List It),s=[.i a,.i ((a+2*w:Nat):Int),.r (e.map ao)]∧a≤l.length∧a%(2*w)=0∧de 0 l.length l e∧pj (bQ e) (2*w) 0 a∧pj (bQ e) w a l.length) (mu:=fun s=>match s with|[.i a,_,_]=>64-a.toNat|_=>0)
       ⟨0,d,by rw[pP];rfl,om,Nat.zero_mod _,hs,fun p q h1 h2 h3=>by omega,hd⟩ ?_
     rintro s ⟨a,e,rfl,a1,a2,hs,hd,hr⟩;have jn:=hs.perm.length_eq;refine uR ?_;refine aI rfl (fun hc=> ?_) (fun hc=> ?_);rotate_left
     · exact ad ⟨a,e,rfl,a1,om,a2,hs,hd,hr⟩
     refine cm (n:=((a+w:Nat):Int)) (by rfl) om om (nW ?_);obtain⟨e2,he,eM,wa⟩:=Z1 e a (a+w) (a+2*w) om om om om om (fun p q h1 h2 h3=>hr p q h1 h2 om (by rcases hw with rfl|rfl<;>omega)) (fun p q h1 h2 h3=>hr p q om h2 om (by rcases hw with rfl|rfl<;>omega));refine ag he rfl rfl (nW ?_);refine iS (n:=((2*w:Nat):Int)) (by show(2:Int)*w=_;omega) om om (nW ?_);refine cm (n:=((a+2*w+2*w:Nat):Int)) (by rfl) om om (nW ?_);refine ad ⟨⟨a+2*w,e2,rfl,om,by rcases hw with rfl|rfl<;>omega,hs.trans (eM.mono om om),BP hw2 a2 om eM wa hd,fun p q h1 h2 h3 h4=> ?_⟩,?_⟩
     · rw[GX eM (.inr h1),GX eM (.inr om)];exact hr p q om h2 h3 h4
     · show 64- ((a+2*w:Nat):Int).toNat<64- ((a:Nat):Int).toNat;omega
   · rintro _ ⟨a,e,rfl,a1,a2,a3,hs,hd,hr⟩;have jn:=hs.perm.length_eq;refine nW ?_;refine aB (fun xs=>∃e:List It,xs=[.r (e.map ao)]∧de 0 l.length l e∧pj (bQ e) (2*w) 0 l.length) ?_ ?_;rotate_left
     · rintro _ ⟨e,rfl,h1,h2⟩;refine nW ?_;refine iS (n:=((2*w:Nat):Int)) (by show(w:Int)*2=_;omega) om om (nW ?_);refine ad ⟨⟨2*w,e,rfl,hw2,h1,h2⟩,?_⟩;show 80- ((2*w:Nat):Int).toNat<80- ((w:Nat):Int).toNat;omega
     refine cm (n:=((a+w:Nat):Int)) (by rfl) om om (uR ?_);have ra:cZ (bQ e) a (min (a+w) l.length):=fun p q h1 h2 h3=>hr p q h1 h2 om (by rcases hw with rfl|rfl<;>omega)
     refine aI rfl (fun hc=> ?_) (fun hc=> ?_)
     · obtain⟨e2,he,eM,wa⟩:=Z1 e a (a+w) l.length om om om om om (by rw[wo om]at ra;exact ra) (fun p q h1 h2 h3=>hr p q om h2 om (by rcases hw with rfl|rfl<;>omega));refine ag he rfl rfl (nW ?_);exact ad ⟨e2,rfl,hs.trans (eM.mono om om),BP hw2 a3 om eM wa hd⟩
     · rw[Nat.min_eq_right om]at ra;exact ad ⟨e,rfl,hs,BP hw2 a3 om (.refl e) ra hd⟩
theorem auO {l d} (ha:kI l) (hp:d.Perm l) (hs:cZ (bQ d) 0 d.length):dK d∧fX l=d:=by
 have O4:kI d:=(hp.pairwise_iff fun h=>fun e=>h e.symm).2 ha;have:dK d:=jL.2 fun i j hi hj hij=>by
  have h1:=hs i j (fm _) hij hj;have h2:=jL.1 O4 i j hi hj hij;rw[oE hi,oE hj]at h1;omega
 exact⟨this,K5 this hp ha⟩
theorem azD {ρ} {Q} {k} {x ln y:At} {d:List It} {i:Nat} (hx:(x.ev ρ).az=d.map ao) (hl:(ln.ev ρ).ah=i) (hi) (hy:(y.ev ρ).az=[ao d[i]])
  (hk:k.wp (ρ++ [.r (d.map ao),.i ((i+1:Nat):Int)]) Q):(ae.op (.ym x ln y 4) k).wp ρ Q:=by
 refine jW (ls:=[.r (d.map ao),.i ((i+1:Nat):Int)]) ?_ hk;simp only[Nd.ev];rw[ay ⟨by rw[hy];rfl,by rw[hy,hl,hx,aA];exact hi⟩,hl,hy,hx,fA];have:(d.map ao).take i++ [ao d[i]]++(d.map ao).drop (i+1)=d.map ao:=by
  rw[cd,←nk,←ml,show[ao d[i]]++(d.drop (i+1)).map ao=(d[i]::d.drop (i+1)).map ao from rfl,←zj hi,←dk,abC]
 rw[show[ao d[i]].length=1 from rfl,this]
theorem aeT (l:List It) (hn:l.length≤1000):qE [.r (l.map ao)]=some []:=by
 unfold qE;simp only;rw[ay ⟨eY l,by rw[aA];omega⟩]
theorem Du (l) (ha:kI l) (hn:l.length≤64):nF [.r (l.map ao)]=some [.r ((fX l).map ao)]:=by
 refine aH ?_;refine ag (aeT l om) rfl rfl (nW ?_);obtain⟨b,hb⟩:=dU (dK l);refine ag (Rp l om hb) rfl rfl (nW ?_);refine bc (fun hc=> ?_) (fun _=> ?_)
 · refine ad ?_;rw[D8 (hb.1 hc)];rfl
 obtain⟨d,h1,hp,hs⟩:=apM l hn rfl;obtain⟨O4,hd⟩:=auO ha hp hs;have jn:=hp.length_eq;have h1':AG [.r (l.map ao)]=some [.r (d.map ao)]:=by
   refine aH ?_;rw[←aA (f:=ao)]at h1;refine uR ?_;exact ag h1 rfl rfl (ad rfl)
 refine ag h1' rfl rfl (uR ?_);refine nh ⟨by show(0:Int)≤0;omega,om,fm _,by exact lT (eY d)⟩ (nW ?_);refine aB (fun xs=>xs=[.i (d.length:Nat),.r (d.map ao)]) ?_ ?_;rotate_left
 · rintro _ rfl;refine uR ?_;refine ad ?_;show[L.r ((d.map ao).take ((d.length:Nat):Int).toNat)]=_;rw[hd,fA,fD (by rw[aA];omega)]
 refine uR ?_;refine wp_loop (I:=fun s=>∃i:Nat,s=[.i i,.i i,.r (d.map ao)]∧i≤d.length) (mu:=fun s=>match s with|[_,.i i,_]=>d.length-i.toNat|_=>0) ⟨0,rfl,om⟩ ?_;rintro s ⟨i,rfl,e1⟩;rw[aA];refine uR ?_;refine aI rfl (fun hc=> ?_) (fun hc=> ?_);rotate_left
 · obtain rfl:i=d.length:=om;exact ad rfl
 have hi:i<d.length:=om;refine aB (fun xs=>xs=[.i ((i+1:Nat):Int),.r (d.map ao)]) ?_ ?_;rotate_left
 · rintro _ rfl;refine nW ?_;refine bg (i:=i) rfl om (nW ?_);refine ad ⟨⟨i+1,rfl,om⟩,?_⟩;show d.length- ((i+1:Nat):Int).toNat<d.length-i;omega
 refine iP (l:=d) (j:=i) rfl rfl hi (nW ?_);refine aB (fun xs=>xs=[.b true]) ?_ ?_
 · refine bg (i:=i) rfl om (uR ?_);rw[aA];refine aI rfl (fun hq=> ?_) (fun hq=> ?_)
   · exact ad rfl
   have eR:i+1<d.length:=om;refine bg (i:=i) rfl om (nW ?_);refine aP (f:=ao) (l:=d) (j:=i+1) rfl rfl eR rfl (nW ?_);refine dx (f:=ao) (l:=d) (j:=i+1) rfl rfl eR rfl rfl (uR ?_);refine ad ?_;have:=jL.1 O4 i (i+1) hi eR om;exact dT om
 · rintro _ rfl;refine nW ?_;refine dX rfl (uR ?_);refine azD (d:=d) (i:=i) rfl rfl hi rfl (nW ?_);exact ad rfl
theorem axn:BT [.r []]=some []:=by
 have h:zO [.r []]=some [.i (-1)]:=by
  refine aH ?_;refine D4 ?_;refine uR ?_;refine wp_loop (I:=fun a=>a=[.i 0]) (mu:=fun _=>0) rfl ?_;rintro a rfl;refine uR ?_;exact bj rfl (ad (ad rfl))
 refine aH ?_;refine ag h rfl rfl (uR ?_);exact dX rfl (ad rfl)
theorem Kf (l:List It):([0].all fun i=> (([L.r (l.map ao)][i]?).getD (.b false)).az.all (·.all PV.bare))=true:=by
 show([0].all fun _=> (l.map ao).all (·.all PV.bare))=true;simp[ao,PV.bare]
theorem aqS (l) (ha:kI l) (hn:l.length≤64):vu [.r (l.map ao)]=some [.r ((fX l).map ao)]:=by
 have ma:=zy l;have h2:=Du (fX l) (Eo l).apart om;rw[D8 (Eo l)]at h2;refine aH ?_;refine ag (Du [] List.Pairwise.nil dc) rfl rfl (nW ?_);refine ag axn rfl rfl (nW ?_);refine ag (Du l ha hn) rfl (Kf _) (nW ?_);refine dC (r:=(fX l).map ao) rfl (eY _) (by show(0:Nat)≤_;omega) (by show((fX l).map ao).length≤_;rw[aA];omega) om rfl (nW ?_);exact ag h2 rfl (Kf _) (ad rfl)
section
variable {ρ:List L} {Q:Lf×List L→Prop} {P:Prop} {b v:Bool}
theorem mZ (hb:b=true ↔ P) (h:¬P):[L.b false]=[L.b b]:=by rw[fu hb h]
theorem MR (hb:b=true ↔ P) (h:P):[L.b true]=[L.b b]:=by rw[hb.2 h]
theorem cB {f:ae} (h:f.wp ρ (jQ (bT P) Q):=by((repeat' first| (refine aI rfl (fun hx=> ?_) (fun hx=> ?_))| (refine uT rfl ?_));all_goals (refine ad ?_;show bT _ _;try dsimp only[At.ev,d1,d2,d3,d4,d5,d6,d7,d8,d9,e0,List.map,cb,Kd.pv];first|exact cz om|exact dN om|exact dW om|exact oU om))):f.wp ρ (jQ (bT P) Q):=h
theorem rB {n} (hb:b=true ↔ P) (hn:n=ρ.length:=by rfl):∀xs,bT P xs→(ae.ak (.jump 0 [.v n])).wp (ρ++xs) (kW fun x=>x=[.b b]):=by
 rintro _ ⟨t,rfl,ht⟩;refine ad ?_;show[(At.v n).ev (ρ++ [L.b t])]=[L.b b]
 rw[WS hn,iK.2 (ht.trans hb.symm)]
theorem iR {c} {f g} (hc:c.ev ρ= .b v) (hv:v=true ↔ P) (ht:P→f.wp ρ Q) (hf:¬P→g.wp ρ Q):(ae.ite c f g).wp ρ Q:=
 bc (fun h=>ht (hv.1 (by rw[hc]at h;exact h))) (fun h=>hf fun p=>by rw[hc]at h;rw[hv.2 p]at h;cases h)
theorem qu {c} {f g} (hc:c.ev ρ= .b (!v)) (hv:v=true ↔ P) (ht:¬P→f.wp ρ Q) (hf:P→g.wp ρ Q):(ae.ite c f g).wp ρ Q:=
 bc (fun h=>ht fun p=>by rw[hc,hv.2 p]at h;cases h) (fun h=>hf (hv.1 (by rw[hc]at h;have h:(!v)=false:=h;simpa using h)))
end
abbrev fY (m:Mp):List L:=[.r ((m.st 0).map ao),.r ((m.st 1).map ao),.r ((m.st 2).map ao),.r ((m.st 3).map ao),.r ((m.st 4).map ao),.r ((m.st 5).map ao),.r ((m.st 6).map ao),.r ((m.st 7).map ao),.i m.live,.i m.cF]
structure WM (m:Mp):Prop where
 hn:∀s,(m.st s).length≤8
def BJ (m:Mp) (s:Nat):Prop:=VL (m.st s)∧∀x∈m.st s,fh x.key=(s:Int)
def fI (m:Mp) (s:Nat):List It:=(List.range s).flatMap m.st
theorem qK (m) (s):fI m (s+1)=fI m s++m.st s:=by
 unfold fI;rw[H6,abW];simp
theorem vD {m} (h:WM m):∀s:Nat,(fI m s).length≤8*s
 |0=>cn 0
 |s+1=>by
  have:=vD h s;have:=h.hn s;rw[qK,bE];omega
theorem As {m} (h:WM m):(cat m).length≤64:=vD h 8
theorem Gf {m} (h:WM m):(items m).length≤64:=me (zy _) (As h)
theorem zu (a b):ca (a++b)=ca a+ca b:=by simp[ca]
theorem GO (n):0≤bU n∧bU n≤4120:=by unfold bU;split<;>omega
theorem qF:∀l:List It,0≤ca l∧ca l≤4120*l.length
 |[]=>by simp[ca]
 |x::l=>by
  have h1:=qF l;have h2:=GO x.size;have e:ca (x::l)=bU x.size+ca l:=by simp[ca]
  simp only[ir];omega
theorem uI {m} {s:Nat} (hs:s<8) {ρ ρ'} {Q} {k} {xs} {i:At} (hi:(i.ev ρ).ah=s) (hρ:ρ=fY m++ρ') (hk:k.wp (ρ++ [.r ((m.st s).map ao)]) Q) (hx:xs=w 0 8:=by rfl):(ae.op (.fH xs i) k).wp ρ Q:=by
 subst hρ hx;have:∃x:At,(w 0 8)[s]? =some x∧x.ev (fY m++ρ')= .r ((m.st s).map ao):=by
  match s,hs with
  |0,_=>exact⟨_,rfl,rfl⟩
  |1,_=>exact⟨_,rfl,rfl⟩
  |2,_=>exact⟨_,rfl,rfl⟩
  |3,_=>exact⟨_,rfl,rfl⟩
  |4,_=>exact⟨_,rfl,rfl⟩
  |5,_=>exact⟨_,rfl,rfl⟩
  |6,_=>exact⟨_,rfl,rfl⟩
  |7,_=>exact⟨_,rfl,rfl⟩
 obtain⟨x,h1,h2⟩:=this;exact X7 (x:=x) (by rw[hi,fA];exact h1) (by rw[h2];exact hk)
theorem Kz (k):F2 [.i k]=some [.i (fh k)]:=by
 have hs:=wF k;refine aH ?_;refine cv (l:= .i (k*11400714819323198485%18446744073709551616)) (by show some (L.i (IntKind.wrap .u64 _))=_;simp[IntKind.wrap,IntKind.bits,IntKind.signed,At.ev,L.ah]) (nW ?_);refine cv (l:= .i (fh k)) ?_ (nW ?_)
 · show(if(0:Int)≤61 then some (L.i ((k*11400714819323198485%18446744073709551616).fdiv (2^ (min (61:Int).toNat IntKind.u64.bits))))else none)=_;rw[ay om,show(2:Int) ^ (min (61:Int).toNat IntKind.u64.bits)=2305843009213693952 by simp[IntKind.bits],PA _ om];rfl
 exact po (n:=fh k) rfl om om (ad rfl)
theorem T' (l) (hl:l.length≤1000000):Gz [.r (l.map ao)]=some [.i (ca l)]:=by
 refine aH ?_;refine aB (fun xs=>xs=[.i (ca l)]) ?_ (by rintro _ rfl;exact ad rfl);refine wp_loop (I:=fun a=>∃i:Nat,a=[.i (ca (l.take i)),.i i]∧i≤l.length) (mu:=fun a=>match a with|[_,.i i]=>l.length-i.toNat|_=>0) ⟨0,rfl,om⟩ ?_;rintro a ⟨i,rfl,e1⟩;refine uR ?_;rw[aA];refine aI rfl (fun hc=> ?_) (fun hc=> ?_);rotate_left
 · refine ad ?_;show[L.i (ca (l.take i))]=[L.i (ca l)]
   rw[fD om]
 have hi:i<l.length:=om;have h1:=qF (l.take i);have h2:=GO l[i].size;have h3:(l.take i).length=i:=by rw[cL];omega
 have e:ca (l.take i)+bU l[i].size=ca (l.take (i+1)):=by rw[gX hi,zu];simp[ca]
 refine aP (f:=ao) (l:=l) (j:=i) rfl rfl hi rfl (uR ?_);refine ag (nG l[i].size) rfl rfl (nW ?_);refine cm (n:=ca (l.take (i+1))) e om om (nW ?_);refine bg (i:=i) rfl om (nW ?_);refine ad ⟨⟨i+1,rfl,om⟩,?_⟩;show l.length- ((i+1:Nat):Int).toNat<l.length-i;omega
theorem FH {m} (h:WM m) {b} (hb:b=true ↔ MV m):wJ (fY m)=some [.b b]:=by
 have no:∀s,s<8→¬BJ m s→[L.b false]=[L.b b]:=fun s hs hk=>mZ hb fun hv=>hk (hv.1 s hs)
 refine aH ?_;refine aB (fun xs=>nQ m∧xs=[.i (ca (cat m))]) ?_ ?_;rotate_left
 · rintro _ ⟨hS,rfl⟩;refine nW ?_;exact aB (bT (m.live=ca (cat m)∧0≤m.cF∧m.cF≤1099511627776)) cB (rB (hb.trans ⟨fun h=>h.2,fun h=> ⟨hS,h⟩⟩))
 refine wp_loop (I:=fun a=>∃s:Nat,a=[.i (ca (fI m s)),.i s]∧s≤8∧∀t,t<s→BJ m t) (mu:=fun a=>match a with|[_,.i i]=>8-i.toNat|_=>0) ⟨0,rfl,om,fun t ht=>by omega⟩ ?_;rintro a ⟨s,rfl,e1,e2⟩;refine uR ?_;refine aI rfl (fun hc=> ?_) (fun hc=> ?_);rotate_left
 · obtain rfl:s=8:=om;exact ad ⟨fun t ht=>e2 t ht,rfl⟩
 have hs:s<8:=om;have hlen:=h.hn s;have HR:(0:Int)≤(s:Int)∧(s:Int)< ((8:Nat):Int):=⟨om,om⟩
 refine sd HR (nW ?_);refine uI (m:=m) hs rfl rfl (nW ?_);obtain⟨v,hv⟩:=dU (VL (m.st s));refine ag (JD (m.st s) om hv) rfl rfl (uR ?_);refine qu rfl hv (fun hx=>ad (no s hs fun h=>hx h.1)) fun hx=> ?_
 refine aB (fun xs=>xs=[]∧∀x∈m.st s,fh x.key=(s:Int)) ?_ ?_
 · refine wp_loop (I:=fun a=>∃j:Nat,a=[.i j]∧j≤(m.st s).length∧∀(t:Nat) (ht:t< (m.st s).length),t<j→fh (m.st s)[t].key=s) (mu:=fun a=>match a with|[.i i]=> (m.st s).length-i.toNat|_=>0) ⟨0,rfl,om,fun t ht h=>by omega⟩ ?_;rintro a ⟨j,rfl,f1,f2⟩;refine nW ?_;refine sd HR (nW ?_);refine uI (m:=m) hs rfl rfl (uR ?_);rw[aA];refine aI rfl (fun hc=> ?_) (fun hc=> ?_);rotate_left
   · refine ad ⟨rfl,fun x hx=> ?_⟩;obtain⟨t,ht,rfl⟩:=iq hx;exact f2 t ht om
   have hj:j< (m.st s).length:=om;refine sd HR (nW ?_);refine uI (m:=m) hs rfl rfl (nW ?_);refine aP (f:=ao) (l:=m.st s) (j:=j) rfl rfl hj rfl (uR ?_);refine ag (Kz _) rfl rfl (uR ?_);refine aI rfl (fun hq=> ?_) (fun hq=> ?_)
   · exact ad (no s hs fun h=>hq (h.2 _ (b8 hj)))
   refine bg (i:=j) rfl om (nW ?_);refine ad ⟨⟨j+1,rfl,om,fun t ht hlt=> ?_⟩,?_⟩
   · by_cases e:t=j
     · subst e;omega
     · exact f2 t ht om
   · show(m.st s).length- ((j+1:Nat):Int).toNat< (m.st s).length-j;omega
 · rintro _ ⟨rfl,hst⟩;have g1:=qF (fI m s);have g2:=vD h s;have g3:=qF (m.st s);refine nW ?_;refine sd HR (nW ?_);refine uI (m:=m) hs rfl rfl (nW ?_);refine ag (T' (m.st s) om) rfl rfl (nW ?_);refine cm (n:=ca (fI m (s+1))) (by rw[qK,zu];rfl) (by rw[qK,zu];omega) (by rw[qK,zu];omega) (nW ?_);refine bg (i:=s) rfl om (nW ?_);refine ad ⟨⟨s+1,rfl,om,fun t ht=> ?_⟩,?_⟩
   · by_cases e:t=s
     · subst e;exact⟨hx,hst⟩
     · exact e2 t om
   · show 8- ((s+1:Nat):Int).toNat<8-s;omega
theorem D7 {m} (h:WM m) (hv:MV m):qc (fY m)=some [.r ((items m).map ao)]:=by
 refine aH ?_;refine aB (fun xs=>xs=[.r ((cat m).map ao)]) ?_ ?_;rotate_left
 · rintro _ rfl;refine nW ?_;obtain⟨o,h1,h2⟩:=EX (.r ((cat m).map ao)) (cat m) rfl (by have:=As h;omega);rw[h2]at h1;exact ag h1 rfl (Kf (items m)) (ad rfl)
 refine wp_loop (I:=fun a=>∃s:Nat,a=[.i s,.r ((fI m s).map ao)]∧s≤8) (mu:=fun a=>match a with|[.i i,_]=>8-i.toNat|_=>0) ⟨0,rfl,om⟩ ?_;rintro a ⟨s,rfl,e1⟩;refine aB (bT (s<8)) ?_ ?_
 · refine uR ?_;refine aI rfl (fun hc=> ?_) (fun hc=>ad (dN om));exact ag (FH h (b:=true) ⟨fun _=>hv,fun _=>rfl⟩) rfl rfl (ad (cz om))
 rintro _ ⟨t,rfl,ht⟩;refine nW ?_;refine iR rfl ht (fun hs=> ?_) (fun hs=> ?_);rotate_left
 · obtain rfl:s=8:=om;exact ad rfl
 have g2:=vD h s;have g3:=h.hn s;refine sd ⟨by show(0:Int)≤s;omega,by show(s:Int)< (8:Nat);omega⟩ (nW ?_);refine uI (m:=m) hs rfl rfl (nW ?_);refine dC (r:=(fI m (s+1)).map ao) (eY _) (eY _) (by show((fI m s).map ao).length≤_;rw[aA];omega) (by show((m.st s).map ao).length≤_;rw[aA];omega) om (by rw[qK,dk];rfl) (nW ?_);refine bg (i:=s) rfl om (nW ?_);refine ad ⟨⟨s+1,rfl,om⟩,?_⟩;show 8- ((s+1:Nat):Int).toNat<8-s;omega
theorem axR {m} (h:WM m) (hv:MV m):DM (fY m)=some [.i (items m).length]:=by
 refine aH ?_;refine ag (D7 h hv) rfl rfl (uR ?_);rw[aA];exact ad rfl
def kZ:Option It→List L
 |some x=> [.b true,.i x.key,.i x.cookie,.i x.off,.i x.size]
 |none=> [.b false,.i 0,.i 0,.i 0,.i 0]
theorem awx {l:List It} {j} {k} (hj):bG (l.take (j+1)) k=if l[j].key=k then some l[j]else bG (l.take j) k:=by
 unfold bG;rw[gX hj,List.reverse_append,List.reverse_singleton,List.singleton_append,PB];by_cases h:l[j].key=k
 · rw[ay h,decide_eq_true h]
 · rw[aC h,decide_eq_false h]
theorem aoo (l) (hl:l.length≤1000000) (key):MW [.r (l.map ao),.i key]=some (kZ (bG l key)):=by
 refine aH ?_;refine aB (fun xs=>xs=[]∧bG l key=none) ?_ (by
   rintro _ ⟨rfl,h⟩;refine ad ?_;rw[h];rfl)
 refine uR ?_;rw[aA];refine ck (n:=(l.length:Int) -1) rfl om om (nW ?_);refine wp_loop (I:=fun a=>∃i:Nat,a=[.i ((i:Int) -1)]∧i≤l.length∧bG l key=bG (l.take i) key) (mu:=fun a=>match a with|[.i i]=> (i+1).toNat|_=>0) ⟨l.length,rfl,om,by rw[ju]⟩ ?_;rintro a ⟨i,rfl,e1,e2⟩;refine uR ?_;refine aI rfl (fun hc=> ?_) (fun hc=> ?_);rotate_left
 · obtain rfl:i=0:=om;exact ad ⟨rfl,e2⟩
 obtain⟨j,rfl⟩:∃j,i=j+1:=⟨i-1,om⟩
 have hj:j<l.length:=om;have ej:((j+1:Nat):Int) -1=j:=om;rw[ej];refine aP (f:=ao) (l:=l) (j:=j) rfl rfl hj rfl (uR ?_);rw[awx hj]at e2;refine aI rfl (fun hq=> ?_) (fun hq=> ?_)
 · refine aP (f:=ao) (l:=l) (j:=j) rfl rfl hj rfl (uR ?_);refine ad ?_;rw[e2,ay hq];rfl
 · rw[aC hq]at e2;refine ck (n:=(j:Int) -1) rfl om om (nW ?_);refine ad ⟨⟨j,rfl,om,e2⟩,?_⟩;show((j:Int) -1+1).toNat< ((j:Int)+1).toNat;omega
theorem atQ {m} (h:WM m) (hv:MV m) (key):uo (fY m++ [.i key])=some (kZ (bG (items m) key)):=by
 refine aH ?_;refine ag (D7 h hv) rfl rfl (nW ?_);refine ag (aoo (items m) (by have:=Gf h;omega) key) (by cases bG (items m) key<;>rfl) rfl ?_;refine ad ?_;cases bG (items m) key<;>rfl
def zV (l:List It) (size:Int) (i:Nat):Prop:=∀h:i<l.length,ends l[i]≤size∧∀(k:Nat) (hk:k<l.length),k≠i→¬(l[i].off≤l[k].off∧l[k].off<ends l[i])
theorem arV (l) (size):(l.Pairwise Clear∧∀x∈l,ends x≤size) ↔∀i,i<l.length→zV l size i:=by
 constructor
 · rintro⟨h1,h2⟩ i hi hi';refine⟨h2 _ (b8 hi),fun k hk qV=> ?_⟩;rcases Nat.lt_or_gt_of_ne qV with h|h
   · exact(jL.1 h1 k i hk hi h).2
   · exact(jL.1 h1 i k hi hk h).1
 · intro h;refine⟨jL.2 fun i j hi hj hij=> ⟨(h i hi hi).2 j hj om,(h j hj hj).2 i hi om⟩,fun x hx=> ?_⟩;obtain⟨i,hi,rfl⟩:=iq hx;exact(h i hi hi).1
theorem TB {l:List It} (aO:∀x∈l,dm x=true) {i} (hi:i<l.length):16≤l[i].off∧l[i].off≤1048576∧24≤bU l[i].size∧bU l[i].size≤4120:=by
 have h:=aO _ (b8 hi);have h1:=Eb h;have h2:=GO l[i].size;simp only[dm,bt,dj]at h;omega
theorem ayx (l:List It) (hl:l.length≤1000000) (aO:∀x∈l,dm x=true) {size} {b} (hb:b=true ↔ (l.Pairwise Clear∧∀x∈l,ends x≤size)):Nh [.r (l.map ao),.i size]=some [.b b]:=by
 rw[arV]at hb;refine aH ?_;refine aB (fun xs=>xs=[]∧∀i,i<l.length→zV l size i) ?_ (by rintro _ ⟨rfl,h⟩;exact ad (MR hb h));refine wp_loop (I:=fun a=>∃i:Nat,a=[.i i]∧i≤l.length∧∀j,j<i→zV l size j) (mu:=fun a=>match a with|[.i i]=>l.length-i.toNat|_=>0) ⟨0,rfl,om,fun j hj=>by omega⟩ ?_;rintro a ⟨i,rfl,e1,e2⟩;refine uR ?_;rw[aA];refine aI rfl (fun hc=> ?_) (fun hc=>ad ⟨rfl,fun j hj=>e2 j om⟩);have hi:i<l.length:=om;obtain⟨h1,h2,h3,h4⟩:=TB aO hi;have no:¬zV l size i→[L.b false]=[L.b b]:=fun h=>mZ hb fun hv=>h (hv i hi)
 refine aB (fun xs=>xs=[]∧zV l size i) ?_ ?_;rotate_left
 · rintro _ ⟨rfl,h⟩;refine nW ?_;refine bg (i:=i) rfl om (nW ?_);refine ad ⟨⟨i+1,rfl,om,fun j hj=> ?_⟩,?_⟩
   · by_cases e:j=i
     · subst e;exact h
     · exact e2 j om
   · show l.length- ((i+1:Nat):Int).toNat<l.length-i;omega
 refine aP (f:=ao) (l:=l) (j:=i) rfl rfl hi rfl (uR ?_);refine aP (f:=ao) (l:=l) (j:=i) rfl rfl hi rfl (uR ?_);refine ag (nG l[i].size) rfl rfl (nW ?_);refine cm (n:=ends l[i]) rfl (by unfold ends;omega) (by unfold ends;omega) (uR ?_);refine aI rfl (fun hq=>ad (no fun h=>by have:=(h hi).1;omega)) (fun hq=> ?_);refine wp_loop (I:=fun a=>∃k:Nat,a=[.i k]∧k≤l.length∧∀(j:Nat) (hj:j<l.length),j<k→j≠i→¬(l[i].off≤l[j].off∧l[j].off<ends l[i])) (mu:=fun a=>match a with|[.i i]=>l.length-i.toNat|_=>0) ⟨0,rfl,om,fun j hj h=>by omega⟩ ?_;rintro a ⟨k,rfl,f1,f2⟩;refine uR ?_;rw[aA];refine aI rfl (fun hk=> ?_) (fun hk=>ad ⟨rfl,fun _=> ⟨om,fun j hj jI=>f2 j hj om jI⟩⟩);have hk:k<l.length:=om;refine aB (bT (k≠i∧l[i].off≤l[k].off∧l[k].off<ends l[i])) ?_ ?_
 · refine uR ?_;refine aI rfl (fun g1=> ?_) (fun g1=>ad (dN om));refine aP (f:=ao) (l:=l) (j:=k) rfl rfl hk rfl (uR ?_);refine aP (f:=ao) (l:=l) (j:=i) rfl rfl hi rfl (uR ?_);refine aI rfl (fun g2=> ?_) (fun g2=>ad (dN om));refine aP (f:=ao) (l:=l) (j:=k) rfl rfl hk rfl (uR ?_);exact ad (dW om)
 · rintro _ ⟨t,rfl,ht⟩;refine nW ?_;refine iR rfl ht (fun g=>ad (no fun h=> (h hi).2 k hk g.1 g.2)) fun g=> ?_
   refine bg (i:=k) rfl om (nW ?_);refine ad ⟨⟨k+1,rfl,om,fun j hj hlt jI=> ?_⟩,?_⟩
   · by_cases e:j=k
     · subst e;exact fun h=>g ⟨jI,h⟩
     · exact f2 j hj om jI
   · show l.length- ((k+1:Nat):Int).toNat<l.length-k;omega
abbrev gN (g:Gn):List L:=[.i g.num,.i g.rev,.i g.mode,.i g.size,.r ((g.map.st 0).map ao),.r ((g.map.st 1).map ao),.r ((g.map.st 2).map ao),.r ((g.map.st 3).map ao),.r ((g.map.st 4).map ao),.r ((g.map.st 5).map ao),.r ((g.map.st 6).map ao),.r ((g.map.st 7).map ao),.i g.map.live,.i g.map.cF]
def ky (g:Gn):List PV:=[.sc (.int .i64 g.num),.sc (.int .i64 g.rev),.sc (.int .i64 g.mode),.sc (.int .i64 g.size),.sl ((g.map.st 0).map ao),.sl ((g.map.st 1).map ao),.sl ((g.map.st 2).map ao),.sl ((g.map.st 3).map ao),.sl ((g.map.st 4).map ao),.sl ((g.map.st 5).map ao),.sl ((g.map.st 6).map ao),.sl ((g.map.st 7).map ao),.sc (.int .i64 g.map.live),.sc (.int .i64 g.map.cF)]
theorem je {P} (h:P):true=true ↔ P:=⟨fun _=>h,fun _=>rfl⟩
theorem Ke {P} (h:¬P):false=true ↔ P:=⟨fun h'=> (by cases h'),fun h'=>absurd h' h⟩
def xU (g:Gn):Prop:=1≤g.num∧g.num≤8∧0≤g.rev∧g.rev<4294967296∧1≤g.mode∧g.mode≤3
def Ak (g:Gn):Prop:=(16≤g.size∧g.size≤1048576∧g.size%8=0)∧MV g.map
def z6 (g:Gn):Prop:=(items g.map).Pairwise Clear∧∀x∈items g.map,ends x≤g.size
theorem ZV {m} (h:WM m) (hv:MV m):0≤m.live∧m.live≤263680:=by
 have h1:=qF (cat m);have h2:=As h;have h3:=hv.2.1;omega
theorem asJ {g} (h:WM g.map) {b} (hb:b=true ↔ GV g):rU (gN g)=some [.b b]:=by
 refine aH ?_;refine aB (bT (¬xU g)) (by unfold xU;exact cB) ?_;rintro _ ⟨t,rfl,ht⟩;refine nW ?_;refine iR rfl ht (fun h1=>ad (mZ hb fun hv=>h1 hv.1)) fun h1=> ?_
 have h1:xU g:=ow h1;refine aB (bT (¬(Ak g∧z6 g))) ?_ ?_
 · refine uR ?_;refine aI rfl (fun h2=>ad (cz fun hv=>by have:=hv.1.1;omega)) fun h2=> ?_
   refine uR ?_;refine aI rfl (fun h3=>ad (cz fun hv=>by have:=hv.1.1;omega)) fun h3=> ?_
   refine cv (l:= .i (g.size%8)) (by
    show(if(8:Int)≠0 then some (L.i (g.size.tmod 8))else none)=_;rw[ay dc,abU om]) (uR ?_)
   refine aI rfl (fun h4=>ad (cz fun hv=>by have:=hv.1.1;omega)) fun h4=> ?_
   obtain⟨v,hv⟩:=dU (MV g.map);refine ag (FH h hv) rfl rfl (uR ?_);refine qu rfl hv (fun h5=>ad (cz fun hv=>h5 hv.1.2)) fun h5=> ?_
   refine ag (D7 h h5) rfl rfl (nW ?_);obtain⟨v2,hv2⟩:=dU (z6 g);refine ag (ayx (items g.map) (by have:=Gf h;omega) (Yb h5.1) hv2) rfl rfl (uR ?_);refine ad ?_;refine⟨!v2,rfl,?_⟩;have:Ak g:=⟨⟨om,om,om⟩,h5⟩
   cases v2 with
   |true=>exact Ke fun h=>h ⟨this,hv2.1 rfl⟩
   |false=>exact je fun h=>by have:=hv2.2 h.2;cases this
 rintro _ ⟨t,rfl,ht⟩;refine nW ?_;refine iR rfl ht (fun h2=>ad (mZ hb fun hv=>h2 ⟨⟨hv.2.1,hv.2.2.1⟩,hv.2.2.2.1⟩)) fun h2=> ?_
 have h2:Ak g∧z6 g:=ow h2;have h3:=ZV h h2.1.2;have h4:=h2.1.1;refine ck (n:=g.size-16) rfl om om (nW ?_);refine ck (n:=g.size-16-g.map.live) rfl om om (uR ?_);refine ad ?_;by_cases hq:g.size-16-g.map.live=g.map.cF
 · exact(dT hq).trans (MR hb ⟨h1,h2.1.1,h2.1.2,h2.2,om⟩)
 · exact(dF hq).trans (mZ hb fun hv=>by have:=hv.2.2.2.2;omega)
def FO (limit:Int) (gens:List Gn) (i:Nat):Prop:=∀h:i<gens.length,GV gens[i]∧(gens[i].mode=1 ↔ i=gens.length-1)∧(∀h0:0<i,(gens[i-1]'om).num<gens[i].num)∧gens[i].size≤2*limit
def I2 (id limit:Int) (gens:List Gn):Prop:=(0≤id∧id<4)∧(4136≤limit∧limit≤262144)∧(1≤gens.length∧gens.length≤8)
def Mr (id limit:Int) (gens:List Gn):Prop:=I2 id limit gens∧(∀i,i<gens.length→FO limit gens i)∧∀h:gens.length-1<gens.length,gens[gens.length-1].size+24*(items gens[gens.length-1].map).length≤2*limit
def pZ (gens:List Gn) (k:Int):Nat→Option (Gn×It)
 |0=>none
 | i+1=>match gens[i]? with
  |some g=>match bG (items g.map) k with
   |some x=>some (g,x)
   |none=>pZ gens k i
  |none=>none
def B_:Option (Gn×It)→List L
 |some (g,x)=> [.b true,.i g.num,.i g.mode,.i g.rev,.i x.key,.i x.cookie,.i x.off,.i x.size]
 |none=> [.b false,.i 0,.i 0,.i 0,.i 0,.i 0,.i 0,.i 0]
theorem Us {gens:List Gn} {k:Int} {j:Nat} (hj:j<gens.length):pZ gens k (j+1)=match bG (items gens[j].map) k with
  |some x=>some (gens[j],x)
  |none=>pZ gens k j:=by
 rw[pZ,bW hj]
end
end
end Go.Proofs.YtndegphojkiblaaGreatDoor
