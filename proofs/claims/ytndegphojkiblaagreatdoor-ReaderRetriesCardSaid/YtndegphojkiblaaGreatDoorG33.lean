/- A part of the proof. -/
import Derived.Test.YtndegphojkiblaaGreatDoorG29
import Derived.Test.YtndegphojkiblaaGreatDoorG31
import Derived.Test.YtndegphojkiblaaGreatDoorG32
set_option linter.all false
set_option maxHeartbeats 4000000
set_option maxRecDepth 100000
namespace Go.Proofs.YtndegphojkiblaaGreatDoor
noncomputable section
section
open Go.RowKit AI
attribute [local irreducible] ae.wp
def oN (c:Nat→Nat) (d:Nat→List Nat) (z:List Nat):Nat→List Nat
 |0=>z
 |k+1=>nS (c k) (oN c d z k) (d k)
def wT (E:List Nat) (ds:List (List Nat)) (m j:Nat):List Nat:=oN (fun k=>E.getD (j*4+k) 0) (fun k=>ds.getD k []) (List.replicate m 0) 4
def py (E:List Nat) (ds:List (List Nat)) (m nr:Nat):List (List Nat):=(List.range nr).map (wT E ds m)
theorem Tx (m):B8 (List.replicate m 0):=fun x hx=>by rw[List.eq_of_mem_replicate hx];decide
theorem LY {c:Nat→Nat} {d:Nat→List Nat} {m n:Nat} (hd:∀k,k<n→(d k).length=m):∀k,k≤n→(oN c d (List.replicate m 0) k).length=m∧B8 (oN c d (List.replicate m 0) k)
 |0,_=> ⟨pQ,Tx m⟩
 |k+1,h=>by
  have h1:=LY (c:=c) hd k om;have h2:=hd k om;unfold oN;exact⟨by rw[Te om];exact h2,apK h1.2⟩
theorem jA {α:Type} {d} {l:List α} {i} (h):l.getD i d=l[i]:=by rw[mo,bW h];rfl
def nT (ds:List (List Nat)) (m:Nat):Prop:=∀d∈ds,B8 d∧d.length=m
theorem nT.at {ds} {m} (h:nT ds m) {k} (hk:k<ds.length):B8 ds[k]∧ds[k].length=m:=h _ (b8 hk)
theorem Uv {E} {ds} {m} (h4:ds.length=4) (h:nT ds m) (j):(wT E ds m j).length=m∧B8 (wT E ds m j):=
 LY (n:=4) (fun k hk=>by rw[jA om];exact(h.at om).2) 4 om
theorem DV (E) (ds) (m nr):(py E ds m nr).length=nr:=by simp[py]
theorem aoh {E} {ds} {m nr i} (h):(py E ds m nr)[i]=wT E ds m i:=by simp[py]
theorem aln {E} {ds} {m nr} (h4:ds.length=4) (h:nT ds m):nT (py E ds m nr) m:=fun d hd=>by
 obtain⟨j,_,rfl⟩:=fe.1 hd;exact⟨(Uv h4 h j).2,(Uv h4 h j).1⟩
section
variable {α:Type} {d:α} {l:List α} {n:Nat}
def ko (d:α) (l:List α) (n i:Nat):List α:=l.take i++List.replicate (n-i) d
theorem Xd (h:l.length=n) {i} (hi:i≤n):(ko d l n i).length=n:=by simp only[ko,bE,cL,pQ];omega
theorem Yv (h:l.length=n) {i} (hi:i<n) {v} (hv:v=l[i]'om):(ko d l n i).set i v=ko d l n (i+1):=by
 unfold ko;rw[List.set_append_right _ _ (by rw[cL];omega),gX om,cd,cL];rw[show i-min i l.length=0 by omega,show n-i=(n- (i+1))+1 by omega,List.replicate_succ,List.set_cons_zero,hv];rfl
theorem P7 (h:l.length=n):ko d l n n=l:=by unfold ko;rw[fD om,wj];simp
end
theorem DE (l:List (List Nat)):bu 1 (l.map fR)=true:=by
 unfold bu;rw[bC];intro x hx;obtain⟨y,_,rfl⟩:=fe.1 hx;rfl
theorem atn:mQ [.i 6,.i 4]=some [.b true]:=zA _ _ kr
theorem aeb {nr:Nat} (hn:nr≤16) (hs:mQ [.i nr,.i 4]=some [.b true]) {E:List Nat} (hE:E.length=nr*4):mO [.i nr,.i 4,.r (E.map b1)]=some [.b true]:=by
 refine aH ?_;refine aB (fun xs=>xs=[.b true]) ?_ ?_
 · refine ag hs rfl rfl (nW ?_);refine dX rfl (uR ?_);refine iS (n:=((nr*4:Nat):Int)) oO om om (uR ?_);refine ad ?_;exact dT (by rw[aA,hE])
 rintro _ rfl;refine nW ?_;exact ad rfl
theorem Zu {α:Type} {f:α→List PV} (hf:∀x,(f x).all PV.bare=true) (l:List α):(l.map f).all (·.all PV.bare)=true:=by
 rw[bC];intro x hx;obtain⟨y,_,rfl⟩:=fe.1 hx;exact hf y
section
variable {ρ:List L} {Q:Lf×List L→Prop} {k:ae} {α:Type} {f:α→List PV}
theorem yy {t} {F} {args} {n j} {l} {m:List α} (hf:∀x,(f x).all PV.bare=true) (h:F (args.map (At.ev ρ))=some l) (hl:l.length=n) (hj:l[j]? =some (.r (m.map f))) (hk:k.wp (ρ++l) Q):(ae.op (.call t F args n [j]) k).wp ρ Q:=
 ag h hl (by simp only[Pq,List.all_nil,Bool.and_true,hj,fx];exact Zu hf m) hk
end
theorem acV {E} (hE:E.length=6*4) (hc:∀x∈E,x<256) {ds} (h4:ds.length=4) {m} (hm:m≤4294967296) (hd:nT ds m):Ng [.i 6,.i 4,.r (E.map b1),.r (ds.map fR)]=some [.i 0,.r ((py E ds m 6).map fR)]:=by
 refine aH ?_;refine aB (fun xs=>xs=[.b false]) ?_ ?_
 · refine ag (aeb (nr:=6) dc atn hE) rfl rfl (nW ?_);refine sT rfl ?_;refine nW ?_;refine bj rfl (uR ?_);refine ad ?_;exact dF (by rw[aA,h4];decide)
 rintro _ rfl;refine nW ?_;refine bj rfl ?_;have e_:=hd.at (show 0<ds.length by omega);refine aB (fun xs=>xs=[]) ?_ ?_
 · refine wp_loop (I:=fun x=>∃i:Nat,x=[.i i]∧i≤4) (mu:=fun x=>match x with|[.i i]=>4-i.toNat|_=>0) ⟨0,rfl,om⟩ ?_;rintro x ⟨i,rfl,e1⟩;refine uR ?_;refine aI rfl (fun hx=> ?_) (fun hx=> ?_);rotate_left
   · exact ad rfl
   rw[aA,h4]at hx;have hi:i<ds.length:=om;refine aP (f:=fR) (j:=i) rfl rfl (show i<ds.length by omega) rfl (nW ?_);refine dx (f:=fR) (j:=i) rfl rfl (show i<ds.length by omega) rfl rfl (uR ?_);refine aP (f:=fR) (j:=0) rfl rfl (show 0<ds.length by omega) rfl (nW ?_);refine dx (f:=fR) (j:=0) rfl rfl (show 0<ds.length by omega) rfl rfl (uR ?_);refine ba rfl (by rw[aA,aA,(hd.at hi).2,e_.2];exact fun h=>h rfl) ?_;refine bg (i:=i) rfl om (nW ?_);refine ad ⟨⟨i+1,rfl,om⟩,?_⟩;show 4- ((i+1:Nat):Int).toNat<4-i;omega
 rintro _ rfl;refine nW ?_;obtain⟨oL,ho⟩:∃oL,py E ds m 6=oL:=⟨_,rfl⟩
 have Cz:oL.length=6:=by rw[←ho,DV]
 have O3:∀i (h:i<oL.length),oL[i]=wT E ds m i:=by subst ho;exact fun i h=>aoh h
 rw[ho];refine aB (fun xs=>xs=[.r (oL.map fR)]) ?_ ?_;rotate_left
 · rintro _ rfl;refine nW ?_;exact ad rfl
 refine wp_loop (I:=fun x=>∃i:Nat,x=[.i i,.r ((oL.take i).map fR)]∧i≤6) (mu:=fun x=>match x with|[.i i,_]=>6-i.toNat|_=>0) ⟨0,rfl,om⟩ ?_;rintro x ⟨i,rfl,e1⟩;refine uR ?_;refine aI rfl (fun hx=> ?_) (fun hx=> ?_);rotate_left
 · refine ad ?_;show[L.r ((oL.take i).map fR)]=_;rw[fD om]
 have hi:i<oL.length:=om;refine aP (f:=fR) (j:=0) rfl rfl (show 0<ds.length by omega) rfl (nW ?_);refine dx (f:=fR) (j:=0) rfl rfl (show 0<ds.length by omega) rfl rfl (uR ?_);refine x_ (r:=(List.replicate m 0).map b1) (by
   show 0≤(((ds[0].map b1).length:Nat):Int)∧(((ds[0].map b1).length:Nat):Int)≤9223372036854775807∧1*(((ds[0].map b1).length:Nat):Int).toNat≤281474976710656;rw[aA,e_.2];omega) (by
   show List.replicate (((ds[0].map b1).length:Nat):Int).toNat [PV.sc (.int .u8 0)]=_;rw[fA,aA,e_.2,abQ];rfl) ?_
 refine nW ?_;refine aB (fun xs=>xs=[.r ((wT E ds m i).map b1)]) ?_ ?_
 · have hlk:=LY (c:=fun k=>E.getD (i*4+k) 0) (d:=fun k=>ds.getD k []) (m:=m) (n:=4) (fun k hk=>by rw[jA om];exact(hd.at om).2);refine wp_loop (I:=fun x=>∃k:Nat,x=[.i k,.r ((oN (fun k=>E.getD (i*4+k) 0) (fun k=>ds.getD k []) (List.replicate m 0) k).map b1)]∧k≤4) (mu:=fun x=>match x with|[.i k,_]=>4-k.toNat|_=>0) ⟨0,rfl,om⟩ ?_;rintro x ⟨k,rfl,e2⟩;have aaZ:=hlk k e2;have c9:oN (fun k=>E.getD (i*4+k) 0) (fun k=>ds.getD k []) (List.replicate m 0) (k+1)=nS (E.getD (i*4+k) 0) (oN (fun k=>E.getD (i*4+k) 0) (fun k=>ds.getD k []) (List.replicate m 0) k) (ds.getD k []):=rfl;refine uR ?_;refine aI rfl (fun hy=> ?_) (fun hy=> ?_);rotate_left
   · obtain rfl:k=4:=om;exact ad rfl
   have hk:k<ds.length:=om;have fv:=hd.at hk;obtain⟨u,hu⟩:∃u,oN (fun k=>E.getD (i*4+k) 0) (fun k=>ds.getD k []) (List.replicate m 0) k=u:=⟨_,rfl⟩
   obtain⟨v,hv⟩:∃v,oN (fun k=>E.getD (i*4+k) 0) (fun k=>ds.getD k []) (List.replicate m 0) (k+1)=v:=⟨_,rfl⟩
   rw[hu,hv,jA hk]at c9;rw[hu]at aaZ⊢;refine aP (f:=fR) (j:=k) rfl rfl (show k<ds.length by omega) rfl (nW ?_);refine dx (f:=fR) (j:=k) rfl rfl (show k<ds.length by omega) rfl rfl (nW ?_);refine iS (n:=((i*4:Nat):Int)) oO om om (nW ?_);refine cm (n:=((i*4+k:Nat):Int)) oO om om (nW ?_);have O5:i*4+k<E.length:=om;refine aP (f:=b1) (j:=i*4+k) rfl rfl O5 rfl (uR ?_);rw[jA O5]at c9;refine yy (f:=b1) (m:=nS E[i*4+k] u ds[k]) (fun _=>rfl) (anL (hc _ (b8 O5)) u ds[k] aaZ.2 fv.1 om om) rfl rfl ?_;rw[←c9];refine nW ?_;refine bg (i:=k) rfl om (nW ?_);refine ad ⟨⟨k+1,by rw[hv];rfl,om⟩,?_⟩;show 4- ((k+1:Nat):Int).toNat<4-k;omega
 rintro _ rfl;refine uR ?_;refine dC (r:=(oL.take (i+1)).map fR) (DE _) rfl oO oO dc (by rw[gX hi,dk,O3 i hi];rfl) (nW ?_);refine bg (i:=i) rfl om (nW ?_);refine ad ⟨⟨i+1,rfl,om⟩,?_⟩;show 6- ((i+1:Nat):Int).toNat<6-i;omega
section
variable {ρ:List L} {Q:Lf×List L→Prop} {k:ae} {α:Type} {f:α→List PV}
theorem pd {t} {F} {args} {n j} {l} {m:List Nat} (h:F (args.map (At.ev ρ))=some l) (hl:l.length=n) (hj:l[j]? =some (.r (m.map b1))) (hk:k.wp (ρ++l) Q):(ae.op (.call t F args n [j]) k).wp ρ Q:=yy (f:=b1) (fun _=>rfl) h hl hj hk
theorem xQ {x y} {n b} {r} (hx:bu n (x.ev ρ).az=true) (hy:bu n (y.ev ρ).az=true) (h1:(x.ev ρ).az.length≤1048576) (h2:(y.ev ρ).az.length≤1048576) (hb:b≤1024) (hr:(x.ev ρ).az++(y.ev ρ).az=r) (hk:k.wp (ρ++ [.r r]) Q):(ae.op (.app x y n b) k).wp ρ Q:=
 Xi ⟨om,by
  have:((x.ev ρ).az.length+(y.ev ρ).az.length)*b≤2097152*1024:=Pz om hb;omega,hx,hy⟩ (by rw[hr];exact hk)
theorem eX {x y} {a c:List Nat} (hx:(x.ev ρ).az=a.map b1) (hy:(y.ev ρ).az=c.map b1) (h1:a.length≤2097152) (h2:c.length≤2097152) (hk:k.wp (ρ++ [.r ((a++c).map b1)]) Q):(ae.op (.app x y 1 1) k).wp ρ Q:=
 dC (r:=(a++c).map b1) (by rw[hx];exact pA a) (by rw[hy];exact pA c) (by rw[hx,aA];omega) (by rw[hy,aA];omega) dc (by rw[hx,hy,dk]) hk
end
end
section
open Go.RowKit Pl AI
attribute [local irreducible] ae.wp
def p9 (x:It) (s:Bool×List It) (y:It):Bool×List It:=if s.1=false∧x.key≤y.key then(true,s.2++ [x])else s
def dV (x:It) (s:Bool×List It) (y:It):Bool×List It:=if y.key≠x.key then((p9 x s y).1,(p9 x s y).2++ [y])else p9 x s y
def yC (x:It) (s:Bool×List It):List It:=if s.1=false then s.2++ [x]else s.2
def M1 (x:It) (l:List It):List It:=yC x (l.foldl (dV x) (false,[]))
theorem MJ {x o}:∀{l:List It},(∀y∈l,x.key<y.key)→l.foldl (dV x) (true,o)=(true,o++l)
 |[],_=>by simp
 |y::l,h=>by
  have hy:=h y iL;have ha:p9 x (true,o) y=(true,o):=aC fun h=>by cases h.1
  have hs:dV x (true,o) y=(true,o++ [y]):=by unfold dV;rw[ha];exact ay om
  rw[CT,hs,MJ fun z hz=>h z (iM _ hz),cd];rfl
theorem Zo {x}:∀{l:List It} {o},dK l→yC x (l.foldl (dV x) (false,o))=o++ins x l
 |[],o,_=>by simp[yC,ins]
 |y::l,o,h=>by
  have h':=gf.1 h;rw[CT,ins];by_cases h1:y.key<x.key
  · have ha:p9 x (false,o) y=(false,o):=aC fun h=>by have:=h.2;omega
    have hs:dV x (false,o) y=(false,o++ [y]):=by unfold dV;rw[ha];exact ay om
    rw[hs,ay h1,Zo h'.2,cd];rfl
  rw[aC h1];have ha:p9 x (false,o) y=(true,o++ [x]):=ay ⟨rfl,om⟩;by_cases h2:y.key=x.key
  · have hs:dV x (false,o) y=(true,o++ [x]):=by unfold dV;rw[ha];exact aC (fun h=>h h2)
    rw[hs,ay h2,MJ (fun z hz=>by have:=h'.1 z hz;omega)];simp[yC]
  · have hs:dV x (false,o) y=(true,o++ [x]++ [y]):=by unfold dV;rw[ha];exact ay h2
    rw[hs,aC h2,MJ (fun z hz=>by have:=h'.1 z hz;omega)];simp[yC]
theorem ajW {x l} (h:dK l):M1 x l=ins x l:=by
 have:=Zo (x:=x) (o:=[]) h
 rwa [mm]at this
theorem afr {x} {s} {y}:(dV x s y).2.length≤s.2.length+2:=by
 unfold dV p9;split<;>split<;>simp
theorem IU {x}:∀{l:List It} {s},(l.foldl (dV x) s).2.length≤s.2.length+2*l.length
 |[],s=>by simp
 |y::l,s=>by
  have h1:=IU (x:=x) (l:=l) (s:=dV x s y);have h2:=afr (x:=x) (s:=s) (y:=y);rw[CT,ir];omega
theorem awt (l:List It) (hl:l.length≤1000) (x:It):JL [.r (l.map ao),.i x.key,.i x.cookie,.i x.off,.i x.size]=some [.r ((M1 x (fX l)).map ao)]:=by
 obtain⟨o,h1,rfl⟩:=EX (.r (l.map ao)) l rfl om;have ey:=zy l;obtain⟨m,hm⟩:∃m,fX l=m:=⟨_,rfl⟩
 rw[hm]at h1 ey⊢;refine aH ?_;refine ag h1 rfl rfl (nW ?_);refine aB (fun xs=>xs=[.b (m.foldl (dV x) (false,[])).1,.r ((m.foldl (dV x) (false,[])).2.map ao)]) ?_ ?_;rotate_left
 · rintro _ rfl;have hlen:=IU (x:=x) (l:=m) (s:=(false,[]));simp only[nj]at hlen;unfold M1 yC;obtain⟨s,hs⟩:∃s,m.foldl (dV x) (false,[])=s:=⟨_,rfl⟩
   rw[hs]at hlen⊢;refine nW ?_;refine aB (fun xs=>xs=[.r ((if s.1=false then s.2++ [x]else s.2).map ao)]) ?_ (by rintro _ rfl;refine nW ?_;exact ad rfl);refine uR ?_;refine qu rfl Iff.rfl (fun h=> ?_) (fun h=> ?_)
   · have h:s.1=false:=by simpa using h
     rw[ay h];refine uR ?_;refine dC (r:=(s.2++ [x]).map ao) (eY _) rfl (by show(s.2.map ao).length≤_;rw[aA];omega) (by show(1:Nat)≤_;omega) dc (by rw[dk];rfl) (nW ?_);exact ad rfl
   · rw[aC (by rw[h];decide)];exact ad rfl
 refine wp_loop (I:=fun a=>∃i:Nat,a=[.b ((m.take i).foldl (dV x) (false,[])).1,.i i,.r (((m.take i).foldl (dV x) (false,[])).2.map ao)]∧i≤m.length) (mu:=fun a=>match a with|[_,.i i,_]=>m.length-i.toNat|_=>0) ⟨0,rfl,om⟩ ?_;rintro a ⟨i,rfl,e1⟩;have hlen:=IU (x:=x) (l:=m.take i) (s:=(false,[]));rw[cL]at hlen;simp only[nj]at hlen;refine uR ?_;rw[aA];refine aI rfl (fun hc=> ?_) (fun hc=> ?_);rotate_left
 · refine ad ?_;show[L.b _,L.r _]=_;rw[fD om]
 have hi:i<m.length:=om;have c9:(m.take (i+1)).foldl (dV x) (false,[])=dV x ((m.take i).foldl (dV x) (false,[])) m[i]:=by rw[gX hi,zn];rfl
 obtain⟨s,hs⟩:∃s,(m.take i).foldl (dV x) (false,[])=s:=⟨_,rfl⟩
 obtain⟨y,hy⟩:∃y,m[i]=y:=⟨_,rfl⟩
 rw[hs]at hlen c9;rw[hs];rw[hy]at c9;obtain⟨s1,hs1⟩:∃s1,p9 x s y=s1:=⟨_,rfl⟩
 have hput:dV x s y=if y.key≠x.key then(s1.1,s1.2++ [y])else s1:=by rw[←hs1];rfl
 unfold p9 at hs1;have dQ:s1.2.length≤s.2.length+1:=by rw[←hs1];split<;>simp
 refine aB (fun xs=>xs=[.b (dV x s y).1,.r ((dV x s y).2.map ao)]) ?_ ?_;rotate_left
 · rintro _ rfl;refine nW ?_;refine bg (i:=i) rfl om (nW ?_);refine ad ⟨⟨i+1,?_,om⟩,?_⟩
   · rw[c9];rfl
   · show m.length- ((i+1:Nat):Int).toNat<m.length-i;omega
 refine aB (fun xs=>xs=[.b s1.1,.r (s1.2.map ao)]) ?_ ?_
 · refine aB (bT (s.1=false∧x.key≤y.key)) ?_ ?_
   · refine uR ?_;refine qu rfl Iff.rfl (fun h=> ?_) (fun h=>ad (dN fun k=>by rw[h]at k;cases k.1));have h:s.1=false:=by simpa using h
     refine aP (f:=ao) (j:=i) rfl rfl hi rfl (nW ?_);refine dx (f:=ao) (l:=m) (j:=i) rfl rfl hi rfl rfl ?_;rw[hy];refine uR ?_;exact ad (dW ⟨fun k=> ⟨h,k⟩,fun k=>k.2⟩)
   · rintro _ ⟨t,rfl,ht⟩;refine nW ?_;refine iR rfl ht (fun h=> ?_) (fun h=> ?_)
     · rw[ay h]at hs1;refine uR ?_;refine dC (r:=(s.2++ [x]).map ao) (eY _) rfl (by show(s.2.map ao).length≤_;rw[aA];omega) (by show(1:Nat)≤_;omega) dc (by rw[dk];rfl) (nW ?_);refine ad ?_;rw[←hs1];rfl
     · rw[aC h]at hs1;refine ad ?_;rw[←hs1];rfl
 · rintro _ rfl;refine nW ?_;refine aP (f:=ao) (j:=i) rfl rfl hi rfl (nW ?_);refine dx (f:=ao) (l:=m) (j:=i) rfl rfl hi rfl rfl ?_;rw[hy];refine uR ?_;refine aI rfl (fun h=> ?_) (fun h=> ?_)
   · rw[ay h]at hput;refine aP (f:=ao) (j:=i) rfl rfl hi rfl (nW ?_)
     repeat refine dx (f:=ao) (l:=m) (j:=i) rfl rfl hi rfl rfl (nW ?_)
     rw[hy];refine uR ?_;refine dC (r:=(s1.2++ [y]).map ao) (eY _) rfl (by show(s1.2.map ao).length≤_;rw[aA];omega) (by show(1:Nat)≤_;omega) dc (by rw[dk];rfl) (nW ?_);refine ad ?_;rw[hput];rfl
   · rw[aC h]at hput;refine ad ?_;rw[hput];rfl
def eb (k:Int) (l:List It):List It:=l.filter fun y=>decide (y.key≠k)
theorem alq (k) (l) (y):eb k (l++ [y])=if y.key≠k then eb k l++ [y]else eb k l:=by
 unfold eb;rw[abY];by_cases h:y.key=k<;>simp[h]
theorem avl (l:List It) (hl:l.length≤1000) (k:Int):Mk [.r (l.map ao),.i k]=some [.r ((eb k (fX l)).map ao)]:=by
 obtain⟨o,h1,rfl⟩:=EX (.r (l.map ao)) l rfl om;have ey:=zy l;obtain⟨m,hm⟩:∃m,fX l=m:=⟨_,rfl⟩
 rw[hm]at h1 ey⊢;refine aH ?_;refine ag h1 rfl rfl (nW ?_);refine aB (fun xs=>xs=[.r ((eb k m).map ao)]) ?_ (by rintro _ rfl;refine nW ?_;exact ad rfl);refine wp_loop (I:=fun a=>∃i:Nat,a=[.i i,.r ((eb k (m.take i)).map ao)]∧i≤m.length) (mu:=fun a=>match a with|[.i i,_]=>m.length-i.toNat|_=>0) ⟨0,rfl,om⟩ ?_;rintro a ⟨i,rfl,e1⟩;have jn:(eb k (m.take i)).length≤m.length:=by
   have:=PK (fun y=>decide (y.key≠k)) (m.take i);rw[cL]at this;unfold eb;omega
 refine uR ?_;rw[aA];refine aI rfl (fun hc=> ?_) (fun hc=> ?_);rotate_left
 · refine ad ?_;show[L.r _]=_;rw[fD om]
 have hi:i<m.length:=om;have c9:=alq k (m.take i) m[i];rw[←gX hi]at c9;obtain⟨y,hy⟩:∃y,m[i]=y:=⟨_,rfl⟩
 rw[hy]at c9;refine aB (fun xs=>xs=[.r ((eb k (m.take (i+1))).map ao)]) ?_ ?_
 · refine aP (f:=ao) (j:=i) rfl rfl hi rfl (nW ?_);refine dx (f:=ao) (l:=m) (j:=i) rfl rfl hi rfl rfl ?_;rw[hy];refine uR ?_;refine aI rfl (fun h=> ?_) (fun h=> ?_)
   · rw[ay h]at c9;refine aP (f:=ao) (j:=i) rfl rfl hi rfl (nW ?_)
     repeat refine dx (f:=ao) (l:=m) (j:=i) rfl rfl hi rfl rfl (nW ?_)
     rw[hy];refine uR ?_;refine dC (r:=(eb k (m.take i)++ [y]).map ao) (eY _) rfl (by show((eb k (m.take i)).map ao).length≤_;rw[aA];omega) (by show(1:Nat)≤_;omega) dc (by rw[dk];rfl) (nW ?_);refine ad ?_;rw[c9];rfl
   · rw[aC h]at c9;refine ad ?_;rw[c9];rfl
 · rintro _ rfl;refine nW ?_;refine bg (i:=i) rfl om (nW ?_);refine ad ⟨⟨i+1,rfl,om⟩,?_⟩;show m.length- ((i+1:Nat):Int).toNat<m.length-i;omega
def cH (l:List It) (s:Nat):List It:=l.filter fun x=>Nat.beq (fh x.key).toNat s
def fF (l:List It) (g:Int):Mp:=⟨cH l,ca l,g⟩
theorem ajq (l) (x) (s):cH (l++ [x]) s=if Nat.beq (fh x.key).toNat s=true then cH l s++ [x]else cH l s:=by
 unfold cH;rw[abY];by_cases h:Nat.beq (fh x.key).toNat s=true
 · rw[ay h,abZ (by exact h)];rfl
 · rw[aC h,aca (by exact h),acb,eW]
theorem Ze (l) (s):(cH l s).length≤l.length:=PK _ _
abbrev rS (l:List It):List L:=[.r ((cH l 0).map ao),.r ((cH l 1).map ao),.r ((cH l 2).map ao),.r ((cH l 3).map ao),.r ((cH l 4).map ao),.r ((cH l 5).map ao),.r ((cH l 6).map ao),.r ((cH l 7).map ao)]
theorem Vx {l:List It} (hl:l.length≤1000) (aO:∀x∈l,dm x=true) {g:Int} (h0:0≤g) (h1:g≤1099511627776):
   DU [.r (l.map ao),.i g]=some ([.i (ca (fX l)),.i g]++rS (fX l)):=by
 obtain⟨o,hs,rfl⟩:=EX (.r (l.map ao)) l rfl om;have ey:=zy l;obtain⟨m,hm⟩:∃m,fX l=m:=⟨_,rfl⟩
 rw[hm]at hs ey⊢;refine aH ?_;refine aB (fun xs=>xs=[]) ?_ ?_
 · refine wp_loop (I:=fun a=>∃i:Nat,a=[.i i]∧i≤l.length) (mu:=fun a=>match a with|[.i i]=>l.length-i.toNat|_=>0) ⟨0,rfl,om⟩ ?_;rintro a ⟨i,rfl,e1⟩;refine uR ?_;rw[aA];refine aI rfl (fun hc=> ?_) (fun hc=>ad rfl);have hi:i<l.length:=om;refine aP (f:=ao) (j:=i) rfl rfl hi rfl (uR ?_);refine ag (DP l[i] (je (aO _ (b8 hi)))) rfl rfl (uR ?_);refine bj rfl ?_;refine bg (i:=i) rfl om (nW ?_);refine ad ⟨⟨i+1,rfl,om⟩,?_⟩;show l.length- ((i+1:Nat):Int).toNat<l.length-i;omega
 rintro _ rfl;refine nW ?_;refine aB (fun xs=>xs=[.b false]) ?_ ?_
 · refine uR ?_;refine ba rfl om ?_;refine uR ?_;exact ad (dF om)
 rintro _ rfl;refine nW ?_;refine bj rfl ?_;refine ag hs rfl rfl (nW ?_);refine ag (T' m om) rfl rfl (nW ?_);refine aB (fun xs=>xs=rS m) ?_ ?_;rotate_left
 · rintro _ rfl;refine nW ?_;exact ad rfl
 refine wp_loop (I:=fun a=>∃i:Nat,a= .i i::rS (m.take i)∧i≤m.length) (mu:=fun a=>match a with| .i i::_=>m.length-i.toNat|_=>0) ⟨0,rfl,om⟩ ?_;rintro a ⟨i,rfl,e1⟩;have ma:=fun s=>Ze (m.take i) s
 have yX:(m.take i).length≤1000:=by rw[cL];omega
 refine uR ?_;rw[aA];refine aI rfl (fun hc=> ?_) (fun hc=> ?_);rotate_left
 · refine ad ?_;show rS (m.take i)=_;rw[fD om]
 have hi:i<m.length:=om;have c9:=fun s=>ajq (m.take i) m[i] s
 rw[←gX hi]at c9;obtain⟨y,hy⟩:∃y,m[i]=y:=⟨_,rfl⟩
 rw[hy]at c9;have hr:=wF y.key;obtain⟨s,eM⟩:∃s:Nat,(fh y.key).toNat=s:=⟨_,rfl⟩
 have hs8:s<8:=om;have hst:fh y.key=(s:Int):=om;rw[eM]at c9;refine aB (fun xs=>xs=rS (m.take (i+1))) ?_ ?_;rotate_left
 · rintro _ rfl;refine nW ?_;refine bg (i:=i) rfl om (nW ?_);refine ad ⟨⟨i+1,rfl,om⟩,?_⟩;show m.length- ((i+1:Nat):Int).toNat<m.length-i;omega
 refine aP (f:=ao) (j:=i) rfl rfl hi rfl (nW ?_);refine dx (f:=ao) (l:=m) (j:=i) rfl rfl hi rfl rfl ?_;rw[hy];refine nW ?_;refine ag (Kz y.key) rfl rfl ?_;rw[hst];have h8:s=0∨s=1∨s=2∨s=3∨s=4∨s=5∨s=6∨s=7:=om;have jK:∀t,((cH (m.take i) t).map ao).length≤17179869184:=fun t=>by rw[aA];exact me (ma t) om
 have aba:rS (m.take (i+1))=[.r ((if Nat.beq s 0=true then cH (m.take i) 0++ [y]else cH (m.take i) 0).map ao),.r ((if Nat.beq s 1=true then cH (m.take i) 1++ [y]else cH (m.take i) 1).map ao),.r ((if Nat.beq s 2=true then cH (m.take i) 2++ [y]else cH (m.take i) 2).map ao),.r ((if Nat.beq s 3=true then cH (m.take i) 3++ [y]else cH (m.take i) 3).map ao),.r ((if Nat.beq s 4=true then cH (m.take i) 4++ [y]else cH (m.take i) 4).map ao),.r ((if Nat.beq s 5=true then cH (m.take i) 5++ [y]else cH (m.take i) 5).map ao),.r ((if Nat.beq s 6=true then cH (m.take i) 6++ [y]else cH (m.take i) 6).map ao),.r ((if Nat.beq s 7=true then cH (m.take i) 7++ [y]else cH (m.take i) 7).map ao)]:=by
   unfold rS;rw[c9 0,c9 1,c9 2,c9 3,c9 4,c9 5,c9 6,c9 7]
 rw[aba];clear aba c9;generalize m.take i=q at*;rcases h8 with rfl|rfl|rfl|rfl|rfl|rfl|rfl|rfl
 · refine uR ?_;refine cS rfl dc ?_;refine aP (f:=ao) (j:=i) rfl rfl hi rfl (nW ?_)
   repeat refine dx (f:=ao) (l:=m) (j:=i) rfl rfl hi rfl rfl (nW ?_)
   rw[hy];refine uR ?_;refine dC (r:=(cH q 0++ [y]).map ao) (eY _) rfl (jK 0) (by show(1:Nat)≤_;omega) dc (by rw[dk];rfl) (nW ?_);exact ad rfl
 · refine uR ?_;refine ba rfl dc (uR ?_);refine cS rfl dc ?_;refine aP (f:=ao) (j:=i) rfl rfl hi rfl (nW ?_)
   repeat refine dx (f:=ao) (l:=m) (j:=i) rfl rfl hi rfl rfl (nW ?_)
   rw[hy];refine uR ?_;refine dC (r:=(cH q 1++ [y]).map ao) (eY _) rfl (jK 1) (by show(1:Nat)≤_;omega) dc (by rw[dk];rfl) (nW ?_);exact ad rfl
 · refine uR ?_;refine ba rfl dc (uR ?_);refine ba rfl dc (uR ?_);refine cS rfl dc ?_;refine aP (f:=ao) (j:=i) rfl rfl hi rfl (nW ?_)
   repeat refine dx (f:=ao) (l:=m) (j:=i) rfl rfl hi rfl rfl (nW ?_)
   rw[hy];refine uR ?_;refine dC (r:=(cH q 2++ [y]).map ao) (eY _) rfl (jK 2) (by show(1:Nat)≤_;omega) dc (by rw[dk];rfl) (nW ?_);exact ad rfl
 · refine uR ?_;refine ba rfl dc (uR ?_);refine ba rfl dc (uR ?_);refine ba rfl dc (uR ?_);refine cS rfl dc ?_;refine aP (f:=ao) (j:=i) rfl rfl hi rfl (nW ?_)
   repeat refine dx (f:=ao) (l:=m) (j:=i) rfl rfl hi rfl rfl (nW ?_)
   rw[hy];refine uR ?_;refine dC (r:=(cH q 3++ [y]).map ao) (eY _) rfl (jK 3) (by show(1:Nat)≤_;omega) dc (by rw[dk];rfl) (nW ?_);exact ad rfl
 · refine uR ?_;refine ba rfl dc (uR ?_);refine ba rfl dc (uR ?_);refine ba rfl dc (uR ?_);refine ba rfl dc (uR ?_);refine cS rfl dc ?_;refine aP (f:=ao) (j:=i) rfl rfl hi rfl (nW ?_)
   repeat refine dx (f:=ao) (l:=m) (j:=i) rfl rfl hi rfl rfl (nW ?_)
   rw[hy];refine uR ?_;refine dC (r:=(cH q 4++ [y]).map ao) (eY _) rfl (jK 4) (by show(1:Nat)≤_;omega) dc (by rw[dk];rfl) (nW ?_);exact ad rfl
 · refine uR ?_;refine ba rfl dc (uR ?_);refine ba rfl dc (uR ?_);refine ba rfl dc (uR ?_);refine ba rfl dc (uR ?_);refine ba rfl dc (uR ?_);refine cS rfl dc ?_;refine aP (f:=ao) (j:=i) rfl rfl hi rfl (nW ?_)
   repeat refine dx (f:=ao) (l:=m) (j:=i) rfl rfl hi rfl rfl (nW ?_)
   rw[hy];refine uR ?_;refine dC (r:=(cH q 5++ [y]).map ao) (eY _) rfl (jK 5) (by show(1:Nat)≤_;omega) dc (by rw[dk];rfl) (nW ?_);exact ad rfl
 · refine uR ?_;refine ba rfl dc (uR ?_);refine ba rfl dc (uR ?_);refine ba rfl dc (uR ?_);refine ba rfl dc (uR ?_);refine ba rfl dc (uR ?_);refine ba rfl dc (uR ?_);refine cS rfl dc ?_;refine aP (f:=ao) (j:=i) rfl rfl hi rfl (nW ?_)
   repeat refine dx (f:=ao) (l:=m) (j:=i) rfl rfl hi rfl rfl (nW ?_)
   rw[hy];refine uR ?_;refine dC (r:=(cH q 6++ [y]).map ao) (eY _) rfl (jK 6) (by show(1:Nat)≤_;omega) dc (by rw[dk];rfl) (nW ?_);exact ad rfl
 · refine uR ?_;refine ba rfl dc (uR ?_);refine ba rfl dc (uR ?_);refine ba rfl dc (uR ?_);refine ba rfl dc (uR ?_);refine ba rfl dc (uR ?_);refine ba rfl dc (uR ?_);refine ba rfl dc (uR ?_);refine cS rfl dc ?_;refine aP (f:=ao) (j:=i) rfl rfl hi rfl (nW ?_)
   repeat refine dx (f:=ao) (l:=m) (j:=i) rfl rfl hi rfl rfl (nW ?_)
   rw[hy];refine uR ?_;refine dC (r:=(cH q 7++ [y]).map ao) (eY _) rfl (jK 7) (by show(1:Nat)≤_;omega) dc (by rw[dk];rfl) (nW ?_);exact ad rfl
end
section
open Go.RowKit Pl
structure SL (l:List It):Prop where
 v:VL l
 k:∀x∈l,0≤x.key∧x.key<8
theorem SL.len {l} (h:SL l):l.length≤8:=by
 have:=aoy h.v.1 0 8 h.k;omega
theorem SL.nil:SL []:=⟨⟨List.Pairwise.nil,fun x hx=>by cases hx⟩,fun x hx=>by cases hx⟩
theorem Dt {l} (h:SL l):fX l=l:=D8 h.v.1
theorem Fi {l} {s} {x}:x∈cH l s ↔ x∈l∧(fh x.key).toNat=s:=by
 unfold cH;rw[H3,Nat.beq_eq]
theorem IF {l} (h:VL l) (g):nQ (fF l g):=fun s hs=>by
 refine⟨⟨h.1.sublist (Ia),fun x hx=>h.2 x (Fi.1 hx).1⟩,fun x hx=> ?_⟩;have h1:=(Fi.1 hx).2;have h2:=wF x.key;omega
theorem Z0 {l} (h:VL l) (g):(cat (fF l g)).Perm l:=by
 have hn:l.Nodup:=h.1.imp fun h e=>by subst e;omega
 have hc:(cat (fF l g)).Nodup:=(EG (IF h g)).imp fun h e=>h (by rw[e])
 refine(List.perm_ext_iff_of_nodup hc hn).2 fun x=> ?_
 rw[Gm];constructor
 · rintro⟨s,_,hx⟩;exact(Fi.1 hx).1
 · intro hx;have:=wF x.key;exact⟨(fh x.key).toNat,om,Fi.2 ⟨hx,rfl⟩⟩
theorem yb {l} (h:VL l) (g):items (fF l g)=l:=K5 h.1 (Z0 h g).symm (EG (IF h g))
theorem amB {a b:List It} (h:a.Perm b):ca a=ca b:=by
 unfold ca
 induction h with
 |nil=>rfl
 |cons x _ ih=>simp only[cu,List.sum_cons,ih]
 |swap x y l=>simp only[cu,List.sum_cons];omega
 |trans _ _ h1 h2=>exact h1.trans h2
theorem atL {l} (h:VL l) {g} (h0:0≤g) (h1:g≤1099511627776):MV (fF l g):=⟨IF h g,(amB (Z0 h g)).symm,h0,h1⟩
theorem aqU {l} (h:SL l) (g):WM (fF l g):=⟨fun s=>me (Ze l s) h.len⟩
theorem tE {x:It}:∀{l:List It},dK l→∀{y},y∈ins x l ↔ y=x∨(y∈l∧y.key≠x.key)
 |[],_,y=>by simp[ins]
 |a::l,h,y=>by
  have h':=gf.1 h;unfold ins;by_cases h1:a.key<x.key
  · rw[ay h1,dL,tE h'.2,dL];constructor
    · rintro(rfl|rfl| ⟨h2,h3⟩)
      · exact .inr ⟨.inl rfl,om⟩
      · exact .inl rfl
      · exact .inr ⟨.inr h2,h3⟩
    · rintro(rfl| ⟨rfl|h2,h3⟩)
      · exact .inr (.inl rfl)
      · exact .inl rfl
      · exact .inr (.inr ⟨h2,h3⟩)
  rw[aC h1];by_cases h2:a.key=x.key
  · rw[ay h2,dL,dL];constructor
    · rintro(rfl|h3)
      · exact .inl rfl
      · have:=h'.1 y h3;exact .inr ⟨.inr h3,om⟩
    · rintro(rfl| ⟨rfl|h3,h4⟩)
      · exact .inl rfl
      · exact absurd h2 h4
      · exact .inr h3
  · rw[aC h2,dL,dL];constructor
    · rintro(rfl|rfl|h3)
      · exact .inl rfl
      · exact .inr ⟨.inl rfl,h2⟩
      · have:=h'.1 y h3;exact .inr ⟨.inr h3,om⟩
    · rintro(rfl| ⟨h3,h4⟩)
      · exact .inl rfl
      · exact .inr h3
theorem SL.ins {l} (h:SL l) {x} (hx:dm x=true) (h0:0≤x.key) (h8:x.key<8):SL (ins x l):=by
 refine⟨⟨Ar x h.v.1,fun y hy=> ?_⟩,fun y hy=> ?_⟩
 · rcases uv hy with rfl|hy
   · exact hx
   · exact h.v.2 y hy
 · rcases uv hy with rfl|hy
   · exact⟨h0,h8⟩
   · exact h.k y hy
theorem qM {k} {l} {y}:y∈eb k l ↔ y∈l∧y.key≠k:=by
 unfold eb;rw[H3,decide_eq_true_iff]
theorem SL.drop {l} (h:SL l) (k):SL (eb k l):=
 ⟨⟨h.v.1.sublist (Ia),fun x hx=>h.v.2 x (qM.1 hx).1⟩,fun x hx=>h.k x (qM.1 hx).1⟩
def eD:Option It→Int
 |some y=>bU y.size
 |none=>0
theorem pB (x) (l):ca (x::l)=bU x.size+ca l:=by simp[ca]
theorem XG {l} (h:dK l) (k):bG l k=l.find? fun x=>decide (x.key=k):=by
 cases hf:l.find? fun x=>decide (x.key=k)with
 |none=>
  refine xl fun x hx=> ?_
  have:=PC.1 hf x hx;simpa using this
 |some x=>
  have h1:=abL hf;have h2:=abK hf;have h2:x.key=k:=by simpa using h2
  rw[←h2];exact oA h.apart h1
theorem aAH {x}:∀{l:List It},dK l→ca (ins x l)+eD (bG l x.key)=ca l+bU x.size:=by
 intro l h;rw[XG h]
 induction l with
 |nil=>simp[ins,ca,eD]
 |cons a l ih=>
  have h':=gf.1 h;have ih:=ih h'.2;unfold ins;rw[PB];by_cases h1:a.key<x.key
  · rw[ay h1,decide_eq_false (show¬a.key=x.key by omega),pB,pB];dsimp only;omega
  rw[aC h1];by_cases h2:a.key=x.key
  · rw[ay h2,decide_eq_true h2,pB,pB];dsimp only[eD];omega
  · have hn:l.find? (fun y=>decide (y.key=x.key))=none:=PC.2 fun y hy=>by have:=h'.1 y hy;simp;omega
    rw[aC h2,decide_eq_false h2,pB,pB];dsimp only;rw[hn];dsimp only[eD];omega
theorem Tk {k}:∀{l:List It},dK l→ca (eb k l)+eD (bG l k)=ca l:=by
 intro l h;rw[XG h]
 induction l with
 |nil=>simp[eb,ca,eD]
 |cons a l ih=>
  have h':=gf.1 h;have ih:=ih h'.2;rw[PB];unfold eb at*;by_cases h2:a.key=k
  · rw[aca (by simpa using h2),decide_eq_true h2,pB];dsimp only[eD];have hn:l.find? (fun y=>decide (y.key=k))=none:=PC.2 fun y hy=>by have:=h'.1 y hy;simp;omega
    rw[hn]at ih;dsimp only[eD]at ih;omega
  · rw[abZ (by simpa using h2),decide_eq_false h2,pB,pB];dsimp only;omega
theorem azd {x} {l:List It} (h:dK l) (k):bG (ins x l) k=if k=x.key then some x else bG l k:=by
 have ha:=Ar x h;by_cases e:k=x.key
 · rw[ay e,e];exact oA ha.apart ((tE h).2 (.inl rfl))
 rw[aC e]
 cases hf:bG l k with
 | none=>
   refine xl fun y hy e'=> ?_
   rcases(tE h).1 hy with rfl| ⟨h1,_⟩
   · exact e e'.symm
   · rw[←e',oA h.apart h1]at hf;cases hf
 | some y=>
   obtain⟨h1,h2⟩:=zH hf;rw[←h2];exact oA ha.apart ((tE h).2 (.inr ⟨h1,om⟩))
theorem Iw {k'} {l:List It} (h:dK l) (k):bG (eb k' l) k=if k=k' then none else bG l k:=by
 have ha:dK (eb k' l):=h.sublist (Ia);by_cases e:k=k'
 · rw[ay e];refine xl fun y hy=> ?_
   have:=(qM.1 hy).2;omega
 rw[aC e]
 cases hf:bG l k with
 | none=>
   refine xl fun y hy e'=> ?_
   rw[←e',oA h.apart (qM.1 hy).1]at hf;cases hf
 | some y=>
   obtain⟨h1,h2⟩:=zH hf;rw[←h2];exact oA ha.apart (qM.2 ⟨h1,om⟩)
end
section
open Go.RowKit Pl AI
attribute [local irreducible] ae.wp
theorem fp {a b} (ha:B8 a) (hb:B8 b):B8 (a++b):=fun x hx=> (im.1 hx).elim (ha x) (hb x)
def num (v:Int) (n:Nat):List Nat:=(List.range n).map fun i=>kq v (8*(n-1-i))
theorem cr (v) (n):(num v n).length=n:=by simp[num]
theorem gK (v) (n):B8 (num v n):=fun x hx=>by
 obtain⟨i,_,rfl⟩:=fe.1 hx;exact XS _ _
theorem akL (v) (n) {i} (h):(num v n)[i]=kq v (8*(n-1-i)):=by simp[num]
theorem jz (v) (n:Nat) (h0:0≤v) (hn:n≤8):iQ [.i v,.i n]=some [.r ((num v n).map b1)]:=by
 refine aH ?_;refine aB (fun xs=>xs=[.r ((num v n).map b1)]) ?_ (by rintro _ rfl;refine nW ?_;exact ad rfl);refine ck (n:=(n:Int) -1) rfl om om (nW ?_);refine wp_loop (I:=fun a=>∃k:Nat,a=[.i ((n:Int) -1-k),.r (((num v n).take k).map b1)]∧k≤n) (mu:=fun a=>match a with|[.i i,_]=> (i+1).toNat|_=>0) ⟨0,by show[L.i ((n:Int) -1),L.r []]=_;simp,om⟩ ?_;rintro a ⟨k,rfl,e1⟩;have hl:=cr v n;refine uR ?_;refine aI rfl (fun hc=> ?_) (fun hc=> ?_);rotate_left
 · refine ad ?_;show[L.r (((num v n).take k).map b1)]=_;rw[fD om]
 have hk:k<n:=om;obtain⟨m,hm⟩:∃m:Nat,n-1-k=m:=⟨_,rfl⟩
 have hm8:m≤7:=om;refine iS (n:=((8*m:Nat):Int)) (by show 8*((n:Int) -1-k)=_;omega) om om (nW ?_);refine fU (n:=((8*m:Nat):Int)) rfl om om (nW ?_);refine cv (l:= .i (v.fdiv (2^ (8*m)))) ?_ (nW ?_)
 · show(if(0:Int)≤((8*m:Nat):Int)then some (L.i (v.fdiv (2^ (min ((8*m:Nat):Int).toNat IntKind.u64.bits))))else none)=_;rw[ay om,fA,wo (by show 8*m≤64;omega)]
 refine jM (uR ?_);refine eX (a:=(num v n).take k) (c:=[kq v (8*m)]) rfl (by show[[PV.sc _]]=[b1 _];rw[←o7]) (by rw[cL];omega) (by show(1:Nat)≤_;omega) (nW ?_);refine ck (n:=(n:Int) -1- ((k+1:Nat):Int)) (by show(n:Int) -1-k-1=_;omega) om om (nW ?_);refine ad ⟨⟨k+1,?_,om⟩,?_⟩
 · show[L.i _,L.r (((num v n).take k++ [kq v (8*m)]).map b1)]=_;rw[gX (show k< (num v n).length by omega),akL,hm]
 · show((n:Int) -1- ((k+1:Nat):Int)+1).toNat< ((n:Int) -1-k+1).toNat;omega
def oZ (l:List Nat):Nat:=l.foldl (fun v x=>v*256+x) 0
theorem XP (l) (x):oZ (l++ [x])=oZ l*256+x:=by unfold oZ;rw[zn];rfl
theorem aer (l) (x):val (l++ [x])=(val l<<<8)|||BitVec.ofNat 64 x:=by unfold val;rw[zn];rfl
theorem adf (l:List Nat) (n:Nat) (hn:l.length=n) (h8:n≤8) (hb:B8 l):(val l).toNat=oZ l∧oZ l<256^n:=by
 induction n generalizing l with
 |zero=>
  rw[ni hn];exact⟨rfl,dc⟩
 |succ n ih=>
  obtain⟨m,x,rfl⟩:∃m x,l=m++ [x]:=by
    refine⟨l.dropLast,l.getLast (by intro e;rw[e]at hn;cases hn),(List.dropLast_concat_getLast _).symm⟩
  rw[bE,CW]at hn;have hx:x<256:=hb x (by simp);obtain⟨h1,h2⟩:=ih m om om fun y hy=>hb y (by simp[hy])
  rw[XP,aer];have hlt:oZ m<2^56:=by
    have:256^n≤256^7:=H_ dc om;have e:(256:Nat) ^7=2^56:=by decide
    omega
  constructor
  · rw[BitVec.toNat_or,BitVec.toNat_shiftLeft,h1,BitVec.toNat_ofNat,zi (show x<2^64 by omega),abS,zi (show oZ m*2^8<2^64 by omega)];rw[show oZ m*2^8=2^8*oZ m by omega,←Nat.two_pow_add_eq_or_of_lt (show x<2^8 by omega)]
  · rw[Nat.pow_succ];omega
theorem ajK (v) (n) (h0:0≤v):num v (n+1)=num (v/256) n++ [kq v 0]:=by
 unfold num;rw[H6,dk];congr 1
 · refine fK fun i hi=> ?_
   have hi:=lJ.1 hi;unfold kq;rw[show 8*(n+1-1-i)=8+8*(n-1-i)by omega,Int.pow_add,←Int.ediv_ediv_of_nonneg (Int.pow_nonneg dc)];rfl
 · simp
theorem azf (n):∀v:Int,0≤v→v<256^n→(oZ (num v n):Int)=v:=by
 induction n with
 |zero=>
  intro v h0 h1;have h1:v<1:=h1;show((0:Nat):Int)=v;omega
 |succ n ih=>
  intro v h0 h1;rw[ajK v n h0,XP];have h2:=ih (v/256) om (by rw[Int.pow_succ]at h1;omega);unfold kq;have h3:(0:Int)≤v/2^0%256:=om;rw[show v/2^0=v by simp]at*;omega
theorem px (v:Int) (n:Nat) (h0:0≤v) (hn:n≤8) (h1:v<256^n):((val (num v n)).toNat:Int)=v:=by
 rw[(adf (num v n) n (cr v n) hn (gK v n)).1,azf n v h0 h1]
theorem tw (v:Int) (n:Nat) (h0:0≤v) (hn:n≤8) (h1:v<256^n) (h2:v<9223372036854775808):(val (num v n)).toInt=v:=by
 have h:=px v n h0 hn h1;rw[BitVec.toInt_eq_toNat_cond,ay om,h]
theorem nA (l):(cf l).length=4:=rfl
def dw (h:List Nat):List Nat:=h++cf h
theorem p5 (h):(dw h).length=h.length+4:=by unfold dw;rw[bE,nA]
theorem qx {h} (hb:B8 h):B8 (dw h):=fp hb (xV h)
def iy (a g r:Int):List Nat:=[78,86,79,76]++num a 2++num g 2++num r 4
def iz (a g r:Int):List Nat:=dw (iy a g r)
theorem zE (a g r):(iy a g r).length=12:=by simp[iy,cr]
theorem qp (a g r):(iz a g r).length=16:=by unfold iz;rw[p5,zE]
theorem acL (a g r):B8 (iy a g r):=fp (fp (fp (by unfold B8;decide) (gK _ _)) (gK _ _)) (gK _ _)
theorem uw (a g r):B8 (iz a g r):=qx (acL a g r)
theorem avC (a g r) (h:0≤a∧a<4∧1≤g∧g≤8∧0≤r∧r<4294967296):MT [.i a,.i g,.i r]=some [.i 0,.r ((iz a g r).map b1)]:=by
 have l1:=cr a 2;have l2:=cr g 2;have l3:=cr r 4;refine aH ?_;refine ag (LW a g r (b:=true) ⟨fun _=>h,fun _=>rfl⟩) rfl rfl (uR ?_);refine bj rfl ?_;refine uR ?_;refine iC (r:=b1 78) oO rfl rfl (nW ?_);refine fU (n:=a) rfl om om (nW ?_);refine ag (jz a 2 om om) rfl rfl (nW ?_);refine eX (a:=[78,86,79,76]) (c:=num a 2) rfl rfl (by show(4:Nat)≤_;omega) om (nW ?_);refine fU (n:=g) rfl om om (nW ?_);refine ag (jz g 2 om om) rfl rfl (nW ?_);refine eX (a:=[78,86,79,76]++num a 2) (c:=num g 2) rfl rfl (by simp only[bE];show 4+_≤_;omega) om (nW ?_);refine fU (n:=r) rfl om om (nW ?_);refine ag (jz r 4 om om) rfl rfl (nW ?_);refine eX (a:=[78,86,79,76]++num a 2++num g 2) (c:=num r 4) rfl rfl (by simp only[bE];show 4+_+_≤_;omega) om ?_;show ae.wp _ (_++ [L.r ((iy a g r).map b1)]) _;have hl:=zE a g r;refine nW ?_;refine pd (m:=cf (iy a g r)) (yv (iy a g r) om) rfl rfl (nW ?_);refine eX (a:=iy a g r) (c:=cf (iy a g r)) rfl rfl om (by rw[nA];omega) (nW ?_);exact ad rfl
def kU (key cookie:Int) (del:Bool) (data:List Nat):List Nat:=[78,165,cond del 1 0,0]++num cookie 4++num key 8++num data.length 4++data
def fW (key cookie:Int) (del:Bool) (data:List Nat):List Nat:=dw (kU key cookie del data)++List.replicate (bM data.length- (data.length+24)) 0
theorem Mz (key cookie) (del) (data):(kU key cookie del data).length=data.length+20:=by simp[kU,cr];omega
theorem rV (n:Nat):n+24≤bM n∧bM n≤n+31:=by unfold bM;omega
theorem Gy (key cookie) (del) (data):(fW key cookie del data).length=bM data.length:=by
 have:=rV data.length;unfold fW;rw[bE,p5,Mz,pQ];omega
theorem arH (key cookie) (del) {data} (hd:B8 data):B8 (kU key cookie del data):=
 fp (fp (fp (fp (by cases del<;>unfold B8<;>decide) (gK _ _)) (gK _ _)) (gK _ _)) hd
theorem Ix (key cookie) (del) {data} (hd:B8 data):B8 (fW key cookie del data):=fp (qx (arH _ _ _ hd)) (Tx _)
theorem ZB {key cookie} {del} {data:List Nat} (h:data.length≤4096) (hd:del=true→data=[]):EM [.i key,.i cookie,.b del,.r (data.map b1)]=some [.b true]:=by
 refine aH ?_;refine aB (fun xs=>xs=[.b true]) ?_ (by rintro _ rfl;refine nW ?_;exact ad rfl);refine uR ?_;rw[aA];refine cS rfl om ?_
 cases del with
 |true=>
  obtain rfl:=hd rfl;refine dX rfl (uR ?_);exact ad rfl
 |false=>
  refine bj rfl (uR ?_);exact ad rfl
theorem ahj {key cookie} {del} {data:List Nat} (h:data.length≤4096) (hd:del=true→data=[]) (hk:0≤key) (hc:0≤cookie) (hc':cookie≤4294967295):KC [.i key,.i cookie,.b del,.r (data.map b1)]=some [.i 0,.r ((fW key cookie del data).map b1)]:=by
 have l1:=cr cookie 4;have l2:=cr key 8;have l3:=cr data.length 4;have hsz:=rV data.length;obtain⟨q,hq⟩:∃q:Nat,(cond del 1 0:Nat)=q:=⟨_,rfl⟩
 refine aH ?_;refine uR ?_;rw[aA];refine ba rfl om ?_;refine ag (ZB h hd) rfl rfl (uR ?_);refine bj rfl ?_;refine uR ?_;refine aB (fun xs=>xs=[.r (([78,165,q,0]:List Nat).map b1)]) ?_ ?_
 · subst hq
   cases del with
   |true=>
    refine dX rfl ?_;refine iC (r:=b1 0) oO rfl rfl (nW ?_);refine I1 (r:=b1 0) rfl dc (nW ?_);exact ad rfl
   |false=>
    refine bj rfl ?_;exact ad rfl
 rintro _ rfl;refine nW ?_;refine fU (n:=cookie) rfl om om (nW ?_);refine ag (jz cookie 4 om om) rfl rfl (nW ?_);refine eX (a:=[78,165,q,0]) (c:=num cookie 4) rfl rfl (by show(4:Nat)≤_;omega) om (nW ?_);refine ag (jz key 8 om om) rfl rfl (nW ?_);refine eX (a:=[78,165,q,0]++num cookie 4) (c:=num key 8) rfl rfl (by simp only[bE];show 4+_≤_;omega) om (uR ?_);rw[aA];refine fU (n:=(data.length:Int)) rfl om om (nW ?_);refine ag (jz data.length 4 om om) rfl rfl (nW ?_);refine eX (a:=[78,165,q,0]++num cookie 4++num key 8) (c:=num data.length 4) rfl rfl (by simp only[bE];show 4+_+_≤_;omega) om (nW ?_);refine eX (a:=[78,165,q,0]++num cookie 4++num key 8++num data.length 4) (c:=data) rfl rfl (by simp only[bE];show 4+_+_+_≤_;omega) om ?_;have hl:=Mz key cookie del data;rw[show[78,165,q,0]++num cookie 4++num key 8++num data.length 4++data=kU key cookie del data by rw[←hq];rfl];obtain⟨hh,hhe⟩:∃hh,kU key cookie del data=hh:=⟨_,rfl⟩
 have hres:fW key cookie del data=dw hh++List.replicate (bM data.length- (data.length+24)) 0:=by rw[←hhe];rfl
 rw[hhe]at hl⊢;have ey:=p5 hh;refine nW ?_;refine pd (m:=cf hh) (yv hh om) rfl rfl (nW ?_);refine eX (a:=hh) (c:=cf hh) rfl rfl om (by rw[nA];omega) ?_;show ae.wp _ (_++ [L.r ((dw hh).map b1)]) _;refine nW ?_;refine aB (fun xs=>xs=[.r ((fW key cookie del data).map b1)]) ?_ (by rintro _ rfl;refine nW ?_;exact ad rfl);rw[hres];refine wp_loop (I:=fun a=>∃i:Nat,a=[.r ((dw hh++List.replicate i 0).map b1)]∧i≤bM data.length- (data.length+24)) (mu:=fun a=>match a with|[.r r]=>bM data.length-r.length|_=>0) ⟨0,by show[L.r ((dw hh).map b1)]=_;simp,om⟩ ?_;rintro a ⟨i,rfl,e1⟩;have n4:(dw hh++List.replicate i 0).length=data.length+24+i:=by rw[bE,pQ];omega
 refine uR ?_;rw[aA,aA];refine ag (nG (data.length:Int)) rfl rfl ?_;rw[zP h];refine uR ?_;refine aI rfl (fun hc=> ?_) (fun hc=> ?_);rotate_left
 · refine ad ?_;obtain rfl:i=bM data.length- (data.length+24):=om;rfl
 refine uR ?_;refine eX (a:=dw hh++List.replicate i 0) (c:=[0]) rfl rfl om (by show(1:Nat)≤_;omega) (nW ?_);refine ad ⟨⟨i+1,?_,om⟩,?_⟩
 · show[L.r ((dw hh++List.replicate i 0++ [0]).map b1)]=_;rw[cd,←List.replicate_succ']
 · show bM data.length- ((dw hh++List.replicate i 0++ [0]).map b1).length<bM data.length- ((dw hh++List.replicate i 0).map b1).length;rw[aA,aA,bE,n4,CW];omega
theorem afP (key) (h0:0≤key):Iz [.r [[.sc (.int .u64 key)]]]=some [.r ((dw (num key 8)).map b1)]:=by
 have l1:=cr key 8;refine aH ?_;refine aB (fun xs=>xs=[.r ((dw (num key 8)).map b1)]) ?_ (by rintro _ rfl;refine nW ?_;exact ad rfl);refine wp_loop (I:=fun a=>a=[.i 0,.r []]∨a=[.i 1,.r ((dw (num key 8)).map b1)]) (mu:=fun a=>match a with|[.i i,_]=>1-i.toNat|_=>0) (.inl rfl) ?_;rintro a (rfl|rfl)
 · refine uR ?_;refine cS rfl oO ?_;refine iC (r:=[.sc (.int .u64 key)]) oO rfl rfl (uR ?_);refine ag (jz key 8 h0 om) rfl rfl (nW ?_);refine eX (a:=[]) (c:=num key 8) rfl rfl (by show(0:Nat)≤_;omega) om (nW ?_);refine pd (m:=cf (num key 8)) (yv (num key 8) om) rfl rfl (nW ?_);refine eX (a:=num key 8) (c:=cf (num key 8)) rfl rfl om (by rw[nA];omega) (nW ?_);refine bg (i:=0) rfl om (nW ?_);exact ad ⟨.inr rfl,by show 1- (1:Int).toNat<1- (0:Int).toNat;decide⟩
 · refine uR ?_;refine ba rfl oO ?_;exact ad rfl
end
end
end Go.Proofs.YtndegphojkiblaaGreatDoor
