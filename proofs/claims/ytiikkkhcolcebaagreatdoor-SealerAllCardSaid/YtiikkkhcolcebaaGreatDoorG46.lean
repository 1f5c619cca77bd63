/- A part. -/
import Derived.Test.YtiikkkhcolcebaaGreatDoorG13
import Derived.Test.YtiikkkhcolcebaaGreatDoorG45
import Derived.Test.YtiikkkhcolcebaaGreatDoorRows
import Derived.ProofKit
import Derived.LaidMore
import Derived.OpenShut
import Derived.Below
import Derived.Stop.Joined
set_option linter.all false
set_option maxHeartbeats 4000000
set_option maxRecDepth 100000
namespace Go.Proofs.YtiikkkhcolcebaaGreatDoor
noncomputable section
section
open Go.RowKit Pl AI
attribute [local irreducible] bl.wp
abbrev mA(f:Fs)(gs:List Ge)(ds:List Nl):List L:=[.i 0,.i (-1),.r ((cM f).map bJ),.i 1,.i 9000,.b false,.r (gs.map gR),.r (ds.map dR)]
theorem gG.mono{f gs a ds B}(h:gG f gs a ds B){d}(k:B<=d):gG f gs a ds d:=⟨h.i.mono k,h.d,h.h⟩
theorem Pd{f gs a ds B}(h:gG f gs a ds B)(m:B<=15000){x}(e:ka x)(g:x.del=false):
 ∃j b c d,vK (mA f gs ds++[.r [x.row]])=some (.b true::mA j b d)/\gG j b c d (B+248):=by
 obtain⟨n,t2,o,p⟩:=h.i.top;have l:=FB e.len;have i:=Vr (h.i.okF om) h.i.s (ds:=ds) e om (by rw[t2];omega);refine⟨_,_,pF gs a x,_,i,(h.i.add om e).mono om,?_,λk=>?_⟩
 .unfold py;rw[bH (by rw[g];decide)];exact h.d.put
 .unfold py;rw[bH (by rw[g];decide),QM,atX h.i e g,h.h k]
theorem Xa{f gs a ds B}(h:gG f gs a ds B)(j:B<=15000):
 ∃b i c d,Aa (mA f gs ds)=some (.b b::dA (cM i)++sA c)/\gG i c d ds (B+248):=by
 have e:=asL (h.i.okF om) h.i.s (h.i.ft _ (de _)) (.r (ds.map dR));by_cases g:gs.length<8
 .rw[bA g]at e;exact⟨true,_,_,ry gs a,e,h.i.rot g,h.d,λk=>by rw[adb h.i];exact h.h k⟩
 .rw[bH g]at e;exact⟨false,_,_,a,e,h.mono om⟩
theorem alW{f gs c ds B}(h:gG f gs c ds B)(g:B<=15000):
 ∃b d a,Ez (mA f gs ds)=some (.b b::dA (cM d)++sA a)/\Aj f gs c b d a/\gG d a c ds (B+248):=by
 obtain⟨b,d,a,j,e⟩:=awZ h.i g (.r (ds.map dR));obtain⟨l,m,n⟩:=e.inv h.i om;exact⟨b,d,a,j,e,l,h.d,λk=>(h.h k).trans (FJ m (λi _=>n i k) λ_ _ _ _=>rfl).symm⟩
theorem amG{α:Type}{f:α->List PV}{l:List α}{k:Nat}(a:k<l.length):(((l.map f).take (k+1)).drop k)=[f l[k]]:=by
 rw[<-lj,<-nR,fi a,Ow (by rw[dz];omega)];rfl
theorem abc{A}(hA:AC.rows tb A){most:Int}(hm:most<=12):
 ∃f gs vol ds,G7 [.r A,.i most]=some (mA f gs ds)/\gG f gs vol ds 12000:=by
 suffices q_:∃o,Fo RY [.r A,.i most]=some o/\∃f gs vol ds,o=mA f gs ds/\gG f gs vol ds 12000 by
  obtain⟨o,h1,f,gs,vol,ds,rfl,h2⟩:=q_;exact⟨f,gs,vol,ds,h1,h2⟩
 refine jR ?_;refine bm TG rfl rfl (nW ?_);refine bz (λxs=>∃f gs vol ds,xs=mA f gs ds/\gG f gs vol ds 12000) ?_ (by rintro _ ⟨f,gs,vol,ds,rfl,h⟩;refine nW ?_;exact bk ⟨f,gs,vol,ds,rfl,h⟩);refine wp_loop (I:=λa=>∃(i:Nat)(f:Fs)(gs:List Ge)(vol:Nat->List Nat)(ds:List Nl),a=.i i::mA f gs ds/\i<=12/\gG f gs vol ds (16+992*i)) (mu:=λa=>match a with| .i i::_=>12-i.toNat|_=>0)
  ⟨0,o3,[jL 0],λ_=>gA 1 1 0,[],rfl,om,VZ,List.Pairwise.nil,λk=>(avM k).symm⟩ ?_
 rintro a ⟨i,f,gs,vol,ds,rfl,e1,e2⟩;refine bz (c8 (i<A.length/\(i:Int)<most)) ?_ ?_
 .refine uR ?_;refine bO rfl (λhc=>?_) (λhc=>bk (e7 om));refine uR ?_;exact bk (e_ om)
 rintro _ ⟨t,rfl,ht⟩;refine nW ?_;refine iU rfl ht (λhc=>?_) (λhc=>?_);rotate_left
 .exact bk ⟨f,gs,vol,ds,rfl,e2.mono om⟩
 obtain⟨kind,g,l,ks,hr,hl,hks⟩:=adT (hA _ (cQ hc.1));have hi:i<12:=om;refine bz (λxs=>∃f gs vol ds,xs=mA f gs ds/\gG f gs vol ds (16+992*(i+1))) ?_ ?_;rotate_left
 .rintro _ ⟨f',gs',k_,jF,rfl,h'⟩;refine nW ?_;refine b8 (i:=i) rfl om (nW ?_);refine bk ⟨⟨i+1,f',gs',k_,jF,rfl,om,h'⟩,?_⟩;show 12- ((i+1:Nat):Int).toNat<12-i;omega
 refine JM (l:=A) (j:=i) rfl rfl hc.1 (by rw[hr];rfl) ?_;rw[hr];refine uR ?_;refine dn rfl (nW ?_);generalize IntKind.wrap .i64 _=q;refine bz (λxs=>∃b:Bool,xs=[.b b]) ?_ ?_
 .refine uR ?_;refine bO rfl (λh1=>bk ⟨_,rfl⟩) (λh1=>?_);refine uR ?_;refine bO rfl (λh2=>bk ⟨_,rfl⟩) (λh2=>?_);refine uR ?_;exact bk ⟨_,rfl⟩
 rintro _ ⟨b,rfl⟩;refine nW ?_;refine cJ (λ_=>?_) (λ_=>?_)
 ·
  obtain⟨ls,Oc,hl4,dB⟩:=Q7 hl (m:=4) dc;refine bm Oc rfl rfl (nW ?_);refine wp_loop (I:=λa=>∃(k:Nat)(f:Fs)(gs:List Ge)(vol:Nat->List Nat)(ds:List Nl),a=.i k::mA f gs ds/\k<=ls.length/\gG f gs vol ds (16+992*i+248*k)) (mu:=λa=>match a with| .i k::_=>ls.length-k.toNat|_=>0) ⟨0,f,gs,vol,ds,rfl,om,e2⟩ ?_;rintro a ⟨k,f',gs',k_,jF,rfl,k1,k2⟩;refine uR ?_;rw[bD];refine bO rfl (λhx=>?_) (λhx=>bk ⟨f',gs',k_,jF,rfl,k2.mono om⟩);have hk:k<ls.length:=om;have A':=dB _ (cQ hk);refine bz (λxs=>∃f gs vol ds,xs=mA f gs ds/\gG f gs vol ds (16+992*i+248*(k+1))) ?_ ?_
  .refine bS (f:=Nl.row) (l:=ls) (j:=k) rfl rfl hk rfl (uR ?_);refine cJ (λhd=>?_) (λhd=>?_)
   .obtain⟨f2,gh,la,oT,h1,h2⟩:=Xb k2 om A'.k0 A'.k8;refine bS (f:=Nl.row) (l:=ls) (j:=k) rfl rfl hk rfl (uR ?_);refine bm h1 rfl rfl (nW ?_);exact bk ⟨f2,gh,la,oT,rfl,h2.mono om⟩
   .obtain⟨f2,gh,la,oT,h1,h2⟩:=Pd k2 om A' hd;refine b8 (i:=k) rfl om (uR ?_);rw[bD];refine xy (r:=[ls[k].row]) ⟨by show(0:Int)<=(k:Int);omega,by show(k:Int)<=((k+1:Nat):Int);omega,by show((k+1:Nat):Int).toNat<=(ls.map Nl.row).length;rw[bD];omega,Ts ls⟩ (amG hk) (nW ?_);refine bm h1 rfl rfl (nW ?_);exact bk ⟨f2,gh,la,oT,rfl,h2.mono om⟩
  .rintro _ ⟨f2,gh,la,oT,rfl,h2⟩;refine nW ?_;refine b8 (i:=k) rfl om (nW ?_);refine bk ⟨⟨k+1,f2,gh,la,oT,rfl,om,h2⟩,?_⟩;show ls.length- ((k+1:Nat):Int).toNat<ls.length-k;omega
 refine bz (λxs=>∃b:Bool,xs=[.b b]) ?_ ?_
 .refine uR ?_;refine bO rfl (λh1=>bk ⟨_,rfl⟩) (λh1=>?_);refine uR ?_;exact bk ⟨_,rfl⟩
 rintro _ ⟨b',rfl⟩;refine nW ?_;refine cJ (λ_=>?_) (λ_=>?_)
 ·
  obtain⟨b2,f2,gh,la,h1,h2⟩:=Xa e2 om;refine bm h1 rfl rfl (nW ?_);exact bk ⟨f2,gh,la,ds,rfl,h2.mono om⟩
 refine uR ?_;refine bO rfl (λ_=>?_) (λ_=>?_)
 ·
  refine wp_loop (I:=λa=>∃(k:Nat)(f:Fs)(gs:List Ge)(vol:Nat->List Nat)(ds:List Nl),a=.i k::mA f gs ds/\k<=3/\gG f gs vol ds (16+992*i+248*k)) (mu:=λa=>match a with| .i k::_=>3-k.toNat|_=>0) ⟨0,f,gs,vol,ds,rfl,om,e2⟩ ?_;rintro a ⟨k,f',gs',k_,jF,rfl,k1,k2⟩;refine bz (c8 (k<ks.length/\k<3)) ?_ ?_
  .refine uR ?_;refine bO rfl (λhc=>?_) (λhc=>bk (e7 om));refine uR ?_;exact bk (e_ om)
  rintro _ ⟨t2,rfl,ht2⟩;refine nW ?_;refine iU rfl ht2 (λhx=>?_) (λhx=>bk ⟨f',gs',k_,jF,rfl,k2.mono om⟩);obtain⟨q0,l0,hq,⟨n0,he0,_⟩,hr2⟩:=qq (hks _ (cQ hx.1));obtain rfl:=KQ hr2;subst he0;obtain⟨v,AZ,hv2,hv3⟩:=TU (a:=n0);obtain⟨f2,gh,la,oT,h1,h2⟩:=Xb k2 om hv2 hv3;refine JM (l:=ks) (j:=k) rfl rfl hx.1 (by rw[hq];rfl) ?_;rw[hq];refine uR ?_;refine dn (l:=.i v) AZ (nW ?_);refine bm h1 rfl rfl (nW ?_);refine b8 (i:=k) rfl om (nW ?_);refine bk ⟨⟨k+1,f2,gh,la,oT,rfl,om,h2.mono om⟩,?_⟩;show 3- ((k+1:Nat):Int).toNat<3-k;omega
 refine bz (λxs=>∃b:Bool,xs=[.b b]) ?_ ?_
 .refine uR ?_;refine bO rfl (λh1=>bk ⟨_,rfl⟩) (λh1=>?_);refine uR ?_;exact bk ⟨_,rfl⟩
 rintro _ ⟨b3,rfl⟩;refine nW ?_;refine cJ (λ_=>?_) (λ_=>?_)
 ·
  obtain⟨b2,f2,gh,h1,_,h2⟩:=alW e2 om;refine bm h1 rfl rfl (nW ?_);exact bk ⟨f2,gh,vol,ds,rfl,h2.mono om⟩
 .exact bk ⟨f,gs,vol,ds,rfl,e2.mono om⟩
theorem amc{c:Cg}(a:zd c){rows g:List (List PV)}{b:List Ge}{i g' j:Int}{k:Hx}(d:Bx c.A=some (.r rows::eS g b i g' j k)):GW c.A=some (.i 0::eS g b i g' j k++[.r rows]):=by
 have e:=a.s1;have f:=a.s8;have hrun:uJ [.i c.s,.i c.g,.i c.k,c.h.x0,c.h.x1,c.h.x2,c.h.x3,c.h.c0,c.h.c1,c.h.c2,c.h.c3,c.h.c4,c.h.c5,.r (c.h.it.map bt),.r (c.h.da.map fR)]=some [.b true]:=by
  refine bF ?_;refine bz (λxs=>xs=[.b true]) ?_ (by rintro _ rfl;refine nW ?_;exact bk rfl);refine uR ?_;refine cP rfl e (uR ?_);exact bk (dT f)
 refine bF ?_;refine bz (λxs=>xs=[.i 0]) ?_ ?_
 .refine bm (B0 a.g) rfl rfl (uR ?_);refine cn rfl ?_;refine bm hrun rfl rfl (uR ?_);refine cn rfl (uR ?_);refine bR rfl oO ?_;exact bk rfl
 rintro _ rfl;refine uR ?_;refine bR rfl (λh=>h rfl) ?_;refine bm (Pt (by have:=a.l.len;omega) a.l.pn) rfl rfl (nW ?_);refine bm (V7 a.g) rfl rfl (nW ?_);refine bm (Lt a.i a.d a.b) rfl rfl (nW ?_);refine bm d rfl rfl (nW ?_);exact bk rfl
theorem abH(ls:List L):Bx ls=oz ls:=rfl
theorem aic(x:fu):wb .eql x x=some (.b true):=cO (λb=>some (L.b b)) (beq_self_eq_true x.toList)
theorem aus:xh [.i 1,.i 2,.i 6,.b true]=some [.s ⟨#[118,46,49,46,50,46,105,100,120,46,116,109,112]⟩]:=Vh _ _ (sb kr)
theorem amr:L9 []=some [.b true]:=by
 have b:dx o3:=VZ.okF dc;have c:jB (cM o3):=by rw[<-w6];exact iX b.j_
 have d:dG [jL 0]:=Ji;have g:=GS c d;have e:∀j(h:j< [jL 0].length),[jL 0][j].mode≠2:=λj f=>by
  have f:j<1:=f;obtain rfl:j=0:=om;show(1:Int)≠2;decide
 have a:=XH (R:=(cM o3).map bJ) (h:=z0) (g7:=0) (k:=0) d e;rw[<-abH]at a;have i:uJ [.i 0,.i 0,.i 0,.i 0,.i 0,.i 0,.i 0,.i 0,.i 0,.i 0,.i 0,.i 0,.i 0,.r [],.r []]=some [.b false]:=by
  refine bF ?_;refine bz (λxs=>xs=[.b false]) ?_ (by rintro _ rfl;refine nW ?_;exact bk rfl);refine uR ?_;refine bR rfl dc ?_;exact bk rfl
 refine bF ?_;refine bm TG rfl rfl (nW ?_);refine bm (XT (l:=cM o3) (by have:=c.len;omega) c.pn) rfl rfl (nW ?_);refine bm (QF (gs:=[jL 0]) d.n8) rfl rfl (nW ?_);refine bm (l:=[]) (show my []=some []from rfl) rfl rfl (nW ?_);refine bm Qz rfl rfl (nW ?_);refine bm (amc g a) rfl rfl (nW ?_);refine bz (λxs=>xs=[.b true]) ?_ (by rintro _ rfl;refine nW ?_;exact bk rfl);refine uR ?_;refine cP rfl rfl (uR ?_);refine cP rfl rfl ?_;refine iG (r:=[.sc (.int .i64 0),.sc (.int .i64 6)]) oO rfl rfl (nW ?_);refine qG (r:=[.sc (.int .i64 0),.sc (.int .i64 6)]) rfl rfl rfl (uR ?_);refine cP rfl rfl ?_;refine bm aus rfl rfl (nW ?_);refine mq (l:=.b true) (aic _) (nW ?_);refine fT rfl ?_;refine bm (l:=[]) (show my []=some []from rfl) rfl rfl (nW ?_);refine bm i rfl rfl (uR ?_);exact bk rfl
theorem agV(l:List It)(hl:l.length<=4611686018427387904):LJ [.r (l.map bt),.r (l.map bt)]=some [.b true]:=by
 refine bF ?_;refine uR ?_;refine bR rfl (λh=>h rfl) ?_;refine bz (λxs=>xs=[]) ?_ (by rintro _ rfl;refine nW ?_;exact bk rfl);rw[bD];refine wp_loop (I:=λa=>∃i:Nat,a=[.i i]/\i<=l.length) (mu:=λa=>match a with|[.i i]=>l.length-i.toNat|_=>0) ⟨0,rfl,om⟩ ?_;rintro a ⟨i,rfl,e1⟩;refine uR ?_;rw[bD];refine bO rfl (λhc=>?_) (λhc=>bk rfl);have hi:i<l.length:=om;refine bS (f:=bt) (l:=l) (j:=i) rfl rfl hi rfl (uR ?_);refine bS (f:=bt) (l:=l) (j:=i) rfl rfl hi rfl (uR ?_);refine cn (by
  show(!(((decide (l[i].key=l[i].key)&&decide (l[i].cookie=l[i].cookie))&&decide (l[i].off=l[i].off))&&decide (l[i].size=l[i].size)))=false;rw[decide_eq_true rfl,decide_eq_true rfl,decide_eq_true rfl,decide_eq_true rfl];rfl) ?_
 refine b8 (i:=i) rfl om (nW ?_);refine bk ⟨⟨i+1,rfl,om⟩,?_⟩;show l.length- ((i+1:Nat):Int).toNat<l.length-i;omega
theorem adV{m}{s:Nat}(c:s<8){ρ ρ1 a Q k xs}{i:At}(d:(i.ev ρ).br=s)(b:ρ=ρ1++fy m++a)(e:ρ1.length=10)(f:k.wp (ρ++[.r ((m.st s).map bt)]) Q)(g:xs=w 10 8:=by rfl):(bl.op (.gk xs i) k).wp ρ Q:=by
 subst g b
 match ρ1,e with
 |[h,j,l,n,o,p,q,r,t,u],_=>
  have:∃x:At,(w 10 8)[s]?=some x/\x.ev ([h,j,l,n,o,p,q,r,t,u]++fy m++a)=.r ((m.st s).map bt):=by
   match s,c with
   |0,_=>exact⟨_,rfl,rfl⟩
   |1,_=>exact⟨_,rfl,rfl⟩
   |2,_=>exact⟨_,rfl,rfl⟩
   |3,_=>exact⟨_,rfl,rfl⟩
   |4,_=>exact⟨_,rfl,rfl⟩
   |5,_=>exact⟨_,rfl,rfl⟩
   |6,_=>exact⟨_,rfl,rfl⟩
   |7,_=>exact⟨_,rfl,rfl⟩
  obtain⟨x,v,y⟩:=this;exact xd (x:=x) (by rw[d,ey];exact v) (by rw[y];exact f)
theorem axh(m:Mp)(hm:∀s,(m.st s).length<=4611686018427387904):Ho (fy m++fy m)=some [.b true]:=by
 refine bF ?_;refine bz (λxs=>xs=[]) ?_ ?_
 .refine wp_loop (I:=λa=>∃k:Nat,a=[.i k]/\k<=8) (mu:=λa=>match a with|[.i k]=>8-k.toNat|_=>0) ⟨0,rfl,om⟩ ?_;rintro a ⟨k,rfl,e1⟩;refine uR ?_;refine bO rfl (λhc=>?_) (λhc=>bk rfl);have hk:k<8:=om;refine lK ⟨by show(0:Int)<=k;omega,by show(k:Int)< (8:Nat);omega⟩ (nW ?_);refine r8 (m:=m) hk rfl rfl (nW ?_);refine lK ⟨by show(0:Int)<=k;omega,by show(k:Int)< (8:Nat);omega⟩ (nW ?_);refine adV (m:=m) (ρ1:=fy m) hk rfl rfl rfl (nW ?_);refine bm (agV _ (hm k)) rfl rfl (uR ?_);refine cn rfl ?_;refine b8 (i:=k) rfl om (nW ?_);refine bk ⟨⟨k+1,rfl,om⟩,?_⟩;show 8- ((k+1:Nat):Int).toNat<8-k;omega
 rintro _ rfl;refine nW ?_;refine bz (λxs=>xs=[.b true]) ?_ (by rintro _ rfl;refine nW ?_;exact bk rfl);refine uR ?_;refine cP rfl rfl (uR ?_);exact bk (dT rfl)
theorem aqs(g:Gn)(a:∀s,(g.map.st s).length<=4611686018427387904):MI (fq g++fq g)=some [.b true]:=by
 refine bF ?_;refine bz (λxs=>xs=[.b true]) ?_ (by rintro _ rfl;refine nW ?_;exact bk rfl);refine uR ?_;refine cP rfl rfl (uR ?_);refine cP rfl rfl (uR ?_);refine cP rfl rfl (uR ?_);refine cP rfl rfl ?_;refine bm (axh g.map a) rfl rfl (nW ?_);exact bk rfl
theorem anF{gs:List Ge}(h:dG gs):G2 (sA gs++sA gs)=some [.b true]:=by
 have hn:=h.n8;refine bF ?_;refine bz (λxs=>xs=[.b false]) ?_ ?_
 .refine uR ?_;refine bR rfl (λh=>h rfl) (uR ?_);refine bR rfl (λh=>h rfl) (uR ?_);refine cn rfl (uR ?_);exact bk (dF λh=>h rfl)
 rintro _ rfl;refine nW ?_;refine cn rfl ?_;refine bz (λxs=>xs=[]) ?_ (by rintro _ rfl;refine nW ?_;exact bk rfl);refine wp_loop (I:=λa=>∃i:Nat,a=[.i i]/\i<=gs.length) (mu:=λa=>match a with|[.i i]=>gs.length-i.toNat|_=>0) ⟨0,rfl,om⟩ ?_;rintro a ⟨i,rfl,e1⟩;refine uR ?_;rw[bD];refine bO rfl (λhc=>?_) (λhc=>bk rfl);have hi:i<gs.length:=om;refine bS (f:=gR) (l:=gs) (j:=i) rfl rfl hi rfl (uR ?_);refine bS (f:=gR) (l:=gs) (j:=i) rfl rfl hi rfl (uR ?_);refine bm (aqs gs[i].gn λs=>by
  have h1:=AF gs[i].l s;have h2:=(h.ok i hi).1.s.len;show(dC gs[i].l s).length<=_;omega) rfl rfl (uR ?_)
 refine cn rfl ?_;refine b8 (i:=i) rfl om (nW ?_);refine bk ⟨⟨i+1,rfl,om⟩,?_⟩;show gs.length- ((i+1:Nat):Int).toNat<gs.length-i;omega
theorem axX{A Ls:List (List PV)}(hA:AC.rows tb A)(hL:AC.rows p_ Ls):∃f gs vol ds,LC [.r A,.r Ls]=some (mA f gs ds)/\gG f gs vol ds 13736:=by
 suffices q_:∃o,Fo Xn [.r A,.r Ls]=some o/\∃f gs vol ds,o=mA f gs ds/\gG f gs vol ds 13736 by
  obtain⟨o,h1,f,gs,vol,ds,rfl,h2⟩:=q_;exact⟨f,gs,vol,ds,h1,h2⟩
 obtain⟨f,gs,vol,ds,aCp,hst⟩:=abc hA (most:=8) dc;obtain⟨ls,Oc,hl6,dB⟩:=Q7 hL (m:=6) dc;refine jR ?_;refine bm aCp rfl rfl (nW ?_);refine bz (λxs=>∃f gs vol ds,xs=mA f gs ds/\gG f gs vol ds 13488) ?_ ?_;rotate_left
 .rintro _ ⟨f',gs',k_,jF,rfl,h'⟩;obtain⟨b,f2,gh,la,hr,h2⟩:=Xa h' dc;refine nW ?_;refine bm hr rfl rfl (nW ?_);exact bk ⟨f2,gh,la,jF,rfl,h2.mono dc⟩
 refine bm Oc rfl rfl (uR ?_);rw[bD];refine wp_loop (I:=λa=>∃(k:Nat)(f:Fs)(gs:List Ge)(vol:Nat->List Nat)(ds:List Nl),a=.i k::mA f gs ds/\k<=ls.length/\gG f gs vol ds (12000+248*k)) (mu:=λa=>match a with| .i k::_=>ls.length-k.toNat|_=>0) ⟨0,f,gs,vol,ds,rfl,om,hst⟩ ?_;rintro a ⟨k,f',gs',k_,jF,rfl,k1,k2⟩;refine uR ?_;refine bO rfl (λhx=>?_) (λhx=>bk ⟨f',gs',k_,jF,rfl,k2.mono om⟩);have hk:k<ls.length:=om;have A':=dB _ (cQ hk);refine bz (λxs=>∃f gs vol ds,xs=mA f gs ds/\gG f gs vol ds (12000+248*(k+1))) ?_ ?_
 .refine bS (f:=Nl.row) (l:=ls) (j:=k) rfl rfl hk rfl (uR ?_);refine cJ (λhd=>?_) (λhd=>?_)
  .have hd:ls[k].del=false:=by
    have hd:(!ls[k].del)=true:=hd;simpa using hd
   obtain⟨f2,gh,la,oT,h1,h2⟩:=Pd k2 om A' hd;refine uR ?_;refine bm h1 rfl rfl (nW ?_);exact bk ⟨f2,gh,la,oT,rfl,h2.mono om⟩
  .exact bk ⟨f',gs',k_,jF,rfl,k2.mono om⟩
 rintro _ ⟨f2,gh,la,oT,rfl,h2⟩;refine nW ?_;refine b8 (i:=k) rfl om (nW ?_);refine bk ⟨⟨k+1,f2,gh,la,oT,rfl,om,h2⟩,?_⟩;show ls.length- ((k+1:Nat):Int).toNat<ls.length-k;omega
theorem Re{p:Nat->Prop}:∀{n:Nat},(∃j,j<n/\p j)->∃i,i<n/\p i/\∀j,j<i->¬p j
 |0,⟨_,h,_⟩=>om
 |n+1,⟨j,h,b⟩=>by
  by_cases q:∃j,j<n/\p j
  .obtain⟨i,g,c,d⟩:=Re q;exact⟨i,om,c,d⟩
  .have e:j=n:=Nat.le_antisymm om (Nat.le_of_not_lt λa=>q ⟨j,a,b⟩);subst e;exact⟨j,om,b,λt f a=>q ⟨t,f,a⟩⟩
theorem anu{A Ls:List (List PV)}(hA:AC.rows tb A)(hL:AC.rows p_ Ls):AT [.r A,.r Ls]=some [.b true]:=by
 obtain⟨f,gs,vol,ds,FW,hst⟩:=axX hA hL;refine bF ?_;refine bm FW rfl rfl (nW ?_);refine bz (λ_=>False) ?_ (by rintro _ h;cases h);refine wp_loop (I:=λa=>∃(n last:Nat)(f:Fs)(gs:List Ge)(vol:Nat->List Nat),a=[.i last,.i n]++mA f gs ds/\n<=last/\last<=7/\Inv f gs vol (13736+248*n)/\∀j(h:j<gs.length),gs[j].mode=2->last<=j) (mu:=λa=>match a with|_:: .i n::_=>9-n.toNat|_=>0)
  ⟨0,0,f,gs,vol,rfl,om,om,hst.i,λj _ _=>eM j⟩ ?_
 rintro a ⟨n,last,f,gs,vol,rfl,e1,e2,hI,hl⟩;have hS:=hI.s;have Gj:=hS.n8;refine uR ?_;refine cP rfl om ?_;refine bz (λxs=>∃c:Nat,xs=[.i c]/\(c=0↔∀j(h:j<gs.length),gs[j].mode≠2)) ?_ ?_
 .refine uR ?_;rw[bD];refine wp_loop (I:=λa=>∃i c:Nat,a=[.i c,.i i]/\i<=gs.length/\c<=i/\(c=0↔∀j(h:j<i)(h':j<gs.length),gs[j].mode≠2)) (mu:=λa=>match a with|[_,.i i]=>gs.length-i.toNat|_=>0) ⟨0,0,rfl,om,om,by simp⟩ ?_;rintro a ⟨i,c,rfl,g1,g2,g3⟩;refine uR ?_;refine bO rfl (λhx=>?_) (λhx=>?_);rotate_left
  .obtain rfl:i=gs.length:=om;exact bk ⟨c,rfl,g3.trans ⟨λh j hj=>h j hj hj,λh j hj _=>h j hj⟩⟩
  have hi:i<gs.length:=om;refine bz (λxs=>∃c':Nat,xs=[.i c']/\c'<=i+1/\(c'=0↔∀j(h:j<i+1)(h':j<gs.length),gs[j].mode≠2)) ?_ ?_
  .refine bS (f:=gR) (l:=gs) (j:=i) rfl rfl hi rfl (uR ?_);refine bO rfl (λhq=>?_) (λhq=>?_)
   .have hq:gs[i].mode=2:=hq;refine b8 (i:=c) rfl om (nW ?_);exact bk ⟨c+1,rfl,om,⟨λh=>by omega,λh=>absurd hq (h i om hi)⟩⟩
   .have hq:¬gs[i].mode=2:=hq;refine bk ⟨c,rfl,om,⟨λh j hj h'=>?_,λh=>g3.2 λj hj h'=>h j om h'⟩⟩;by_cases e:j=i
    .subst e;exact hq
    .exact g3.1 h j om h'
  rintro _ ⟨c',rfl,k1,k2⟩;refine nW ?_;refine b8 (i:=i) rfl om (nW ?_);refine bk ⟨⟨i+1,c',rfl,om,k1,k2⟩,?_⟩;show gs.length- ((i+1:Nat):Int).toNat<gs.length-i;omega
 rintro _ ⟨c,rfl,A2⟩;refine nW ?_;by_cases hc:c=0
 .have hno:=A2.1 hc;refine bm (ayv hI om hno _) rfl rfl (uR ?_);refine cn rfl (uR ?_);refine cP rfl om ?_;refine bz (λxs=>xs=[.b true]) ?_ (by rintro _ rfl;refine nW ?_;exact bk rfl);refine uR ?_;refine cP rfl rfl ?_;refine bm (anF hS) rfl rfl (nW ?_);refine fT rfl ?_;refine bm amr rfl rfl (nW ?_);exact bk rfl
 .have hsome:∃j,j<gs.length/\∃h:j<gs.length,gs[j].mode=2:=o2 λh=>hc (A2.2 λj hj h2=>h ⟨j,hj,hj,h2⟩)
  obtain⟨i,hi,⟨_,hm⟩,hb⟩:=Re hsome;obtain⟨f',hw,hI'⟩:=auG hI om hi hm (λj hj h2=>hb j hj ⟨om,h2⟩) (.r (ds.map dR));have hli:=hl i hi hm;have hi7:i<gs.length-1:=by
   have:=(hS.ok i hi).2.2;have h3:¬gs[i].mode=1:=by rw[hm];decide
   have:i≠gs.length-1:=λe=>h3 (this.2 e)
   omega
  refine bm hw rfl rfl (uR ?_);refine cn rfl (uR ?_);refine bR rfl om ?_;refine bz (λxs=>xs=[.b false]) ?_ ?_
  .refine uR ?_;refine bR rfl (λh=>h rfl) (uR ?_);exact bk (dF om)
  rintro _ rfl;refine nW ?_;refine cn rfl ?_;refine b8 (i:=n) rfl om (nW ?_);refine bk ⟨⟨n+1,i+1,f',gs.set i (fo gs[i]),vol,rfl,om,om,hI'.mono om,λj hj h2=>?_⟩,?_⟩
  .rw[lr]at hj;by_cases e:j=i
   .subst e;rw[OK]at h2;have h2:(3:Int)=2:=h2;omega
   .rw[Bm (λq=>e q.symm)]at h2;rcases OI e with q|q
    .exact absurd ⟨hj,h2⟩ (hb j q)
    .omega
  .show 9- ((n+1:Nat):Int).toNat<9-n;omega
end
section
attribute [local irreducible] AT
open Go.Deep Go.ChangeShapes Go.WideShapes Go.ChangeAt Go.RowKit AI
theorem auQ:ownKnob Tryz.prog.godebug=none:=kr
section
variable{H:Type}{enc:cd×b9->H}{w:bX}{base:Nat}{spare:Nat->Bool}{held:Bool}
def M0:fZ:=λ_=>False
theorem azw:nJ enc Tryz.prog w base spare held M0 95 (.sl 9223372036854775807 [.int .u8 0 255]):=
 Dq Tryz.underlying95 kr dc (λ_ h=>h) (YN (wW Tryz.underlying5 λ_=>bounds_u8))
theorem ahv:nJ enc Tryz.prog w base spare held M0 119 (.sl 9223372036854775807 [.int .u64 0 18446744073709551615]):=
 Dq Tryz.underlying119 kr dc (λ_ h=>h) (YN (wW Tryz.underlying85 λ_=>bounds_u64))
theorem aib:El enc Tryz.prog w base spare held M0 97 4 p_:=
 UK Tryz.underlying97 kr rfl rfl rfl rfl kr kr kr kr (wW Tryz.underlying85 λ_=>bounds_u64) (wW Tryz.underlying24 λ_=>bounds_u32) (awP Tryz.underlying4) azw
theorem Rc:nJ enc Tryz.prog w base spare held M0 33 (.sl 9223372036854775807 p_):=
 Dq Tryz.underlying33 kr dc (λ_ h=>h) aib
theorem aof:El enc Tryz.prog w base spare held M0 208 4 tb:=
 UK Tryz.underlying208 kr rfl rfl rfl rfl kr kr kr kr (wW Tryz.underlying3 λ_=>bounds_i64) Rc (wW Tryz.underlying3 λ_=>bounds_i64) ahv
theorem avc:nJ enc Tryz.prog w base spare held M0 32 (.sl 9223372036854775807 tb):=
 Dq Tryz.underlying32 kr dc (λ_ h=>h) aof
end
theorem ayl{w:bX}{c d:b9}{rows a:List (List PV)}(p:RP M0 w (.sl rows) c)(q:AC.rows tb rows)(r:RP M0 w (.sl a) d)(s:AC.rows p_ a):
 Calls Tryz.prog 5 #[c,d] w λe w'=>e=.returned (.bool true)/\Below w.heap.size w w':=by
 have t:Fh.F=AT:=rfl;have hp:AT [.r rows,.r a]=some [.b true]:=anu q s;have u:=afM [.r rows,.r a] [.b true] rfl (by rw[t];exact hp) rfl;have o:bad M0 ⟨λ_=>none,[]⟩=M0:=by
  funext g;simp[bad,M0]
 refine(u.call w M0 (λ_=>none) #[c,d] (λg h=>h.elim) (λn x h=>by cases h) (λn x g h=>by cases h) (λn m x y g h=>by cases h) (λn b h=>by simp[Fh]at h) rfl (λi x j=>?_)).mono ?_
 .match i with
  |0=>
   cases j;refine⟨c,rfl,?_⟩;show RP (bad M0 _) w (.sl rows) c;rw[o];exact p
  |1=>
   cases j;refine⟨d,rfl,?_⟩;show RP (bad M0 _) w (.sl a) d;rw[o];exact r
  |i+2=>simp[Fh]at j
 .rintro e w' ⟨v,E',rfl,f,-,-,l⟩;have l:RP _ w' (.sc (.bool true)) v:=l;cases l;exact⟨rfl,f.os,f.tape,f.output,f.size,λk z=>f.block k z (λ⟨n,x,h,_⟩=>by cases h)⟩
end
section
open Go.ChangeShapes Go.WideShapes Go.ChangeAt Go.RowKit AI
theorem Q3:laidOutB Tryz.prog=true:=kr
def ph:List (String×DataW Unit):=Rows.sealerAllRow.laid
theorem aia (IJ:∀(os:Os)(H:Type)(enc:cd×b9->H),∃(w:bX)(tape:Tape)(i:Input),w.os=os/\(w.forCall tape i).Shaped Tryz.prog/\i.vars=[]/\Input.okWide Tryz.prog (w.forCall tape i) .any w.heap.size 5 i/\
 ((Rows.sealerAllSpec.pre enc Tryz.prog Tryz.f5 [] false (w.forCall tape i).memory i.args/\laidMetH Tryz.prog ph (w.forCall tape i).memory)/\sizedMet enc Tryz.prog Tryz.f5 (OpenSpec.ofChange Rows.sealerAllSpec) false (w.forCall tape i).memory i.args)/\Assume.holds {} Tryz.prog (lone (Frame.enter Tryz.prog 5 i.args .normal) [] (w.forCall tape i)))
 (os:Os) (a:os.Started) (H:Type) (enc:cd×b9->H):
 ReturnsInHanded {} Tryz.checked os 5 .any (λw args=>(Rows.sealerAllSpec.pre enc Tryz.prog Tryz.f5 [] false w args/\laidMetH Tryz.prog ph w)/\sizedMet enc Tryz.prog Tryz.f5 (OpenSpec.ofChange Rows.sealerAllSpec) false w args)
  (Rows.sealerAllSpec.post enc Tryz.prog Tryz.f5 false true false false):=by
 refine returnsInHanded_of_change_and (C:=Tryz.checked) (X:=λw _=>laidMetH Tryz.prog ph w) (λ_ _ _ M h=>h.of_heap M) auQ a kr Tryz.func5 (IJ os H enc) ?_;intro W base args ds gs before b F _ _ hL _;have hval:∀(j:Nat)t v,Tryz.f5.params[j]?=some t->args[j]?=some v->Value.okWide Tryz.prog W .any base t v:=b;have n:=F;obtain⟨p,q,d,N,rfl,O,P⟩:=F;have G:DataW.TrodAll enc Tryz.prog W 0 (λ_=>true) true Tryz.f5.params.toList args.toList ds p:=d;rw[Tryz.params5]at G hval;obtain⟨I,Q,d0,R,S,q0,o,rfl,rfl,J,r0⟩:=trodAll_cons G;obtain⟨K,T,d1,U,V,q1,rfl,rfl,rfl,L,Y⟩:=trodAll_cons r0;obtain⟨rfl,rfl,rfl⟩:=trodAll_nil Y;obtain rfl:args= #[I,K]:=by cases args;simp_all
 obtain⟨rfl,rfl⟩:=trodVars_none N;obtain⟨Z,f,g,rfl⟩:=okWide_slice Tryz.underlying32 (hval 0 32 I rfl rfl);obtain⟨a1,k,l,rfl⟩:=okWide_slice Tryz.underlying33 (hval 1 33 K rfl rfl);have k0:=J;have r:∀x∈S,x.block<W.heap.size:=by obtain⟨m,s⟩:=k0;exact DataW.trod_lt m _ _ _ s
 have k1:=L;have y:∀x∈V,x.block<W.heap.size:=by obtain⟨m,s⟩:=k1;exact DataW.trod_lt m _ _ _ s
 obtain⟨z,A⟩:=L;obtain⟨u,pu,B,⟨aa,rfl,-,hn⟩,D⟩:=Rc _ _ _ A;have B:[Value.slice a1 k l]=[u]:=B;cases B;obtain⟨fuel,hf⟩:=J;obtain⟨v,pv,E,⟨rows,rfl,-,hr⟩,hR⟩:=avc _ _ _ hf;have E:[Value.slice Z f g]=[v]:=E;cases E;clear d b;refine(ayl hR hr D hn).mono λe W'⟨he,c⟩=>?_
 subst he;exact⟨_,rfl,_,_,_,[],_,[],n,trodAll_mk1 (shut_bool Tryz.underlying4 _),(trodAll_cons_mk (Below.trod Q3 kr (eE kr) k0 c r) (trodAll_cons_mk (Below.trod Q3 kr (eE kr) k1 c y) trodAll_mk0)),rfl,c.frame _,λh=>by cases h⟩
end
end
end Go.Proofs.YtiikkkhcolcebaaGreatDoor
