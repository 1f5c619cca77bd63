/- A part. -/
import Derived.Test.YtndegphojkiblaaGreatDoorG12
import Derived.Test.YtndegphojkiblaaGreatDoorG39
set_option linter.all false
set_option maxHeartbeats 4000000
set_option maxRecDepth 100000
namespace Go.Proofs.YtndegphojkiblaaGreatDoor
noncomputable section
section
open Go.RowKit
def qN(Q:List L->Prop)(r:Lf×List L):Prop:=match r with
 |(.jump _ args,ρ')=>Q (args.map (At.ev ρ'))
 |_=>False
theorem tY{f:a8}{ls o:List L}(h:gu (f.a6 ls)=some o):f.wp ls (qN λx=>x=o):=by
 cases hd:f.a6 ls with
 |none=>rw[hd]at h;cases h
 |some r=>
  refine⟨r,hd,?_⟩;obtain⟨lf,ρ'⟩:=r;rw[hd]at h
  cases lf with
  |st=>cases h
  |jump k args=>simpa[gu,qN]using h
def nm(r:List PV):fy:=match r with| .sc (.string s)::_=>s|_=>ByteArray.empty
def ir(s:fy):List (List PV)->Nat->Int
 |[],_=> -1
 |r::rs,i=>if(nm r).toList==s.toList then i else ir s rs (i+1)
theorem Rp(s:fy):∀{D a:List (List PV)}{i:Nat},D.map nm=a.map nm->ir s D i=ir s a i
 |[],[],_,_=>rfl
 |[],_::_,_,h=>by cases h
 |_::_,[],_,h=>by cases h
 |r::D,b::a,i,h=>by
  simp only[ct,GY]at h;simp only[ir,h.1,Rp s (i:=i+1) h.2]
def FR(r:List PV):Prop:=∃s b p,r=[.sc (.string s),.sl b,.sl p]
theorem CB{α:Type}:∀{r:List α},r.length=1->∃a,r=[a]
 |[a],_=>⟨a,rfl⟩
theorem alb(l0 l1 l2 l3:L)(hD:∀r∈l2.bm,FR r)(hn:l2.bm.length<=1000000):∃o,zc [l0,l1,l2,l3]=some o/\o=[.i (ir l3.du l2.bm 0)]:=by
 refine gi ?_;unfold SG;simp only[ek];refine wp_loop (I:=λa=>∃i:Nat,a=[.i i]/\i<=l2.bm.length/\ir l3.du l2.bm 0=ir l3.du (l2.bm.drop i) i) (mu:=λa=>match a with|[.i i]=>l2.bm.length-i.toNat|_=>0) (by exact⟨0,rfl,om,by simp⟩) ?_;rintro a ⟨i,rfl,e1,e2⟩;by_cases hi:i<l2.bm.length;rotate_left
 .rw[qv om]at e2;simp[je,jS,jM,j_,kt,kh,jr,jR,iK,jB,jz,ko,kj,jN,kA,ky,jv,jn,kC,kq,ka,fT,dv,dq,ek,cw,iu,At.ev,d6,d7,d8,e0,d9,eh,ey,dX,cH,Kd.pv,Kd.of,ct,dp,d1,d2,d3,d4,d5,bS,hi,e2,ir]
 obtain⟨s,b,p,hr⟩:=hD _ (cT hi);have hd:l2.bm.drop i=l2.bm[i]::l2.bm.drop (i+1):=sA hi;rw[hd]at e2;simp only[ir,hr,nm]at e2;have w:IntKind.wrap .i64 ((i:Int)+1)=(i:Int)+1:=AI.wrap64 om om;by_cases hs:s.toList=l3.du.toList
 .rw[bF (by simpa using hs)]at e2;simp[je,jS,jM,j_,kt,kh,jr,jR,iK,jB,jz,ko,kj,jN,kA,ky,jv,jn,kC,kq,ka,fT,dv,dq,ek,cw,iu,At.ev,d6,d7,d8,e0,d9,eh,ey,dX,cH,Kd.pv,Kd.of,ct,dp,d1,d2,d3,d4,d5,bS,hi,hr,rT,hs,e2]
 .rw[bO (by simpa using hs)]at e2;simp[je,jS,jM,j_,kt,kh,jr,jR,iK,jB,jz,ko,kj,jN,kA,ky,jv,jn,kC,kq,ka,fT,dv,dq,ek,cw,iu,At.ev,d6,d7,d8,e0,d9,eh,ey,dX,cH,Kd.pv,Kd.of,ct,dp,d1,d2,d3,d4,d5,bS,hi,hr,rT,hs,w];exact⟨⟨i+1,om,om,e2⟩,om⟩
theorem Uq{l0 l1 l2 l3:L}(hD:∀r∈l2.bm,FR r)(hn:l2.bm.length<=1000000){o:List L}(h:p8 [l0,l1,l2,l3]=some o):∃i e,o=[i,e]/\(e.a_=0->i=.i (ir l3.du l2.bm 0)/\0<=ir l3.du l2.bm 0):=by
 have h:=tY h;obtain⟨o2,h2,rfl⟩:=alb l0 l1 l2 l3 hD hn;unfold Qx at h;simp[je,jS,jM,j_,kt,kh,jr,jR,iK,jB,jz,ko,kj,jN,kA,ky,jv,jn,kC,kq,ka,fT,dv,dq,ek,cw,iu,At.ev,d6,d7,d8,e0,d9,eh,ey,dX,cH,Kd.pv,Kd.of,ct,dp,d1,d2,d3,d4,d5,bS,h2,qN]at h;obtain⟨l,h3,h4,h5⟩:=h;obtain⟨w,rfl⟩:=CB h4;simp[je,jS,jM,j_,kt,kh,jr,jR,iK,jB,jz,ko,kj,jN,kA,ky,jv,jn,kC,kq,ka,fT,dv,dq,ek,cw,iu,At.ev,d6,d7,d8,e0,d9,eh,ey,dX,cH,Kd.pv,Kd.of,ct,dp,d1,d2,d3,d4,d5,bS]at h5;by_cases hw:w.a_=0
 .simp[hw]at h5;by_cases hf:ir l3.du l2.bm 0<0
  .simp[hf]at h5;subst h5;exact⟨_,_,rfl,λh=>by simp[o0]at h⟩
  .simp[hf]at h5;subst h5;exact⟨_,_,rfl,λ_=>⟨rfl,om⟩⟩
 .simp[hw]at h5;subst h5;exact⟨_,_,rfl,λh=>absurd h hw⟩
theorem ZL{α:Type}:∀{r:List α},r.length=4->∃a b c d,r=[a,b,c,d]
 |[a,b,c,d],_=>⟨a,b,c,d,rfl⟩
theorem Zb{l0 l1 l2:L}{o:List L}(h:rf [l0,l1,l2]=some o):∃x,o=[x,.r l2.bm]:=by
 have h:=tY h;unfold aaR at h;simp[je,jS,jM,j_,kt,kh,jr,jR,iK,jB,jz,ko,kj,jN,kA,ky,jv,jn,kC,kq,ka,fT,dv,dq,ek,cw,iu,At.ev,d6,d7,d8,e0,d9,eh,ey,dX,cH,Kd.pv,Kd.of,ct,dp,d1,d2,d3,d4,d5,bS,qN]at h;obtain⟨_,h⟩:=h;split at h<;> (subst h;exact⟨_,rfl⟩)
theorem Wj{l0 l1 l2 l3:L}(hD:∀r∈l2.bm,FR r)(hn:l2.bm.length<=1000000){o:List L}(h:uG [l0,l1,l2,l3]=some o):
 ∃a b c d,o=[a,b,c,d]/\(d.bm=[]\/∃q,0<=ir l3.du l2.bm 0/\d.bm=l2.bm.set (ir l3.du l2.bm 0).toNat [.sc (.string l3.du),.sl q,.sl []]):=by
 have h:=tY h;unfold VS at h;rw[fT]at h;obtain⟨l,h1,_,h⟩:=h;obtain⟨i,e,rfl,h2⟩:=Uq hD hn h1;by_cases he:e.a_=0
 .obtain⟨rfl,h3⟩:=h2 he;simp[je,jS,jM,j_,kt,kh,jr,jR,iK,jB,jz,ko,kj,jN,kA,ky,jv,jn,kC,kq,ka,fT,dv,dq,ek,cw,iu,At.ev,d6,d7,d8,e0,d9,eh,ey,dX,cH,Kd.pv,Kd.of,ct,dp,d1,d2,d3,d4,d5,bS,qN,he]at h;obtain⟨l',h4,h5,h⟩:=h;obtain⟨x,rfl⟩:=Zb h4;simp[je,jS,jM,j_,kt,kh,jr,jR,iK,jB,jz,ko,kj,jN,kA,ky,jv,jn,kC,kq,ka,fT,dv,dq,ek,cw,iu,At.ev,d6,d7,d8,e0,d9,eh,ey,dX,cH,Kd.pv,Kd.of,ct,dp,d1,d2,d3,d4,d5,bS]at h;obtain⟨_,r,hr,_⟩:=id h;obtain⟨s,b,p,rfl⟩:=hD r (dB hr);simp[hr,Kd.of]at h;obtain⟨_,l3',h6,h7,_,h⟩:=h;obtain⟨c,rfl⟩:=CB h7;subst h;exact⟨_,_,_,_,rfl,.inr ⟨c.bm,h3,by simp[qj]⟩⟩
 .simp[je,jS,jM,j_,kt,kh,jr,jR,iK,jB,jz,ko,kj,jN,kA,ky,jv,jn,kC,kq,ka,fT,dv,dq,ek,cw,iu,At.ev,d6,d7,d8,e0,d9,eh,ey,dX,cH,Kd.pv,Kd.of,ct,dp,d1,d2,d3,d4,d5,bS,qN,he]at h;subst h;exact⟨_,_,_,_,rfl,.inl rfl⟩
theorem i1{nd:Nd}{k:a8}{ρ:List L}{Q:Lf×List L->Prop}(h:(a8.op nd k).wp ρ Q)(hn:nd.n=1):∃v,k.wp (ρ++[v]) Q:=by
 rw[gb]at h;obtain⟨ls,h1,h2⟩:=h;obtain⟨v,rfl⟩:=CB ((Nd.EG h1).trans hn);exact⟨v,h2⟩
def a8.j1:a8->Bool
 |.br (.jump 0 [_])=>true
 |.op _ k=>a8.j1 k
 |.ite _ a b=>a8.j1 a&&a8.j1 b
 |_=>false
theorem EN{rest:a8}{ρ:List L}{Q:Lf×List L->Prop}:∀{b:a8}{ρ':List L},a8.j1 b=true->b.wp ρ' (eh rest ρ Q)->∃x,rest.wp (ρ++[x]) Q
 |.br (.jump 0 [a]),ρ',_,h=>by rw[dq]at h;exact⟨_,h⟩
 |.br (.jump 0 []),_,hj,_=>by cases hj
 |.br (.jump 0 (_::_::_)),_,hj,_=>by cases hj
 |.br (.jump (_+1) _),_,hj,_=>by cases hj
 |.br (.st _ _),_,hj,_=>by cases hj
 |.op nd k,ρ',hj,h=>by
  rw[gb]at h;obtain⟨ls,_,h⟩:=h;exact EN (b:=k) hj h
 |.ite c a b,ρ',hj,h=>by
  simp only[a8.j1,cd]at hj;rw[dv]at h;split at h
  .exact EN hj.1 h
  .exact EN hj.2 h
 |.join _ _,_,hj,_=>by cases hj
 |.loop _ _,_,hj,_=>by cases hj
theorem awN{l0 l1 l2 l3 l4 l5 l6:L}(hD:∀r∈l2.bm,FR r){o:List L}(h:CW [l0,l1,l2,l3,l4,l5,l6]=some o):
 ∃a b c d,o=[a,b,c,d]/\(d.bm=[]\/∃s q p r,l2.bm[l3.a_.toNat]?=some r/\nm r=s/\d.bm=l2.bm.set l3.a_.toNat [.sc (.string s),.sl q,.sl p]):=by
 have h:=tY h;unfold T8 at h;rw[jr]at h;obtain⟨_,r,hr,_,h⟩:=h;obtain⟨s,b,p,rfl⟩:=hD r (dB hr);simp only[gA,gC]at h;rw[iK]at h;obtain⟨_,ha,_,hb,h⟩:=h;cases ha;cases hb;simp only[gA,gC]at h;rw[iK]at h;obtain⟨_,ha,_,hb,h⟩:=h;cases ha;cases hb;simp only[gA,gC]at h;rw[iK]at h;obtain⟨_,ha,_,hb,h⟩:=h;cases ha;cases hb;simp only[gA,gC]at h;obtain⟨v11,h⟩:=i1 h rfl;obtain⟨v12,h⟩:=i1 h rfl;obtain⟨v13,h⟩:=i1 h rfl;obtain⟨v14,h⟩:=i1 h rfl;obtain⟨v15,h⟩:=i1 h rfl;simp only[gA,gC]at h;rw[dv]at h;split at h
 .rw[dq]at h;cases h;exact⟨_,_,_,_,rfl,.inl rfl⟩
 obtain⟨v16,h⟩:=i1 h rfl;obtain⟨v17,h⟩:=i1 h rfl;obtain⟨v18,h⟩:=i1 h rfl;obtain⟨v19,h⟩:=i1 h rfl;obtain⟨v20,h⟩:=i1 h rfl;obtain⟨v21,h⟩:=i1 h rfl;obtain⟨v22,h⟩:=i1 h rfl;obtain⟨v23,h⟩:=i1 h rfl;obtain⟨v24,h⟩:=i1 h rfl;simp only[gA,gC]at h;rw[ek]at h;obtain⟨v25,h⟩:=EN rfl h;simp only[gA,gC]at h;rw[dv]at h;split at h
 .rw[dq]at h;cases h;exact⟨_,_,_,_,rfl,.inl rfl⟩
 rw[fT]at h;obtain⟨l,h1,_,h⟩:=h;obtain⟨x,rfl⟩:=Zb h1;simp only[gA,gC]at h;obtain⟨v28,h⟩:=i1 h rfl;simp only[gA,gC]at h;rw[jn]at h;obtain⟨r,hr2,_,h⟩:=h;have hr2:l2.bm[l3.a_.toNat]?=some r:=hr2;have hr:l2.bm[l3.a_.toNat]?=some [PV.sc (Value.string s),PV.sl b,PV.sl p]:=hr;rw[hr]at hr2;cases hr2;rw[dq]at h;cases h;exact⟨_,_,_,_,rfl,.inr ⟨s,b,v21.bm,_,hr,rfl,rfl⟩⟩
theorem SE{l0 l1 l2 l3 l4:L}(hD:∀r∈l2.bm,FR r)(hn:l2.bm.length<=1000000){o:List L}(h:gu (Db.a6 [l0,l1,l2,l3,l4])=some o):
 ∃a b c d,o=[a,b,c,d]/\(d.bm=[]\/∃s q p r,l2.bm[(ir l3.du l2.bm 0).toNat]?=some r/\nm r=s/\d.bm=l2.bm.set (ir l3.du l2.bm 0).toNat [.sc (.string s),.sl q,.sl p]):=by
 have h:=tY h;unfold Db at h;rw[fT]at h;obtain⟨l,h1,_,h⟩:=h;obtain⟨i,e,rfl,h2⟩:=Uq hD hn h1;simp only[gA,gC]at h;rw[je]at h;obtain⟨_,ha,h⟩:=h;cases ha;rw[dv]at h;by_cases he:e.a_=0;rotate_left
 .rw[bF (by simp[At.ev,o0,BP,he])]at h;rw[dq]at h;cases h;exact⟨_,_,_,_,rfl,.inl rfl⟩
 rw[bO (by simp[At.ev,o0,BP,he])]at h;obtain⟨rfl,h3⟩:=h2 he;simp only[gA,gC]at h;obtain⟨v8,h⟩:=i1 h rfl;obtain⟨v9,h⟩:=i1 h rfl;obtain⟨v10,h⟩:=i1 h rfl;obtain⟨v11,h⟩:=i1 h rfl;obtain⟨v12,h⟩:=i1 h rfl;obtain⟨v13,h⟩:=i1 h rfl;simp only[gA,gC]at h;rw[fT]at h;obtain⟨l,h1,_,h⟩:=h;obtain⟨a,b,c,d,rfl,h4⟩:=awN (l0:=l0) (l1:=l1) (l2:=l2) (l3:=.i (ir l3.du l2.bm 0)) (l4:=v13) (l5:=l4) (l6:=.b false) hD h1;rw[dq]at h;cases h;exact⟨_,_,_,_,rfl,h4⟩
def PE(r:List PV):Prop:=∃s b,r=[.sc (.string s),.sl b,.sl []]
theorem PE.fr{r:List PV}(h:PE r):FR r:=by obtain⟨s,b,rfl⟩:=h;exact⟨s,b,[],rfl⟩
theorem mem_set{α:Type}:∀{l:List α}{i:Nat}{x y:α},y∈l.set i x->y=x\/y∈l
 |[],_,_,_,h=>by cases h
 |a::l,0,x,y,h=>by
  rcases dn.1 h with h|h
  .exact .inl h
  .exact .inr (fp _ h)
 |a::l,i+1,x,y,h=>by
  rcases dn.1 h with h|h
  .exact .inr (by rw[h];exact eJ)
  .rcases mem_set (l:=l) h with h|h
   .exact .inl h
   .exact .inr (fp _ h)
theorem V3:∀{D:List (List PV)}{k:Nat}{r x:List PV},D[k]?=some r->nm x=nm r->(D.set k x).map nm=D.map nm
 |[],_,_,_,h,_=>by cases h
 |a::D,0,r,x,h,b=>by
  cases h;simp only[ado,ct,b]
 |a::D,k+1,r,x,h,b=>by
  simp only[List.set_cons_succ,ct,V3 (D:=D) (k:=k) (r:=r) (x:=x) (by simpa using h) b]
theorem SI{z d2 d3:List (List PV)}{s:fy}(c:∀r∈z,PE r)
 (d:d2=[]\/∃b q p r,z[(ir s z 0).toNat]?=some r/\nm r=b/\d2=z.set (ir s z 0).toNat [.sc (.string b),.sl q,.sl p])
 (e:d3=[]\/∃q,0<=ir s d2 0/\d3=d2.set (ir s d2 0).toNat [.sc (.string s),.sl q,.sl []]):∀r∈d3,PE r:=by
 rcases e with rfl| ⟨q,_,rfl⟩
 .intro r a;cases a
 rcases d with rfl| ⟨b,f,g,r0,h,i,rfl⟩
 .intro r a;simp at a
 .rw[<-Rp s (V3 h (x:=[.sc (.string b),.sl f,.sl g]) (by rw[i];rfl)).symm];intro r a;rw[Qp]at a;rcases mem_set a with rfl|a
  .exact⟨_,_,rfl⟩
  .exact c r a
theorem asT{l0 l1 l2 l3 l4 l5 l6 l7 l8:L}(h0:∀r∈l2.bm,PE r)(hn:l2.bm.length<=1000000)
 (PZ:∀o,rW [l0,l1,l2,l7]=some o->∃a b c d,o=[a,b,c,d]/\(∀r∈d.bm,PE r)/\d.bm.length<=1000000)
 {o:List L} (h:wX [l0,l1,l2,l3,l4,l5,l6,l7,l8]=some o):∃a b c,o=[a,b,c]/\∀r∈c.bm,PE r:=by
 have h:=tY h;have fin:∀x y z:L,(∀r∈z.bm,PE r)->z.bm.length<=1000000->(a8.op (.call 135 F2 [(.v 9),(.v 10),(.v 11),(.v 7),(.v 8)] 4 []) (.op (.call 130 uG [(.v 13),(.v 14),(.v 15),(.v 7)] 4 []) (.br (.jump 0 [(.v 17),(.v 18),(.v 19)])))).wp [l0,l1,l2,l3,l4,l5,l6,l7,l8,x,y,z] (qN λx=>x=o)->∃a b c,o=[a,b,c]/\∀r∈c.bm,PE r:=by
  intro x y z hz Bi h;rw[fT]at h;obtain⟨l,h1,_,h⟩:=h;obtain⟨a2,b2,c2,d2,rfl,h2⟩:=SE (l0:=x) (l1:=y) (l2:=z) (l3:=l7) (l4:=l8) (λr hr=>(hz r hr).fr) Bi h1;simp only[gA,gC]at h;have Bj:(∀r∈d2.bm,FR r)/\d2.bm.length<=1000000:=by
   rcases h2 with h2| ⟨s',q',p',r0,h5,h6,h2⟩
   .rw[h2];exact⟨λr hr=>(by cases hr),by simp⟩
   .rw[h2];refine⟨λr hr=>?_,by rw[G2];exact Bi⟩;rcases mem_set hr with rfl|hr
    .exact⟨_,_,_,rfl⟩
    .exact(hz r hr).fr
  rw[fT]at h;obtain⟨l',h3,_,h⟩:=h;obtain⟨a3,b3,c3,d3,rfl,h4⟩:=Wj (l0:=b2) (l1:=c2) (l2:=d2) (l3:=l7) Bj.1 Bj.2 h3;rw[dq]at h;cases h;exact⟨_,_,_,rfl,SI hz h2 h4⟩
 unfold Vk at h;rw[ek,fT]at h;obtain⟨l,h1,_,h⟩:=h;obtain⟨a,b,c,d,rfl,h2,h3⟩:=PZ _ h1;simp only[gA,gC]at h;obtain⟨v13,h⟩:=i1 h rfl;rw[dv]at h;split at h
 .rw[dq]at h;exact fin b c d h2 h3 h
 .rw[dq]at h;exact fin l0 l1 l2 h0 hn h
theorem jXz:Md=Fo Db:=kr
theorem amk{l0 l1 l2 l3 l4 l5 l6 l7 l8:L}(h0:∀r∈l2.bm,PE r)(hn:l2.bm.length<=1000000)
 (PZ:∀o,rW [l0,l1,l2,l7]=some o->∃a b c d,o=[a,b,c,d]/\(∀r∈d.bm,PE r)/\d.bm.length<=1000000)
 {o:List L} (h:xk [l0,l1,l2,l3,l4,l5,l6,l7,l8]=some o):∃a b c,o=[a,b,c]/\∀r∈c.bm,PE r:=by
 have h:=tY h;have fin:∀x y z:L,(∀r∈z.bm,PE r)->z.bm.length<=1000000->(a8.op (.call 144 Md [(.v 9),(.v 10),(.v 11),(.v 7),(.v 8)] 4 []) (.op (.call 130 uG [(.v 13),(.v 14),(.v 15),(.v 7)] 4 []) (.br (.jump 0 [(.v 17),(.v 18),(.v 19)])))).wp [l0,l1,l2,l3,l4,l5,l6,l7,l8,x,y,z] (qN λx=>x=o)->∃a b c,o=[a,b,c]/\∀r∈c.bm,PE r:=by
  intro x y z hz Bi h;rw[fT]at h;obtain⟨l,h1,_,h⟩:=h;obtain⟨a2,b2,c2,d2,rfl,h2⟩:=SE (l0:=x) (l1:=y) (l2:=z) (l3:=l7) (l4:=l8) (λr hr=>(hz r hr).fr) Bi (by rw[jXz]at h1;exact h1);simp only[gA,gC]at h;have Bj:(∀r∈d2.bm,FR r)/\d2.bm.length<=1000000:=by
   rcases h2 with h2| ⟨s',q',p',r0,h5,h6,h2⟩
   .rw[h2];exact⟨λr hr=>(by cases hr),by simp⟩
   .rw[h2];refine⟨λr hr=>?_,by rw[G2];exact Bi⟩;rcases mem_set hr with rfl|hr
    .exact⟨_,_,_,rfl⟩
    .exact(hz r hr).fr
  rw[fT]at h;obtain⟨l',h3,_,h⟩:=h;obtain⟨a3,b3,c3,d3,rfl,h4⟩:=Wj (l0:=b2) (l1:=c2) (l2:=d2) (l3:=l7) Bj.1 Bj.2 h3;rw[dq]at h;cases h;exact⟨_,_,_,rfl,SI hz h2 h4⟩
 unfold XO at h;rw[ek,fT]at h;obtain⟨l,h1,_,h⟩:=h;obtain⟨a,b,c,d,rfl,h2,h3⟩:=PZ _ h1;simp only[gA,gC]at h;obtain⟨v13,h⟩:=i1 h rfl;rw[dv]at h;split at h
 .rw[dq]at h;exact fin b c d h2 h3 h
 .rw[dq]at h;exact fin l0 l1 l2 h0 hn h
namespace AI
theorem Ff{r}(h:AC.dS c1 r):PE r:=by
 obtain⟨q0,q1,q2,rfl⟩:=Wc (AC.tV h);obtain⟨⟨s,rfl,_⟩,⟨b,rfl,_⟩,⟨p,rfl,hp,_⟩,_⟩:=(show AC.ok (.str 9) q0/\AC.ok (.sl 2097152 [.int .u8 0 255]) q1/\AC.ok (.sl 0 []) q2/\AC.dS [] []from h)
 have:p.length=0:=om;rw[jX this];exact⟨s,b,rfl⟩
theorem UN{r}(h:AC.dS c5 r)(hp:PE r):AC.dS c1 r:=by
 obtain⟨s,b,rfl⟩:=hp;obtain⟨a,c,_,_⟩:=(show AC.ok (.str 9) (.sc (.string s))/\AC.ok (.sl 2097152 [.int .u8 0 255]) (.sl b)/\AC.ok (.sl 1 c2) (.sl [])/\AC.dS [] []from h)
 exact(show AC.ok (.str 9) (.sc (.string s))/\AC.ok (.sl 2097152 [.int .u8 0 255]) (.sl b)/\AC.ok (.sl 0 []) (.sl [])/\AC.dS [] []from⟨a,c,⟨[],rfl,by simp,λr d=>by cases d⟩,trivial⟩)
theorem T_{α:Type}:∀{r:List α},r.length=9->∃a b c d e f g h i,r=[a,b,c,d,e,f,g,h,i]
 |[a,b,c,d,e,f,g,h,i],_=>⟨a,b,c,d,e,f,g,h,i,rfl⟩
theorem ahl:nc.ok wX:=by
 intro ls l hp;obtain⟨o,m,B,T,n,e⟩:=Xa ls l hp;obtain⟨l0,l1,l2,l3,l4,l5,l6,l7,l8,rfl⟩:=T_ l;have b1:=hp.rw (2,some c1) (by simp[nc]);have s:=hp.fs ⟨8,0,512⟩ (by simp[nc]);have t:=hp.fs ⟨1,0,0⟩ (by simp[nc]);have u:=hp.fs ⟨0,1,0⟩ (by simp[nc]);have v:=hp.fs ⟨4,0,0⟩ (by simp[nc]);have w:=hp.fs ⟨0,4,1⟩ (by simp[nc]);have y:=hp.fs ⟨24,0,9⟩ (by simp[nc]);simp[Fa.holds,cz]at s t u v w y;have z:∀r∈l2.bm,PE r:=λr g=>Ff (b1 r g)
 have j:∀o,rW [l0,l1,l2,l7]=some o->∃a b c d,o=[a,b,c,d]/\(∀r∈d.bm,PE r)/\d.bm.length<=1000000:=λo A=>by
  obtain⟨C,k1,k2,T,p,i⟩:=JJ [l0,l1,l2,l7] rfl ⟨λf q=>(by simp[qJ]at q;rcases q with rfl|rfl|rfl|rfl|rfl|rfl|rfl<;>simp[Fa.holds,cz]<;>omega),λx h=>(by simp[qJ]at h;subst h;exact b1),λx h=>(by cases h),λx h=>(by cases h)⟩;rw[A]at k1;cases k1;obtain⟨a,b,c,d,rfl⟩:=ZL k2;refine⟨a,b,c,d,rfl,?_⟩;simp only[qJ,dn,iS,or_false]at p;rcases p with rfl|rfl
  .have:=i.rw (7,none) (by simp);have this:d.bm=[]:=this;rw[this];exact⟨λr g=>(by cases g),by simp⟩
  .have q1:=i.rw (7,some c1) (by simp);have q2:=i.fs ⟨23,8,1⟩ (by simp);simp[Fa.holds,cz]at q2;exact⟨λr g=>Ff (q1 r g),om⟩
 obtain⟨a,b,c,rfl,k⟩:=asT z om j m;refine⟨_,m,rfl,?_⟩;simp only[OM,dn,iS,or_false]at n;rcases n with rfl|rfl
 .exact⟨_,(show _∈nc.cases from eJ),e⟩
 .refine⟨_,(show _∈nc.cases from fp _ eJ),⟨e.fs,λx h=>?_,e.bs,e.pr⟩⟩;rw[fO.1 h];intro r g;exact UN (e.rw (11,some c5) (by simp) r g) (k r g)
def LG:So:=⟨138,wX,nc,ahl⟩
theorem amO:ni.ok xk:=by
 intro ls l hp;obtain⟨o,m,B,T,n,e⟩:=Ve ls l hp;obtain⟨l0,l1,l2,l3,l4,l5,l6,l7,l8,rfl⟩:=T_ l;have b1:=hp.rw (2,some c1) (by simp[ni]);have s:=hp.fs ⟨8,0,512⟩ (by simp[ni]);have t:=hp.fs ⟨1,0,0⟩ (by simp[ni]);have u:=hp.fs ⟨0,1,0⟩ (by simp[ni]);have v:=hp.fs ⟨4,0,0⟩ (by simp[ni]);have w:=hp.fs ⟨0,4,1⟩ (by simp[ni]);have y:=hp.fs ⟨24,0,9⟩ (by simp[ni]);simp[Fa.holds,cz]at s t u v w y;have z:∀r∈l2.bm,PE r:=λr g=>Ff (b1 r g)
 have j:∀o,rW [l0,l1,l2,l7]=some o->∃a b c d,o=[a,b,c,d]/\(∀r∈d.bm,PE r)/\d.bm.length<=1000000:=λo A=>by
  obtain⟨C,k1,k2,T,p,i⟩:=JJ [l0,l1,l2,l7] rfl ⟨λf q=>(by simp[qJ]at q;rcases q with rfl|rfl|rfl|rfl|rfl|rfl|rfl<;>simp[Fa.holds,cz]<;>omega),λx h=>(by simp[qJ]at h;subst h;exact b1),λx h=>(by cases h),λx h=>(by cases h)⟩;rw[A]at k1;cases k1;obtain⟨a,b,c,d,rfl⟩:=ZL k2;refine⟨a,b,c,d,rfl,?_⟩;simp only[qJ,dn,iS,or_false]at p;rcases p with rfl|rfl
  .have:=i.rw (7,none) (by simp);have this:d.bm=[]:=this;rw[this];exact⟨λr g=>(by cases g),by simp⟩
  .have q1:=i.rw (7,some c1) (by simp);have q2:=i.fs ⟨23,8,1⟩ (by simp);simp[Fa.holds,cz]at q2;exact⟨λr g=>Ff (q1 r g),om⟩
 obtain⟨a,b,c,rfl,k⟩:=amk z om j m;refine⟨_,m,rfl,?_⟩;simp only[Mi,dn,iS,or_false]at n;rcases n with rfl|rfl
 .exact⟨_,(show _∈ni.cases from eJ),e⟩
 .refine⟨_,(show _∈ni.cases from fp _ eJ),⟨e.fs,λx h=>?_,e.bs,e.pr⟩⟩;rw[fO.1 h];intro r g;exact UN (e.rw (11,some c5) (by simp) r g) (k r g)
def Ts:So:=⟨152,xk,ni,amO⟩
end AI
end
end
end Go.Proofs.YtndegphojkiblaaGreatDoor
