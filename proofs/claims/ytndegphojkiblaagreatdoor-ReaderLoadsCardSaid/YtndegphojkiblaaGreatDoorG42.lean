/- Towards the last file's theorem: part 42. -/
import Derived.Test.YtndegphojkiblaaGreatDoorG13
import Derived.Test.YtndegphojkiblaaGreatDoorG41
set_option linter.all false
set_option maxHeartbeats 4000000
set_option maxRecDepth 100000
namespace Go.Proofs.YtndegphojkiblaaGreatDoor
noncomputable section
section
open Go.RowKit
def tj (Q:List L→Prop) (r:Lf×List L):Prop:=match r with
 | (.jump _ args,ρ')=>Q (args.map (At.ev ρ'))
 |_=>False
theorem vh {f:ad} {ls o:List L} (h:gn (f.aa ls)=some o):f.wp ls (tj fun x=>x=o):=by
 cases hd:f.aa ls with
 |none=>rw[hd]at h;cases h
 |some r=>
  refine⟨r,hd,?_⟩;obtain⟨lf,ρ'⟩:=r;rw[hd]at h
  cases lf with
  |st=>cases h
  |jump k args=>simpa[gn,tj]using h
def nm (r:List PV):cn:=match r with| .sc (.string s)::_=>s|_=>ByteArray.empty
def gX (s:cn):List (List PV)→Nat→Int
 |[],_=> -1
 |r::rs,i=>if(nm r).toList==s.toList then i else gX s rs (i+1)
theorem agq (s:cn):∀{D D':List (List PV)} {i:Nat},D.map nm=D'.map nm→gX s D i=gX s D' i
 |[],[],_,_=>rfl
 |[],_::_,_,h=>by cases h
 |_::_,[],_,h=>by cases h
 |r::D,r'::D',i,h=>by
  simp only[bC,IQ]at h;simp only[gX,h.1,agq s (i:=i+1) h.2]
def FR (r:List PV):Prop:=∃s b p,r=[.sc (.string s),.sl b,.sl p]
theorem Pm {α:Type}:∀{r:List α},r.length=1→∃a,r=[a]
 |[a],_=> ⟨a,rfl⟩
theorem aoZ (l0 l1 l2 l3:L) (hD:∀r∈l2.ah,FR r) (hn:l2.ah.length≤1000000):∃o,sq [l0,l1,l2,l3]=some o∧o=[.i (gX l3.cv l2.ah 0)]:=by
 refine iS ?_;unfold Km;simp only[cu];refine wp_loop (I:=fun a=>∃i:Nat,a=[.i i]∧i≤l2.ah.length∧gX l3.cv l2.ah 0=gX l3.cv (l2.ah.drop i) i) (mu:=fun a=>match a with|[.i i]=>l2.ah.length-i.toNat|_=>0) (by exact⟨0,rfl,om,by simp⟩) ?_;rintro a ⟨i,rfl,e1,e2⟩;by_cases hi:i<l2.ah.length;rotate_left
 · rw[uk om]at e2;simp[jm,jL,jT,ka,jG,jK,jt,jN,iA,jJ,jV,kp,kx,ke,jZ,jU,jI,ju,jP,kz,kA,fi,ck,b_,cu,bF,cr,At.ev,d6,d7,d8,e0,d9,cD,cP,b8,bp,Kd.pv,Kd.of,bC,cj,d1,d2,d3,d4,d5,aJ,hi,e2,gX]
 obtain⟨s,b,p,hr⟩:=hD _ (b9 hi);have hd:l2.ah.drop i=l2.ah[i]::l2.ah.drop (i+1):=zF hi;rw[hd]at e2;simp only[gX,hr,nm]at e2;have w:IntKind.wrap .i64 ((i:Int)+1)=(i:Int)+1:=AI.wrap64 om om;by_cases hs:s.toList=l3.cv.toList
 · rw[au (by simpa using hs)]at e2;simp[jm,jL,jT,ka,jG,jK,jt,jN,iA,jJ,jV,kp,kx,ke,jZ,jU,jI,ju,jP,kz,kA,fi,ck,b_,cu,bF,cr,At.ev,d6,d7,d8,e0,d9,cD,cP,b8,bp,Kd.pv,Kd.of,bC,cj,d1,d2,d3,d4,d5,aJ,hi,hr,sa,hs,e2]
 · rw[aE (by simpa using hs)]at e2;simp[jm,jL,jT,ka,jG,jK,jt,jN,iA,jJ,jV,kp,kx,ke,jZ,jU,jI,ju,jP,kz,kA,fi,ck,b_,cu,bF,cr,At.ev,d6,d7,d8,e0,d9,cD,cP,b8,bp,Kd.pv,Kd.of,bC,cj,d1,d2,d3,d4,d5,aJ,hi,hr,sa,hs,w];exact⟨⟨i+1,om,om,e2⟩,om⟩
theorem WE {l0 l1 l2 l3:L} (hD:∀r∈l2.ah,FR r) (hn:l2.ah.length≤1000000) {o:List L} (h:jF [l0,l1,l2,l3]=some o):∃i e,o=[i,e]∧(e.af=0→i= .i (gX l3.cv l2.ah 0)∧0≤gX l3.cv l2.ah 0):=by
 have h:=vh h;obtain⟨o2,h2,rfl⟩:=aoZ l0 l1 l2 l3 hD hn;unfold z_ at h;simp[jm,jL,jT,ka,jG,jK,jt,jN,iA,jJ,jV,kp,kx,ke,jZ,jU,jI,ju,jP,kz,kA,fi,ck,b_,cu,bF,cr,At.ev,d6,d7,d8,e0,d9,cD,cP,b8,bp,Kd.pv,Kd.of,bC,cj,d1,d2,d3,d4,d5,aJ,h2,tj]at h;obtain⟨l,h3,h4,h5⟩:=h;obtain⟨w,rfl⟩:=Pm h4;simp[jm,jL,jT,ka,jG,jK,jt,jN,iA,jJ,jV,kp,kx,ke,jZ,jU,jI,ju,jP,kz,kA,fi,ck,b_,cu,bF,cr,At.ev,d6,d7,d8,e0,d9,cD,cP,b8,bp,Kd.pv,Kd.of,bC,cj,d1,d2,d3,d4,d5,aJ]at h5;by_cases hw:w.af=0
 · simp[hw]at h5;by_cases hf:gX l3.cv l2.ah 0<0
   · simp[hf]at h5;subst h5;exact⟨_,_,rfl,fun h=>by simp[oY]at h⟩
   · simp[hf]at h5;subst h5;exact⟨_,_,rfl,fun _=> ⟨rfl,om⟩⟩
 · simp[hw]at h5;subst h5;exact⟨_,_,rfl,fun h=>absurd h hw⟩
theorem VM {α:Type}:∀{r:List α},r.length=4→∃a b c d,r=[a,b,c,d]
 |[a,b,c,d],_=> ⟨a,b,c,d,rfl⟩
theorem adh {l0 l1 l2:L} {o:List L} (h:lA [l0,l1,l2]=some o):∃x,o=[x,.r l2.ah]:=by
 have h:=vh h;unfold sS at h;simp[jm,jL,jT,ka,jG,jK,jt,jN,iA,jJ,jV,kp,kx,ke,jZ,jU,jI,ju,jP,kz,kA,fi,ck,b_,cu,bF,cr,At.ev,d6,d7,d8,e0,d9,cD,cP,b8,bp,Kd.pv,Kd.of,bC,cj,d1,d2,d3,d4,d5,aJ,tj]at h;obtain⟨_,h⟩:=h;split at h<;> (subst h;exact⟨_,rfl⟩)
theorem afm {l0 l1 l2 l3:L} (hD:∀r∈l2.ah,FR r) (hn:l2.ah.length≤1000000) {o:List L} (h:qn [l0,l1,l2,l3]=some o):
   ∃a b c d,o=[a,b,c,d]∧(d.ah=[]∨∃q,0≤gX l3.cv l2.ah 0∧d.ah=l2.ah.set (gX l3.cv l2.ah 0).toNat [.sc (.string l3.cv),.sl q,.sl []]):=by
 have h:=vh h;unfold aba at h;rw[fi]at h;obtain⟨l,h1,_,h⟩:=h;obtain⟨i,e,rfl,h2⟩:=WE hD hn h1;by_cases he:e.af=0
 · obtain⟨rfl,h3⟩:=h2 he;simp[jm,jL,jT,ka,jG,jK,jt,jN,iA,jJ,jV,kp,kx,ke,jZ,jU,jI,ju,jP,kz,kA,fi,ck,b_,cu,bF,cr,At.ev,d6,d7,d8,e0,d9,cD,cP,b8,bp,Kd.pv,Kd.of,bC,cj,d1,d2,d3,d4,d5,aJ,tj,he]at h;obtain⟨l',h4,h5,h⟩:=h;obtain⟨x,rfl⟩:=adh h4;simp[jm,jL,jT,ka,jG,jK,jt,jN,iA,jJ,jV,kp,kx,ke,jZ,jU,jI,ju,jP,kz,kA,fi,ck,b_,cu,bF,cr,At.ev,d6,d7,d8,e0,d9,cD,cP,b8,bp,Kd.pv,Kd.of,bC,cj,d1,d2,d3,d4,d5,aJ]at h;obtain⟨_,r,hr,_⟩:=id h;obtain⟨s,b,p,rfl⟩:=hD r (cH hr);simp[hr,Kd.of]at h;obtain⟨_,l3',h6,h7,_,h⟩:=h;obtain⟨c,rfl⟩:=Pm h7;subst h;exact⟨_,_,_,_,rfl,.inr ⟨c.ah,h3,by simp[mA]⟩⟩
 · simp[jm,jL,jT,ka,jG,jK,jt,jN,iA,jJ,jV,kp,kx,ke,jZ,jU,jI,ju,jP,kz,kA,fi,ck,b_,cu,bF,cr,At.ev,d6,d7,d8,e0,d9,cD,cP,b8,bp,Kd.pv,Kd.of,bC,cj,d1,d2,d3,d4,d5,aJ,tj,he]at h;subst h;exact⟨_,_,_,_,rfl,.inl rfl⟩
theorem i1 {nd:Nd} {k:ad} {ρ:List L} {Q:Lf×List L→Prop} (h:(ad.op nd k).wp ρ Q) (hn:nd.n=1):∃v,k.wp (ρ++ [v]) Q:=by
 rw[fI]at h;obtain⟨ls,h1,h2⟩:=h;obtain⟨v,rfl⟩:=Pm ((Nd.Dm h1).trans hn);exact⟨v,h2⟩
def ad.j1:ad→Bool
 | .ar (.jump 0 [_])=>true
 | .op _ k=>ad.j1 k
 | .ite _ a b=>ad.j1 a&&ad.j1 b
 |_=>false
theorem HJ {rest:ad} {ρ:List L} {Q:Lf×List L→Prop}:∀{b:ad} {ρ':List L},ad.j1 b=true→b.wp ρ' (cD rest ρ Q)→∃x,rest.wp (ρ++ [x]) Q
 | .ar (.jump 0 [a]),ρ',_,h=>by rw[b_]at h;exact⟨_,h⟩
 | .ar (.jump 0 []),_,hj,_=>by cases hj
 | .ar (.jump 0 (_::_::_)),_,hj,_=>by cases hj
 | .ar (.jump (_+1) _),_,hj,_=>by cases hj
 | .ar (.st _ _),_,hj,_=>by cases hj
 | .op nd k,ρ',hj,h=>by
  rw[fI]at h;obtain⟨ls,_,h⟩:=h;exact HJ (b:=k) hj h
 | .ite c a b,ρ',hj,h=>by
  simp only[ad.j1,bt]at hj;rw[ck]at h;split at h
  · exact HJ hj.1 h
  · exact HJ hj.2 h
 | .join _ _,_,hj,_=>by cases hj
 | .loop _ _,_,hj,_=>by cases hj
theorem azi {l0 l1 l2 l3 l4 l5 l6:L} (hD:∀r∈l2.ah,FR r) {o:List L} (h:wU [l0,l1,l2,l3,l4,l5,l6]=some o):
   ∃a b c d,o=[a,b,c,d]∧(d.ah=[]∨∃s q p r,l2.ah[l3.af.toNat]? =some r∧nm r=s∧d.ah=l2.ah.set l3.af.toNat [.sc (.string s),.sl q,.sl p]):=by
 have h:=vh h;unfold Tn at h;rw[jt]at h;obtain⟨_,r,hr,_,h⟩:=h;obtain⟨s,b,p,rfl⟩:=hD r (cH hr);simp only[fv,fa]at h;rw[iA]at h;obtain⟨_,ha,_,hb,h⟩:=h;cases ha;cases hb;simp only[fv,fa]at h;rw[iA]at h;obtain⟨_,ha,_,hb,h⟩:=h;cases ha;cases hb;simp only[fv,fa]at h;rw[iA]at h;obtain⟨_,ha,_,hb,h⟩:=h;cases ha;cases hb;simp only[fv,fa]at h;obtain⟨v11,h⟩:=i1 h rfl;obtain⟨v12,h⟩:=i1 h rfl;obtain⟨v13,h⟩:=i1 h rfl;obtain⟨v14,h⟩:=i1 h rfl;obtain⟨v15,h⟩:=i1 h rfl;simp only[fv,fa]at h;rw[ck]at h;split at h
 · rw[b_]at h;cases h;exact⟨_,_,_,_,rfl,.inl rfl⟩
 obtain⟨v16,h⟩:=i1 h rfl;obtain⟨v17,h⟩:=i1 h rfl;obtain⟨v18,h⟩:=i1 h rfl;obtain⟨v19,h⟩:=i1 h rfl;obtain⟨v20,h⟩:=i1 h rfl;obtain⟨v21,h⟩:=i1 h rfl;obtain⟨v22,h⟩:=i1 h rfl;obtain⟨v23,h⟩:=i1 h rfl;obtain⟨v24,h⟩:=i1 h rfl;simp only[fv,fa]at h;rw[cu]at h;obtain⟨v25,h⟩:=HJ rfl h;simp only[fv,fa]at h;rw[ck]at h;split at h
 · rw[b_]at h;cases h;exact⟨_,_,_,_,rfl,.inl rfl⟩
 rw[fi]at h;obtain⟨l,h1,_,h⟩:=h;obtain⟨x,rfl⟩:=adh h1;simp only[fv,fa]at h;obtain⟨v28,h⟩:=i1 h rfl;simp only[fv,fa]at h;rw[ju]at h;obtain⟨r,hr2,_,h⟩:=h;have hr2:l2.ah[l3.af.toNat]? =some r:=hr2;have hr:l2.ah[l3.af.toNat]? =some [PV.sc (Value.string s),PV.sl b,PV.sl p]:=hr;rw[hr]at hr2;cases hr2;rw[b_]at h;cases h;exact⟨_,_,_,_,rfl,.inr ⟨s,b,v21.ah,_,hr,rfl,rfl⟩⟩
theorem V0 {l0 l1 l2 l3 l4:L} (hD:∀r∈l2.ah,FR r) (hn:l2.ah.length≤1000000) {o:List L} (h:gn (Dy.aa [l0,l1,l2,l3,l4])=some o):
   ∃a b c d,o=[a,b,c,d]∧(d.ah=[]∨∃s q p r,l2.ah[(gX l3.cv l2.ah 0).toNat]? =some r∧nm r=s∧d.ah=l2.ah.set (gX l3.cv l2.ah 0).toNat [.sc (.string s),.sl q,.sl p]):=by
 have h:=vh h;unfold Dy at h;rw[fi]at h;obtain⟨l,h1,_,h⟩:=h;obtain⟨i,e,rfl,h2⟩:=WE hD hn h1;simp only[fv,fa]at h;rw[jm]at h;obtain⟨_,ha,h⟩:=h;cases ha;rw[ck]at h;by_cases he:e.af=0;rotate_left
 · rw[au (by simp[At.ev,oY,DF,he])]at h;rw[b_]at h;cases h;exact⟨_,_,_,_,rfl,.inl rfl⟩
 rw[aE (by simp[At.ev,oY,DF,he])]at h;obtain⟨rfl,h3⟩:=h2 he;simp only[fv,fa]at h;obtain⟨v8,h⟩:=i1 h rfl;obtain⟨v9,h⟩:=i1 h rfl;obtain⟨v10,h⟩:=i1 h rfl;obtain⟨v11,h⟩:=i1 h rfl;obtain⟨v12,h⟩:=i1 h rfl;obtain⟨v13,h⟩:=i1 h rfl;simp only[fv,fa]at h;rw[fi]at h;obtain⟨l,h1,_,h⟩:=h;obtain⟨a,b,c,d,rfl,h4⟩:=azi (l0:=l0) (l1:=l1) (l2:=l2) (l3:= .i (gX l3.cv l2.ah 0)) (l4:=v13) (l5:=l4) (l6:= .b false) hD h1;rw[b_]at h;cases h;exact⟨_,_,_,_,rfl,h4⟩
def PE (r:List PV):Prop:=∃s b,r=[.sc (.string s),.sl b,.sl []]
theorem PE.fr {r:List PV} (h:PE r):FR r:=by obtain⟨s,b,rfl⟩:=h;exact⟨s,b,[],rfl⟩
theorem mem_set {α:Type}:∀{l:List α} {i:Nat} {x y:α},y∈l.set i x→y=x∨y∈l
 |[],_,_,_,h=>by cases h
 |a::l,0,x,y,h=>by
  rcases cU.1 h with h|h
  · exact .inl h
  · exact .inr (fb _ h)
 |a::l,i+1,x,y,h=>by
  rcases cU.1 h with h|h
  · exact .inr (by rw[h];exact ek)
  · rcases mem_set (l:=l) h with h|h
    · exact .inl h
    · exact .inr (fb _ h)
theorem agu:∀{D:List (List PV)} {k:Nat} {r x:List PV},D[k]? =some r→nm x=nm r→(D.set k x).map nm=D.map nm
 |[],_,_,_,h,_=>by cases h
 |a::D,0,r,x,h,hx=>by
  cases h;simp only[aiU,bC,hx]
 |a::D,k+1,r,x,h,hx=>by
  simp only[List.set_cons_succ,bC,agu (D:=D) (k:=k) (r:=r) (x:=x) (by simpa using h) hx]
theorem aad {z d2 d3:List (List PV)} {s:cn} (hz:∀r∈z,PE r)
   (h2:d2=[]∨∃s' q p r,z[(gX s z 0).toNat]? =some r∧nm r=s'∧d2=z.set (gX s z 0).toNat [.sc (.string s'),.sl q,.sl p])
   (h4:d3=[]∨∃q,0≤gX s d2 0∧d3=d2.set (gX s d2 0).toNat [.sc (.string s),.sl q,.sl []]):∀r∈d3,PE r:=by
 rcases h4 with rfl| ⟨q,_,rfl⟩
 · intro r hr;cases hr
 rcases h2 with rfl| ⟨s',q',p',r0,h5,h6,rfl⟩
 · intro r hr;simp at hr
 · rw[←agq s (agu h5 (x:=[.sc (.string s'),.sl q',.sl p']) (by rw[h6];rfl)).symm];intro r hr;rw[SZ]at hr;rcases mem_set hr with rfl|hr
   · exact⟨_,_,rfl⟩
   · exact hz r hr
theorem avW {l0 l1 l2 l3 l4 l5 l6 l7 l8:L} (h0:∀r∈l2.ah,PE r) (hn:l2.ah.length≤1000000)
   (wI:∀o,qH [l0,l1,l2,l7]=some o→∃a b c d,o=[a,b,c,d]∧(∀r∈d.ah,PE r)∧d.ah.length≤1000000)
   {o:List L} (h:vj [l0,l1,l2,l3,l4,l5,l6,l7,l8]=some o):∃a b c,o=[a,b,c]∧∀r∈c.ah,PE r:=by
 have h:=vh h;have fin:∀x y z:L,(∀r∈z.ah,PE r)→z.ah.length≤1000000→(ad.op (.call 135 Cc [(.v 9),(.v 10),(.v 11),(.v 7),(.v 8)] 4 []) (.op (.call 130 qn [(.v 13),(.v 14),(.v 15),(.v 7)] 4 []) (.ar (.jump 0 [(.v 17),(.v 18),(.v 19)])))).wp [l0,l1,l2,l3,l4,l5,l6,l7,l8,x,y,z] (tj fun x=>x=o)→∃a b c,o=[a,b,c]∧∀r∈c.ah,PE r:=by
   intro x y z hz Db h;rw[fi]at h;obtain⟨l,h1,_,h⟩:=h;obtain⟨a2,b2,c2,d2,rfl,h2⟩:=V0 (l0:=x) (l1:=y) (l2:=z) (l3:=l7) (l4:=l8) (fun r hr=> (hz r hr).fr) Db h1;simp only[fv,fa]at h;have Dc:(∀r∈d2.ah,FR r)∧d2.ah.length≤1000000:=by
    rcases h2 with h2| ⟨s',q',p',r0,h5,h6,h2⟩
    · rw[h2];exact⟨fun r hr=> (by cases hr),by simp⟩
    · rw[h2];refine⟨fun r hr=> ?_,by rw[zI];exact Db⟩;rcases mem_set hr with rfl|hr
      · exact⟨_,_,_,rfl⟩
      · exact(hz r hr).fr
   rw[fi]at h;obtain⟨l',h3,_,h⟩:=h;obtain⟨a3,b3,c3,d3,rfl,h4⟩:=afm (l0:=b2) (l1:=c2) (l2:=d2) (l3:=l7) Dc.1 Dc.2 h3;rw[b_]at h;cases h;exact⟨_,_,_,rfl,aad hz h2 h4⟩
 unfold PI at h;rw[cu,fi]at h;obtain⟨l,h1,_,h⟩:=h;obtain⟨a,b,c,d,rfl,h2,h3⟩:=wI _ h1;simp only[fv,fa]at h;obtain⟨v13,h⟩:=i1 h rfl;rw[ck]at h;split at h
 · rw[b_]at h;exact fin b c d h2 h3 h
 · rw[b_]at h;exact fin l0 l1 l2 h0 hn h
theorem jXZ:GN=Fo Dy:=kr
theorem ayh {l0 l1 l2 l3 l4 l5 l6 l7 l8:L} (h0:∀r∈l2.ah,PE r) (hn:l2.ah.length≤1000000)
   (wI:∀o,qH [l0,l1,l2,l7]=some o→∃a b c d,o=[a,b,c,d]∧(∀r∈d.ah,PE r)∧d.ah.length≤1000000)
   {o:List L} (h:uq [l0,l1,l2,l3,l4,l5,l6,l7,l8]=some o):∃a b c,o=[a,b,c]∧∀r∈c.ah,PE r:=by
 have h:=vh h;have fin:∀x y z:L,(∀r∈z.ah,PE r)→z.ah.length≤1000000→(ad.op (.call 144 GN [(.v 9),(.v 10),(.v 11),(.v 7),(.v 8)] 4 []) (.op (.call 130 qn [(.v 13),(.v 14),(.v 15),(.v 7)] 4 []) (.ar (.jump 0 [(.v 17),(.v 18),(.v 19)])))).wp [l0,l1,l2,l3,l4,l5,l6,l7,l8,x,y,z] (tj fun x=>x=o)→∃a b c,o=[a,b,c]∧∀r∈c.ah,PE r:=by
   intro x y z hz Db h;rw[fi]at h;obtain⟨l,h1,_,h⟩:=h;obtain⟨a2,b2,c2,d2,rfl,h2⟩:=V0 (l0:=x) (l1:=y) (l2:=z) (l3:=l7) (l4:=l8) (fun r hr=> (hz r hr).fr) Db (by rw[jXZ] at h1;exact h1);simp only[fv,fa]at h;have Dc:(∀r∈d2.ah,FR r)∧d2.ah.length≤1000000:=by
    rcases h2 with h2| ⟨s',q',p',r0,h5,h6,h2⟩
    · rw[h2];exact⟨fun r hr=> (by cases hr),by simp⟩
    · rw[h2];refine⟨fun r hr=> ?_,by rw[zI];exact Db⟩;rcases mem_set hr with rfl|hr
      · exact⟨_,_,_,rfl⟩
      · exact(hz r hr).fr
   rw[fi]at h;obtain⟨l',h3,_,h⟩:=h;obtain⟨a3,b3,c3,d3,rfl,h4⟩:=afm (l0:=b2) (l1:=c2) (l2:=d2) (l3:=l7) Dc.1 Dc.2 h3;rw[b_]at h;cases h;exact⟨_,_,_,rfl,aad hz h2 h4⟩
 unfold Ke at h;rw[cu,fi]at h;obtain⟨l,h1,_,h⟩:=h;obtain⟨a,b,c,d,rfl,h2,h3⟩:=wI _ h1;simp only[fv,fa]at h;obtain⟨v13,h⟩:=i1 h rfl;rw[ck]at h;split at h
 · rw[b_]at h;exact fin b c d h2 h3 h
 · rw[b_]at h;exact fin l0 l1 l2 h0 hn h
namespace AI
theorem FH {r:List PV} (h:AC.dp c1 r):PE r:=by
 obtain⟨q0,q1,q2,rfl⟩:=YI (AC.uJ h);obtain⟨⟨s,rfl,_⟩,⟨b,rfl,_⟩,⟨p,rfl,hp,_⟩,_⟩:=(show AC.ok (.str 9) q0∧AC.ok (.sl 2097152 [.int .u8 0 255]) q1∧AC.ok (.sl 0 []) q2∧AC.dp [] []from h)
 have:p.length=0:=om;rw[iq this];exact⟨s,b,rfl⟩
theorem Z2 {r:List PV} (h:AC.dp c5 r) (hp:PE r):AC.dp c1 r:=by
 obtain⟨s,b,rfl⟩:=hp;obtain⟨h1,h2,_,_⟩:=(show AC.ok (.str 9) (.sc (.string s))∧AC.ok (.sl 2097152 [.int .u8 0 255]) (.sl b)∧AC.ok (.sl 1 c2) (.sl [])∧AC.dp [] []from h)
 exact(show AC.ok (.str 9) (.sc (.string s))∧AC.ok (.sl 2097152 [.int .u8 0 255]) (.sl b)∧AC.ok (.sl 0 []) (.sl [])∧AC.dp [] []from⟨h1,h2,⟨[],rfl,by simp,fun r hr=>by cases hr⟩,trivial⟩)
theorem VK {α:Type}:∀{r:List α},r.length=9→∃a b c d e f g h i,r=[a,b,c,d,e,f,g,h,i]
 |[a,b,c,d,e,f,g,h,i],_=> ⟨a,b,c,d,e,f,g,h,i,rfl⟩
theorem My:lY.ok vj:=by
 intro ls hl hp;obtain⟨o,h1,h2,T,hT,aX⟩:=akh ls hl hp;obtain⟨l0,l1,l2,l3,l4,l5,l6,l7,l8,rfl⟩:=VK hl;have b1:=hp.rw (2,some c1) (by simp[lY]);have a1:=hp.fs ⟨8,0,512⟩ (by simp[lY]);have a2:=hp.fs ⟨1,0,0⟩ (by simp[lY]);have a3:=hp.fs ⟨0,1,0⟩ (by simp[lY]);have a4:=hp.fs ⟨4,0,0⟩ (by simp[lY]);have a5:=hp.fs ⟨0,4,1⟩ (by simp[lY]);have a6:=hp.fs ⟨24,0,9⟩ (by simp[lY]);simp[Fa.holds,bH]at a1 a2 a3 a4 a5 a6;have h0:∀r∈l2.ah,PE r:=fun r hr=>FH (b1 r hr)
 have wI:∀o,qH [l0,l1,l2,l7]=some o→∃a b c d,o=[a,b,c,d]∧(∀r∈d.ah,PE r)∧d.ah.length≤1000000:=fun o ho=>by
   obtain⟨o',k1,k2,T,kT,kok⟩:=DX [l0,l1,l2,l7] rfl ⟨fun f hf=> (by simp[qA]at hf;rcases hf with rfl|rfl|rfl|rfl|rfl|rfl|rfl<;>simp[Fa.holds,bH]<;>omega),fun x hx=> (by simp[qA]at hx;subst hx;exact b1),fun x hx=> (by cases hx),fun x hx=> (by cases hx)⟩;rw[ho]at k1;cases k1;obtain⟨a,b,c,d,rfl⟩:=VM k2;refine⟨a,b,c,d,rfl,?_⟩;simp only[qA,cU,lS,or_false]at kT;rcases kT with rfl|rfl
   · have:=kok.rw (7,none) (by simp);have this:d.ah=[]:=this;rw[this];exact⟨fun r hr=> (by cases hr),by simp⟩
   · have q1:=kok.rw (7,some c1) (by simp);have q2:=kok.fs ⟨23,8,1⟩ (by simp);simp[Fa.holds,bH]at q2;exact⟨fun r hr=>FH (q1 r hr),om⟩
 obtain⟨a,b,c,rfl,Sy⟩:=avW h0 om wI h1;refine⟨_,h1,rfl,?_⟩;simp only[Lc,cU,lS,or_false]at hT;rcases hT with rfl|rfl
 · exact⟨_,(show _∈lY.cases from ek),aX⟩
 · refine⟨_,(show _∈lY.cases from fb _ ek),⟨aX.fs,fun x hx=> ?_,aX.bs,aX.pr⟩⟩;rw[eS.1 hx];intro r hr;exact Z2 (aX.rw (11,some c5) (by simp) r hr) (Sy r hr)
theorem NK:mO.ok uq:=by
 intro ls hl hp;obtain⟨o,h1,h2,T,hT,aX⟩:=aul ls hl hp;obtain⟨l0,l1,l2,l3,l4,l5,l6,l7,l8,rfl⟩:=VK hl;have b1:=hp.rw (2,some c1) (by simp[mO]);have a1:=hp.fs ⟨8,0,512⟩ (by simp[mO]);have a2:=hp.fs ⟨1,0,0⟩ (by simp[mO]);have a3:=hp.fs ⟨0,1,0⟩ (by simp[mO]);have a4:=hp.fs ⟨4,0,0⟩ (by simp[mO]);have a5:=hp.fs ⟨0,4,1⟩ (by simp[mO]);have a6:=hp.fs ⟨24,0,9⟩ (by simp[mO]);simp[Fa.holds,bH]at a1 a2 a3 a4 a5 a6;have h0:∀r∈l2.ah,PE r:=fun r hr=>FH (b1 r hr)
 have wI:∀o,qH [l0,l1,l2,l7]=some o→∃a b c d,o=[a,b,c,d]∧(∀r∈d.ah,PE r)∧d.ah.length≤1000000:=fun o ho=>by
   obtain⟨o',k1,k2,T,kT,kok⟩:=DX [l0,l1,l2,l7] rfl ⟨fun f hf=> (by simp[qA]at hf;rcases hf with rfl|rfl|rfl|rfl|rfl|rfl|rfl<;>simp[Fa.holds,bH]<;>omega),fun x hx=> (by simp[qA]at hx;subst hx;exact b1),fun x hx=> (by cases hx),fun x hx=> (by cases hx)⟩;rw[ho]at k1;cases k1;obtain⟨a,b,c,d,rfl⟩:=VM k2;refine⟨a,b,c,d,rfl,?_⟩;simp only[qA,cU,lS,or_false]at kT;rcases kT with rfl|rfl
   · have:=kok.rw (7,none) (by simp);have this:d.ah=[]:=this;rw[this];exact⟨fun r hr=> (by cases hr),by simp⟩
   · have q1:=kok.rw (7,some c1) (by simp);have q2:=kok.fs ⟨23,8,1⟩ (by simp);simp[Fa.holds,bH]at q2;exact⟨fun r hr=>FH (q1 r hr),om⟩
 obtain⟨a,b,c,rfl,Sy⟩:=ayh h0 om wI h1;refine⟨_,h1,rfl,?_⟩;simp only[QV,cU,lS,or_false]at hT;rcases hT with rfl|rfl
 · exact⟨_,(show _∈mO.cases from ek),aX⟩
 · refine⟨_,(show _∈mO.cases from fb _ ek),⟨aX.fs,fun x hx=> ?_,aX.bs,aX.pr⟩⟩;rw[eS.1 hx];intro r hr;exact Z2 (aX.rw (11,some c5) (by simp) r hr) (Sy r hr)
end AI
end
end
end Go.Proofs.YtndegphojkiblaaGreatDoor
