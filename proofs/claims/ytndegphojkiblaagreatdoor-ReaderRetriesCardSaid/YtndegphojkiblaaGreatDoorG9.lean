/- A part of the proof. -/
import Derived.Test.YtndegphojkiblaaGreatDoorG8
set_option linter.all false
set_option maxHeartbeats 4000000
set_option maxRecDepth 100000
namespace Go.Proofs.YtndegphojkiblaaGreatDoor
noncomputable section
section
open Go.RowKit
open Classical
structure bz where
 nds:List Nd
 v:SV
 e:fL
 rd:List Nat
def dM:fL:=⟨[],[]⟩
def bz.pure (v:SV):bz:=⟨[],v,dM,[]⟩
def bz.aa (ρ:List L) (r:bz):aW:=⟨r.v.aa ρ,r.e.aa ρ,r.rd⟩
abbrev SV.c1 (c:SC):SV:= .v (.c c)
def FU (r:Ty) (cs:List SC):Option SV:=
 if r.agg then(if r.size≤cs.length∧r.info=true then some (.v (.agg (cs.take r.size)))else none)
 else match r.some,cs with
  |true,c::_=>some (.c1 c)
  |_,_=>none
theorem Qh {P} {t} {cs} {v} (ρ) (h:FU (eK P t) cs=some v):kO P t (cs.map (SC.aa ρ))=some (v.aa ρ):=by
 unfold FU at h;unfold kO;have e1:(eK P t).agg=nz P t:=rfl;have e2:(eK P t).size=da P t:=rfl;have e3:(eK P t).info=mH P t:=rfl;have e4:(eK P t).some=A7 P t:=rfl;rw[e1,e2,e3,e4]at h;split at h
 · split at h
   · cases h;simp_all[SV.aa,aF.aa]
   · cases h
 · rename_i ha;rw[aC ha];split at h
   · rename_i c l hs;cases h;simp only[cu,hs];rfl
   · cases h
def ia (m:Nat):List Kd→List SC
 |[]=> []
 |k::ks=> .p k (.v m)::ia (m+1) ks
def JJ (x i:At):Nat→List Kd→List Nd
 |_,[]=> []
 |j,k::ks=> .rc x i j k::JJ x i (j+1) ks
def w_ (x:At):Nat→List Kd→List Nd
 |_,[]=> []
 |j,k::ks=> .cl x j k::w_ x (j+1) ks
theorem RX:∀(ks:List Kd) (m:Nat),(ia m ks).length=ks.length
 |[],_=>rfl
 |_::ks,m=>by simp[ia,RX ks]
theorem Zq {ρ} {x i}:∀{ks} {m j} {r},(x.ev ρ).az[(i.ev ρ).ah.toNat]? =some r→Sat ρ m (JJ x i j ks)→
  (ia m ks).map (SC.aa ρ)=((r.drop j).map C.p).take ks.length∧ks.length≤(r.drop j).length
 |[],_,_,_,_,_=>by simp[ia]
 | k ::ks,m,j,r,hr,h=>by
  obtain⟨⟨ls,h1,h2⟩,h3⟩:=h;simp only[Nd.ev,hr]at h1;split at h1
  · rename_i q hq;simp only[aT]at h1;obtain⟨l,h4,rfl⟩:=h1;obtain⟨h5,h6⟩:=Zq hr h3;have hd:r.drop j=q::r.drop (j+1):=by
     obtain⟨hlt,he⟩:=dr.1 hq;rw[←he];exact zj hlt
    have h7:=h2 0 (by simp[Nd.n]);simp only[kS,rH]at h7;refine⟨?_,by simp_all⟩;simp only[ia,cu,hd,ir,abM];have Cl:(ia (m+1) ks).map (SC.aa ρ)=((r.drop (j+1)).map C.p).take ks.length:=h5;rw[Cl];simp only[SC.aa,At.ev,h7,fx,Kd.Gb h4]
  · cases h1
theorem Nb {ρ} {x}:∀{ks} {m j},Sat ρ m (w_ x j ks)→
  (ia m ks).map (SC.aa ρ)=(((x.ev ρ).jk.drop j).map C.p).take ks.length∧ks.length≤((x.ev ρ).jk.drop j).length
 |[],_,_,_=>by simp[ia]
 | k ::ks,m,j,h=>by
  obtain⟨⟨ls,h1,h2⟩,h3⟩:=h;simp only[Nd.ev]at h1;split at h1
  · rename_i q hq;simp only[aT]at h1;obtain⟨l,h4,rfl⟩:=h1;obtain⟨h5,h6⟩:=Nb h3;have hd:(x.ev ρ).jk.drop j=q::(x.ev ρ).jk.drop (j+1):=by
     obtain⟨hlt,he⟩:=dr.1 hq;rw[←he];exact zj hlt
    have h7:=h2 0 (by simp[Nd.n]);simp only[kS,rH]at h7;refine⟨?_,by simp_all⟩;simp only[ia,cu,hd,ir,abM];have Cl:(ia (m+1) ks).map (SC.aa ρ)=(((x.ev ρ).jk.drop (j+1)).map C.p).take ks.length:=h5;rw[Cl];simp only[SC.aa,At.ev,h7,fx,Kd.Gb h4]
  · cases h1
def sL (r:Ty) (ks:List Kd) (m:Nat):Option SV:=
 if r.agg then(if ks.length=r.size∧r.info=true then some (.v (.agg (ia m ks)))else none)
 else match r.some,ks with
  |true,[k]=>some (.c1 (.p k (.v m)))
  |_,_=>none
theorem Q0 {P} {t} {ks} {m} {v} {ρ} {cs:List PV} (h:sL (eK P t) ks m=some v) (h1:(ia m ks).map (SC.aa ρ)=(cs.map C.p).take ks.length) (h2:ks.length≤cs.length):
   kO P t (cs.map C.p)=some (v.aa ρ):=by
 unfold sL at h;unfold kO;have e1:(eK P t).agg=nz P t:=rfl;have e2:(eK P t).size=da P t:=rfl;have e3:(eK P t).info=mH P t:=rfl;have e4:(eK P t).some=A7 P t:=rfl;rw[e1,e2,e3,e4]at h;split at h
 · rename_i ha;rw[ay ha];split at h
   · rename_i hc;cases h;rw[ay ⟨by simp_all,hc.2⟩,←hc.1,←h1];rfl
   · cases h
 · rename_i ha;rw[aC ha];split at h
   · rename_i k hs;cases h
     cases cs with
     |nil=>simp at h2
     |cons q qs=>
      simp[ia]at h1;simp only[cu,hs];rw[←h1];rfl
   · cases h
def C1 (cs:List SC) (off m:Nat):Nat→Nat→Option (Kd×List At)
 |_,0=>none
 | k,c+1=>match cs[off+k*m]? with
  |some (.p kd a)=>if c=0 then some (kd,[a])else match C1 cs off m (k+1) c with
   |some (kd',as)=>if kd=kd' then some (kd,a::as)else none
   |none=>none
  |_=>none
theorem Ue {cs:List SC} {off m:Nat}:∀{c k:Nat} {kd:Kd} {as:List At},C1 cs off m k c=some (kd,as)→∀(i:Nat) (a:At),as[i]? =some a→cs[off+(k+i)*m]? =some (.p kd a)
 |0,_,_,_,h=>by cases h
 |c+1,k,kd,as,h=>by
  intro i a hi;simp only[C1]at h;split at h
  · rename_i kd0 a0 hc;split at h
    · cases h
      cases i with
      |zero=>simp at hi;subst hi;exact hc
      |succ i=>simp at hi
    · split at h
      · rename_i kd' as' hr;split at h
        · rename_i hk;subst hk;cases h
          cases i with
          |zero=>simp at hi;subst hi;exact hc
          |succ i=>
           have:=Ue hr i a (by simpa using hi);rw[show k+(i+1)=k+1+i by omega];exact this
        · cases h
      · cases h
  · cases h
def BV (cs:List SC) (off bS m:Nat) (i:At):Nat→Nat→Option (List Kd×List Nd)
 |_,0=>some ([],[])
 |j,c+1=>match C1 cs (off+j) m 0 bS,BV cs off bS m i (j+1) c with
  |some (kd,as),some (ks,nds)=>some (kd::ks,.fH as i::nds)
  |_,_=>none
theorem LZ {ρ:List L} {cs:List SC} {off bS m:Nat} {i:At}:∀{c j b:Nat} {ks:List Kd} {nds:List Nd},BV cs off bS m i j c=some (ks,nds)→Sat ρ b nds→
  ks.length=c∧∀jj,jj<c→∃k a,ks[jj]? =some k∧cs[off+j+jj+(i.ev ρ).ah.toNat*m]? =some (.p k a)∧a.ev ρ=At.ev ρ (.v (b+jj))
 |0,_,_,_,_,h,_=>by cases h;simp_all
 | c + 1,j,b,ks,nds,h,hs=>by
  simp only[BV]at h;split at h
  · rename_i kd as ks' Cx h1 h2;cases h;obtain⟨⟨ls,h3,h4⟩,h5⟩:=hs;obtain⟨h6,h7⟩:=LZ h2 h5;refine⟨by simp[h6],fun jj hj=> ?_⟩
    cases jj with
    |zero=>
     simp only[Nd.ev]at h3;split at h3
     · rename_i a ha;cases h3;have:=Ue h1 _ a ha;refine⟨kd,a,rfl,by simpa using this,?_⟩;have h8:=h4 0 (by simp[Nd.n]);simp only[At.ev,h8];rfl
     · cases h3
    |succ jj=>
     obtain⟨k,a,k1,k2,k3⟩:=h7 jj om;refine⟨k,a,by simpa using k1,?_,?_⟩
     · rw[show off+j+(jj+1)=off+(j+1)+jj by omega];exact k2
     · rw[k3];simp only[Nd.n];rw[show b+1+jj=b+(jj+1)by omega]
  · cases h
theorem SS:∀{ks} {m jj:Nat} {k},ks[jj]? =some k→(ia m ks)[jj]? =some (.p k (.v (m+jj)))
 |[],_,_,_,h=>by simp at h
 | k0::ks,m,jj,k,h=>by
  cases jj with
  |zero=>simp at h;subst h;rfl
  |succ jj=>
   have:=SS (m:=m+1) (ks:=ks) (by simpa using h);simp only[ia,H0];rw[this];congr 3;omega
def MZ (T:aU) (S:af) (t:a6) (x:bD):Option bz:=
 match S.arg x,List.lookup t T with
 |some (.v (.c (.ptr n off))),some r=>match List.lookup n S.heap with
  |some (.box cs)=> (FU r (cs.drop off)).map bz.pure
  |_=>none
 | some (.v (.c (.gy n off bS m i))),some r=>match List.lookup n S.heap with
  |some (.box cs)=>match BV cs off bS m i 0 (if r.agg then r.size else 1)with
   |some (ks,nds)=> (sL r ks S.nv).map fun v=> ⟨nds,v,dM,[]⟩
   |none=>none
  |_=>none
 |some (.v (.c (.cE n i j))),some r=>match List.lookup n S.heap,r.nu with
  |some (.row _ x),some (k::ks)=> (sL r (k::ks) S.nv).map fun v=> ⟨JJ x i j (k::ks),v,dM,[]⟩
  |_,_=>none
 |some (.v (.c (.ref x j))),some r=>match r.nu with
  |some ks=> (sL r ks S.nv).map fun v=> ⟨w_ x j ks,v,dM,[]⟩
  |none=>none
 |_,_=>none
theorem dE (ρ) (S:af) (n):(S.aa ρ).heap.lookup n=(List.lookup n S.heap).map (SB.aa ρ):=bY.ED ρ S.heap n
theorem QX {P} {t} {cs:List SC} {off m b} {i:At} {ρ} {ks} {v} (hp:sL (eK P t) ks b=some v) (hc:ks.length=if(eK P t).agg then(eK P t).size else 1)
   (hg:∀jj,jj<ks.length→∃k a,ks[jj]? =some k∧cs[off+jj+(i.ev ρ).ah.toNat*m]? =some (.p k a)∧a.ev ρ=At.ev ρ (.v (b+jj))):kO P t ((cs.map (SC.aa ρ)).drop (off+(i.ev ρ).ah.toNat*m))=some (v.aa ρ):=by
 have hcell:∀jj,jj<ks.length→((cs.map (SC.aa ρ)).drop (off+(i.ev ρ).ah.toNat*m))[jj]? =((ia b ks).map (SC.aa ρ))[jj]?:=by
   intro jj hj;obtain⟨k,a,h1,h2,h3⟩:=hg jj hj;rw[wi,bV,bV,SS h1,show off+(i.ev ρ).ah.toNat*m+jj=off+jj+(i.ev ρ).ah.toNat*m by omega,h2];simp only[aV,SC.aa,h3]
 have hlen:ks.length≤((cs.map (SC.aa ρ)).drop (off+(i.ev ρ).ah.toNat*m)).length:=by
   rcases Nat.eq_zero_or_pos ks.length with h0|h0
   · omega
   · obtain⟨k,a,h1,h2,h3⟩:=hg (ks.length-1) om;have:=(dr.1 h2).1;simp;omega
 unfold sL at hp;unfold kO;have e1:(eK P t).agg=nz P t:=rfl;have e2:(eK P t).size=da P t:=rfl;have e3:(eK P t).info=mH P t:=rfl;have e4:(eK P t).some=A7 P t:=rfl;rw[e1,e2,e3,e4]at hp;rw[e1,e2]at hc;split at hp
 · rename_i ha;rw[ay ha];rw[ay ha]at hc;split at hp
   · rename_i h2;cases hp;rw[ay ⟨om,h2.2⟩,←hc];congr 3;apply zh;intro jj;rw[ti];split
     · rename_i hj;exact hcell jj hj
     · symm;simp[RX];omega
   · cases hp
 · rename_i ha;rw[aC ha];split at hp
   · rename_i k hs;cases hp;have h0:=hcell 0 (by simp)
     cases hd:(cs.map (SC.aa ρ)).drop (off+(i.ev ρ).ah.toNat*m)with
     |nil=>simp_all
     | cons c l=>
       rw[hd]at h0;simp[ia]at h0;simp only[hs];rw[h0];rfl
   · cases hp
section
variable {P:bB} {T:aU} {S:af} {ρ:List L}
theorem aix (hT:aU.ok P T) {t} {x} {r} (h:MZ T S t x=some r) (hs:Sat ρ S.nv r.nds):(qA P (S.aa ρ) t x).map aW.pure=some (r.aa ρ):=by
 unfold MZ at h;split at h
 · rename_i n off row hx hr;have:=hT _ _ hr;subst this;split at h
   · rename_i cs hl;simp only[aT]at h;obtain⟨v,h1,rfl⟩:=h;simp only[qA,af.bH ρ hx,dE,hl,aV,SB.aa,SV.aa,aF.aa,SC.aa];rw[←ml,Qh ρ h1];rfl
   · cases h
 · rename_i n off bS m i row hx hr;have:=hT _ _ hr;subst this;split at h
   · rename_i cs hl;split at h
     · rename_i ks nds hc;simp only[aT]at h;obtain⟨v,h1,rfl⟩:=h;simp only[qA,af.bH ρ hx,dE,hl,aV,SB.aa,SV.aa,aF.aa,SC.aa];obtain⟨h2,h3⟩:=LZ hc hs;rw[QX h1 h2 (fun jj hj=>by
         simp_all)]
       rfl
     · cases h
   · cases h
 · rename_i n i j row hx hr;have:=hT _ _ hr;subst this;split at h
   · rename_i e xr k ks hl hk;simp only[aT]at h;obtain⟨v,h1,rfl⟩:=h;simp only[qA,af.bH ρ hx,dE,hl,aV,SB.aa,SV.aa,aF.aa,SC.aa];have hrow:∃rr,(xr.ev ρ).az[(i.ev ρ).ah.toNat]? =some rr:=by
       obtain⟨⟨ls,h2,_⟩,_⟩:=hs;simp only[Nd.ev]at h2;split at h2
       · simp_all
       · cases h2
     obtain⟨rr,pJ⟩:=hrow;obtain⟨h2,h3⟩:=Zq pJ hs;rw[pJ];simp only[ml]at h2⊢;rw[←ml,Q0 h1 (by rw[←ml]at h2;exact h2) h3];rfl
   · cases h
 · rename_i xr j row hx hr;have:=hT _ _ hr;subst this;split at h
   · simp only[aT]at h;obtain⟨v,h1,rfl⟩:=h;simp only[qA,af.bH ρ hx,SV.aa,aF.aa,SC.aa];obtain⟨h2,h3⟩:=Nb hs;rw[Q0 h1 h2 h3];rfl
   · cases h
 · cases h
end
def KA (T:aU) (S:af) (t:a6) (x:bD) (f:Nat):Option bz:=
 match S.arg x,List.lookup t T with
 | some (.v (.c c)),some r=>match r.fields[f]? with
  |some (some k)=>match c with
   | .ptr n off=>some (.pure (.c1 (.ptr n (off+k))))
   | .gy n off bS m i=>some (.pure (.c1 (.gy n (off+k) bS m i)))
   | .cE n i j=>some (.pure (.c1 (.cE n i (j+k))))
   | .ref x j=>some (.pure (.c1 (.ref x (j+k))))
   |_=>none
  |_=>none
 |_,_=>none
def I5 (T:aU) (S:af) (t:a6) (x i:bD):Option bz:=
 match S.arg i,S.arg x,List.lookup t T with
 | some (.v (.c (.p (.int _) ai))),some (.v (.c c)),some r=>match c with
  | .ptr n off=>match r.arr with
   | some (bS,e)=>match List.lookup e T with
    |some re=>match ai with
     | .i k=>if 0≤k∧k<bS then some (.pure (.c1 (.ptr n (off+k.toNat*re.size))))else none
     |ai=>some ⟨[.dD ai bS],.c1 (.gy n off bS re.size ai),dM,[]⟩
    |none=>none
   |none=>none
  | .cE n i0 j=>match r.arr,ai with
   |some (bS,e),.i k=>match List.lookup e T with
    |some re=>if 0≤k∧k<bS then some (.pure (.c1 (.cE n i0 (j+k.toNat*re.size))))else none
    |none=>none
   |_,_=>none
  | .ref x j=>match r.arr,ai with
   |some (bS,e),.i k=>match List.lookup e T with
    |some re=>if 0≤k∧k<bS then some (.pure (.c1 (.ref x (j+k.toNat*re.size))))else none
    |none=>none
   |_,_=>none
  | .own n=>match r.elem with
   |some e=>match List.lookup n S.heap,List.lookup e T with
    |some (.row _ x),some re=>some ⟨[.row x ai re.size],.c1 (.cE n ai 0),dM,[]⟩
    |_,_=>none
   |none=>none
  | .sub n lo ln=>match r.elem with
   |some e=>match List.lookup n S.heap,List.lookup e T with
    |some (.row _ x),some re=>some ⟨[.jS x lo ln ai re.size],.c1 (.cE n (.v S.nv) 0),dM,[]⟩
    |_,_=>none
   |none=>none
  | .p .sl x=>match r.elem with
   |some e=>match List.lookup e T with
    |some re=>some ⟨[.row x ai re.size],.c1 (.ref (.v S.nv) 0),dM,[]⟩
    |none=>none
   |none=>none
  |_=>none
 |_,_,_=>none
section
variable {P:bB} {T:aU} {S:af} {ρ:List L}
theorem aey (hT:aU.ok P T) {t} {x} {f} {r} (h:KA T S t x f=some r):(p6 P (S.aa ρ) t x f).map aW.pure=some (r.aa ρ):=by
 unfold KA at h;split at h
 · rename_i c row hx hr;have:=hT _ _ hr;subst this;split at h
   · rename_i k hk;have hf:=Ty.akm hk;have hx':=af.bH ρ hx;split at h
     · cases h;simp only[p6,hx',hf,SV.aa,aF.aa,SC.aa];rfl
     · cases h;simp only[p6,hx',hf,SV.aa,aF.aa,SC.aa];simp only[aV,aW.pure,bz.aa,bz.pure,SV.aa,aF.aa,SC.aa,Nat.add_right_comm];rfl
     · cases h;simp only[p6,hx',hf,SV.aa,aF.aa,SC.aa];rfl
     · cases h;simp only[p6,hx',hf,SV.aa,aF.aa,SC.aa];simp only[aV,aW.pure,bz.aa,bz.pure,SV.aa,aF.aa,SC.aa,List.drop_drop];rfl
     · cases h
   · cases h
 · cases h
theorem Sat.du {m} {nd} {nds} (h:Sat ρ m (nd::nds)) (hn:nd.n=1):∃l,nd.ev ρ=some [l]∧At.ev ρ (.v m)=l:=by
 obtain⟨⟨ls,h1,h2⟩,_⟩:=h;have hl:=Nd.ML h1;rw[hn]at hl
 match ls,hl with
 |[l],_=>
  refine⟨l,h1,?_⟩;have:=h2 0 om;simp only[kS]at this;simp only[At.ev,this];rfl
theorem awp (hT:aU.ok P T) {t} {x i} {r} (h:I5 T S t x i=some r) (hs:Sat ρ S.nv r.nds):(mJ P (S.aa ρ) t x i).map aW.pure=some (r.aa ρ):=by
 unfold I5 at h;split at h
 · rename_i k ai c row hi hx hr;have:=hT _ _ hr;subst this;have hi':(S.aa ρ).arg i=some (.v (.c (.p (.sc (.int k (ai.ev ρ).ah))))):=af.bH ρ hi;have hx':=af.bH ρ hx;have sz:∀{e:a6} {re:Ty},List.lookup e T=some re→re.size=da P e:=fun he=>by rw[hT _ _ he];rfl
   split at h
   · split at h
     · rename_i bS e lF;have y9:kT P t=some (bS,e):=lF;split at h
       · rename_i re he;split at h
         · split at h
           · rename_i hc;cases h;simp only[mJ,hi',hx',SV.aa,aF.aa,SC.aa,y9,At.ev,L.ah];rw[jv (by simpa using hc)];simp only[aV,aW.pure,bz.aa,bz.pure,SV.aa,aF.aa,SC.aa,sz he];rfl
           · cases h
         · cases h;obtain⟨⟨ls,h1,_⟩,_⟩:=hs;simp only[Nd.ev]at h1;split at h1
           · rename_i hc;simp only[mJ,hi',hx',SV.aa,aF.aa,SC.aa,y9];rw[jv hc];simp only[aV,aW.pure,bz.aa,SV.aa,aF.aa,SC.aa,sz he];rfl
           · cases h1
       · cases h
     · cases h
   · split at h
     · rename_i bS e c lF;have y9:kT P t=some (bS,e):=lF;split at h
       · rename_i re he;split at h
         · rename_i hc;cases h;simp only[mJ,hi',hx',SV.aa,aF.aa,SC.aa,y9,At.ev,L.ah];rw[jv (by simpa using hc)];simp only[aV,aW.pure,bz.aa,bz.pure,SV.aa,aF.aa,SC.aa,sz he];rfl
         · cases h
       · cases h
     · cases h
   · split at h
     · rename_i bS e c lF;have y9:kT P t=some (bS,e):=lF;split at h
       · rename_i re he;split at h
         · rename_i hc;cases h;simp only[mJ,hi',hx',SV.aa,aF.aa,SC.aa,y9,At.ev,L.ah];rw[jv (by simpa using hc)];simp only[aV,aW.pure,bz.aa,bz.pure,SV.aa,aF.aa,SC.aa,sz he,List.drop_drop];rfl
         · cases h
       · cases h
     · cases h
   · split at h
     · rename_i e cW;have il:eO P t=some e:=cW;split at h
       · rename_i e' xr re hl he;cases h;obtain⟨l,h1,_⟩:=hs.du rfl;simp only[Nd.ev]at h1;split at h1
         · rename_i h0;split at h1
           · rename_i rr pJ;split at h1
             · rename_i hlen;simp only[mJ,hi',hx',SV.aa,aF.aa,SC.aa,il,av.elem,dE,hl,aV,SB.aa,pJ];rw[jv h0,←sz he,ay hlen];rfl
             · cases h1
           · cases h1
         · cases h1
       · cases h
     · cases h
   · split at h
     · rename_i e cW;have il:eO P t=some e:=cW;split at h
       · rename_i e' xr re hl he;cases h;obtain⟨l,h1,h2⟩:=hs.du rfl;simp only[Nd.ev]at h1;split at h1
         · rename_i h0;split at h1
           · rename_i rr pJ;split at h1
             · rename_i hlen;cases h1;simp only[mJ,hi',hx',SV.aa,aF.aa,SC.aa,il,av.elem,dE,hl,aV,SB.aa,pJ];rw[jv h0,←sz he,ay hlen];simp only[aV,aW.pure,bz.aa,SV.aa,aF.aa,SC.aa,h2,L.ah,fA];rfl
             · cases h1
           · cases h1
         · cases h1
       · cases h
     · cases h
   · split at h
     · rename_i e cW;have il:eO P t=some e:=cW;split at h
       · rename_i re he;cases h;obtain⟨l,h1,h2⟩:=hs.du rfl;simp only[Nd.ev]at h1;split at h1
         · rename_i h0;split at h1
           · rename_i rr pJ;split at h1
             · rename_i hlen;cases h1;simp only[mJ,hi',hx',SV.aa,aF.aa,SC.aa,Kd.pv,il,av.elem,pJ];rw[jv h0,←sz he,ay hlen];simp only[aV,aW.pure,bz.aa,SV.aa,aF.aa,SC.aa,h2,L.jk,zk];rfl
             · cases h1
           · cases h1
         · cases h1
       · cases h
     · cases h
   · cases h
 · cases h
def af.sink (S:af):SC→Option ((Kd×At)×List Nat)
 | .p k x=>some ((k,x),[])
 | .nil=>some ((.sl,.r0),[])
 | .own n=>match List.lookup n S.heap with
  |some (.row _ x)=>some ((.sl,x),[n])
  |_=>none
 |_=>none
def af.sinks (S:af):List SC→Option (List (Kd×At)×List Nat)
 |[]=>some ([],[])
 |c::cs=>match S.sink c,S.sinks cs with
  |some (q,ns),some (qs,ms)=>some (q::qs,ns++ms)
  |_,_=>none
theorem af.ajv {c} {q} {ns} (h:S.sink c=some (q,ns)):(S.aa ρ).sink (c.aa ρ)=some (q.1.pv (q.2.ev ρ),ns):=by
 cases c with
 |p k x=>cases h;rfl
 |nil=>cases h;rfl
 |own n=>
  simp only[af.sink]at h;split at h
  · rename_i e x hl;cases h;simp only[SC.aa,av.sink,dE,hl,aV,SB.aa];rfl
  · cases h
 |_=>cases h
theorem af.Nc:∀{cs:List SC} {qs:List (Kd×At)} {ns:List Nat},S.sinks cs=some (qs,ns)→(S.aa ρ).sinks (cs.map (SC.aa ρ))=some (cb ρ qs,ns)
 |[],_,_,h=>by cases h;rfl
 |c::cs,qs,ns,h=>by
  simp only[af.sinks]at h;split at h
  · rename_i q ns1 qs1 ms h1 h2;cases h;simp only[cu,av.sinks,af.ajv h1,af.Nc h2];rfl
  · cases h
def aF.cells:aF→List SC
 | .c x=> [x]
 | .agg xs=>xs
theorem aF.A8 (x:aF):(x.aa ρ).cells=x.cells.map (SC.aa ρ):=by cases x<;>rfl
def Ig (T:aU) (S:af) (t:a6) (x y:bD):Option bz:=
 match S.arg x,S.arg y,List.lookup t T with
 |some (.v (.c (.ptr n off))),some (.v y),some r=>match List.lookup n S.heap with
  |some (.box cs)=>if y.cells.length=r.size∧off+y.cells.length≤cs.length∧r.info=true then some ⟨[],.c1 .dead,⟨[(n,.box (cs.take off++y.cells++cs.drop (off+y.cells.length)))],[]⟩,[]⟩else none
  |_=>none
 |some (.v (.c (.cE n i j))),some (.v y),some r=>match List.lookup n S.heap,S.sinks y.cells with
  |some (.row e x),some (ps,ns)=>if ps.length=r.size∧r.info=true∧n∉ns then some ⟨[.set x i j ps],.c1 .dead,⟨[(n,.row e (.v S.nv))],ns⟩,[]⟩else none
  |_,_=>none
 |_,_,_=>none
theorem avf (hT:aU.ok P T) {t} {x y} {r} (h:Ig T S t x y=some r) (hs:Sat ρ S.nv r.nds):(vj P (S.aa ρ) t x y).map (fun e=> (⟨.c .dead,e,[]⟩:aW))=some (r.aa ρ):=by
 unfold Ig at h;split at h
 · rename_i n off y1 row hx hy hr;have:=hT _ _ hr;subst this;split at h
   · rename_i cs hl;split at h
     · rename_i hc;cases h;have hx':(S.aa ρ).arg x=some (.v (.c (.ptr n off))):=af.bH ρ hx;have hy':(S.aa ρ).arg y=some (.v (y1.aa ρ)):=af.bH ρ hy;simp only[vj,hx',hy',dE,hl,aV,SB.aa,aF.A8,aA];rw[ay ⟨hc.1,hc.2.1,hc.2.2⟩];simp only[aV,bz.aa,fL.aa,bY.aa,cu,iv,SB.aa,dk,nk,ml];rfl
     · cases h
   · cases h
 · rename_i n i j y1 row hx hy hr;have:=hT _ _ hr;subst this;split at h
   · rename_i e xr ps ns hl hsk;split at h
     · rename_i hc;cases h;have hx':(S.aa ρ).arg x=some (.v (.c (.cE n (i.ev ρ).ah.toNat j))):=af.bH ρ hx;have hy':(S.aa ρ).arg y=some (.v (y1.aa ρ)):=af.bH ρ hy;obtain⟨l,h1,h2⟩:=hs.du rfl;simp only[Nd.ev]at h1;split at h1
       · rename_i rr pJ;split at h1
         · rename_i gS;cases h1;simp only[vj,hx',hy',dE,hl,aV,SB.aa,aF.A8,af.Nc hsk,pJ];have hpl:(cb ρ ps).length=ps.length:=by simp[cb]
           rw[hpl,ay ⟨hc.1,gS,hc.2.1,hc.2.2⟩];simp only[aV,bz.aa,fL.aa,bY.aa,cu,iv,SB.aa,h2,L.az];rfl
         · cases h1
       · cases h1
     · cases h
   · cases h
 · cases h
end
def af.num (S:af) (o:Option bD) (d:At):Option At:=match o with
 |none=>some d
 |some o=>match S.arg o with
  |some (.v (.c (.p (.int _) a)))=>some a
  |_=>none
def af.view (S:af) (m:Nat):SC→Option (List Nd×At)
 | .p .sl x=>some ([],x)
 | .nil=>some ([],.r0)
 | .own n=>match List.lookup n S.heap with
  |some (.row _ x)=>some ([],x)
  |_=>none
 | .sub n lo ln=>match List.lookup n S.heap with
  |some (.row _ x)=>some ([.vw x lo ln],.v m)
  |_=>none
 |_=>none
def Dr (l h v:At):At:=match l,h with
 | .i 0,.i 0=> .i 0
 |_,_=>v
theorem ayg {ρ} {l h v} (hv:v.ev ρ= .i (((h.ev ρ).ah.toNat- (l.ev ρ).ah.toNat:Nat):Int)):(Dr l h v).ev ρ= .i (((h.ev ρ).ah.toNat- (l.ev ρ).ah.toNat:Nat):Int):=by
 unfold Dr;split
 · rfl
 · exact hv
def LM (T:aU) (S:af) (t:a6) (x:bD) (lo hi:Option bD):Option bz:=
 match S.arg x,List.lookup t T,S.num lo (.i 0)with
 | some (.v (.c c)),some r,some l=>match c with
  | .p .str a=>if r.tO then match S.num hi (.v S.nv)with
    |some h=>some ⟨[.qk a,.I6 a l h],.c1 (.p .str (.v (S.nv+1))),dM,[]⟩
    |none=>none
   else none
  | .p .sl a=>match r.elem with
   |some e=>match List.lookup e T,S.num hi (.v S.nv)with
    |some re,some h=>some ⟨[.len a,.part a l h re.size],.c1 (.p .sl (.v (S.nv+1))),dM,[]⟩
    |_,_=>none
   |none=>none
  | .own n=>match r.elem,List.lookup n S.heap with
   |some e,some (.row _ a)=>match List.lookup e T,S.num hi (.v S.nv)with
    |some re,some h=>some ⟨[.len a,.cut a l h re.size],.c1 (.sub n l (Dr l h (.v (S.nv+1)))),dM,[]⟩
    |_,_=>none
   |_,_=>none
  | .sub n l0 ln=>match r.elem,List.lookup n S.heap with
   |some e,some (.row _ a)=>match List.lookup e T,S.num hi ln with
    |some re,some h=>some ⟨[.Eu a l0 ln l h re.size],.c1 (.sub n (.v S.nv) (.v (S.nv+1))),dM,[]⟩
    |_,_=>none
   |_,_=>none
  | .nil=>match r.elem with
   |some e=>match List.lookup e T,S.num hi (.i 0)with
    |some re,some h=>some ⟨[.cut .r0 l h re.size],.c1 .nil,dM,[]⟩
    |_,_=>none
   |none=>none
  |_=>none
 |_,_,_=>none
def af.gw (S:af) (e:a6) (m:Nat):SC→Option (List Nd×At×List Nat)
 | .nil=>some ([],.r0,[])
 | .own n=>match List.lookup n S.heap with
  |some (.row e' x)=>if e'=e then some ([],x,[n])else none
  |_=>none
 | .sub n (.i 0) ln=>match List.lookup n S.heap with
  |some (.row e' x)=>if e'=e then some ([.tk x ln],.v m,[n])else none
  |_=>none
 |_=>none
def uq (T:aU) (S:af) (d:Nat) (t:a6) (s x:bD):Option bz:=
 match S.arg s,S.arg x,(List.lookup t T).bind Ty.elem with
 | some (.v (.c cs)),some (.v (.c cx)),some e=>match(List.lookup e T).bind Ty.app,S.gw e S.nv cs with
  |some (n,b),some (nds,a,ms)=>match S.view (S.nv+fM nds) cx with
   |some (Cx,a')=>some ⟨nds++Cx++ [.app a a' n b],.c1 (.own d),⟨[(d,.row e (.v (S.nv+fM (nds++Cx))))],ms⟩,[]⟩
   |none=>none
  |_,_=>none
 |_,_,_=>none
def d_ (T:aU) (S:af) (t:a6) (x:bD):Option bz:=
 match S.arg x,List.lookup t T with
 |some (.v (.c (.p .str a))),some r=>if r.tO then some ⟨[.qk a],.c1 (.p (.int .i64) (.v S.nv)),dM,[]⟩else none
 |some (.v (.c c)),some r=>match S.view S.nv c,r.sl with
  |some ([],.r0),some _=>some ⟨[],.c1 (.p (.int .i64) (.i 0)),dM,[]⟩
  |some (nds,a),some _=>some ⟨nds++ [.len a],.c1 (.p (.int .i64) (.v (S.nv+fM nds))),dM,[]⟩
  |_,_=>none
 |_,_=>none
section
variable {P:bB} {T:aU} {S:af} {ρ:List L}
theorem tH {o} {d a} {k} (h:S.num o d=some a) (hd:o=none→(d.ev ρ).ah=k):(S.aa ρ).num o k=some (a.ev ρ).ah:=by
 cases o with
 |none=>cases h;simp only[av.num,hd rfl]
 |some o=>
  simp only[af.num]at h;split at h
  · rename_i kk a' hx;cases h;have hx':(S.aa ρ).arg o=some (.v (.c (.p (.sc (.int kk (a.ev ρ).ah))))):=af.bH ρ hx;simp only[av.num,hx']
  · cases h
theorem sM {m} {c} {nds} {a} (h:S.view m c=some (nds,a)) (hs:Sat ρ m nds):(S.aa ρ).view (c.aa ρ)=some (a.ev ρ).az:=by
 unfold af.view at h;split at h
 · cases h;rfl
 · cases h;rfl
 · split at h
   · rename_i hl;cases h;simp only[SC.aa,av.view,dE,hl,aV,SB.aa]
   · cases h
 · split at h
   · rename_i hl;cases h;obtain⟨l,h1,h2⟩:=hs.du rfl;cases h1;simp only[SC.aa,av.view,dE,hl,aV,SB.aa,h2,L.az]
   · cases h
 · cases h
theorem Zv {size} {rows} (h:sr size rows=true):∀r,rows[0]? =some r→r.length=size:=by
 intro r hr
 cases rows with
 |nil=>simp at hr
 |cons a l=>simp_all[sr]
theorem x5 {t} (h:Iv P t=true):P.underlying t=some .string:=by
 unfold Iv at h;split at h
 · assumption
 · cases h
theorem Cd {t e} (h:Ce P t=some e):P.underlying t=some (.slice e):=by
 unfold Ce at h;split at h
 · cases h;assumption
 · cases h
theorem aob (hT:aU.ok P T) {t e} (h:(List.lookup t T).bind Ty.elem=some e):eO P t=some e:=by
 simp only[iu]at h;obtain⟨r,h1,h2⟩:=h;have:=hT _ _ h1;subst this;exact h2
def BY (x:At) (k:Kd):Nat→Nat→List Nd
 |_,0=> []
 |i,n+1=> .rc x (.i i) 0 k::BY x k (i+1) n
def C7 (k:Kd):Nat→Nat→List (Kd×At)
 |_,0=> []
 |m,n+1=> (k,.v m)::C7 k (m+1) n
theorem TE {x:At} {k:Kd}:∀{n i:Nat},fM (BY x k i n)=n
 |0,_=>rfl
 |n+1,i=>by simp only[BY,fM,Nd.n,TE];omega
theorem Qg {x:At} {k:Kd} {rows:List (List PV)} (hr:eI 1 rows) (hx:(x.ev ρ).az=rows):∀{n i m:Nat},i+n=rows.length→Sat ρ m (BY x k i n)→cb ρ (C7 k m n)=(rows.drop i).flatten
 |0,i,m,hl,_=>by rw[pR om];rfl
 | n+1,i,m,hl,h=>by
  obtain⟨l,h1,h2⟩:=Sat.du h rfl;have h3:=Qg hr hx (n:=n) (i:=i+1) (m:=m+1) om h.2;have hd:rows.drop i=rows[i]'om::rows.drop (i+1):=zj om;have hlen:=hr (rows[i]'om) (b8 _);simp only[Nd.ev,hx]at h1
  have h1:(match rows[i]? with
   |some r=>match r[0]? with
    |some q=> (k.of q).map ([·])
    |none=>none
   |none=>none)=some [l]:=h1
  rw[bW (show i<rows.length by omega)]at h1;rw[hd];generalize rows[i]'om=r at h1 hlen
  match r,hlen with
  |[q],_=>
   have h1:(k.of q).map ([·])=some [l]:=h1;simp only[aT]at h1;obtain⟨l',h4,h5⟩:=h1;cases h5;simp only[C7,cb,cu,List.flatten_cons,tg,mm]at h3⊢;rw[h3,h2,Kd.Gb h4]
def Jt (T:aU) (S:af) (t:a6) (x:bD):Option bz:=
 match S.arg x,(List.lookup t T).bind Ty.arr with
 |some (.v (.c (.p .sl a))),some (n,e)=>match(List.lookup e T).bind Ty.nu with
  |some [k]=>if 0<n then some ⟨.part a (.i 0) (.i n) 1::(BY (.v S.nv) k 0 n++ [.lit [C7 k (S.nv+1) n],.row (.v (S.nv+1+n)) (.i 0) n]),.c1 (.ref (.v (S.nv+1+n+1)) 0),dM,[]⟩else none
  |_=>none
 |_,_=>none
theorem alF (hT:aU.ok P T) {t e} {n} (h:(List.lookup t T).bind Ty.arr=some (n,e)):kT P t=some (n,e):=by
 simp only[iu]at h;obtain⟨r,h1,h2⟩:=h;have:=hT _ _ h1;subst this;exact h2
theorem aik (hT:aU.ok P T) {t} {x} {r} (h:Jt T S t x=some r) (hs:Sat ρ S.nv r.nds):(yI P (S.aa ρ) t x).map aW.pure=some (r.aa ρ):=by
 unfold Jt at h;split at h
 · rename_i a n e hx ha;split at h
   · rename_i k hk;split at h
     · rename_i hn;cases h;have hx':(S.aa ρ).arg x=some (.v (.c (.p (.sl (a.ev ρ).az)))):=af.bH ρ hx;have ha':=alF hT ha;obtain⟨l1,h1,h2⟩:=hs.du rfl;obtain⟨h3,h4⟩:=Sat.app hs.2;rw[TE]at h4;obtain⟨l2,h5,h6⟩:=h4.du rfl;obtain⟨l3,h7,h8⟩:=Sat.du h4.2 rfl;simp only[Nd.ev]at h1;split at h1
       · rename_i c1;cases h1;have hle:n≤(a.ev ρ).az.length:=by simp_all[At.ev,L.ah]
         have e1:(At.ev ρ (.v S.nv)).az=(a.ev ρ).az.take n:=by rw[h2];rfl
         have hR:eI 1 ((a.ev ρ).az.take n):=fun r hr=>pa.1 c1.2.2.2 r (mf hr)
         have e2:=Qg hR e1 (k:=k) (n:=n) (i:=0) (m:=S.nv+1) (by simp;omega) h3;cases h5;have e3:(At.ev ρ (.v (S.nv+1+n))).az=[((a.ev ρ).az.take n).flatten]:=by
           have:At.ev ρ (.v (S.nv+1+n))=_:=h6;simp_all[L.az]
         simp only[Nd.ev,e3]at h7;have h7:(if((a.ev ρ).az.take n).flatten.length=n then some [L.c ((a.ev ρ).az.take n).flatten]else none)=some [l3]:=h7;by_cases hc:((a.ev ρ).az.take n).flatten.length=n
         · rw[ay hc]at h7;cases rJ h7;simp only[yI,hx',ha'];rw[ay ⟨hn,hle,c1.2.2.2⟩];simp only[aV,aW.pure,bz.aa,SV.aa,aF.aa,SC.aa];have e4:At.ev ρ (.v (S.nv+1+n+1))=_:=h8;rw[e4];rfl
         simp_all
       · cases h1
     · cases h
   · cases h
 · cases h
def LO (T:aU) (S:af) (t:a6) (x:bD) (lo:Option bD) (hi mx:bD):Option bz:=
 match S.arg x,(List.lookup t T).bind Ty.elem,S.num lo (.i 0),S.arg hi,S.arg mx with
 |some (.v (.c (.p .sl a))),some e,some l,some (.v (.c (.p (.int _) h))),some (.v (.c (.p (.int _) m)))=>match List.lookup e T with
  |some re=>some ⟨[.part a h m re.size,.part a l h re.size],.c1 (.p .sl (.v (S.nv+1))),dM,[]⟩
  |none=>none
 |_,_,_,_,_=>none
theorem azs (hT:aU.ok P T) {t} {x hi mx} {lo} {r} (h:LO T S t x lo hi mx=some r) (hs:Sat ρ S.nv r.nds):(yg P (S.aa ρ) t x lo hi mx).map aW.pure=some (r.aa ρ):=by
 unfold LO at h;split at h
 · rename_i a e l k1 hh k2 m hx cW cg gD hmx;split at h
   · rename_i re he;have:=hT _ _ he;subst this;cases h;obtain⟨l1,h1,h2⟩:=hs.du rfl;obtain⟨l2,h3,h4⟩:=Sat.du hs.2 rfl;simp only[Nd.ev]at h1 h3;have vT:(S.aa ρ).num lo 0=some (l.ev ρ).ah:=tH cg (fun _=>rfl);have hx':(S.aa ρ).arg x=some (.v (.c (.p (.sl (a.ev ρ).az)))):=af.bH ρ hx;have oe:(S.aa ρ).arg hi=some (.v (.c (.p (.sc (.int k1 (hh.ev ρ).ah))))):=af.bH ρ gD;have aCf:(S.aa ρ).arg mx=some (.v (.c (.p (.sc (.int k2 (m.ev ρ).ah))))):=af.bH ρ hmx;have il:eO P t=some e:=aob hT cW;split at h1
     · rename_i c1;split at h3
       · rename_i c3;cases h1;cases h3;simp only[yg,hx',il,vT,oe,aCf];rw[ay ⟨c3.1,c3.2.1,c1.2.1,c1.2.2.1,c1.2.2.2⟩];simp only[aV,aW.pure,bz.aa,SV.aa,aF.aa,SC.aa,Kd.pv];have:At.ev ρ (.v (S.nv+1))=_:=h4;rw[this];rfl
       · cases h3
     · cases h1
   · cases h
 · cases h
theorem azP (hT:aU.ok P T) {t} {x} {lo hi} {r} (h:LM T S t x lo hi=some r) (hs:Sat ρ S.nv r.nds):(lj P (S.aa ρ) t x lo hi).map aW.pure=some (r.aa ρ):=by
 unfold LM at h;split at h
 · rename_i c row l hx hr cg;have:=hT _ _ hr;subst this;have vT:(S.aa ρ).num lo 0=some (l.ev ρ).ah:=tH cg (fun _=>rfl);have hx':=af.bH ρ hx;have sz:∀{e:a6} {re:Ty},List.lookup e T=some re→re.size=da P e:=fun he=>by rw[hT _ _ he];rfl
   split at h
   · rename_i a;split at h
     · rename_i hS;split at h
       · rename_i hh gD;cases h;obtain⟨l1,h1,h2⟩:=hs.du rfl;obtain⟨l2,h3,h4⟩:=Sat.du hs.2 rfl;simp only[Nd.ev]at h1 h3;cases h1;have oe:(S.aa ρ).num hi ((a.ev ρ).eQ.size:Int)=some (hh.ev ρ).ah:=tH gD (fun _=>by rw[h2];rfl);split at h3
         · rename_i hc;cases h3;simp only[lj,hx',SV.aa,aF.aa,SC.aa,Kd.pv,vT,oe,x5 (P:=P) hS];rw[jv hc];simp only[aV,aW.pure,bz.aa,SV.aa,aF.aa,SC.aa,Kd.pv];have:At.ev ρ (.v (S.nv+1))=_:=h4;rw[this];rfl
         · cases h3
       · cases h
     · cases h
   · rename_i a;split at h
     · rename_i e cW;have il:eO P t=some e:=cW;split at h
       · rename_i re hh he gD;cases h;obtain⟨l1,h1,h2⟩:=hs.du rfl;obtain⟨l2,h3,h4⟩:=Sat.du hs.2 rfl;simp only[Nd.ev]at h1 h3;cases h1;have oe:(S.aa ρ).num hi ((a.ev ρ).az.length:Int)=some (hh.ev ρ).ah:=tH gD (fun _=>by rw[h2];rfl);split at h3
         · rename_i hc;cases h3;simp only[lj,hx',SV.aa,aF.aa,SC.aa,Kd.pv,av.mY,av.view,aV,il,vT,oe];rw[jv ⟨hc.1,hc.2.1⟩];simp only[av.part];rw[ay ⟨hc.2.2.1,by rw[←sz he,←pa];exact hc.2.2.2⟩];simp only[aV,aW.pure,bz.aa,SV.aa,aF.aa,SC.aa,Kd.pv];have:At.ev ρ (.v (S.nv+1))=_:=h4;rw[this];rfl
         · cases h3
       · cases h
     · cases h
   · split at h
     · rename_i e e' a cW hl;have il:eO P t=some e:=cW;split at h
       · rename_i re hh he gD;cases h;obtain⟨l1,h1,h2⟩:=hs.du rfl;obtain⟨l2,h3,h4⟩:=Sat.du hs.2 rfl;simp only[Nd.ev]at h1 h3;cases h1;have oe:(S.aa ρ).num hi ((a.ev ρ).az.length:Int)=some (hh.ev ρ).ah:=tH gD (fun _=>by rw[h2];rfl);split at h3
         · rename_i hc;cases h3;simp only[lj,hx',SV.aa,aF.aa,SC.aa,av.mY,av.view,dE,hl,aV,SB.aa,il,vT,oe];rw[jv ⟨hc.1,hc.2.1⟩];simp only[av.part,dE,hl,aV,SB.aa];rw[ay ⟨hc.2.2.1,by rw[←sz he];exact Zv hc.2.2.2⟩];simp only[aV,aW.pure,bz.aa,SV.aa,aF.aa,SC.aa];have e9:(Dr l hh (.v (S.nv+1))).ev ρ=_:=ayg h4;rw[e9];rfl
         · cases h3
       · cases h
     · cases h
   · rename_i n l0 ln;split at h
     · rename_i e e' a cW hl;have il:eO P t=some e:=cW;split at h
       · rename_i re hh he gD;cases h;obtain⟨ls,h1,h2⟩:=hs.one;simp only[Nd.ev]at h1;split at h1
         · rename_i hc;cases h1;have og:=h2 0 (by simp[Nd.n]);have qW:=h2 1 (by simp[Nd.n]);simp only[kS,rH,fx]at og;have oe:(S.aa ρ).num hi ((ln.ev ρ).ah.toNat:Int)=some (hh.ev ρ).ah:=tH gD (fun hn=>by
            subst hn;cases gD;omega)
           simp only[lj,hx',SV.aa,aF.aa,SC.aa,av.mY,il,vT,oe];rw[jv ⟨hc.1,hc.2.1⟩];simp only[av.part,dE,hl,aV,SB.aa];rw[ay ⟨hc.2.2.1,by rw[←sz he];exact Zv hc.2.2.2⟩];simp only[aV,aW.pure,bz.aa,SV.aa,aF.aa,SC.aa,og,qW,L.ah,fA];rfl
         · cases h1
       · cases h
     · cases h
   · split at h
     · rename_i e cW;have il:eO P t=some e:=cW;split at h
       · rename_i re hh he gD;cases h;obtain⟨l1,h1,h2⟩:=hs.du rfl;simp only[Nd.ev]at h1;split at h1
         · rename_i hc;have oe:(S.aa ρ).num hi 0=some (hh.ev ρ).ah:=tH gD (fun _=>rfl);have h0:(hh.ev ρ).ah.toNat=0:=by
            have e0:(At.ev ρ .r0).az=[]:=rfl;simp_all
           simp only[lj,hx',SV.aa,aF.aa,SC.aa,av.mY,av.view,aV,il,vT,nj];have aCg:(S.aa ρ).num hi ((0:Nat):Int)=some (hh.ev ρ).ah:=oe;simp only[aCg];rw[jv ⟨hc.1,hc.2.1⟩];simp only[av.part];rw[ay h0];rfl
         · cases h1
       · cases h
     · cases h
   · cases h
 · cases h
theorem akx {e} {m} {c} {nds} {a} {ms} (h:S.gw e m c=some (nds,a,ms)) (hs:Sat ρ m nds):(S.aa ρ).gw e (c.aa ρ)=some ((a.ev ρ).az,ms):=by
 unfold af.gw at h;split at h
 · cases h;rfl
 · split at h
   · simp_all[SC.aa,av.gw,dE,aV,SB.aa]
   · cases h
 · split at h
   · rename_i hl;split at h
     · rename_i gE;cases h;obtain⟨l,h1,h2⟩:=hs.du rfl;cases h1;simp only[SC.aa,At.ev,L.ah,H2,av.gw,dE,hl,aV,SB.aa,gE,if_true];simp only[At.ev]at h2;rw[h2];rfl
     · cases h
   · cases h
 · cases h
theorem aoL (hT:aU.ok P T) {d} {t} {s x} {r} (h:uq T S d t s x=some r) (hs:Sat ρ S.nv r.nds):(rZ P (S.aa ρ) d t s x).map aW.of=some (r.aa ρ):=by
 unfold uq at h;split at h
 · rename_i cs cx e hcs hcx cW;simp only[iu]at cW;obtain⟨row,hr,cW⟩:=cW;have:=hT _ _ hr;subst this;have il:eO P t=some e:=cW;split at h
   · rename_i n b nds a ms fw dY;simp only[iu]at fw;obtain⟨row',kg,fw⟩:=fw;have:=hT _ _ kg;subst this;have qX:jP P e=some (n,b):=fw;split at h
     · rename_i Cx a' hv;cases h;obtain⟨hs1,hs2⟩:=Sat.app (a:=nds++Cx) (b:=[.app a a' n b]) hs;obtain⟨hs3,Cy⟩:=Sat.app hs1;obtain⟨l,h1,h2⟩:=hs2.du rfl;simp only[Nd.ev]at h1;split at h1
       · rename_i hc;cases h1;have k1:(S.aa ρ).arg s=some (.v (.c (cs.aa ρ))):=af.bH ρ hcs;have k2:(S.aa ρ).arg x=some (.v (.c (cx.aa ρ))):=af.bH ρ hcx;simp only[rZ,il,qX,k1,k2,akx dY hs3,sM hv Cy];rw[ay hc];simp only[aV,aW.of,bz.aa,fL.aa,bY.aa,cu,iv,SB.aa,h2,L.az];rfl
       · cases h1
     · cases h
   · cases h
 · cases h
theorem aAu (hT:aU.ok P T) {t} {x} {r} (h:d_ T S t x=some r) (hs:Sat ρ S.nv r.nds):(oX P (S.aa ρ) t x).map aW.pure=some (r.aa ρ):=by
 unfold d_ at h;split at h
 · rename_i a row hx hr;have:=hT _ _ hr;subst this;split at h
   · rename_i hS;cases h;obtain⟨l,h1,h2⟩:=hs.du rfl;cases h1;have hx':=af.bH ρ hx;simp only[oX,hx',SV.aa,aF.aa,SC.aa,Kd.pv,x5 (P:=P) hS];simp only[aV,aW.pure,bz.aa,SV.aa,aF.aa,SC.aa,Kd.pv,h2,L.ah];rfl
   · cases h
 · rename_i c row hno hx hr;have:=hT _ _ hr;subst this;split at h
   · rename_i e hv ey;have aCi:Ce P t=some e:=ey;cases h;have hx':(S.aa ρ).arg x=some (.v (.c (c.aa ρ))):=af.bH ρ hx;have hv':=sM (ρ:=ρ) hv trivial;have hres:oX P (S.aa ρ) t x=some (.sc (.int .i64 ((At.r0).ev ρ).az.length)):=by
      unfold oX;rw[hx'];split
      · rename_i b heq
        cases c with
        |p k y=>
         cases k with
         |str=>simp_all
         |_=>simp[SC.aa,Kd.pv]at heq
        |_=>simp[SC.aa]at heq
      · simp_all[jd,V.v.injEq,V1.c.injEq,Cd]
      simp_all
     rw[hres];rfl
   · rename_i nds a e _ hv ey;have aCi:Ce P t=some e:=ey;cases h;obtain⟨hs1,hs2⟩:=Sat.app hs;obtain⟨l,h1,h2⟩:=hs2.du rfl;cases h1;have hx':(S.aa ρ).arg x=some (.v (.c (c.aa ρ))):=af.bH ρ hx;have hv':=sM hv hs1;have hres:oX P (S.aa ρ) t x=some (.sc (.int .i64 (a.ev ρ).az.length)):=by
      unfold oX;rw[hx'];split
      · rename_i b heq
        cases c with
        |p k y=>
         cases k with
         |str=>simp_all
         |_=>simp[SC.aa,Kd.pv]at heq
        |_=>simp[SC.aa]at heq
      · simp_all[jd,V.v.injEq,V1.c.injEq,Cd]
      simp_all
     rw[hres];simp only[aV,aW.pure,bz.aa,SV.aa,aF.aa,SC.aa,Kd.pv,h2,L.ah];rfl
   · cases h
 · cases h
end
end
end
end Go.Proofs.YtndegphojkiblaaGreatDoor
