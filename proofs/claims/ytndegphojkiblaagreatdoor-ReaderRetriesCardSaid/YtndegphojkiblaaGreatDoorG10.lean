/- A part of the proof. -/
import Derived.Test.YtndegphojkiblaaGreatDoorG9
set_option linter.all false
set_option maxHeartbeats 4000000
set_option maxRecDepth 100000
namespace Go.Proofs.YtndegphojkiblaaGreatDoor
noncomputable section
section
open Go.RowKit
open Classical
def af.eG (S:af) (x:bD):Option aF:=match S.arg x with|some (.v x)=>some x|_=>none
theorem af.D0 (ρ) {S:af} {x} {y} (h:S.eG x=some y):(S.aa ρ).eG x=some (y.aa ρ):=by
 unfold af.eG at h;split at h
 · rename_i hx;cases h;have:=af.bH ρ hx;simp only[av.eG,this];rfl
 · cases h
def af.lits (S:af):List bD→Option (List (List (Kd×At))×List Nat)
 |[]=>some ([],[])
 | x::xs=>match S.eG x with
  |some y=>match S.sinks y.cells,S.lits xs with
   |some (r,ns),some (rs,ms)=>some (r::rs,ns++ms)
   |_,_=>none
  |none=>none
theorem af.T_ {S:af} {ρ:List L}:∀{xs:List bD} {rows:List (List (Kd×At))} {ns:List Nat},S.lits xs=some (rows,ns)→(S.aa ρ).lits xs=some (rows.map (cb ρ),ns)
 |[],_,_,h=>by cases h;rfl
 |x::xs,rows,ns,h=>by
  simp only[af.lits]at h;split at h
  · rename_i y hy;split at h
    · rename_i r ns1 rs ms h1 h2;cases h;simp only[av.lits,af.D0 ρ hy,aF.A8,af.Nc h1,af.T_ h2];rfl
    · cases h
  · cases h
def I9 (T:aU) (S:af) (d:Nat) (t:a6) (len:Nat) (parts:List (Nat×bD)):Option bz:=
 match(List.lookup t T).bind Ty.elem with
 |some e=>match(List.lookup e T).bind Ty.app,S.lits (parts.map (·.2))with
  |some (n,_),some (rows,ns)=>if parts.map (·.1)=List.range len∧(rows.all (·.length==n))=true∧len*n≤16777216 then some ⟨[.lit rows],.c1 (.own d),⟨[(d,.row e (.v S.nv))],ns⟩,[]⟩else none
  |_,_=>none
 |none=>none
def ve:List Kd→Option (List (Kd×At))
 |[]=>some []
 |k::ks=>match k.zero,ve ks with
  | .p k a,some ps=>some ((k,a)::ps)
  | .nil,some ps=>some ((.sl,.r0)::ps)
  |_,_=>none
theorem uM {ρ:List L}:∀{ks:List Kd} {ps:List (Kd×At)},ve ks=some ps→lK ((ks.map Kd.zero).map (SC.aa ρ))=some (cb ρ ps)
 |[],_,h=>by cases h;rfl
 |k::ks,ps,h=>by
  simp only[ve]at h;split at h
  · rename_i k' a Cs h1 h2;cases h;have:=uM (ρ:=ρ) h2;unfold lK at this⊢;simp only[cu,rE,h1,SC.aa,C.pv,this];rfl
  · rename_i Cs h1 h2;cases h;have:=uM (ρ:=ρ) h2;unfold lK at this⊢;simp only[cu,rE,h1,SC.aa,C.pv,this];rfl
  · cases h
def At.same:At→At→Bool
 | .v x,.v y=>x==y
 | .i x,.i y=>x==y
 | .b x,.b y=>x==y
 | .s x,.s y=>decide (x.data.toList=y.data.toList)
 | .r0,.r0=>true
 |_,_=>false
theorem At.lW {a b:At} (h:a.same b=true):a=b:=by
 unfold At.same at h;split at h
 · simp at h;rw[h]
 · simp at h;rw[h]
 · simp at h;rw[h]
 · rename_i x y;cases x;simp_all
 · rfl
 · cases h
def NN (T:aU) (S:af) (d:Nat) (t:a6) (l c:bD):Option bz:=
 match(List.lookup t T).bind Ty.elem,S.arg l,S.arg c with
 | some e,some (.v (.c (.p (.int _) a))),some (.v (.c (.p (.int _) a')))=>match List.lookup e T with
  |some re=>match re.app,re.nu.bind ve with
   |some (_,b),some ps=>if a.same a' then some ⟨[.ix a ps b],.c1 (.own d),⟨[(d,.row e (.v S.nv))],[]⟩,[]⟩else none
   |_,_=>none
  |none=>none
 |_,_,_=>none
def MS (T:aU) (S:af) (t:a6) (x y:bD):Option bz:=
 match(List.lookup t T).bind Ty.elem,S.arg x,S.arg y with
 | some e,some (.v (.c cx)),some (.v (.c cy))=>match List.lookup e T,S.view S.nv cy with
  | some re,some (nds,a)=>match cx with
   | .own n=>match List.lookup n S.heap with
    |some (.row e' x)=>if e'=e then some ⟨nds++ [.Hb x a re.size],.c1 (.p (.int .i64) (.v (S.nv+fM nds+1))),⟨[(n,.row e (.v (S.nv+fM nds)))],[]⟩,[]⟩else none
    |_=>none
   | .sub n lo ln=>match List.lookup n S.heap with
    |some (.row e' x)=>if e'=e then some ⟨nds++ [.uJ x lo ln a re.size],.c1 (.p (.int .i64) (.v (S.nv+fM nds+1))),⟨[(n,.row e (.v (S.nv+fM nds)))],[]⟩,[]⟩else none
    |_=>none
   |_=>none
  |_,_=>none
 |_,_,_=>none
def MY (T:aU) (S:af) (s d:a6) (x:bD):Option bz:=
 match S.arg x,List.lookup s T,List.lookup d T with
 | some (.v (.c (.p (.int k0) a))),some rs,some rd=>match rs.some,rd.int with
  |true,some k=>match a with
   | .i n=>some (.pure (.c1 (.p (.int k) (.i (k.wrap n)))))
   |a=>if rs.int=some k∧k0=k then some ⟨[.conv k a],.c1 (.p (.int k) (.v S.nv)),dM,[]⟩else some ⟨[.conv k a],.c1 (.p (.int k) (.v S.nv)),dM,[]⟩
  |_,_=>none
 |some (.v (.c (.p .str a))),some rs,some rd=>if rs.tO&&rd.tO then some (.pure (.c1 (.p .str a)))else none
 | some (.v (.c c)),some rs,some rd=>match S.view S.nv c,rs.sl,rd.tO with
  |some (nds,a),some e,true=>match(List.lookup e T).bind Ty.int with
   |some .u8=>some ⟨nds++ [.str a],.c1 (.p .str (.v (S.nv+fM nds))),dM,[]⟩
   |_=>none
  |_,_,_=>none
 |_,_,_=>none
def foldI (op:BinOp) (k:dZ) (a b:At):Option At:=match a,b with
 | .i m,.i n=>match cU op k m n with
  |some (.i z)=>some (.i z)
  |some (.b z)=>some (.b z)
  |_=>none
 |_,_=>none
theorem anC {op} {k} {a b z} (h:foldI op k a b=some z) (ρ):cU op k (a.ev ρ).ah (b.ev ρ).ah=some (z.ev ρ):=by
 unfold foldI at h;split at h
 · split at h
   · rename_i hz;cases h;exact hz
   · rename_i hz;cases h;exact hz
   · cases h
 · cases h
def zt:List SC→Option (List (dZ×At))
 |[]=>some []
 | .p (.int k) a::cs=> (zt cs).map ((k,a):: ·)
 |_=>none
def EZ (m:Nat):List (dZ×At)→List (dZ×At)→List Nd
 | (k,a)::xs,(_,b)::ys=> .bi .eql k a b:: .bb .and (.v m) (.v (m+1))::EZ (m+2) xs ys
 |_,_=> []
def KG (T:aU) (S:af) (op:BinOp) (t:a6) (x y:bD):Option bz:=
 match S.arg x,S.arg y with
 | some (.v (.c (.p (.int k) a))),some (.v (.c (.p (.int k') b)))=>if Mu op||decide (k=k')then(match foldI op k a b with
   |some z=>some ⟨[],.c1 (.p (if lO op then .bool else .int k) z),dM,[]⟩
   |none=>some ⟨[.bi op k a b],.c1 (.p (if lO op then .bool else .int k) (.v S.nv)),dM,[]⟩)else none
 |some (.v (.c (.p .str a))),some (.v (.c (.p .str b)))=>some ⟨[.bs op a b],.c1 (.p (if lO op then .bool else .str) (.v S.nv)),dM,[]⟩
 |some (.v (.c (.p .bool a))),some (.v (.c (.p .bool b)))=>match List.lookup t T with
  |some r=>if r.bT=true∧op≠ .and then some ⟨[.bb op a b],.c1 (.p .bool (.v S.nv)),dM,[]⟩else none
  |none=>none
 | some (.v (.agg cs)),some (.v (.agg ds))=>match zt cs,zt ds,List.lookup t T with
  | some ((i,a)::xs),some ((j,b)::ys),some r=>if r.XY=xs.length+1∧i::xs.map (·.1)=j::ys.map (·.1)then match op with
    | .eql=>some ⟨.bi .eql i a b::EZ S.nv xs ys,.c1 (.p .bool (.v (S.nv+2*xs.length))),dM,[]⟩
    | .neq=>some ⟨.bi .eql i a b::(EZ S.nv xs ys++ [.not (.v (S.nv+2*xs.length))]),.c1 (.p .bool (.v (S.nv+2*xs.length+1))),dM,[]⟩
    |_=>none
   else none
  |_,_,_=>none
 |_,_=>none
def I' (S:af) (op:UnOp) (x:bD):Option bz:=
 match S.arg x,op with
 |some (.v (.c (.p .bool a))),.not=>some ⟨[.not a],.c1 (.p .bool (.v S.nv)),dM,[]⟩
 |some (.v (.c (.p (.int k) a))),.neg=>some ⟨[.un .neg k a],.c1 (.p (.int k) (.v S.nv)),dM,[]⟩
 |some (.v (.c (.p (.int k) a))),.xor=>some ⟨[.un .xor k a],.c1 (.p (.int k) (.v S.nv)),dM,[]⟩
 |_,_=>none
def DT (place:Nat→Option (Nat×Nat)) (cells:List SC):List (Nat×List SC)→Option (List SC)
 |[]=>some cells
 | (i,x)::rest=>match place i with
  |none=>none
  |some (off,size)=>if x.length=size∧off+x.length≤cells.length then DT place (cells.take off++x++cells.drop (off+x.length)) rest else none
def af.parts (S:af):List (Nat×bD)→Option (List (Nat×List SC))
 |[]=>some []
 | (i,x)::l=>match S.eG x,S.parts l with
  |some y,some ys=>some ((i,y.cells)::ys)
  |_,_=>none
def Kn (T:aU) (S:af) (t:a6) (parts:List (Nat×bD)):Option bz:=
 match List.lookup t T with
 |some r=>match r.nu,r.places,S.parts parts with
  |some ks,some ps,some xs=> (DT (ps[·]?) (ks.map Kd.zero) xs).map fun cs=> .pure (.v (.agg cs))
  |_,_,_=>none
 |none=>none
section
variable {P:bB} {T:aU} {S:af} {ρ:List L}
theorem Br (hT:aU.ok P T) {t e} (h:(List.lookup t T).bind Ty.elem=some e):eO P t=some e:=by
 simp only[iu]at h;obtain⟨row,hr,cW⟩:=h;have:=hT _ _ hr;subst this;exact cW
theorem ato (hT:aU.ok P T) {e} {x} (h:(List.lookup e T).bind Ty.app=some x):jP P e=some x:=by
 simp only[iu]at h;obtain⟨row,hr,cW⟩:=h;have:=hT _ _ hr;subst this;exact cW
theorem agS (hT:aU.ok P T) {d} {t} {len} {parts} {r} (h:I9 T S d t len parts=some r) (hs:Sat ρ S.nv r.nds):(xW P (S.aa ρ) d t len parts).map aW.of=some (r.aa ρ):=by
 unfold I9 at h;split at h
 · rename_i e cW;split at h
   · rename_i n b rows ns fw hl;split at h
     · rename_i hc;cases h;obtain⟨l,h1,h2⟩:=hs.du rfl;cases h1;simp only[xW,Br hT cW,ato hT fw,af.T_ hl];have qY:bu n (rows.map (cb ρ))=true:=by
        simp only[bu,bC,fe];rintro _ ⟨x,hx,rfl⟩;simp_all[cb]
       rw[ay ⟨hc.1,qY,hc.2.2⟩];simp only[aV,aW.of,bz.aa,fL.aa,bY.aa,cu,iv,SB.aa,h2,L.az];rfl
     · cases h
   · cases h
 · cases h
theorem anE (hT:aU.ok P T) {d} {t} {l c} {r} (h:NN T S d t l c=some r) (hs:Sat ρ S.nv r.nds):(yz P (S.aa ρ) d t l c).map aW.of=some (r.aa ρ):=by
 unfold NN at h;split at h
 · rename_i e k1 a k2 a' cW hl hc;split at h
   · rename_i re he;have:=hT _ _ he;subst this;split at h
     · rename_i n b ps fw jG;have qX:jP P e=some (n,b):=fw;simp only[iu]at jG;obtain⟨ks,oh,hz⟩:=jG;split at h
       · rename_i Hq;have:=At.lW Hq;subst this;cases h;obtain⟨l1,h1,h2⟩:=hs.du rfl;simp only[Nd.ev]at h1;split at h1
         · rename_i kc;cases h1;have hl':(S.aa ρ).arg l=some (.v (.c (.p (.sc (.int k1 (a.ev ρ).ah))))):=af.bH ρ hl;have hc':(S.aa ρ).arg c=some (.v (.c (.p (.sc (.int k2 (a.ev ρ).ah))))):=af.bH ρ hc;simp only[yz,Br hT cW,hl',hc',qX,wD (P:=P) oh ρ,uM hz];rw[ay ⟨trivial,kc.1,kc.2.1,kc.2.2⟩];simp only[aV,aW.of,bz.aa,fL.aa,bY.aa,cu,iv,SB.aa,h2,L.az];rfl
         · cases h1
       · cases h
     · cases h
   · cases h
 · cases h
theorem arB (hT:aU.ok P T) {t} {x y} {r} (h:MS T S t x y=some r) (hs:Sat ρ S.nv r.nds):(qa P (S.aa ρ) t x y).map aW.of=some (r.aa ρ):=by
 unfold MS at h;split at h
 · rename_i e cx cy cW hx hy;have hx':(S.aa ρ).arg x=some (.v (.c (cx.aa ρ))):=af.bH ρ hx;have hy':(S.aa ρ).arg y=some (.v (.c (cy.aa ρ))):=af.bH ρ hy;split at h
   · rename_i re nds a he hv;have:=hT _ _ he;subst this;split at h
     · rename_i n;split at h
       · rename_i e' xr hl;split at h
         · rename_i gE;subst gE;cases h;obtain⟨hs1,hs2⟩:=Sat.app hs;obtain⟨ls,h1,h2⟩:=hs2.one;simp only[Nd.ev]at h1;split at h1
           · rename_i hc;cases h1;have og:=h2 0 (by simp[Nd.n]);have qW:=h2 1 (by simp[Nd.n]);simp only[kS,rH,fx]at og;simp only[H0,rH,fx]at qW;have Hk:(S.aa ρ).view (.own n)=some (xr.ev ρ).az:=by simp only[av.view,dE,hl,aV,SB.aa]
             have hx2:(S.aa ρ).arg x=some (.v (.c (.own n))):=hx';simp only[qa,Br hT cW,hx2,hy',Hk,sM hv hs1,dE,hl,aV,SB.aa];rw[ay ⟨trivial,hc⟩];simp only[aV,aW.of,bz.aa,fL.aa,bY.aa,cu,iv,SB.aa,og,qW,L.az,SV.aa,aF.aa,SC.aa,Kd.pv,L.ah]
           · cases h1
         · cases h
       · cases h
     · rename_i n lo ln;split at h
       · rename_i e' xr hl;split at h
         · rename_i gE;subst gE;cases h;obtain⟨hs1,hs2⟩:=Sat.app hs;obtain⟨ls,h1,h2⟩:=hs2.one;simp only[Nd.ev]at h1;split at h1
           · rename_i hc;cases h1;have og:=h2 0 (by simp[Nd.n]);have qW:=h2 1 (by simp[Nd.n]);simp only[kS,rH,fx]at og;simp only[H0,rH,fx]at qW;have Hk:(S.aa ρ).view (.sub n (lo.ev ρ).ah.toNat (ln.ev ρ).ah.toNat)=some (((xr.ev ρ).az.drop (lo.ev ρ).ah.toNat).take (ln.ev ρ).ah.toNat):=by simp only[av.view,dE,hl,aV,SB.aa]
             have hx2:(S.aa ρ).arg x=some (.v (.c (.sub n (lo.ev ρ).ah.toNat (ln.ev ρ).ah.toNat))):=hx';simp only[qa,Br hT cW,hx2,hy',Hk,sM hv hs1,dE,hl,aV,SB.aa];rw[ay ⟨trivial,hc.1,hc.2⟩];simp only[aV,aW.of,bz.aa,fL.aa,bY.aa,cu,iv,SB.aa,og,qW,L.az,SV.aa,aF.aa,SC.aa,Kd.pv,L.ah]
           · cases h1
         · cases h
       · cases h
     · cases h
   · cases h
 · cases h
theorem Dh {t} {k} (h:Gx P t=some k):P.underlying t=some (.int k):=by
 unfold Gx at h;split at h
 · cases h;assumption
 · cases h
theorem adm (hT:aU.ok P T) {s d} {x} {r} (h:MY T S s d x=some r) (hs:Sat ρ S.nv r.nds):(lq P (S.aa ρ) s d x).map aW.pure=some (r.aa ρ):=by
 unfold MY at h;split at h
 · rename_i k0 a rs rd hx lE jH;have:=hT _ _ lE;subst this;have:=hT _ _ jH;subst this;have hx':(S.aa ρ).arg x=some (.v (.c (.p (.sc (.int k0 (a.ev ρ).ah))))):=af.bH ρ hx;split at h
   · rename_i k hsome hk;obtain⟨ds,Hu⟩:=ze.1 (show(P.underlying s).isSome=true from hsome);have bZ:=Dh (P:=P) hk;have vU:lq P (S.aa ρ) s d x=some (.sc (.int k (k.wrap (a.ev ρ).ah))):=by simp_all[lq]
     rw[vU];split at h
     · cases h;rfl
     · have hh:r=⟨[.conv k a],.c1 (.p (.int k) (.v S.nv)),dM,[]⟩:=by simp_all
       subst hh;obtain⟨l,h1,h2⟩:=hs.du rfl;cases h1;simp only[aV,aW.pure,bz.aa,SV.aa,aF.aa,SC.aa,Kd.pv,h2,L.ah];rfl
   · cases h
 · rename_i a rs rd hx lE jH;have:=hT _ _ lE;subst this;have:=hT _ _ jH;subst this;have hx':(S.aa ρ).arg x=some (.v (.c (.p (.sc (.string (a.ev ρ).eQ))))):=af.bH ρ hx;split at h
   · rename_i hc;cases h;simp only[bt]at hc;simp only[lq,hx',x5 (P:=P) hc.1,x5 (P:=P) hc.2];rfl
   · cases h
 · rename_i c rs rd aES aET hx lE jH;have:=hT _ _ lE;subst this;have:=hT _ _ jH;subst this;split at h
   · rename_i nds a e hv ey hS;split at h
     · rename_i hu;cases h;simp only[iu]at hu;obtain⟨row,hr,hu⟩:=hu;have:=hT _ _ hr;subst this;obtain⟨hs1,hs2⟩:=Sat.app hs;obtain⟨l,h1,h2⟩:=hs2.du rfl;simp only[Nd.ev,aT]at h1;obtain⟨bs,qZ,h1⟩:=h1;cases h1;have hx':(S.aa ρ).arg x=some (.v (.c (c.aa ρ))):=af.bH ρ hx;have hv':=sM hv hs1;have vU:lq P (S.aa ρ) s d x=some (.sc (.string (strOfNums bs))):=by
        unfold lq;rw[hx'];split
        · rename_i k n heq
          cases c with
          |p kk y=>
           cases kk with
           |int kk=>simp_all
           |_=>simp[SC.aa,Kd.pv]at heq
          |_=>simp[SC.aa]at heq
        · rename_i b heq
          cases c with
          |p kk y=>
           cases kk with
           |str=>simp_all
           |_=>simp[SC.aa,Kd.pv]at heq
          |_=>simp[SC.aa]at heq
        · rename_i c' _ _ heq;simp only[jd,V.v.injEq,V1.c.injEq]at heq;subst heq;rw[hv',Cd (P:=P) ey,x5 (P:=P) hS];simp only[Dh (P:=P) hu,qZ]
        simp_all
       rw[vU];simp only[aV,aW.pure,bz.aa,SV.aa,aF.aa,SC.aa,Kd.pv,h2,L.eQ];rfl
     · cases h
   · cases h
 · cases h
theorem Yq {op} {k k'} {a b} {l} (tb) (hk:(Mu op||decide (k=k'))=true) (h:cU op k a b=some l):jN tb op (.int k a) (.int k' b)=some (if lO op then .bool l.bx else .int k l.ah):=by
 cases op<;>simp[Mu]at hk<;>simp only[cU]at h<;>first
  | (subst hk;cases h;simp[jN,lO,bitsOf,L.ah,L.bx];done)
  | (subst hk;split at h; (rename_i hc;cases h;simp only[jN,lO,true_and];rw[jv hc];rfl);cases h)
  | (split at h; (rename_i hc;cases h;simp only[jN,lO];rw[jv hc];rfl);cases h)
theorem aAk {op} {a b} {l} (tb) (h:Aq op a b=some l):jN tb op (.string a) (.string b)=some (if lO op then .bool l.bx else .string l.eQ):=by
 cases op<;>simp only[Aq]at h<;>first
  | (cases h;rfl)
  | (split at h; (rename_i hc;cases h;simp only[jN,lO];rw[jv hc];rfl);cases h)
  |cases h
theorem axh {op} {a b} {l} (h:mF op a b=some l) (hn:op≠ .and):jN true op (.bool a) (.bool b)=some (.bool l.bx):=by
 cases op<;>simp only[mF]at h<;>first|exact absurd rfl hn| (cases h;rfl)|cases h
theorem Bf {ρ} {j} {x} (hi:∀i,i<1→ρ[j+i]? =[x][i]?):(At.v j).ev ρ=x:=by
 simp_all [At.ev,fx]
theorem KL {ρ} {r}:∀{xs ys} {m} {t},xs.length=ys.length→(At.v m).ev ρ= .b t→Sat ρ (m+1) (EZ m xs ys++r)→
  (At.v (m+2*xs.length)).ev ρ= .b (oD t (xs.map fun x=> (x.1,(x.2.ev ρ).ah)) (ys.map fun x=> (x.1,(x.2.ev ρ).ah)))∧Sat ρ (m+2*xs.length+1) r
 |[],[],m,t,_,ht,hs=> ⟨ht,hs⟩
 | (k,a)::xs,(j,b)::ys,m,t,hl,ht,hs=>by
  obtain⟨⟨l0,h0,i0⟩,⟨l1,h1,i1⟩,hr⟩:=hs;cases h0;have e0:=Bf i0;cases h1;have e1:=Bf i1;rw[ht,e0]at e1;obtain⟨g1,g2⟩:=KL (m:=m+2) (by simpa using hl) e1 hr;have e:m+2+2*xs.length=m+2*((k,a)::xs).length:=by simp;omega
  rw[e]at g1 g2;exact⟨g1,g2⟩
theorem Lz {ρ:List L}:∀{cs:List SC} {xs:List (dZ×At)},zt cs=some xs→uc (cs.map (SC.aa ρ))=some (xs.map fun x=> (x.1,(x.2.ev ρ).ah))
 |[],xs,h=>by cases h;rfl
 |c::cs,xs,h=>by
  unfold zt at h;split at h
  · cases ‹_::_=[]›
  · rename_i k a cs' hc;cases hc;simp only[aT]at h;obtain⟨ys,h1,rfl⟩:=h;show(uc (List.map (SC.aa ρ) cs)).map _=_;rw[Lz h1];rfl
  · cases h
theorem arj (hT:aU.ok P T) {op} {t} {x y} {yt} {r} {Sp} {d} (h:KG T S op t x y=some r) (hs:Sat ρ S.nv r.nds):a_ P Sp (S.aa ρ) d (.binOp op t x y yt)=some (r.aa ρ):=by
 unfold KG at h;split at h
 · rename_i k a k' b hx hy;split at h
   · rename_i hk;have hx':(S.aa ρ).arg x=some (.v (.c (.p (.sc (.int k (a.ev ρ).ah))))):=af.bH ρ hx;have hy':(S.aa ρ).arg y=some (.v (.c (.p (.sc (.int k' (b.ev ρ).ah))))):=af.bH ρ hy;split at h
     · rename_i z hz;cases h;simp only[a_,hx',hy',Yq (qe P t) hk (anC hz ρ),aV];cases lO op<;>rfl
     · cases h;obtain⟨l,h1,h2⟩:=hs.du rfl;simp only[Nd.ev,aT]at h1;obtain⟨l',h1,h3⟩:=h1;cases h3;simp only[a_,hx',hy',Yq (qe P t) hk h1,aV];simp only[aW.pure,bz.aa,SV.aa,aF.aa,SC.aa,h2];cases lO op<;>rfl
   · cases h
 · rename_i a b hx hy;cases h;obtain⟨l,h1,h2⟩:=hs.du rfl;simp only[Nd.ev,aT]at h1;obtain⟨l',h1,h3⟩:=h1;cases h3;have hx':(S.aa ρ).arg x=some (.v (.c (.p (.sc (.string (a.ev ρ).eQ))))):=af.bH ρ hx;have hy':(S.aa ρ).arg y=some (.v (.c (.p (.sc (.string (b.ev ρ).eQ))))):=af.bH ρ hy;simp only[a_,hx',hy',aAk (qe P t) h1,aV];simp only[aW.pure,bz.aa,SV.aa,aF.aa,SC.aa,h2];cases lO op<;>rfl
 · rename_i a b hx hy;split at h
   · rename_i row hr;have:=hT _ _ hr;subst this;split at h
     · rename_i hb;obtain⟨hb,hne⟩:=hb;have hb':qe P t=true:=hb;cases h;obtain⟨l,h1,h2⟩:=hs.du rfl;simp only[Nd.ev,aT]at h1;obtain⟨l',h1,h3⟩:=h1;cases h3;have hx':(S.aa ρ).arg x=some (.v (.c (.p (.sc (.bool (a.ev ρ).bx))))):=af.bH ρ hx;have hy':(S.aa ρ).arg y=some (.v (.c (.p (.sc (.bool (b.ev ρ).bx))))):=af.bH ρ hy;simp only[a_,hx',hy',hb',axh h1 hne,aV];simp only[aW.pure,bz.aa,SV.aa,aF.aa,SC.aa,h2];rfl
     · cases h
   · cases h
 · rename_i cs ds hx hy;split at h
   · rename_i i a xs j b ys row hcs Hu hr;have:=hT _ _ hr;subst this;split at h
     · rename_i hb;obtain⟨hb,hk⟩:=hb;have hl:xs.length=ys.length:=by have:=bJ List.length hk;simpa using this
       have hx':(S.aa ρ).arg x=some (.v (.agg (cs.map (SC.aa ρ)))):=af.bH ρ hx;have hy':(S.aa ρ).arg y=some (.v (.agg (ds.map (SC.aa ρ)))):=af.bH ρ hy
       have q:DW P op t (cs.map (SC.aa ρ)) (ds.map (SC.aa ρ))=match op with
          | .eql=>some (oD ((a.ev ρ).ah==(b.ev ρ).ah) (xs.map fun x=> (x.1,(x.2.ev ρ).ah)) (ys.map fun x=> (x.1,(x.2.ev ρ).ah)))
          | .neq=>some (!oD ((a.ev ρ).ah==(b.ev ρ).ah) (xs.map fun x=> (x.1,(x.2.ev ρ).ah)) (ys.map fun x=> (x.1,(x.2.ev ρ).ah)))
          |_=>none:=by
         unfold DW;rw[Lz hcs,Lz Hu];simp only[cu,aA,gd];rw[ay ⟨hb,hk⟩];cases op<;>rfl
       split at h
       · cases h;obtain⟨⟨l0,h0,i0⟩,hs⟩:=hs;cases h0;obtain⟨e,_⟩:=KL (r:=[]) hl (Bf i0) (by rw[eW];exact hs);simp only[a_,hx',hy',q,aV,aW.pure,bz.aa,SV.aa,aF.aa,SC.aa,e,Kd.pv];rfl
       · cases h;obtain⟨⟨l0,h0,i0⟩,hs⟩:=hs;cases h0;obtain⟨e,⟨l,h1,h2⟩,_⟩:=KL hl (Bf i0) hs;cases h1;have e2:=Bf h2;rw[e]at e2;simp only[a_,hx',hy',q,aV,aW.pure,bz.aa,SV.aa,aF.aa,SC.aa,e2,Kd.pv];rfl
       · cases h
     · cases h
   · cases h
 · cases h
theorem amn {op} {t} {x} {r} {Sp} {d} (h:I' S op x=some r) (hs:Sat ρ S.nv r.nds):a_ P Sp (S.aa ρ) d (.unOp op t x)=some (r.aa ρ):=by
 unfold I' at h;split at h
 · rename_i a hx;cases h;obtain⟨l,h1,h2⟩:=hs.du rfl;cases h1;have hx':(S.aa ρ).arg x=some (.v (.c (.p (.sc (.bool (a.ev ρ).bx))))):=af.bH ρ hx;simp only[a_,hx',yD,aV,aW.pure,bz.aa,SV.aa,aF.aa,SC.aa,Kd.pv,h2];rfl
 · rename_i k a hx;cases h;obtain⟨l,h1,h2⟩:=hs.du rfl;cases h1;have hx':(S.aa ρ).arg x=some (.v (.c (.p (.sc (.int k (a.ev ρ).ah))))):=af.bH ρ hx;simp only[a_,hx',yD,aV,aW.pure,bz.aa,SV.aa,aF.aa,SC.aa,Kd.pv,h2];rfl
 · rename_i k a hx;cases h;obtain⟨l,h1,h2⟩:=hs.du rfl;cases h1;have hx':(S.aa ρ).arg x=some (.v (.c (.p (.sc (.int k (a.ev ρ).ah))))):=af.bH ρ hx;simp only[a_,hx',yD,aV,aW.pure,bz.aa,SV.aa,aF.aa,SC.aa,Kd.pv,h2,bitsOf];rfl
 · cases h
theorem RU (place:Nat→Option (Nat×Nat)):∀{xs:List (Nat×List SC)} {cells out:List SC},DT place cells xs=some out→uU place (cells.map (SC.aa ρ)) (xs.map fun x=> (x.1,x.2.map (SC.aa ρ)))=some (out.map (SC.aa ρ))
 |[],_,_,h=>by cases h;rfl
 | (i,x)::rest,cells,out,h=>by
  simp only[DT]at h;split at h
  · cases h
  · rename_i off size hp;split at h
    · rename_i hc;simp only[cu,uU,hp];rw[ay (by simpa using hc)];have:=RU place h;simp_all
    · cases h
theorem Wl:∀{l:List (Nat×bD)} {xs:List (Nat×List SC)},S.parts l=some xs→l.mapM (fun x=> ((S.aa ρ).eG x.2).map fun y=> (x.1,y.cells))=some (xs.map fun x=> (x.1,x.2.map (SC.aa ρ)))
 |[],_,h=>by cases h;rfl
 | (i,x)::l,xs,h=>by
  simp only[af.parts]at h;split at h
  · rename_i y ys h1 h2;cases h;simp only[rE,af.D0 ρ h1,Wl h2,aV,aF.A8];rfl
  · cases h
theorem asO (hT:aU.ok P T) {t} {parts} {r} (h:Kn T S t parts.toList=some r):(yc P (S.aa ρ) t parts).map aW.pure=some (r.aa ρ):=by
 unfold Kn at h;split at h
 · rename_i row hr;have:=hT _ _ hr;subst this;split at h
   · rename_i ks ps xs oh jG qT;simp only[aT]at h;obtain⟨cs,hcs,rfl⟩:=h;have aCj:GQ P t=some ps:=jG;simp only[yc,wD (P:=P) oh ρ,aCj,Wl qT,RU (ρ:=ρ) (ps[·]?) hcs];rfl
   · cases h
 · cases h
end
structure au where
 f:FuncId
 params:List aF
 H:List SB
 cY:Nat
 iF:Nat
 res:SV
 out:bY
 F:List L→Option (List L)
 tag:Nat:=0
def au.ok (P:bB) (s:au):Prop:=∀ls o,ls.length=s.cY→s.F ls=some o→o.length=s.iF→
 eJ P s.f (s.params.map (aF.aa ls)) (s.H.map (SB.aa ls)) (s.res.aa (ls++o)) (s.out.aa (ls++o))
def At.sub (σ:List At):At→At
 | .v n=> (σ[n]?).getD (.b false)
 |x=>x
theorem At.yu {σ} {ρ} (x:At):(x.sub σ).ev ρ=x.ev (σ.map (At.ev ρ)):=by
 cases x with
 |v n=>
  simp only[At.sub,At.ev,bV]
  cases σ[n]? with
  |none=>rfl
  |some y=>rfl
 |_=>rfl
def SC.put (σ:List At) (ρ:Nat→Nat):SC→SC
 | .p k x=> .p k (x.sub σ)
 | .nil=> .nil
 | .own n=> .own (ρ n)
 | .sub n lo ln=> .sub (ρ n) (lo.sub σ) (ln.sub σ)
 | .ptr n off=> .ptr (ρ n) off
 | .gy n off c m i=> .gy (ρ n) off c m (i.sub σ)
 | .cE n i j=> .cE (ρ n) (i.sub σ) j
 | .ref x j=> .ref (x.sub σ) j
 | .fn f cN=> .fn f (cN.map ρ)
 | .mp n=> .mp (ρ n)
 | .dead=> .dead
def aF.ez (f:SC→SC):aF→aF
 | .c y=> .c (f y)
 | .agg ys=> .agg (ys.map f)
def SV.ez (f:SC→SC):SV→SV
 | .v x=> .v (x.ez f)
 | .aj xs=> .aj (xs.map (aF.ez f))
def SB.ez (f:SC→SC) (g:At→At):SB→SB
 | .box cs=> .box (cs.map f)
 | .row e x=> .row e (g x)
 | .map x=> .map (g x)
theorem SC.Mm {σ} {ρ} {κ} (c:SC):(c.put σ κ).aa ρ=(c.aa (σ.map (At.ev ρ))).cR κ:=by
 cases c<;>simp only[SC.put,SC.aa,C.cR,At.yu]
theorem aF.yi {σ} {ρ} {κ} (x:aF):(x.ez (SC.put σ κ)).aa ρ=(x.aa (σ.map (At.ev ρ))).on (C.cR κ):=by
 cases x with
 |c c=>simp only[aF.ez,aF.aa,V1.on,SC.Mm]
 |agg cs=>simp only[aF.ez,aF.aa,V1.on,gd];congr 1;apply fK;intro c _;exact SC.Mm c
theorem SV.yi {σ} {ρ} {κ} (x:SV):(x.ez (SC.put σ κ)).aa ρ=(x.aa (σ.map (At.ev ρ))).on (C.cR κ):=by
 cases x with
 |v x=>simp only[SV.ez,SV.aa,V.on,aF.yi]
 |aj xs=>simp only[SV.ez,SV.aa,V.on,gd];congr 1;apply fK;intro c _;exact aF.yi c
theorem SB.yi {σ} {ρ} {κ} (x:SB):(x.ez (SC.put σ κ) (At.sub σ)).aa ρ=(x.aa (σ.map (At.ev ρ))).on (C.cR κ):=by
 cases x with
 |box cs=>simp only[SB.ez,SB.aa,dI.on,gd];congr 1;apply fK;intro c _;exact SC.Mm c
 |row e x=>simp only[SB.ez,SB.aa,dI.on,At.yu]
 |map x=>simp only[SB.ez,SB.aa,dI.on,At.yu]
def SC.bare:SC→Bool
 | .p .sl _=>false
 | .ref _ _=>false
 |_=>true
def aF.bare:aF→Bool
 | .c x=>x.bare
 | .agg xs=>xs.all SC.bare
def SV.bare:SV→Bool
 | .v x=>x.bare
 | .aj xs=>xs.all aF.bare
def SB.bare (T:aU):SB→Bool
 | .box cs=>cs.all SC.bare
 | .row _ _=>false
 | .map _=>false
theorem SC.zU {ρ} {c:SC} (h:c.bare=true):(c.aa ρ).bare=true:=by
 cases c with
 |p k x=>cases k<;>first|rfl|cases h
 |ref=>cases h
 |_=>rfl
structure Acc where
 σ:List (Option At)
 ι:List (Option Nat)
 cG:List Nat
def Acc.atom (a:Acc) (i:Nat) (x:At):Acc:={a with σ:=a.σ.set i (some x)}
def Acc.name (a:Acc) (m n:Nat):Acc:={a with ι:=a.ι.set m (some n)}
def VF (S:af) (a:Acc):SC→SC→Acc
 | .p _ (.v i),.p _ x=>a.atom i x
 | .p _ (.v i),.nil=>a.atom i .r0
 | .p _ (.v i),.own n=>match List.lookup n S.heap with
  |some (.row _ x)=> {a.atom i x with cG:=if a.cG.contains n then a.cG else n::a.cG}
  |_=>a
 | .own m,.own n=>a.name m n
 | .sub m (.v i) (.v j),.sub n lo ln=> ((a.name m n).atom i lo).atom j ln
 | .ptr m _,.ptr n _=>a.name m n
 | .fn _ ms,.fn _ ns=> (ms.zip ns).foldl (fun a x=>a.name x.1 x.2) a
 | .mp m,.mp n=>a.name m n
 | .ref (.v i) _,.ref x _=>a.atom i x
 |_,_=>a
def IY (S:af):Acc→List SC→List SC→Acc
 |a,c'::cs',c::cs=>IY S (VF S a c' c) cs' cs
 |a,_,_=>a
def amQ (S:af) (a:Acc):aF→aF→Acc
 | .c c',.c c=>VF S a c' c
 | .agg cs',.agg cs=>IY S a cs' cs
 |_,_=>a
def MN (S:af):Acc→List aF→List aF→Acc
 |a,c'::cs',c::cs=>MN S (amQ S a c' c) cs' cs
 |a,_,_=>a
def va (S:af):Acc→Nat→List SB→Acc
 |a,_,[]=>a
 | a,m,b::bs=>match a.ι[m]? with
  |some (some n)=>match b,List.lookup n S.heap with
   | .box cs',some (.box cs)=>va S (IY S a cs' cs) (m+1) bs
   | .row _ (.v i),some (.row _ x)=>va S (a.atom i x) (m+1) bs
   | .map (.v i),some (.map x)=>va S (a.atom i x) (m+1) bs
   |_,_=>va S a (m+1) bs
  |_=>va S a (m+1) bs
def E_ (S:af) (σ:List At) (ι cG:List Nat):SC→SC→Bool
 | .dead,_=>true
 | .p k x,.p k' y=>decide (k=k')&& (x.sub σ).same y
 | .p .sl x,.nil=> (x.sub σ).same .r0
 | .p .sl x,.own n=>match List.lookup n S.heap with
  |some (.row _ y)=> (x.sub σ).same y&&cG.contains n
  |_=>false
 | .nil,.nil=>true
 | .own m,.own n=>ι[m]? ==some n
 | .sub m lo ln,.sub n vV ln'=>ι[m]? ==some n&& (lo.sub σ).same vV&& (ln.sub σ).same ln'
 | .ptr m off,.ptr n aCl=>ι[m]? ==some n&&off==aCl
 | .ref x j,.ref y j'=> (x.sub σ).same y&&j==j'
 | .fn f ms,.fn f' ns=>f==f'&&ms.map (fun m=>ι[m]?)==ns.map some
 | .mp m,.mp n=>ι[m]? ==some n
 |_,_=>false
def B5 (S:af) (σ:List At) (ι cG:List Nat):List SC→List SC→Bool
 |[],[]=>true
 |c'::cs',c::cs=>E_ S σ ι cG c' c&&B5 S σ ι cG cs' cs
 |_,_=>false
def Qa (S:af) (σ:List At) (ι cG:List Nat):aF→aF→Bool
 | .c c',.c c=>E_ S σ ι cG c' c
 | .agg cs',.agg cs=>B5 S σ ι cG cs' cs
 |_,_=>false
def Bj (S:af) (σ:List At) (ι cG:List Nat):List aF→List aF→Bool
 |[],[]=>true
 |c'::cs',c::cs=>Qa S σ ι cG c' c&&Bj S σ ι cG cs' cs
 |_,_=>false
def Ka (S:af) (σ:List At) (ι cG:List Nat):SB→SB→Bool
 | .box cs',.box cs=>B5 S σ ι cG cs' cs
 | .row e x,.row e' y=>e==e'&& (x.sub σ).same y
 | .map x,.map y=> (x.sub σ).same y
 |_,_=>false
def zI (S:af) (σ:List At) (ι cG:List Nat):List Nat→List SB→Bool
 |[],[]=>true
 |n::ns,b'::bs=> (match List.lookup n S.heap with|some b=>Ka S σ ι cG b' b|none=>false)&&zI S σ ι cG ns bs
 |_,_=>false
section
variable {S:af} {ρ:List L} {σ:List At} {ι cG:List Nat}
theorem Fq {m n} (h:(ι[m]? ==some n)=true):(ι[m]?).getD 0=n∧m<ι.length:=by
 grind
theorem ZM {c' c} (h:E_ S σ ι cG c' c=true):rW (S.aa ρ) ι cG (c'.aa (σ.map (At.ev ρ))) (c.aa ρ):=by
 have same:∀{x y:At},(x.sub σ).same y=true→x.ev (σ.map (At.ev ρ))=y.ev ρ:=fun hs=>by rw[←At.yu,At.lW hs]
 unfold E_ at h;split at h
 · trivial
 · simp only[bt,dj]at h;obtain⟨rfl,h2⟩:=h;exact .inl (by grind[SC.aa])
 · exact .inr ⟨[],by simp only[Kd.pv,same h];rfl,rfl,fun k hk=>by simp[SC.aa,C.names]at hk⟩
 · split at h
   · rename_i e y hl;simp only[bt,CV,dj]at h;refine .inr ⟨(y.ev ρ).az,by grind[Kd.pv],by grind[SC.aa,av.view,dE,SB.aa],fun k hk=> ?_⟩;simp_all[SC.aa,C.names]
   · cases h
 · exact⟨rfl,by simp[SC.aa,C.names]⟩
 · obtain⟨h1,h2⟩:=Fq h;exact⟨by grind[SC.aa,C.cR],by grind[SC.aa,C.names]⟩
 · simp only[bt]at h;obtain⟨h1,h2⟩:=Fq h.1.1;exact⟨by grind[SC.aa,C.cR],by grind[SC.aa,C.names]⟩
 · simp only[bt,beq_iff_eq]at h;obtain⟨h1,h2⟩:=Fq (by simpa using h.1);exact⟨by simp_all[SC.aa,C.cR],by grind[SC.aa,C.names]⟩
 · simp only[bt,beq_iff_eq]at h;exact⟨by grind[SC.aa,C.cR],by simp[SC.aa,C.names]⟩
 · rename_i f ms f' ns;simp only[bt,beq_iff_eq]at h;obtain⟨rfl,h2⟩:=h;have h3:ns=ms.map (fun m=> (ι[m]?).getD 0)∧∀m∈ms,m<ι.length:=by
     induction ms generalizing ns with
     |nil=>simp_all
     | cons m ms ih=>
      cases ns with
      |nil=>simp at h2
      |cons n ns=>
       grind
   exact⟨by simp_all[SC.aa,C.cR],by simp_all[SC.aa,C.names]⟩
 · obtain⟨h1,h2⟩:=Fq h;exact⟨by grind[SC.aa,C.cR],by grind[SC.aa,C.names]⟩
 · cases h
theorem K6:∀{cs' cs:List SC},B5 S σ ι cG cs' cs=true→cs.length=cs'.length∧∀(i:Nat) (c':C),(cs'.map (SC.aa (σ.map (At.ev ρ))))[i]? =some c'→∃c,(cs.map (SC.aa ρ))[i]? =some c∧rW (S.aa ρ) ι cG c' c
 |[],[],_=> ⟨rfl,by simp⟩
 |c'::cs',c::cs,h=>by
  simp only[B5,bt]at h;obtain⟨h1,h2⟩:=K6 h.2;refine⟨by simp[h1],fun i d hd=> ?_⟩
  cases i with
  |zero=>simp at hd;subst hd;exact⟨_,rfl,ZM h.1⟩
  |succ i=>grind
 |[],_::_,h=>by cases h
 |_::_,[],h=>by cases h
theorem aiY {x' x} (h:Qa S σ ι cG x' x=true):yO (S.aa ρ) ι cG (x'.aa (σ.map (At.ev ρ))) (x.aa ρ):=by
 cases x' with
 |c c'=>
  cases x with
  |c c=>exact ZM h
  |agg=>cases h
 | agg cs'=>
  cases x with
  |c=>cases h
  |agg cs=>
   obtain⟨h1,h2⟩:=K6 (ρ:=ρ) h;exact⟨by simpa using h1,h2⟩
theorem QQ:∀{xs' xs:List aF},Bj S σ ι cG xs' xs=true→xs.length=xs'.length∧∀(i:Nat) (x':V1),(xs'.map (aF.aa (σ.map (At.ev ρ))))[i]? =some x'→∃x,(xs.map (aF.aa ρ))[i]? =some x∧yO (S.aa ρ) ι cG x' x
 |[],[],_=> ⟨rfl,by simp⟩
 |c'::cs',c::cs,h=>by
  simp only[Bj,bt]at h;obtain⟨h1,h2⟩:=QQ h.2;refine⟨by simp[h1],fun i d hd=> ?_⟩
  cases i with
  |zero=>simp at hd;subst hd;exact⟨_,rfl,aiY h.1⟩
  |succ i=>grind
 |[],_::_,h=>by cases h
 |_::_,[],h=>by cases h
theorem anK {b' b} (h:Ka S σ ι cG b' b=true):yr (S.aa ρ) ι cG (b'.aa (σ.map (At.ev ρ))) (b.aa ρ):=by
 cases b' with
 | box cs'=>
  cases b with
  |box cs=>
   obtain⟨h1,h2⟩:=K6 (ρ:=ρ) h;exact⟨by simpa using h1,h2⟩
  |_=>cases h
 | row e x=>
  cases b with
  |row e' y=>
   simp only[Ka,bt,beq_iff_eq]at h;exact⟨h.1,by rw[←At.yu,At.lW h.2]⟩
  |_=>cases h
 | map x=>
  cases b with
  |map y=>
   show(x.ev _).az=(y.ev _).az;rw[←At.yu,At.lW h]
  |_=>cases h
theorem VQ:∀{ns:List Nat} {bs:List SB},zI S σ ι cG ns bs=true→ns.length=bs.length∧∀(i:Nat) (b':dI),(bs.map (SB.aa (σ.map (At.ev ρ))))[i]? =some b'→∃n b,ns[i]? =some n∧(S.aa ρ).heap.lookup n=some b∧yr (S.aa ρ) ι cG b' b
 |[],[],_=> ⟨rfl,by simp⟩
 | n ::ns,b::bs,h=>by
  simp only[zI,bt]at h;obtain⟨h1,h2⟩:=VQ h.2;refine⟨by simp[h1],fun i d hd=> ?_⟩
  cases i with
  |zero=>
   simp at hd;subst hd;have h3:=h.1;split at h3
   · rename_i b0 hb0;exact⟨n,b0.aa ρ,rfl,by rw[dE,hb0];rfl,anK h3⟩
   · cases h3
  |succ i=>grind
 |[],_::_,h=>by cases h
 |_::_,[],h=>by cases h
end
def IB {α:Type}:List (Option α)→Option (List α)
 |[]=>some []
 |some x::l=> (IB l).map (x:: ·)
 |none::_=>none
def au.bare (T:aU) (s:au):Bool:=s.res.bare&&s.out.all fun x=>match x.2 with
 | .box cs=>cs.all SC.bare
 | .row e (.v i)=>decide (s.cY≤i)&&match(List.lookup e T).bind Ty.nu with
  |some ks=>ks.all fun k=>decide (k≠ .sl)
  |none=>false
 |_=>false
def au.look (s:au):List Nat:=s.out.filterMap fun x=>match x.2 with
 | .row _ (.v i)=>some (i-s.cY)
 |_=>none
def xS (k:Nat) (o:bY) (ns:List Nat):Bool:=ns.all fun n=>decide (n<k+8)&& (decide (k≤n)|| (List.lookup n o).isSome)
def F' (T:aU) (S:af) (d:Nat) (xs:List aF) (s:au):Option bz:=
 let a:=va S (MN S ⟨List.replicate s.cY none,List.replicate s.H.length none,[]⟩ s.params xs) 0 s.H
 match IB a.σ,IB a.ι with
 | some σ,some ι=>
  let cG:=a.cG
  let bare:=s.bare T&& !cG.isEmpty
  let ar:=(if bare then[]else cG)++(ι.zipIdx.filterMap fun x=>if(List.lookup x.2 s.out).isNone then some x.1 else none)
  let κ:=o9 ι d
  let Oz:=σ++(List.range s.iF).map fun i=> .v (S.nv+i)
  if σ.length=s.cY∧decide ι.Nodup=true∧Bj S σ ι cG s.params xs=true∧zI S σ ι cG ι s.H=true∧(ι.all fun n=> !S.ar.contains n&& !cG.contains n)=true∧(cG.all fun n=> !S.ar.contains n)=true∧
   xS ι.length s.out s.res.names=true∧(s.out.all fun x=>decide (x.1<ι.length+8)&&xS ι.length s.out x.2.names)=true∧(ar.all fun n=>decide (n<d))=true
  then some ⟨[.call s.tag s.F σ s.iF (if bare then s.look else[])],s.res.ez (SC.put Oz κ),⟨s.out.map fun x=> (κ x.1,x.2.ez (SC.put Oz κ) (At.sub Oz)),ar⟩,ι++cG⟩else none
 |_,_=>none
theorem SC.V9 (ρ) (b:SB):(b.aa ρ).names=b.names:=by
 cases b with
 |box cs=>exact SC.VY ρ cs
 |row=>rfl
 |map=>rfl
theorem BS {l:bY} {n} {b} (h:List.lookup n l=some b):(n,b)∈l:=by
 induction l with
 |nil=>cases h
 |cons x l ih=>
  grind
theorem azb {P} {T} {S} {ρ} {d} {xs} {s} {r} (hs:s.ok P) (h:F' T S d xs s=some r) (y_:Sat ρ S.nv r.nds):
   AF P (S.aa ρ) d s.f (xs.map (aF.aa ρ)) (r.v.aa ρ) (r.e.aa ρ) r.rd:=by
 unfold F' at h;simp only at h;generalize va S (MN S ⟨List.replicate s.cY none,List.replicate s.H.length none,[]⟩ s.params xs) 0 s.H=a at h;split at h
 · rename_i σ ι hσ hι;generalize aEU:a.cG=cG at h;generalize OA:(s.bare T&& !cG.isEmpty)=bare at h;generalize aCm:(if bare=true then[]else cG)++(ι.zipIdx.filterMap fun x=>if(List.lookup x.2 s.out).isNone then some x.1 else none)=ar at h;by_cases hc:σ.length=s.cY∧decide ι.Nodup=true∧Bj S σ ι cG s.params xs=true∧zI S σ ι cG ι s.H=true∧(ι.all fun n=> !S.ar.contains n&& !cG.contains n)=true∧(cG.all fun n=> !S.ar.contains n)=true∧
     xS ι.length s.out s.res.names=true∧(s.out.all fun x=>decide (x.1<ι.length+8)&&xS ι.length s.out x.2.names)=true∧(ar.all fun n=>decide (n<d))=true
   · rw [ay hc]at h;simp only[jd]at h;subst h;subst aCm;obtain⟨hc1,hc2,hc3,Hx,OB,hc6,hc7,Hy,hc9⟩:=hc;simp only[dj]at hc2;simp only[bC,bt,pN,CV,zg]at OB hc6;simp only[bC,dj]at hc9;obtain⟨⟨o,q_,ho2⟩,_⟩:=y_;simp only[Nd.ev]at q_;generalize fi:(if bare=true then s.look else[])=us at q_;split at q_
     · rename_i l hF;split at q_
       · rename_i hn;cases q_;obtain⟨Cz,aCo⟩:=hn;have cT:(σ.map (At.ev ρ)).length=s.cY:=by simp[hc1]
         have hA:=hs (σ.map (At.ev ρ)) o cT hF Cz;have aat:(σ++(List.range s.iF).map fun i=>At.v (S.nv+i)).map (At.ev ρ)=σ.map (At.ev ρ)++o:=by
           rw[dk];congr 1;apply zh;intro i;simp only[gd,bV];by_cases hi:i<s.iF
           · simp_all[Nd.n,aV,Function.comp,At.ev,fx]
           simp_all
         obtain⟨oc,hf2⟩:=QQ (ρ:=ρ) hc3;obtain⟨hb1,hb2⟩:=VQ (ρ:=ρ) Hx;have hlk:∀n,List.lookup n (bY.aa (σ.map (At.ev ρ)++o) s.out)=(List.lookup n s.out).map (SB.aa (σ.map (At.ev ρ)++o)):=bY.ED _ s.out;have kb:∀ns,xS ι.length s.out ns=true→∀n∈ns,n<ι.length+8∧(n<ι.length→List.lookup n s.out≠none):=by
           intro ns gQ n hn;simp only[xS,bC,bt,tm,dj]at gQ;grind
         refine⟨_,_,_,_,ι,cG,hA,by simpa using hb1,hc2,by simpa using oc,hf2,hb2,fun n hn=> ⟨(OB n hn).1,(OB n hn).2⟩,hc6,?_,?_,?_,?_,?_,?_,?_,hc9,?_,?_,rfl⟩
         · grind[SV.ng]
         · intro n b hl;rw[hlk]at hl;simp only[aT]at hl;obtain⟨b0,hb0,rfl⟩:=hl;simp only[bC,bt,dj]at Hy;obtain⟨h1,h2⟩:=Hy _ (BS hb0);grind[SC.V9]
         · intro n hn hlt;rw[SV.ng]at hn;rw[hlk];have:=(kb _ hc7 n hn).2 hlt
           cases hx:List.lookup n s.out with
           |none=>grind
           |some _=>simp
         · intro n b hl m hm hlt;rw[hlk]at hl;simp only[aT]at hl;obtain⟨b0,hb0,rfl⟩:=hl;simp only[bC,bt,dj]at Hy;obtain⟨h1,h2⟩:=Hy _ (BS hb0);rw[hlk];have:=(kb _ h2 m (by grind[SC.V9])).2 hlt
           cases hx:List.lookup m s.out with
           |none=>grind
           |some _=>simp
         ·
           cases hbr:bare with
           |false=>grind[fL.aa]
           | true =>
             right;rw[hbr]at OA fi;rw[←fi]at aCo;simp only[bt]at OA;have hb:=OA.1;unfold au.bare at hb;simp only[bt,bC]at hb;refine⟨?_,fun n b hl=> ?_⟩
             · have hb1:=hb.1;generalize s.res=res at hb1
               cases res with
               | v x=>
                 cases x with
                 |c c=>exact SC.zU hb1
                 |agg cs=>
                  simp only[SV.bare,aF.bare,bC]at hb1;simp only[SV.aa,aF.aa,V.bare,V1.bare,bC,fe];rintro _ ⟨c,hc',rfl⟩;grind[SC.zU]
               | aj ys=>
                 simp only[SV.bare,bC]at hb1;simp only[SV.aa,V.bare,bC,fe];rintro _ ⟨y,hy,rfl⟩;have:=hb1 y hy
                 cases y with
                 |c c=>exact SC.zU this
                 |agg cs=>
                  simp only[aF.bare,bC]at this;simp only[aF.aa,V1.bare,bC,fe];rintro _ ⟨c,hc',rfl⟩;grind[SC.zU]
             · rw [hlk]at hl;simp only[aT]at hl;obtain⟨b0,hb0,rfl⟩:=hl;have ta:=BS hb0;have h1:=hb.2 _ ta
               cases b0 with
               | box cs=>
                 simp only[bC]at h1;simp only[SB.aa,dI.bare,bC,fe];rintro _ ⟨c,hc',rfl⟩;grind[SC.zU]
               | row e x=>
                 cases x with
                 | v i=>
                  simp only[bt,dj]at h1;have c_:i-s.cY∈s.look:=by
                   exact tj.2 ⟨_,ta,rfl⟩
                  grind[SB.aa,dI.bare,At.ev]
                 |_=>cases h1
               |map=>cases h1
         ·
           intro i n hi;rw[hlk];simp only[fL.aa,im,tj];constructor
           · rintro(h1| ⟨⟨m,j⟩,h1,h2⟩)
             · grind
             · split at h2
               · rename_i h3;cases h2;rw[List.mem_zipIdx_iff_getElem?]at h1;have h4:=jL.1 hc2;have:i=j:=by
                  grind
                 subst this;simp only[Option.isNone_iff_eq_none]at h3;rw[h3];rfl
               · cases h2
           · intro h1;right;refine⟨(n,i),by grind,?_⟩;have:List.lookup i s.out=none:=by
               cases hx:List.lookup i s.out with
               |none=>rfl
               |some _=>grind
             rw[this];rfl
         · intro n hn;simp only[fL.aa,im,tj]at hn;rcases hn with h1| ⟨⟨m,j⟩,h1,h2⟩
           · grind
           grind
         · rw[SV.yi,aat]
         · simp only[fL.aa,bY.aa,Hp.cR,gd];apply fK;intro x _;simp only[Function.comp,SB.yi,aat]
       · cases q_
     · cases q_
   grind
 · cases h
end
end
end Go.Proofs.YtndegphojkiblaaGreatDoor
