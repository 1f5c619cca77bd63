/- Towards the last file's theorem: part 8. -/
import Derived.Test.YtndegphojkiblaaGreatDoorG7
set_option linter.all false
set_option maxHeartbeats 4000000
set_option maxRecDepth 100000
namespace Go.Proofs.YtndegphojkiblaaGreatDoor
noncomputable section
section
open Go.RowKit
open Classical
def ag.eu (S:ag) (x:aM):Option aB:=match S.arg x with|some (.v x)=>some x|_=>none
theorem ag.HV (ρ:List L) {S:ag} {x:aM} {y:aB} (h:S.eu x=some y):(S.aa ρ).eu x=some (y.aa ρ):=by
 unfold ag.eu at h;split at h
 · rename_i hx;cases h;have:=ag.bL ρ hx;simp only[ak.eu,this];rfl
 · cases h
def ag.lits (S:ag):List aM→Option (List (List (Kd×At))×List Nat)
 |[]=>some ([],[])
 | x::xs=>match S.eu x with
  |some y=>match S.sinks y.cells,S.lits xs with
   |some (r,ns),some (rs,ms)=>some (r::rs,ns++ms)
   |_,_=>none
  |none=>none
theorem ag.Vl {S:ag} {ρ:List L}:∀{xs:List aM} {rows:List (List (Kd×At))} {ns:List Nat},S.lits xs=some (rows,ns)→(S.aa ρ).lits xs=some (rows.map (bp ρ),ns)
 |[],_,_,h=>by cases h;rfl
 |x::xs,rows,ns,h=>by
  simp only[ag.lits]at h;split at h
  · rename_i y hy;split at h
    · rename_i r ns1 rs ms h1 h2;cases h;simp only[ak.lits,ag.HV ρ hy,aB.BQ,ag.LP h1,ag.Vl h2];rfl
    · cases h
  · cases h
def Mr (T:aV) (S:ag) (d:Nat) (t:aw) (len:Nat) (parts:List (Nat×aM)):Option bm:=
 match(List.lookup t T).bind Ty.elem with
 |some e=>match(List.lookup e T).bind Ty.app,S.lits (parts.map (·.2))with
  |some (n,_),some (rows,ns)=>if parts.map (·.1)=List.range len∧(rows.all (·.length==n))=true∧len*n≤16777216 then some ⟨[.lit rows],.c1 (.own d),⟨[(d,.row e (.v S.nv))],ns⟩,[]⟩else none
  |_,_=>none
 |none=>none
def yN:List Kd→Option (List (Kd×At))
 |[]=>some []
 |k::ks=>match k.zero,yN ks with
  | .p k a,some ps=>some ((k,a)::ps)
  | .nil,some ps=>some ((.sl,.r0)::ps)
  |_,_=>none
theorem Ag {ρ:List L}:∀{ks:List Kd} {ps:List (Kd×At)},yN ks=some ps→oV ((ks.map Kd.zero).map (SC.aa ρ))=some (bp ρ ps)
 |[],_,h=>by cases h;rfl
 |k::ks,ps,h=>by
  simp only[yN]at h;split at h
  · rename_i k' a ps' h1 h2;cases h;have:=Ag (ρ:=ρ) h2;unfold oV at this⊢;simp only[bC,je,h1,SC.aa,C.pv,this];rfl
  · rename_i ps' h1 h2;cases h;have:=Ag (ρ:=ρ) h2;unfold oV at this⊢;simp only[bC,je,h1,SC.aa,C.pv,this];rfl
  · cases h
def At.same:At→At→Bool
 | .v x,.v y=>x==y
 | .i x,.i y=>x==y
 | .b x,.b y=>x==y
 | .s x,.s y=>decide (x.data.toList=y.data.toList)
 | .r0,.r0=>true
 |_,_=>false
theorem At.mo {a b:At} (h:a.same b=true):a=b:=by
 unfold At.same at h;split at h
 · simp at h;rw[h]
 · simp at h;rw[h]
 · simp at h;rw[h]
 · rename_i x y;simp only[cg]at h;have:=nQ.1 h;cases x;simp_all
 · rfl
 · cases h
def LY (T:aV) (S:ag) (d:Nat) (t:aw) (l c:aM):Option bm:=
 match(List.lookup t T).bind Ty.elem,S.arg l,S.arg c with
 | some e,some (.v (.c (.p (.int _) a))),some (.v (.c (.p (.int _) a')))=>match List.lookup e T with
  |some re=>match re.app,re.oX.bind yN with
   |some (_,b),some ps=>if a.same a' then some ⟨[.rep a ps b],.c1 (.own d),⟨[(d,.row e (.v S.nv))],[]⟩,[]⟩else none
   |_,_=>none
  |none=>none
 |_,_,_=>none
def Oj (T:aV) (S:ag) (t:aw) (x y:aM):Option bm:=
 match(List.lookup t T).bind Ty.elem,S.arg x,S.arg y with
 | some e,some (.v (.c cx)),some (.v (.c cy))=>match List.lookup e T,S.view S.nv cy with
  | some re,some (nds,a)=>match cx with
   | .own n=>match List.lookup n S.heap with
    |some (.row e' x)=>if e'=e then some ⟨nds++ [.Hk x a re.size],.c1 (.p (.int .i64) (.v (S.nv+fX nds+1))),⟨[(n,.row e (.v (S.nv+fX nds)))],[]⟩,[]⟩else none
    |_=>none
   | .sub n lo ln=>match List.lookup n S.heap with
    |some (.row e' x)=>if e'=e then some ⟨nds++ [.vg x lo ln a re.size],.c1 (.p (.int .i64) (.v (S.nv+fX nds+1))),⟨[(n,.row e (.v (S.nv+fX nds)))],[]⟩,[]⟩else none
    |_=>none
   |_=>none
  |_,_=>none
 |_,_,_=>none
def Ks (T:aV) (S:ag) (s d:aw) (x:aM):Option bm:=
 match S.arg x,List.lookup s T,List.lookup d T with
 | some (.v (.c (.p (.int k0) a))),some rs,some rd=>match rs.some,rd.int with
  |true,some k=>match a with
   | .i n=>some (.pure (.c1 (.p (.int k) (.i (k.wrap n)))))
   |a=>if rs.int=some k∧k0=k then some ⟨[.conv k a],.c1 (.p (.int k) (.v S.nv)),dQ,[]⟩else some ⟨[.conv k a],.c1 (.p (.int k) (.v S.nv)),dQ,[]⟩
  |_,_=>none
 |some (.v (.c (.p .str a))),some rs,some rd=>if rs.ux&&rd.ux then some (.pure (.c1 (.p .str a)))else none
 | some (.v (.c c)),some rs,some rd=>match S.view S.nv c,rs.sl,rd.ux with
  |some (nds,a),some e,true=>match(List.lookup e T).bind Ty.int with
   |some .u8=>some ⟨nds++ [.str a],.c1 (.p .str (.v (S.nv+fX nds))),dQ,[]⟩
   |_=>none
  |_,_,_=>none
 |_,_,_=>none
def foldI (op:BinOp) (k:bS) (a b:At):Option At:=match a,b with
 | .i m,.i n=>match bF op k m n with
  |some (.i z)=>some (.i z)
  |some (.b z)=>some (.b z)
  |_=>none
 |_,_=>none
theorem alg {op:BinOp} {k:bS} {a b z:At} (h:foldI op k a b=some z) (ρ:List L):bF op k (a.ev ρ).af (b.ev ρ).af=some (z.ev ρ):=by
 unfold foldI at h;split at h
 · split at h
   · rename_i hz;cases h;exact hz
   · rename_i hz;cases h;exact hz
   · cases h
 · cases h
def MD (m:Nat) (k0 k1 k2 k3:bS) (a0 a1 a2 a3 b0 b1 b2 b3:At):List Nd:=
 [.bi .eql k0 a0 b0,.bi .eql k1 a1 b1,.bb .and (.v m) (.v (m+1)),.bi .eql k2 a2 b2,.bb .and (.v (m+2)) (.v (m+3)),.bi .eql k3 a3 b3,.bb .and (.v (m+4)) (.v (m+5))]
def PT (T:aV) (S:ag) (op:BinOp) (t:aw) (x y:aM):Option bm:=
 match S.arg x,S.arg y with
 | some (.v (.c (.p (.int k) a))),some (.v (.c (.p (.int k') b)))=>if PX op||decide (k=k')then(match foldI op k a b with
   |some z=>some ⟨[],.c1 (.p (if mq op then .bool else .int k) z),dQ,[]⟩
   |none=>some ⟨[.bi op k a b],.c1 (.p (if mq op then .bool else .int k) (.v S.nv)),dQ,[]⟩)else none
 |some (.v (.c (.p .str a))),some (.v (.c (.p .str b)))=>some ⟨[.bs op a b],.c1 (.p (if mq op then .bool else .str) (.v S.nv)),dQ,[]⟩
 |some (.v (.c (.p .bool a))),some (.v (.c (.p .bool b)))=>match List.lookup t T with
  |some r=>if r.cV=true∧op≠ .and then some ⟨[.bb op a b],.c1 (.p .bool (.v S.nv)),dQ,[]⟩else none
  |none=>none
 | some (.v (.agg [.p (.int k0) a0,.p (.int k1) a1,.p (.int k2) a2,.p (.int k3) a3])),some (.v (.agg [.p (.int j0) b0,.p (.int j1) b1,.p (.int j2) b2,.p (.int j3) b3]))=>match List.lookup t T with
  | some r=>if r.eq4=true∧k0=j0∧k1=j1∧k2=j2∧k3=j3 then match op with
    | .eql=>some ⟨MD S.nv k0 k1 k2 k3 a0 a1 a2 a3 b0 b1 b2 b3,.c1 (.p .bool (.v (S.nv+6))),dQ,[]⟩
    | .neq=>some ⟨MD S.nv k0 k1 k2 k3 a0 a1 a2 a3 b0 b1 b2 b3++ [.not (.v (S.nv+6))],.c1 (.p .bool (.v (S.nv+7))),dQ,[]⟩
    |_=>none
   else none
  |none=>none
 |_,_=>none
def QZ (S:ag) (op:UnOp) (x:aM):Option bm:=
 match S.arg x,op with
 |some (.v (.c (.p .bool a))),.not=>some ⟨[.not a],.c1 (.p .bool (.v S.nv)),dQ,[]⟩
 |some (.v (.c (.p (.int k) a))),.neg=>some ⟨[.un .neg k a],.c1 (.p (.int k) (.v S.nv)),dQ,[]⟩
 |some (.v (.c (.p (.int k) a))),.xor=>some ⟨[.un .xor k a],.c1 (.p (.int k) (.v S.nv)),dQ,[]⟩
 |_,_=>none
def GV (place:Nat→Option (Nat×Nat)) (cells:List SC):List (Nat×List SC)→Option (List SC)
 |[]=>some cells
 | (i,x)::rest=>match place i with
  |none=>none
  |some (off,size)=>if x.length=size∧off+x.length≤cells.length then GV place (cells.take off++x++cells.drop (off+x.length)) rest else none
def ag.parts (S:ag):List (Nat×aM)→Option (List (Nat×List SC))
 |[]=>some []
 | (i,x)::l=>match S.eu x,S.parts l with
  |some y,some ys=>some ((i,y.cells)::ys)
  |_,_=>none
def M8 (T:aV) (S:ag) (t:aw) (parts:List (Nat×aM)):Option bm:=
 match List.lookup t T with
 |some r=>match r.oX,r.places,S.parts parts with
  |some ks,some ps,some xs=> (GV (ps[·]?) (ks.map Kd.zero) xs).map fun cs=> .pure (.v (.agg cs))
  |_,_,_=>none
 |none=>none
section
variable {P:aQ} {T:aV} {S:ag} {ρ:List L}
theorem Ai (hT:aV.ok P T) {t e:aw} (h:(List.lookup t T).bind Ty.elem=some e):eL P t=some e:=by
 simp only[gE]at h;obtain⟨row,hr,dx⟩:=h;have:=hT _ _ hr;subst this;exact dx
theorem aES (hT:aV.ok P T) {e:aw} {x:Nat×Nat} (h:(List.lookup e T).bind Ty.app=some x):jH P e=some x:=by
 simp only[gE]at h;obtain⟨row,hr,dx⟩:=h;have:=hT _ _ hr;subst this;exact dx
theorem aBQ (hT:aV.ok P T) {d:Nat} {t:aw} {len:Nat} {parts:List (Nat×aM)} {r:bm} (h:Mr T S d t len parts=some r) (hs:Sat ρ S.nv r.nds):(yH P (S.aa ρ) d t len parts).map bc.of=some (r.aa ρ):=by
 unfold Mr at h;split at h
 · rename_i e dx;split at h
   · rename_i n b rows ns ft hl;split at h
     · rename_i hc;cases h;obtain⟨l,h1,h2⟩:=hs.dM rfl;simp only[Nd.ev]at h1;cases h1;simp only[yH,Ai hT dx,aES hT ft,ag.Vl hl];have tW:bA n (rows.map (bp ρ))=true:=by
        have:=hc.2.1;simp only[bk]at this;simp only[bA,bk,dy];rintro _ ⟨x,hx,rfl⟩;simp_all[bp]
       rw[au ⟨hc.1,tW,hc.2.2⟩];simp only[aJ,bc.of,bm.aa,fO.aa,cb.aa,bC,cj,SB.aa,h2,L.ah];rfl
     · cases h
   · cases h
 · cases h
theorem apq (hT:aV.ok P T) {d:Nat} {t:aw} {l c:aM} {r:bm} (h:LY T S d t l c=some r) (hs:Sat ρ S.nv r.nds):(yv P (S.aa ρ) d t l c).map bc.of=some (r.aa ρ):=by
 unfold LY at h;split at h
 · rename_i e k1 a k2 a' dx hl hc;split at h
   · rename_i re he;have:=hT _ _ he;subst this;split at h
     · rename_i n b ps ft fM;have rE:jH P e=some (n,b):=ft;simp only[gE]at fM;obtain⟨ks,wq,hz⟩:=fM;split at h
       · rename_i H4;have:=At.mo H4;subst this;cases h;obtain⟨l1,h1,h2⟩:=hs.dM rfl;simp only[Nd.ev]at h1;split at h1
         · rename_i jA;cases h1;have hl':(S.aa ρ).arg l=some (.v (.c (.p (.sc (.int k1 (a.ev ρ).af))))):=ag.bL ρ hl;have hc':(S.aa ρ).arg c=some (.v (.c (.p (.sc (.int k2 (a.ev ρ).af))))):=ag.bL ρ hc;simp only[yv,Ai hT dx,hl',hc',rE,AJ (P:=P) wq ρ,Ag hz];rw[au ⟨trivial,jA.1,jA.2.1,jA.2.2⟩];simp only[aJ,bc.of,bm.aa,fO.aa,cb.aa,bC,cj,SB.aa,h2,L.ah];rfl
         · cases h1
       · cases h
     · cases h
   · cases h
 · cases h
theorem aFJ (hT:aV.ok P T) {t:aw} {x y:aM} {r:bm} (h:Oj T S t x y=some r) (hs:Sat ρ S.nv r.nds):(qf P (S.aa ρ) t x y).map bc.of=some (r.aa ρ):=by
 unfold Oj at h;split at h
 · rename_i e cx cy dx hx hy;have bG:(S.aa ρ).arg x=some (.v (.c (cx.aa ρ))):=ag.bL ρ hx;have hy':(S.aa ρ).arg y=some (.v (.c (cy.aa ρ))):=ag.bL ρ hy;split at h
   · rename_i re nds a he hv;have:=hT _ _ he;subst this;split at h
     · rename_i n;split at h
       · rename_i e' xr hl;split at h
         · rename_i fK;subst fK;cases h;obtain⟨hs1,hs2⟩:=Sat.app hs;obtain⟨ls,h1,h2⟩:=hs2.one;simp only[Nd.ev]at h1;split at h1
           · rename_i hc;cases h1;have oI:=h2 0 (by simp[Nd.n]);have kM:=h2 1 (by simp[Nd.n]);simp only[gb,mL,eN]at oI;simp only[zB,mL,eN]at kM;have HZ:(S.aa ρ).view (.own n)=some (xr.ev ρ).ah:=by simp only[ak.view,dD,hl,aJ,SB.aa]
             have hx2:(S.aa ρ).arg x=some (.v (.c (.own n))):=bG;simp only[qf,Ai hT dx,hx2,hy',HZ,rZ hv hs1,dD,hl,aJ,SB.aa];rw[au ⟨trivial,hc⟩];simp only[aJ,bc.of,bm.aa,fO.aa,cb.aa,bC,cj,SB.aa,oI,kM,L.ah,SV.aa,aB.aa,SC.aa,Kd.pv,L.af]
           · cases h1
         · cases h
       · cases h
     · rename_i n lo ln;split at h
       · rename_i e' xr hl;split at h
         · rename_i fK;subst fK;cases h;obtain⟨hs1,hs2⟩:=Sat.app hs;obtain⟨ls,h1,h2⟩:=hs2.one;simp only[Nd.ev]at h1;split at h1
           · rename_i hc;cases h1;have oI:=h2 0 (by simp[Nd.n]);have kM:=h2 1 (by simp[Nd.n]);simp only[gb,mL,eN]at oI;simp only[zB,mL,eN]at kM;have HZ:(S.aa ρ).view (.sub n (lo.ev ρ).af.toNat (ln.ev ρ).af.toNat)=some (((xr.ev ρ).ah.drop (lo.ev ρ).af.toNat).take (ln.ev ρ).af.toNat):=by simp only[ak.view,dD,hl,aJ,SB.aa]
             have hx2:(S.aa ρ).arg x=some (.v (.c (.sub n (lo.ev ρ).af.toNat (ln.ev ρ).af.toNat))):=bG;simp only[qf,Ai hT dx,hx2,hy',HZ,rZ hv hs1,dD,hl,aJ,SB.aa];rw[au ⟨trivial,hc.1,hc.2⟩];simp only[aJ,bc.of,bm.aa,fO.aa,cb.aa,bC,cj,SB.aa,oI,kM,L.ah,SV.aa,aB.aa,SC.aa,Kd.pv,L.af]
           · cases h1
         · cases h
       · cases h
     · cases h
   · cases h
 · cases h
theorem Hq {t:aw} {k:bS} (h:GQ P t=some k):P.underlying t=some (.int k):=by
 unfold GQ at h;split at h
 · cases h;assumption
 · cases h
theorem asF (hT:aV.ok P T) {s d:aw} {x:aM} {r:bm} (h:Ks T S s d x=some r) (hs:Sat ρ S.nv r.nds):(lD P (S.aa ρ) s d x).map bc.pure=some (r.aa ρ):=by
 unfold Ks at h;split at h
 · rename_i k0 a rs rd hx jB gN;have:=hT _ _ jB;subst this;have:=hT _ _ gN;subst this;have bG:(S.aa ρ).arg x=some (.v (.c (.p (.sc (.int k0 (a.ev ρ).af))))):=ag.bL ρ hx;split at h
   · rename_i k hsome hk;obtain⟨ds,Ia⟩:=zu.1 (show(P.underlying s).isSome=true from hsome);have eD:=Hq (P:=P) hk;have wu:lD P (S.aa ρ) s d x=some (.sc (.int k (k.wrap (a.ev ρ).af))):=by simp_all[lD]
     rw[wu];split at h
     · cases h;rfl
     · have hh:r=⟨[.conv k a],.c1 (.p (.int k) (.v S.nv)),dQ,[]⟩:=by simp_all
       subst hh;obtain⟨l,h1,h2⟩:=hs.dM rfl;simp only[Nd.ev]at h1;cases h1;simp only[aJ,bc.pure,bm.aa,SV.aa,aB.aa,SC.aa,Kd.pv,h2,L.af];rfl
   · cases h
 · rename_i a rs rd hx jB gN;have:=hT _ _ jB;subst this;have:=hT _ _ gN;subst this;have bG:(S.aa ρ).arg x=some (.v (.c (.p (.sc (.string (a.ev ρ).cv))))):=ag.bL ρ hx;split at h
   · rename_i hc;cases h;simp only[bt]at hc;simp only[lD,bG,x_ (P:=P) hc.1,x_ (P:=P) hc.2];rfl
   · cases h
 · rename_i c rs rd aJO aJP hx jB gN;have:=hT _ _ jB;subst this;have:=hT _ _ gN;subst this;split at h
   · rename_i nds a e hv lK hS;split at h
     · rename_i hu;cases h;simp only[gE]at hu;obtain⟨row,hr,hu⟩:=hu;have:=hT _ _ hr;subst this;obtain⟨hs1,hs2⟩:=Sat.app hs;obtain⟨l,h1,h2⟩:=hs2.dM rfl;simp only[Nd.ev,aW]at h1;obtain⟨bs,iK,h1⟩:=h1;cases h1;have bG:(S.aa ρ).arg x=some (.v (.c (c.aa ρ))):=ag.bL ρ hx;have hv':=rZ hv hs1;have wu:lD P (S.aa ρ) s d x=some (.sc (.string (strOfNums bs))):=by
        unfold lD;rw[bG];split
        · rename_i k n heq
          cases c with
          |p kk y=>
           cases kk with
           |int kk=>simp_all
           |_=>simp[SC.aa,Kd.pv]at heq
          |_=>simp[SC.aa]at heq
        · rename_i b heq
          cases c with
          |p kk y=>
           cases kk with
           |str=>simp_all
           |_=>simp[SC.aa,Kd.pv]at heq
          |_=>simp[SC.aa]at heq
        · rename_i c' _ _ heq;simp only[im,V.v.injEq,V1.c.injEq]at heq;subst heq;rw[hv',Bm (P:=P) lK,x_ (P:=P) hS];simp only[Hq (P:=P) hu,iK]
        simp_all
       rw[wu];simp only[aJ,bc.pure,bm.aa,SV.aa,aB.aa,SC.aa,Kd.pv,h2,L.cv];rfl
     · cases h
   · cases h
 · cases h
theorem aeX {op:BinOp} {k k':bS} {a b:Int} {l:L} (tb:Bool) (hk:(PX op||decide (k=k'))=true) (h:bF op k a b=some l):jM tb op (.int k a) (.int k' b)=some (if mq op then .bool l.br else .int k l.af):=by
 cases op<;>simp[PX]at hk<;>simp only[bF]at h<;>first
  | (subst hk;cases h;simp[jM,mq,bitsOf,L.af,L.br];done)
  | (subst hk;split at h; (rename_i hc;cases h;simp only[jM,mq,true_and];rw[jr hc];rfl);cases h)
  | (split at h; (rename_i hc;cases h;simp only[jM,mq];rw[jr hc];rfl);cases h)
theorem aEk {op:BinOp} {a b:cn} {l:L} (tb:Bool) (h:sa op a b=some l):jM tb op (.string a) (.string b)=some (if mq op then .bool l.br else .string l.cv):=by
 cases op<;>simp only[sa]at h<;>first
  | (cases h;rfl)
  | (split at h; (rename_i hc;cases h;simp only[jM,mq];rw[jr hc];rfl);cases h)
  |cases h
theorem azH {op:BinOp} {a b:Bool} {l:L} (h:cr op a b=some l) (hn:op≠ .and):jM true op (.bool a) (.bool b)=some (.bool l.br):=by
 cases op<;>simp only[cr]at h<;>first|exact absurd rfl hn| (cases h;rfl)|cases h
theorem abB {ρ:List L} {m:Nat} {k0 k1 k2 k3:bS} {a0 a1 a2 a3 b0 b1 b2 b3:At} {r:List Nd} (hs:Sat ρ m (MD m k0 k1 k2 k3 a0 a1 a2 a3 b0 b1 b2 b3++r)):
  (At.v (m+6)).ev ρ= .b ((a0.ev ρ).af==(b0.ev ρ).af&& (a1.ev ρ).af==(b1.ev ρ).af&& (a2.ev ρ).af==(b2.ev ρ).af&& (a3.ev ρ).af==(b3.ev ρ).af)∧Sat ρ (m+7) r:=by
 obtain⟨⟨l0,h0,i0⟩,⟨l1,h1,i1⟩,⟨l2,h2,i2⟩,⟨l3,h3,i3⟩,⟨l4,h4,i4⟩,⟨l5,h5,i5⟩,⟨l6,h6,i6⟩,hr⟩:=hs;cases h0;cases h1;cases h3;cases h5;have g:∀(j:Nat) (x:L) (ls:List L),(∀i,i<1→ρ[j+i]? =ls[i]?)→ls=[x]→(At.v j).ev ρ=x:=fun j x ls hi hl=>by
  simp_all[At.ev,eN]
 have e0:=g m _ _ i0 rfl;have e1:=g (m+1) _ _ i1 rfl;have h2:some [L.b (((At.v m).ev ρ).br&& ((At.v (m+1)).ev ρ).br)]=some l2:=h2;cases h2;have e2:=g (m+2) _ _ i2 rfl;have e3:=g (m+3) _ _ i3 rfl;have h4:some [L.b (((At.v (m+2)).ev ρ).br&& ((At.v (m+3)).ev ρ).br)]=some l4:=h4;cases h4;have e4:=g (m+4) _ _ i4 rfl;have e5:=g (m+5) _ _ i5 rfl;have h6:some [L.b (((At.v (m+4)).ev ρ).br&& ((At.v (m+5)).ev ρ).br)]=some l6:=h6;cases h6;have e6:=g (m+6) _ _ i6 rfl;refine⟨?_,hr⟩;rw[e6,e4,e5,e2,e3,e0,e1];rfl
theorem alP (hT:aV.ok P T) {op:BinOp} {t:aw} {x y:aM} {yt:aw} {r:bm} {Sp:Spec} {d:Nat} (h:PT T S op t x y=some r) (hs:Sat ρ S.nv r.nds):bu P Sp (S.aa ρ) d (.binOp op t x y yt)=some (r.aa ρ):=by
 unfold PT at h;split at h
 · rename_i k a k' b hx hy;split at h
   · rename_i hk;have bG:(S.aa ρ).arg x=some (.v (.c (.p (.sc (.int k (a.ev ρ).af))))):=ag.bL ρ hx;have hy':(S.aa ρ).arg y=some (.v (.c (.p (.sc (.int k' (b.ev ρ).af))))):=ag.bL ρ hy;split at h
     · rename_i z hz;cases h;simp only[bu,bG,hy',aeX (rb P t) hk (alg hz ρ),aJ];simp only[bc.pure,bm.aa,SV.aa,aB.aa,SC.aa];cases mq op<;>rfl
     · cases h;obtain⟨l,h1,h2⟩:=hs.dM rfl;simp only[Nd.ev,aW]at h1;obtain⟨l',h1,h3⟩:=h1;cases h3;simp only[bu,bG,hy',aeX (rb P t) hk h1,aJ];simp only[bc.pure,bm.aa,SV.aa,aB.aa,SC.aa,h2];cases mq op<;>rfl
   · cases h
 · rename_i a b hx hy;cases h;obtain⟨l,h1,h2⟩:=hs.dM rfl;simp only[Nd.ev,aW]at h1;obtain⟨l',h1,h3⟩:=h1;cases h3;have bG:(S.aa ρ).arg x=some (.v (.c (.p (.sc (.string (a.ev ρ).cv))))):=ag.bL ρ hx;have hy':(S.aa ρ).arg y=some (.v (.c (.p (.sc (.string (b.ev ρ).cv))))):=ag.bL ρ hy;simp only[bu,bG,hy',aEk (rb P t) h1,aJ];simp only[bc.pure,bm.aa,SV.aa,aB.aa,SC.aa,h2];cases mq op<;>rfl
 · rename_i a b hx hy;split at h
   · rename_i row hr;have:=hT _ _ hr;subst this;split at h
     · rename_i hb;obtain⟨hb,hne⟩:=hb;have hb':rb P t=true:=hb;cases h;obtain⟨l,h1,h2⟩:=hs.dM rfl;simp only[Nd.ev,aW]at h1;obtain⟨l',h1,h3⟩:=h1;cases h3;have bG:(S.aa ρ).arg x=some (.v (.c (.p (.sc (.bool (a.ev ρ).br))))):=ag.bL ρ hx;have hy':(S.aa ρ).arg y=some (.v (.c (.p (.sc (.bool (b.ev ρ).br))))):=ag.bL ρ hy;simp only[bu,bG,hy',hb',azH h1 hne,aJ];simp only[bc.pure,bm.aa,SV.aa,aB.aa,SC.aa,h2];rfl
     · cases h
   · cases h
 · rename_i k0 a0 k1 a1 k2 a2 k3 a3 j0 b0 j1 b1 j2 b2 j3 b3 hx hy;split at h
   · rename_i row hr;have:=hT _ _ hr;subst this;split at h
     · rename_i hb;obtain⟨hb,rfl,rfl,rfl,rfl⟩:=hb;have hb':xQ P t=true:=hb;have bG:(S.aa ρ).arg x=some (.v (.agg [.p (.sc (.int k0 (a0.ev ρ).af)),.p (.sc (.int k1 (a1.ev ρ).af)),.p (.sc (.int k2 (a2.ev ρ).af)),.p (.sc (.int k3 (a3.ev ρ).af))])):=ag.bL ρ hx;have hy':(S.aa ρ).arg y=some (.v (.agg [.p (.sc (.int k0 (b0.ev ρ).af)),.p (.sc (.int k1 (b1.ev ρ).af)),.p (.sc (.int k2 (b2.ev ρ).af)),.p (.sc (.int k3 (b3.ev ρ).af))])):=ag.bL ρ hy;split at h
       · cases h;obtain⟨e,_⟩:=abB (r:=[]) (by rw[kj];exact hs);simp only[bu,bG,hy',FM,hb',and_self,if_true,aJ,bc.pure,bm.aa,SV.aa,aB.aa,SC.aa,e,Kd.pv];rfl
       · cases h;obtain⟨e,⟨l,h1,h2⟩,_⟩:=abB hs;cases h1;have h2:=h2 0 (by simp[Nd.n]);simp only[gb,mL]at h2;simp only[bu,bG,hy',FM,hb',and_self,if_true,aJ,bc.pure,bm.aa,SV.aa,aB.aa,SC.aa,At.ev,h2,eN,Kd.pv];simp only[At.ev]at e;rw[e];rfl
       · cases h
     · cases h
   · cases h
 · cases h
theorem amz {op:UnOp} {t:aw} {x:aM} {r:bm} {Sp:Spec} {d:Nat} (h:QZ S op x=some r) (hs:Sat ρ S.nv r.nds):bu P Sp (S.aa ρ) d (.unOp op t x)=some (r.aa ρ):=by
 unfold QZ at h;split at h
 · rename_i a hx;cases h;obtain⟨l,h1,h2⟩:=hs.dM rfl;simp only[Nd.ev]at h1;cases h1;have bG:(S.aa ρ).arg x=some (.v (.c (.p (.sc (.bool (a.ev ρ).br))))):=ag.bL ρ hx;simp only[bu,bG,x8,aJ,bc.pure,bm.aa,SV.aa,aB.aa,SC.aa,Kd.pv,h2];rfl
 · rename_i k a hx;cases h;obtain⟨l,h1,h2⟩:=hs.dM rfl;simp only[Nd.ev,dA,aJ]at h1;cases h1;have bG:(S.aa ρ).arg x=some (.v (.c (.p (.sc (.int k (a.ev ρ).af))))):=ag.bL ρ hx;simp only[bu,bG,x8,aJ,bc.pure,bm.aa,SV.aa,aB.aa,SC.aa,Kd.pv,h2];rfl
 · rename_i k a hx;cases h;obtain⟨l,h1,h2⟩:=hs.dM rfl;simp only[Nd.ev,dA,aJ]at h1;cases h1;have bG:(S.aa ρ).arg x=some (.v (.c (.p (.sc (.int k (a.ev ρ).af))))):=ag.bL ρ hx;simp only[bu,bG,x8,aJ,bc.pure,bm.aa,SV.aa,aB.aa,SC.aa,Kd.pv,h2,bitsOf];rfl
 · cases h
theorem Xw (place:Nat→Option (Nat×Nat)):∀{xs:List (Nat×List SC)} {cells out:List SC},GV place cells xs=some out→uH place (cells.map (SC.aa ρ)) (xs.map fun x=> (x.1,x.2.map (SC.aa ρ)))=some (out.map (SC.aa ρ))
 |[],_,_,h=>by cases h;rfl
 | (i,x)::rest,cells,out,h=>by
  simp only[GV]at h;split at h
  · cases h
  · rename_i off size hp;split at h
    · rename_i hc;simp only[bC,uH,hp];rw[au (by simpa using hc)];have:=Xw place h;simp_all
    · cases h
theorem adt:∀{l:List (Nat×aM)} {xs:List (Nat×List SC)},S.parts l=some xs→l.mapM (fun x=> ((S.aa ρ).eu x.2).map fun y=> (x.1,y.cells))=some (xs.map fun x=> (x.1,x.2.map (SC.aa ρ)))
 |[],_,h=>by cases h;rfl
 | (i,x)::l,xs,h=>by
  simp only[ag.parts]at h;split at h
  · rename_i y ys h1 h2;cases h;simp only[je,ag.HV ρ h1,adt h2,aJ,aB.BQ];rfl
  · cases h
theorem aBT (hT:aV.ok P T) {t:aw} {parts:Array (Nat×aM)} {r:bm} (h:M8 T S t parts.toList=some r):(yF P (S.aa ρ) t parts).map bc.pure=some (r.aa ρ):=by
 unfold M8 at h;split at h
 · rename_i row hr;have:=hT _ _ hr;subst this;split at h
   · rename_i ks ps xs wq fM pO;simp only[aW]at h;obtain⟨cs,hcs,rfl⟩:=h;have aHm:HE P t=some ps:=fM;simp only[yF,AJ (P:=P) wq ρ,aHm,adt pO,Xw (ρ:=ρ) (ps[·]?) hcs];rfl
   · cases h
 · cases h
end
structure az where
 f:FuncId
 params:List aB
 H:List SB
 cE:Nat
 gG:Nat
 res:SV
 out:cb
 F:List L→Option (List L)
 tag:Nat:=0
def az.ok (P:aQ) (s:az):Prop:=∀ls o,ls.length=s.cE→s.F ls=some o→o.length=s.gG→
 eI P s.f (s.params.map (aB.aa ls)) (s.H.map (SB.aa ls)) (s.res.aa (ls++o)) (s.out.aa (ls++o))
def At.sub (σ:List At):At→At
 | .v n=> (σ[n]?).getD (.b false)
 |x=>x
theorem At.Et {σ:List At} {ρ:List L} (x:At):(x.sub σ).ev ρ=x.ev (σ.map (At.ev ρ)):=by
 cases x with
 |v n=>
  simp only[At.sub,At.ev,bO]
  cases σ[n]? with
  |none=>rfl
  |some y=>rfl
 |_=>rfl
def SC.put (σ:List At) (ρ:Nat→Nat):SC→SC
 | .p k x=> .p k (x.sub σ)
 | .nil=> .nil
 | .own n=> .own (ρ n)
 | .sub n lo ln=> .sub (ρ n) (lo.sub σ) (ln.sub σ)
 | .ptr n off=> .ptr (ρ n) off
 | .gg n off c m i=> .gg (ρ n) off c m (i.sub σ)
 | .cB n i j=> .cB (ρ n) (i.sub σ) j
 | .ref x j=> .ref (x.sub σ) j
 | .fn f cQ=> .fn f (cQ.map ρ)
 | .mp n=> .mp (ρ n)
 | .dead=> .dead
def aB.eB (f:SC→SC):aB→aB
 | .c y=> .c (f y)
 | .agg ys=> .agg (ys.map f)
def SV.eB (f:SC→SC):SV→SV
 | .v x=> .v (x.eB f)
 | .aj xs=> .aj (xs.map (aB.eB f))
def SB.eB (f:SC→SC) (g:At→At):SB→SB
 | .box cs=> .box (cs.map f)
 | .row e x=> .row e (g x)
 | .map=> .map
theorem SC.Kv {σ:List At} {ρ:List L} {κ:Nat→Nat} (c:SC):(c.put σ κ).aa ρ=(c.aa (σ.map (At.ev ρ))).cX κ:=by
 cases c<;>simp only[SC.put,SC.aa,C.cX,At.Et]
theorem aB.yz {σ:List At} {ρ:List L} {κ:Nat→Nat} (x:aB):(x.eB (SC.put σ κ)).aa ρ=(x.aa (σ.map (At.ev ρ))).on (C.cX κ):=by
 cases x with
 |c c=>simp only[aB.eB,aB.aa,V1.on,SC.Kv]
 |agg cs=>simp only[aB.eB,aB.aa,V1.on,iP];congr 1;apply gO;intro c _;exact SC.Kv c
theorem SV.yz {σ:List At} {ρ:List L} {κ:Nat→Nat} (x:SV):(x.eB (SC.put σ κ)).aa ρ=(x.aa (σ.map (At.ev ρ))).on (C.cX κ):=by
 cases x with
 |v x=>simp only[SV.eB,SV.aa,V.on,aB.yz]
 |aj xs=>simp only[SV.eB,SV.aa,V.on,iP];congr 1;apply gO;intro c _;exact aB.yz c
theorem SB.yz {σ:List At} {ρ:List L} {κ:Nat→Nat} (x:SB):(x.eB (SC.put σ κ) (At.sub σ)).aa ρ=(x.aa (σ.map (At.ev ρ))).on (C.cX κ):=by
 cases x with
 |box cs=>simp only[SB.eB,SB.aa,cO.on,iP];congr 1;apply gO;intro c _;exact SC.Kv c
 |row e x=>simp only[SB.eB,SB.aa,cO.on,At.Et]
 |map=>rfl
def SC.bare:SC→Bool
 | .p .sl _=>false
 | .ref _ _=>false
 |_=>true
def aB.bare:aB→Bool
 | .c x=>x.bare
 | .agg xs=>xs.all SC.bare
def SV.bare:SV→Bool
 | .v x=>x.bare
 | .aj xs=>xs.all aB.bare
def SB.bare (T:aV):SB→Bool
 | .box cs=>cs.all SC.bare
 | .row _ _=>false
 | .map=>true
theorem SC.BI {ρ:List L} {c:SC} (h:c.bare=true):(c.aa ρ).bare=true:=by
 cases c with
 |p k x=>cases k<;>first|rfl|cases h
 |ref=>cases h
 |_=>rfl
structure Acc where
 σ:List (Option At)
 ι:List (Option Nat)
 cG:List Nat
def Acc.atom (a:Acc) (i:Nat) (x:At):Acc:={a with σ:=a.σ.set i (some x)}
def Acc.name (a:Acc) (m n:Nat):Acc:={a with ι:=a.ι.set m (some n)}
def VC (S:ag) (a:Acc):SC→SC→Acc
 | .p _ (.v i),.p _ x=>a.atom i x
 | .p _ (.v i),.nil=>a.atom i .r0
 | .p _ (.v i),.own n=>match List.lookup n S.heap with
  |some (.row _ x)=> {a.atom i x with cG:=if a.cG.contains n then a.cG else n::a.cG}
  |_=>a
 | .own m,.own n=>a.name m n
 | .sub m (.v i) (.v j),.sub n lo ln=> ((a.name m n).atom i lo).atom j ln
 | .ptr m _,.ptr n _=>a.name m n
 | .fn _ ms,.fn _ ns=> (ms.zip ns).foldl (fun a x=>a.name x.1 x.2) a
 | .mp m,.mp n=>a.name m n
 | .ref (.v i) _,.ref x _=>a.atom i x
 |_,_=>a
def JL (S:ag):Acc→List SC→List SC→Acc
 |a,c'::cs',c::cs=>JL S (VC S a c' c) cs' cs
 |a,_,_=>a
def aoA (S:ag) (a:Acc):aB→aB→Acc
 | .c c',.c c=>VC S a c' c
 | .agg cs',.agg cs=>JL S a cs' cs
 |_,_=>a
def On (S:ag):Acc→List aB→List aB→Acc
 |a,c'::cs',c::cs=>On S (aoA S a c' c) cs' cs
 |a,_,_=>a
def wO (S:ag):Acc→Nat→List SB→Acc
 |a,_,[]=>a
 | a,m,b::bs=>match a.ι[m]? with
  |some (some n)=>match b,List.lookup n S.heap with
   | .box cs',some (.box cs)=>wO S (JL S a cs' cs) (m+1) bs
   | .row _ (.v i),some (.row _ x)=>wO S (a.atom i x) (m+1) bs
   |_,_=>wO S a (m+1) bs
  |_=>wO S a (m+1) bs
def ED (S:ag) (σ:List At) (ι cG:List Nat):SC→SC→Bool
 | .dead,_=>true
 | .p k x,.p k' y=>decide (k=k')&& (x.sub σ).same y
 | .p .sl x,.nil=> (x.sub σ).same .r0
 | .p .sl x,.own n=>match List.lookup n S.heap with
  |some (.row _ y)=> (x.sub σ).same y&&cG.contains n
  |_=>false
 | .nil,.nil=>true
 | .own m,.own n=>ι[m]? ==some n
 | .sub m lo ln,.sub n wv ln'=>ι[m]? ==some n&& (lo.sub σ).same wv&& (ln.sub σ).same ln'
 | .ptr m off,.ptr n aHo=>ι[m]? ==some n&&off==aHo
 | .ref x j,.ref y j'=> (x.sub σ).same y&&j==j'
 | .fn f ms,.fn f' ns=>f==f'&&ms.map (fun m=>ι[m]?)==ns.map some
 | .mp m,.mp n=>ι[m]? ==some n
 |_,_=>false
def Bf (S:ag) (σ:List At) (ι cG:List Nat):List SC→List SC→Bool
 |[],[]=>true
 |c'::cs',c::cs=>ED S σ ι cG c' c&&Bf S σ ι cG cs' cs
 |_,_=>false
def afj (S:ag) (σ:List At) (ι cG:List Nat):aB→aB→Bool
 | .c c',.c c=>ED S σ ι cG c' c
 | .agg cs',.agg cs=>Bf S σ ι cG cs' cs
 |_,_=>false
def BC (S:ag) (σ:List At) (ι cG:List Nat):List aB→List aB→Bool
 |[],[]=>true
 |c'::cs',c::cs=>afj S σ ι cG c' c&&BC S σ ι cG cs' cs
 |_,_=>false
def NS (S:ag) (σ:List At) (ι cG:List Nat):SB→SB→Bool
 | .box cs',.box cs=>Bf S σ ι cG cs' cs
 | .row e x,.row e' y=>e==e'&& (x.sub σ).same y
 | .map,.map=>true
 |_,_=>false
def Bc (S:ag) (σ:List At) (ι cG:List Nat):List Nat→List SB→Bool
 |[],[]=>true
 |n::ns,b'::bs=> (match List.lookup n S.heap with|some b=>NS S σ ι cG b' b|none=>false)&&Bc S σ ι cG ns bs
 |_,_=>false
section
variable {S:ag} {ρ:List L} {σ:List At} {ι cG:List Nat}
theorem Fb {m n:Nat} (h:(ι[m]? ==some n)=true):(ι[m]?).getD 0=n∧m<ι.length:=by
 have h':ι[m]? =some n:=by simpa using h
 exact⟨by rw[h'];rfl,(cN.1 h').1⟩
theorem aer {c' c:SC} (h:ED S σ ι cG c' c=true):sD (S.aa ρ) ι cG (c'.aa (σ.map (At.ev ρ))) (c.aa ρ):=by
 have same:∀{x y:At},(x.sub σ).same y=true→x.ev (σ.map (At.ev ρ))=y.ev ρ:=fun hs=>by rw[←At.Et,At.mo hs]
 unfold ED at h;split at h
 · trivial
 · simp only[bt,cg]at h;obtain⟨rfl,h2⟩:=h;exact .inl (by simp only[SC.aa,same h2])
 · exact .inr ⟨[],by simp only[Kd.pv,same h];rfl,rfl,fun k hk=>by simp[SC.aa,C.names]at hk⟩
 · rename_i x n;split at h
   · rename_i e y hl;simp only[bt,zD,cg]at h;refine .inr ⟨(y.ev ρ).ah,by simp only[Kd.pv,same h.1],by simp only[SC.aa,ak.view,dD,hl,aJ,SB.aa],fun k hk=> ?_⟩;simp_all[SC.aa,C.names]
   · cases h
 · exact⟨rfl,by simp[SC.aa,C.names]⟩
 · obtain⟨h1,h2⟩:=Fb h;exact⟨by simp only[SC.aa,C.cX,h1],by simpa[SC.aa,C.names]using h2⟩
 · simp only[bt]at h;obtain⟨h1,h2⟩:=Fb h.1.1;exact⟨by simp only[SC.aa,C.cX,h1,same h.1.2,same h.2],by simpa[SC.aa,C.names]using h2⟩
 · simp only[bt,beq_iff_eq]at h;obtain⟨h1,h2⟩:=Fb (by simpa using h.1);exact⟨by simp_all[SC.aa,C.cX],by simpa[SC.aa,C.names]using h2⟩
 · simp only[bt,beq_iff_eq]at h;exact⟨by simp only[SC.aa,C.cX,same h.1,h.2],by simp[SC.aa,C.names]⟩
 · rename_i f ms f' ns;simp only[bt,beq_iff_eq]at h;obtain⟨rfl,h2⟩:=h;have h3:ns=ms.map (fun m=> (ι[m]?).getD 0)∧∀m∈ms,m<ι.length:=by
     clear same
     induction ms generalizing ns with
     |nil=>simp_all
     | cons m ms ih=>
      cases ns with
      |nil=>simp at h2
      |cons n ns=>
       simp only[bC,IQ]at h2;obtain⟨h4,h5⟩:=ih ns h2.2;refine⟨by simp only[bC,h2.1,eN,←h4],?_⟩;intro k hk;rcases cU.1 hk with rfl|hk
       · exact(cN.1 h2.1).1
       · exact h5 k hk
   exact⟨by simp_all[SC.aa,C.cX],by simp_all[SC.aa,C.names]⟩
 · obtain⟨h1,h2⟩:=Fb h;exact⟨by simp only[SC.aa,C.cX,h1],by simpa[SC.aa,C.names]using h2⟩
 · cases h
theorem I9:∀{cs' cs:List SC},Bf S σ ι cG cs' cs=true→cs.length=cs'.length∧∀(i:Nat) (c':C),(cs'.map (SC.aa (σ.map (At.ev ρ))))[i]? =some c'→∃c,(cs.map (SC.aa ρ))[i]? =some c∧sD (S.aa ρ) ι cG c' c
 |[],[],_=> ⟨rfl,by simp⟩
 |c'::cs',c::cs,h=>by
  simp only[Bf,bt]at h;obtain⟨h1,h2⟩:=I9 h.2;refine⟨by simp[h1],fun i d hd=> ?_⟩
  cases i with
  |zero=>simp at hd;subst hd;exact⟨_,rfl,aer h.1⟩
  |succ i=>simpa using h2 i d (by simpa using hd)
 |[],_::_,h=>by cases h
 |_::_,[],h=>by cases h
theorem att {x' x:aB} (h:afj S σ ι cG x' x=true):yy (S.aa ρ) ι cG (x'.aa (σ.map (At.ev ρ))) (x.aa ρ):=by
 cases x' with
 |c c'=>
  cases x with
  |c c=>exact aer h
  |agg=>cases h
 | agg cs'=>
  cases x with
  |c=>cases h
  |agg cs=>
   obtain⟨h1,h2⟩:=I9 (ρ:=ρ) h;exact⟨by simpa using h1,h2⟩
theorem aeg:∀{xs' xs:List aB},BC S σ ι cG xs' xs=true→xs.length=xs'.length∧∀(i:Nat) (x':V1),(xs'.map (aB.aa (σ.map (At.ev ρ))))[i]? =some x'→∃x,(xs.map (aB.aa ρ))[i]? =some x∧yy (S.aa ρ) ι cG x' x
 |[],[],_=> ⟨rfl,by simp⟩
 |c'::cs',c::cs,h=>by
  simp only[BC,bt]at h;obtain⟨h1,h2⟩:=aeg h.2;refine⟨by simp[h1],fun i d hd=> ?_⟩
  cases i with
  |zero=>simp at hd;subst hd;exact⟨_,rfl,att h.1⟩
  |succ i=>simpa using h2 i d (by simpa using hd)
 |[],_::_,h=>by cases h
 |_::_,[],h=>by cases h
theorem aCO {b' b:SB} (h:NS S σ ι cG b' b=true):xI (S.aa ρ) ι cG (b'.aa (σ.map (At.ev ρ))) (b.aa ρ):=by
 cases b' with
 | box cs'=>
  cases b with
  |box cs=>
   obtain⟨h1,h2⟩:=I9 (ρ:=ρ) h;exact⟨by simpa using h1,h2⟩
  |_=>cases h
 | row e x=>
  cases b with
  |row e' y=>
   simp only[NS,bt,beq_iff_eq]at h;exact⟨h.1,by rw[←At.Et,At.mo h.2]⟩
  |_=>cases h
 |map=>
  cases b with
  |map=>rfl
  |_=>cases h
theorem VX:∀{ns:List Nat} {bs:List SB},Bc S σ ι cG ns bs=true→ns.length=bs.length∧∀(i:Nat) (b':cO),(bs.map (SB.aa (σ.map (At.ev ρ))))[i]? =some b'→∃n b,ns[i]? =some n∧(S.aa ρ).heap.lookup n=some b∧xI (S.aa ρ) ι cG b' b
 |[],[],_=> ⟨rfl,by simp⟩
 | n ::ns,b::bs,h=>by
  simp only[Bc,bt]at h;obtain⟨h1,h2⟩:=VX h.2;refine⟨by simp[h1],fun i d hd=> ?_⟩
  cases i with
  |zero=>
   simp at hd;subst hd;have h3:=h.1;split at h3
   · rename_i b0 hb0;exact⟨n,b0.aa ρ,rfl,by rw[dD,hb0];rfl,aCO h3⟩
   · cases h3
  |succ i=>simpa using h2 i d (by simpa using hd)
 |[],_::_,h=>by cases h
 |_::_,[],h=>by cases h
end
def Mg {α:Type}:List (Option α)→Option (List α)
 |[]=>some []
 |some x::l=> (Mg l).map (x:: ·)
 |none::_=>none
def az.bare (T:aV) (s:az):Bool:=s.res.bare&&s.out.all fun x=>match x.2 with
 | .box cs=>cs.all SC.bare
 | .row e (.v i)=>decide (s.cE≤i)&&match(List.lookup e T).bind Ty.oX with
  |some ks=>ks.all fun k=>decide (k≠ .sl)
  |none=>false
 | .map=>true
 |_=>false
def az.look (s:az):List Nat:=s.out.filterMap fun x=>match x.2 with
 | .row _ (.v i)=>some (i-s.cE)
 |_=>none
def xU (k:Nat) (o:cb) (ns:List Nat):Bool:=ns.all fun n=>decide (n<k+8)&& (decide (k≤n)|| (List.lookup n o).isSome)
def D5 (T:aV) (S:ag) (d:Nat) (xs:List aB) (s:az):Option bm:=
 let a:=wO S (On S ⟨List.replicate s.cE none,List.replicate s.H.length none,[]⟩ s.params xs) 0 s.H
 match Mg a.σ,Mg a.ι with
 | some σ,some ι=>
  let cG:=a.cG
  let bare:=s.bare T&& !cG.isEmpty
  let ao:=(if bare then[]else cG)++(ι.zipIdx.filterMap fun x=>if(List.lookup x.2 s.out).isNone then some x.1 else none)
  let κ:=o8 ι d
  let RM:=σ++(List.range s.gG).map fun i=> .v (S.nv+i)
  if σ.length=s.cE∧decide ι.Nodup=true∧BC S σ ι cG s.params xs=true∧Bc S σ ι cG ι s.H=true∧(ι.all fun n=> !S.ao.contains n&& !cG.contains n)=true∧(cG.all fun n=> !S.ao.contains n)=true∧
   xU ι.length s.out s.res.names=true∧(s.out.all fun x=>decide (x.1<ι.length+8)&&xU ι.length s.out x.2.names)=true∧(ao.all fun n=>decide (n<d))=true
  then some ⟨[.call s.tag s.F σ s.gG (if bare then s.look else[])],s.res.eB (SC.put RM κ),⟨s.out.map fun x=> (κ x.1,x.2.eB (SC.put RM κ) (At.sub RM)),ao⟩,ι++cG⟩else none
 |_,_=>none
theorem SC.Uj (ρ:List L) (b:SB):(b.aa ρ).names=b.names:=by
 cases b with
 |box cs=>exact SC.aeo ρ cs
 |row=>rfl
 |map=>rfl
theorem B1 {l:cb} {n:Nat} {b:SB} (h:List.lookup n l=some b):(n,b)∈l:=by
 induction l with
 |nil=>cases h
 |cons x l ih=>
  obtain⟨k,c⟩:=x;rw[eR]at h;split at h
  · rename_i heq;simp at heq;subst heq;cases h;simp
  · exact fb _ (ih h)
theorem ayf {P:aQ} {T:aV} {S:ag} {ρ:List L} {d:Nat} {xs:List aB} {s:az} {r:bm} (hs:s.ok P) (h:D5 T S d xs s=some r) (zf:Sat ρ S.nv r.nds):
   B2 P (S.aa ρ) d s.f (xs.map (aB.aa ρ)) (r.v.aa ρ) (r.e.aa ρ) r.rd:=by
 unfold D5 at h;simp only at h;generalize wO S (On S ⟨List.replicate s.cE none,List.replicate s.H.length none,[]⟩ s.params xs) 0 s.H=a at h;split at h
 · rename_i σ ι hσ hι;generalize aJQ:a.cG=cG at h;generalize CM:(s.bare T&& !cG.isEmpty)=bare at h;generalize aHp:(if bare=true then[]else cG)++(ι.zipIdx.filterMap fun x=>if(List.lookup x.2 s.out).isNone then some x.1 else none)=ao at h;by_cases hc:σ.length=s.cE∧decide ι.Nodup=true∧BC S σ ι cG s.params xs=true∧Bc S σ ι cG ι s.H=true∧(ι.all fun n=> !S.ao.contains n&& !cG.contains n)=true∧(cG.all fun n=> !S.ao.contains n)=true∧
     xU ι.length s.out s.res.names=true∧(s.out.all fun x=>decide (x.1<ι.length+8)&&xU ι.length s.out x.2.names)=true∧(ao.all fun n=>decide (n<d))=true
   · rw [au hc] at h;simp only[im]at h;subst h;subst aHp;obtain⟨hc1,hc2,hc3,RN,Ib,hc6,hc7,Ic,hc9⟩:=hc;simp only[cg]at hc2;simp only[bk,bt,lO,zD,rS]at Ib hc6;simp only[bk,cg]at hc9;obtain⟨⟨o,kO,ho2⟩,_⟩:=zf;simp only[Nd.ev]at kO;generalize cS:(if bare=true then s.look else[])=us at kO;split at kO
     · rename_i l hF;split at kO
       · rename_i hn;cases kO;obtain⟨pQ,RO⟩:=hn;have dh:(σ.map (At.ev ρ)).length=s.cE:=by simp[hc1]
         have hA:=hs (σ.map (At.ev ρ)) o dh hF pQ;have ahx:(σ++(List.range s.gG).map fun i=>At.v (S.nv+i)).map (At.ev ρ)=σ.map (At.ev ρ)++o:=by
           rw[ej];congr 1;apply uj;intro i;simp only[iP,bO];by_cases hi:i<s.gG
           · have hi':i<o.length:=om;have h3:=ho2 i (by simpa[Nd.n]using hi);rw[pY hi,bX hi'];rw[bX hi']at h3;simp only[aJ,Function.comp,At.ev,h3,eN]
           · rw[zC (by simp;omega),zC om];rfl
         obtain⟨y_,hf2⟩:=aeg (ρ:=ρ) hc3;obtain⟨hb1,hb2⟩:=VX (ρ:=ρ) RN;have hlk:∀n,List.lookup n (cb.aa (σ.map (At.ev ρ)++o) s.out)=(List.lookup n s.out).map (SB.aa (σ.map (At.ev ρ)++o)):=cb.Hv _ s.out;have kF:∀ns,xU ι.length s.out ns=true→∀n∈ns,n<ι.length+8∧(n<ι.length→List.lookup n s.out≠none):=by
           intro ns fp n hn;simp only[xU,bk,bt,rV,cg]at fp;obtain⟨h1,h2⟩:=fp n hn;refine⟨h1,fun h3 h4=> ?_⟩;rcases h2 with h2|h2
           · omega
           · rw[h4]at h2;cases h2
         refine⟨_,_,_,_,ι,cG,hA,by simpa using hb1,hc2,by simpa using y_,hf2,hb2,fun n hn=> ⟨(Ib n hn).1,(Ib n hn).2⟩,hc6,?_,?_,?_,?_,?_,?_,?_,hc9,?_,?_,rfl⟩
         · intro n hn;rw[SV.mQ]at hn;exact(kF _ hc7 n hn).1
         · intro n b hl;rw[hlk]at hl;simp only[aW]at hl;obtain⟨b0,hb0,rfl⟩:=hl;simp only[bk,bt,cg]at Ic;obtain⟨h1,h2⟩:=Ic _ (B1 hb0);exact⟨h1,fun m hm=> (kF _ h2 m (by rw[SC.Uj]at hm;exact hm)).1⟩
         · intro n hn hlt;rw[SV.mQ]at hn;rw[hlk];have:=(kF _ hc7 n hn).2 hlt
           cases hx:List.lookup n s.out with
           |none=>exact absurd hx this
           |some _=>simp
         · intro n b hl m hm hlt;rw[hlk]at hl;simp only[aW]at hl;obtain⟨b0,hb0,rfl⟩:=hl;simp only[bk,bt,cg]at Ic;obtain⟨h1,h2⟩:=Ic _ (B1 hb0);rw[hlk];have:=(kF _ h2 m (by rw[SC.Uj]at hm;exact hm)).2 hlt
           cases hx:List.lookup m s.out with
           |none=>exact absurd hx this
           |some _=>simp
         ·
           cases hbr:bare with
           |false=>left;intro n hn;simp only[fO.aa];simp[hn]
           | true =>
             right;rw[hbr]at CM cS;simp only[if_true]at cS;rw[←cS]at RO;simp only[bt]at CM;have hb:=CM.1;unfold az.bare at hb;simp only[bt,bk]at hb;refine⟨?_,fun n b hl=> ?_⟩
             · have hb1:=hb.1;generalize s.res=res at hb1
               cases res with
               | v x=>
                 cases x with
                 |c c=>exact SC.BI hb1
                 |agg cs=>
                  simp only[SV.bare,aB.bare,bk]at hb1;simp only[SV.aa,aB.aa,V.bare,V1.bare,bk,dy];rintro _ ⟨c,hc',rfl⟩;exact SC.BI (hb1 c hc')
               | aj ys=>
                 simp only[SV.bare,bk]at hb1;simp only[SV.aa,V.bare,bk,dy];rintro _ ⟨y,hy,rfl⟩;have:=hb1 y hy
                 cases y with
                 |c c=>exact SC.BI this
                 |agg cs=>
                  simp only[aB.bare,bk]at this;simp only[aB.aa,V1.bare,bk,dy];rintro _ ⟨c,hc',rfl⟩;exact SC.BI (this c hc')
             · rw [hlk]at hl;simp only[aW]at hl;obtain⟨b0,hb0,rfl⟩:=hl;have nN:=B1 hb0;have h1:=hb.2 _ nN
               cases b0 with
               | box cs=>
                 simp only[bk]at h1;simp only[SB.aa,cO.bare,bk,dy];rintro _ ⟨c,hc',rfl⟩;exact SC.BI (h1 c hc')
               | row e x=>
                 cases x with
                 |v i=>
                  simp only[bt,cg]at h1;have bW:i-s.cE∈s.look:=by
                    unfold az.look;exact rU.2 ⟨_,nN,rfl⟩
                  simp only[bk]at RO;have h2:=RO _ bW;simp only[SB.aa,cO.bare,At.ev];rw[lR om,dh];simp only[bk];exact h2
                 |_=>cases h1
               |map=>rfl
         ·
           intro i n hi;rw[hlk];simp only[fO.aa,ei,rU];constructor
           · rintro(h1| ⟨⟨m,j⟩,h1,h2⟩)
             · exfalso;split at h1
               · cases h1
               · exact(Ib n (cH hi)).2 h1
             · split at h2
               · rename_i h3;cases h2;rw[aiH]at h1;have h4:=SI.1 hc2;have:i=j:=by
                  obtain⟨i1,i2⟩:=cN.1 hi;obtain⟨j1,j2⟩:=cN.1 h1;rcases IN i j with hlt|heq|hlt
                  · exact absurd (i2.trans j2.symm) (h4 i j i1 j1 hlt)
                  · exact heq
                  · exact absurd (j2.trans i2.symm) (h4 j i j1 i1 hlt)
                 subst this;simp only[Option.isNone_iff_eq_none]at h3;rw[h3];rfl
               · cases h2
           · intro h1;right;refine⟨(n,i),by rw[aiH];exact hi,?_⟩;have:List.lookup i s.out=none:=by
               cases hx:List.lookup i s.out with
               |none=>rfl
               |some _=>rw[hx]at h1;cases h1
             rw[this];rfl
         · intro n hn;simp only[fO.aa,ei,rU]at hn;rcases hn with h1| ⟨⟨m,j⟩,h1,h2⟩
           · split at h1
             · cases h1
             · exact .inr h1
           · split at h2
             · cases h2;rw[aiH]at h1;exact .inl (cH h1)
             · cases h2
         · rw[SV.yz,ahx]
         · simp only[fO.aa,cb.aa,Hp.cX,iP];apply gO;intro x _;simp only[Function.comp,SB.yz,ahx]
       · cases kO
     · cases kO
   · rw[aE hc]at h;cases h
 · cases h
end
end
end Go.Proofs.YtndegphojkiblaaGreatDoor
