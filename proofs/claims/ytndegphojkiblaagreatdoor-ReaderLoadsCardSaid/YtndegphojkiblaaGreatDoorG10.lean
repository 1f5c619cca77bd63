/- Towards the last file's theorem: part 10. -/
import Derived.Test.YtndegphojkiblaaGreatDoorG1
import Derived.Test.YtndegphojkiblaaGreatDoorG9
import Derived.Deep.Slices
import Derived.OpenShut
import Derived.Laws.Closers25b
import Derived.IntWalk
set_option linter.all false
set_option maxHeartbeats 4000000
set_option maxRecDepth 100000
namespace Go.Proofs.YtndegphojkiblaaGreatDoor
noncomputable section
section
open Go.RowKit Go.Deep AI
section
variable {H:Type} {enc:aw×aD→H} {P:aQ} {w:av} {base:Nat} {spare:Nat→Bool} {held:Bool} {M:bY}
def El (enc:aw×aD→H) (P:aQ) (w:av) (base:Nat) (spare:Nat→Bool) (held:Bool) (M:bY) (e:aw) (c:Nat) (cs:List AC):Prop:=
 ∀fuel cells x,DataW.trod enc P w base spare held fuel e cells=some x→cells.length=c∧∃r:List PV,r.length=c∧AC.dp cs r∧∀(j:Nat) (p:PV) (u:aD),r[j]? =some p→cells[j]? =some u→RP M w p u
def iR (enc:aw×aD→H) (P:aQ) (w:av) (base:Nat) (spare:Nat→Bool) (held:Bool) (M:bY) (t:aw) (q:AC):Prop:=
 ∀fuel cells x,DataW.trod enc P w base spare held fuel t cells=some x→∃v p,cells=[v]∧AC.ok q p∧RP M w p v
theorem lU {t:aw} {k:bS} {lo hi:Int} (ht:P.underlying t=some (.int k)) (hb:∀n,(Lit.int k n).wf=true→lo≤n∧n≤hi):iR enc P w base spare held M t (.int k lo hi):=fun fuel cells x h=>by
 obtain⟨n,rfl,_,hn⟩:=DataW.trod_int ht h;obtain⟨h1,h2⟩:=hb n hn;exact⟨_,.sc (.int k n),rfl,⟨n,rfl,h1,h2⟩,.sc rfl⟩
theorem aeS {t:aw} (ht:P.underlying t=some .bool):iR enc P w base spare held M t .bool:=fun fuel cells x h=>by
 obtain⟨b,rfl,_⟩:=DataW.trod_bool ht h;exact⟨_,.sc (.bool b),rfl,⟨b,rfl⟩,.sc rfl⟩
theorem Ub {t:aw} {q:AC} (h:iR enc P w base spare held M t q):El enc P w base spare held M t 1 [q]:=fun fuel cells x hx=>by
 obtain⟨v,p,rfl,h1,h2⟩:=h fuel cells x hx;refine⟨rfl,[p],rfl,⟨h1,trivial⟩,fun j p' u hp hu=> ?_⟩
 match j with
 |0=>cases hp;cases hu;exact h2
 |j+1=>simp at hp
theorem I' {e:aw} {f0 f1 f2 f3:Field} {q0 q1 q2 q3:AC} (he:P.underlying e=some (.struct #[f0,f1,f2,f3])) (hc:P.cellsOf e=4)
  (o0:f0.offset=0) (o1:f1.offset=1) (o2:f2.offset=2) (o3:f3.offset=3) (c0:P.cellsOf f0.type=1) (c1:P.cellsOf f1.type=1) (c2:P.cellsOf f2.type=1) (c3:P.cellsOf f3.type=1)
  (h0:iR enc P w base spare held M f0.type q0) (h1:iR enc P w base spare held M f1.type q1) (h2:iR enc P w base spare held M f2.type q2) (h3:iR enc P w base spare held M f3.type q3):
  El enc P w base spare held M e 4 [q0,q1,q2,q3]:=fun fuel cells x hx=>by
 obtain⟨xs,n,_,_,hl,gz,hf⟩:=DataW.trod_struct he hx;rw[hc]at hl
 match cells,hl,xs,gz with
 |[v0,v1,v2,v3],_,[y0,y1,y2,y3],_=>
  have g0:=hf 0 f0 rfl;have g1:=hf 1 f1 rfl;have g2:=hf 2 f2 rfl;have g3:=hf 3 f3 rfl;rw[o0,c0]at g0;rw[o1,c1]at g1;rw[o2,c2]at g2;rw[o3,c3]at g3;obtain⟨u0,p0,e0,a0,r0⟩:=h0 _ _ _ g0;obtain⟨u1,p1,e1,a1,r1⟩:=h1 _ _ _ g1;obtain⟨u2,p2,e2,a2,r2⟩:=h2 _ _ _ g2;obtain⟨u3,p3,e3,a3,r3⟩:=h3 _ _ _ g3;cases e0;cases e1;cases e2;cases e3;refine⟨rfl,[p0,p1,p2,p3],rfl,⟨a0,a1,a2,a3,trivial⟩,fun j p' u hp hu=> ?_⟩
  match j with
  |0=>cases hp;cases hu;exact r0
  |1=>cases hp;cases hu;exact r1
  |2=>cases hp;cases hu;exact r2
  |3=>cases hp;cases hu;exact r3
  |j+4=>simp at hp
theorem ara {t:aw} (ht:P.underlying t=some .string):iR enc P w base spare held M t (.str 9223372036854775807):=fun fuel cells x h=>by
 obtain⟨s,rfl,_,hs⟩:=DataW.trod_string ht h;have hm:maxLen=9223372036854775807:=rfl;exact⟨_,.sc (.string s),rfl,⟨s,rfl,om⟩,.sc rfl⟩
theorem Ko {e:aw} {f0 f1 f2:Field} {q0 q1 q2:AC} (he:P.underlying e=some (.struct #[f0,f1,f2])) (hc:P.cellsOf e=3)
  (o0:f0.offset=0) (o1:f1.offset=1) (o2:f2.offset=2) (c0:P.cellsOf f0.type=1) (c1:P.cellsOf f1.type=1) (c2:P.cellsOf f2.type=1)
  (h0:iR enc P w base spare held M f0.type q0) (h1:iR enc P w base spare held M f1.type q1) (h2:iR enc P w base spare held M f2.type q2):
  El enc P w base spare held M e 3 [q0,q1,q2]:=fun fuel cells x hx=>by
 obtain⟨xs,n,_,_,hl,gz,hf⟩:=DataW.trod_struct he hx;rw[hc]at hl
 match cells,hl,xs,gz with
 |[v0,v1,v2],_,[y0,y1,y2],_=>
  have g0:=hf 0 f0 rfl;have g1:=hf 1 f1 rfl;have g2:=hf 2 f2 rfl;rw[o0,c0]at g0;rw[o1,c1]at g1;rw[o2,c2]at g2;obtain⟨u0,p0,e0,a0,r0⟩:=h0 _ _ _ g0;obtain⟨u1,p1,e1,a1,r1⟩:=h1 _ _ _ g1;obtain⟨u2,p2,e2,a2,r2⟩:=h2 _ _ _ g2;cases e0;cases e1;cases e2;refine⟨rfl,[p0,p1,p2],rfl,⟨a0,a1,a2,trivial⟩,fun j p' u hp hu=> ?_⟩
  match j with
  |0=>cases hp;cases hu;exact r0
  |1=>cases hp;cases hu;exact r1
  |2=>cases hp;cases hu;exact r2
  |j+3=>simp at hp
theorem yl {t e:aw} {c:Nat} {cs:List AC} (ht:P.underlying t=some (.slice e)) (hc:P.cellsOf e=c) (h0:0<c) (hM:∀g,¬M g) (dx:El enc P w base spare held M e c cs):
   iR enc P w base spare held M t (.sl 9223372036854775807 cs):=fun fuel cells x h=>by
 have nilok:AC.ok (.sl 9223372036854775807 cs) (.sl []):=⟨[],rfl,by simp,fun r hr=>by cases hr⟩
 rcases open_slice ht h with⟨rfl,_⟩| ⟨a,len,cap,m,n,D,Pl,rfl,hb,hl,hm,hmm,rfl,hx⟩
 · exact⟨_,_,rfl,nilok,.nil⟩
 by_cases hz:len=0
 · subst hz;exact⟨_,_,rfl,nilok,.nil⟩
 have nH:len≤m:=by rw[hmm];split<;>omega
 rw[hc]at hx;obtain⟨Q,hQ⟩:=choose_lt (α:=List PV×List aD) (n:=len) (p:=fun i q=>q.1.length=c∧AC.dp cs q.1∧(∀j,j<c→w.cell? ((a.add (i*c)).add j)=q.2[j]?)∧q.2.length=c∧∀(j:Nat) (p:PV) (u:aD),q.1[j]? =some p→q.2[j]? =some u→RP M w p u) (fun i hi=>by
   obtain⟨cs',k1,k2⟩:=hx i om;obtain⟨_,k3,k4⟩:=World.cells?_some k1;obtain⟨_,r,k5,k6,k7⟩:=dx _ _ _ k2;exact⟨(r,cs'),k5,k6,k4,k3,k7⟩)
 obtain⟨g,o,spot⟩:=a;have hspot:spot=none:=by
   obtain⟨_,_,k4,k3,_⟩:=hQ 0 om;have:=k4 0 h0;rw[bX om]at this;simpa[Addr.add]using World.cell?_spot this
 subst hspot;have hlen:((List.range len).map fun i=> (Q i).1).length=len:=by simp
 refine⟨_,.sl ((List.range len).map fun i=> (Q i).1),rfl,⟨_,rfl,?_,fun r hr=> ?_⟩,?_⟩
 · rw[hlen];have:maxLen=9223372036854775807:=rfl;omega
 · obtain⟨i,hi,rfl⟩:=dy.1 hr;exact(hQ i (ko.1 hi)).2.1
 have key:∀(i:Nat) (r:List PV) (j:Nat) (p:PV),((List.range len).map fun i=> (Q i).1)[i]? =some r→r[j]? =some p→i<len∧j<c∧r=(Q i).1:=by
   intro i r j p hi hj;have pK:i<len:=by
    have:=(cN.1 hi).1
    rwa [hlen]at this
   rw[bO,pY pK]at hi;cases hi;have:=(cN.1 hj).1;rw[(hQ i pK).1]at this;exact⟨pK,this,rfl⟩
 have hr:=RP.row (M:=M) (w:=w) (rows:=(List.range len).map fun i=> (Q i).1) (g:=g) (o:=o) (cap:=cap) (sz:=c) (f:=fun i j=> ((Q i).2[j]?).getD .nilFunc) (by
    intro e;rw[e]at hlen;simp at hlen;omega) (by rw[hlen];exact hl) hm (fun r hr=>by
    obtain⟨i,hi,rfl⟩:=dy.1 hr;exact(hQ i (ko.1 hi)).1) (fun i r j p hi hj=>by
    obtain⟨k1,k2,rfl⟩:=key i r j p hi hj;have k3:=(hQ i k1).2.2.1 j k2;have k4:j< (Q i).2.length:=by rw[(hQ i k1).2.2.2.1];exact k2
    refine⟨?_,hM g⟩;show _=some (((Q i).2[j]?).getD .nilFunc);rw[bX k4]at k3⊢;rw[Go.WideShapes.add_plain,Go.WideShapes.add_plain]at k3;exact k3) (fun i r j p hi hj=>by
    obtain⟨k1,k2,rfl⟩:=key i r j p hi hj;have k4:j< (Q i).2.length:=by rw[(hQ i k1).2.2.2.1];exact k2
    show RP M w p (((Q i).2[j]?).getD .nilFunc);rw[bX k4];exact(hQ i k1).2.2.2.2 j p _ hj (bX k4))
 rw[hlen]at hr;exact hr
end
end
section
open Go.RowKit
namespace AI
theorem r9 (k:bS) {n:Int} (h0:k.min≤n) (h1:n≤k.max):k.wrap n=n:=by
 cases k<;>simp[IntKind.min,IntKind.max,IntKind.bits,IntKind.signed]at h0 h1<;>simp[IntKind.wrap,IntKind.bits,IntKind.signed]<;> (try split)<;>omega
def tB (op:BinOp) (a b:Int):Bool:=match op with
 | .eql=>decide (a=b)
 | .neq=>decide (a≠b)
 | .lss=>decide (a<b)
 | .leq=>decide (a≤b)
 | .gtr=>decide (b<a)
 | .geq=>decide (b≤a)
 |_=>false
inductive BD where
 |cmp (op:BinOp) (x y:Li) (p:Bool)
 |iF (b:Bool)
deriving Inhabited
def BD.val (τ:List L):BD→Bool
 | .cmp op x y p=>tB op (aL τ x) (aL τ y)==p
 | .iF b=>b
def BD.in (n:Nat):BD→Bool
 | .cmp _ x y _=>fj n x.1&&fj n y.1
 | .iF _=>true
def BD.neg:BD→BD
 | .cmp op x y p=> .cmp op x y (!p)
 | .iF b=> .iF (!b)
theorem BD.aBB (τ:List L) (b:BD):b.neg.val τ= !(b.val τ):=by
 cases b with
 |cmp op x y p=>simp only[BD.neg,BD.val];cases tB op (aL τ x) (aL τ y)<;>cases p<;>rfl
 |iF=>rfl
theorem fk {τ ys:List L} {x:Li} (h:fj τ.length x.1=true):aL (τ++ys) x=aL τ x:=by simp only[aL,xE h]
theorem BD.Ng {τ ys:List L} {b:BD} (h:b.in τ.length=true):b.val (τ++ys)=b.val τ:=by
 cases b with
 |cmp op x y p=>
  simp only[BD.in,bt]at h;simp only[BD.val,fk h.1,fk h.2]
 |iF=>rfl
theorem th {n m t:Nat} (h:fj n t=true) (hm:n≤m):fj m t=true:=by simp only[fj,cg]at h⊢;omega
theorem BD.Mw {n m:Nat} {b:BD} (h:b.in n=true) (hm:n≤m):b.in m=true:=by
 cases b with
 |cmp op x y p=>
  simp only[BD.in,bt]at h⊢;exact⟨th h.1 hm,th h.2 hm⟩
 |iF=>rfl
abbrev RS:=Option (List AC)
def ic (x:RS) (rows:List (List PV)):Prop:=match x with
 |none=>rows=[]
 |some cs=>AC.rows cs rows
def lk {α:Type}:List (Nat×α)→Nat→Option α
 |[],_=>none
 | (k,x)::r,g=>cond (Nat.beq k g) (some x) (lk r g)
theorem ng {α:Type}:∀{l:List (Nat×α)} {g:Nat} {x:α},lk l g=some x→(g,x)∈l
 |[],_,_,h=>by cases h
 | (k,y)::r,g,x,h=>by
  simp only[lk]at h
  cases hk:Nat.beq k g with
  |true=>
   rw[hk]at h;have:=vN hk;subst this;cases h;exact ek
  |false=>rw[hk]at h;exact fb _ (ng h)
structure AS where
 env:List Nat
 n:Nat
 fs:List Fa
 rw:List (Nat×RS)
 cl:List (Nat×List AC)
 bd:List (Nat×BD)
 al:List (Nat×Li)
 ll:List (Nat×Li)
 sm:List ((List Nat×Nat)×Nat)
 pr:List (Nat×List Nat)
deriving Inhabited
def Prp:Nat→List L→Prop
 |0,[l]=>∃n,∀r∈l.ah,∃q,r=[.sl q]∧q.length=n
 |_,_=>True
def at' (τ:List L) (g:Nat):L:=(τ[g]?).getD (.b false)
def uA (τ:List L) (k:List Nat×Nat):Option L:=(k.1[(at' τ k.2).af.toNat]?).map (at' τ)
def qx (n:Nat) (k:List Nat×Nat):Bool:=k.1.all (fun g=>decide (g<n))&&decide (k.2<n)
structure Ga (S:AS) (τ ρ:List L):Prop where
 n:τ.length=S.n
 env:ρ=S.env.map (at' τ)
 lt:∀g∈S.env,g<S.n
 fs:∀f∈S.fs,f.ok τ
 rw:∀x∈S.rw,x.1<S.n∧ic x.2 (at' τ x.1).ah
 cl:∀x∈S.cl,x.1<S.n∧AC.dp x.2 (at' τ x.1).jl
 bd:∀x∈S.bd,x.1<S.n∧x.2.in S.n=true∧(at' τ x.1).br=x.2.val τ
 al:∀x∈S.al,x.1<S.n∧fj S.n x.2.1=true∧(at' τ x.1).af=aL τ x.2
 ll:∀x∈S.ll,x.1<S.n∧fj S.n x.2.1=true∧((at' τ x.1).ah.length:Int)=aL τ x.2
 sm:∀x∈S.sm,x.2<S.n∧qx S.n x.1=true∧uA τ x.1=some (at' τ x.2)
 pr:∀x∈S.pr,(∀g∈x.2,g<S.n)∧Prp x.1 (x.2.map (at' τ))
theorem s_ {τ ys:List L} {g:Nat} (h:g<τ.length):at' (τ++ys) g=at' τ g:=by
 unfold at';rw[nS h]
theorem Jo {n m:Nat} {k:List Nat×Nat} (h:qx n k=true) (hm:n≤m):qx m k=true:=by
 simp only[qx,bt,bk,cg]at h⊢;exact⟨fun g hg=>nP (h.1 g hg) hm,nP h.2 hm⟩
theorem Og {τ ys:List L} {k:List Nat×Nat} (h:qx τ.length k=true):uA (τ++ys) k=uA τ k:=by
 simp only[qx,bt,bk,cg]at h;unfold uA;rw[s_ h.2]
 cases hg:k.1[(at' τ k.2).af.toNat]? with
 |none=>rfl
 |some g=>simp only[aJ];rw[s_ (h.1 g (cH hg))]
theorem B4 (τ:List L) (l:L):at' (τ++ [l]) τ.length=l:=by simp[at']
structure bN where
 fs:List Fa:=[]
 rw:Option RS:=none
 cl:Option (List AC):=none
 bd:Option BD:=none
 al:Option Li:=none
 ll:Option Li:=none
 sm:Option (List Nat×Nat):=none
structure bN.ok (N:bN) (τ:List L) (l:L):Prop where
 fs:∀f∈N.fs,f.holds (τ++ [l])
 rw:∀x,N.rw=some x→ic x l.ah
 cl:∀x,N.cl=some x→AC.dp x l.jl
 bd:∀x,N.bd=some x→l.br=x.val τ
 al:∀x,N.al=some x→l.af=aL τ x
 ll:∀x,N.ll=some x→(l.ah.length:Int)=aL τ x
 sm:∀x,N.sm=some x→uA τ x=some l
def xt {α:Type} (g:Nat):Option α→List (Nat×α)→List (Nat×α)
 |some x,l=> (g,x)::l
 |none,l=>l
def Z6 (n:Nat):Option Li→Bool
 |some x=>fj n x.1
 |none=>true
def bN.in (n:Nat) (N:bN):Bool:=N.fs.all (Fa.in (n+1))&& (match N.bd with|some b=>b.in n|none=>true)&&Z6 n N.al&&Z6 n N.ll&& (match N.sm with|some k=>qx n k|none=>true)
def VE (g:Nat):Option (List Nat×Nat)→List ((List Nat×Nat)×Nat)→List ((List Nat×Nat)×Nat)
 |some k,l=> (k,g)::l
 |none,l=>l
theorem anj {g:Nat} {o:Option (List Nat×Nat)} {l:List ((List Nat×Nat)×Nat)} {x:(List Nat×Nat)×Nat} (h:x∈VE g o l):(o=some x.1∧x.2=g)∨x∈l:=by
 cases o with
 |none=>exact .inr h
 |some y=>
  rcases cU.1 h with rfl|h
  · simp_all
  · exact .inr h
def AS.push (S:AS) (N:bN):Option AS:=
 if N.in S.n=true then
  some ⟨S.env++ [S.n],S.n+1,N.fs++S.fs,xt S.n N.rw S.rw,xt S.n N.cl S.cl,xt S.n N.bd S.bd,xt S.n N.al S.al,xt S.n N.ll S.ll,VE S.n N.sm S.sm,S.pr⟩
 else none
theorem A8 {α:Type} {g:Nat} {o:Option α} {l:List (Nat×α)} {x:Nat×α} (h:x∈xt g o l):(∃y,o=some y∧x=(g,y))∨x∈l:=by
 cases o with
 |none=>exact .inr h
 |some y=>
  rcases cU.1 h with h|h
  · simp_all
  · exact .inr h
theorem Ga.push {S S':AS} {τ ρ:List L} {N:bN} {l:L} (h:Ga S τ ρ) (hp:S.push N=some S') (hN:N.ok τ l):Ga S' (τ++ [l]) (ρ++ [l]):=by
 unfold AS.push at hp;split at hp
 · rename_i hc;simp only[bN.in,bt,bk]at hc;injection hp with hp
   subst hp;have hn:=h.n;have hat:∀g,g<S.n→at' (τ++ [l]) g=at' τ g:=fun g hg=>s_ om
   have gw:at' (τ++ [l]) S.n=l:=by rw[←hn];exact B4 τ l
   exact{
    n:=by simp[hn]
    env:=by
     rw[h.env,ej,List.map_singleton,gw];congr 1;exact gO fun g hg=> (hat g (h.lt g hg)).symm
    lt:=fun g hg=>by
     rcases ei.1 hg with hg|hg
     · have:=h.lt g hg;show g<S.n+1;omega
     simp_all
    fs:=fun f hf=>by
     rcases ei.1 hf with hf|hf
     · exact⟨by simp_all,hN.fs f hf⟩
     · exact(h.fs f hf).append
    rw :=fun x hx=>by
     rcases A8 hx with⟨y,hy,rfl⟩|hx
     · exact⟨zE _,by simp only[gw];exact hN.rw y hy⟩
     · obtain⟨h1,h2⟩:=h.rw x hx;exact⟨zH h1,by rw[hat _ h1];exact h2⟩
    cl :=fun x hx=>by
     rcases A8 hx with⟨y,hy,rfl⟩|hx
     · exact⟨zE _,by simp only[gw];exact hN.cl y hy⟩
     · obtain⟨h1,h2⟩:=h.cl x hx;exact⟨zH h1,by rw[hat _ h1];exact h2⟩
    bd :=fun x hx=>by
     rcases A8 hx with⟨y,hy,rfl⟩|hx
     · have hb:=hc.1.1.1.2;rw[hy]at hb;exact⟨zE _,BD.Mw hb (wK _),by simp only[gw];rw[BD.Ng (by rw[hn];exact hb)];exact hN.bd y hy⟩
     · obtain⟨h1,h2,h3⟩:=h.bd x hx;exact⟨zH h1,BD.Mw h2 (wK _),by rw[hat _ h1,BD.Ng (by rw[hn];exact h2)];exact h3⟩
    al :=fun x hx=>by
     rcases A8 hx with⟨y,hy,rfl⟩|hx
     · have hb:=hc.1.1.2;rw[hy]at hb;exact⟨zE _,th hb (wK _),by simp only[gw];rw[fk (by rw[hn];exact hb)];exact hN.al y hy⟩
     · obtain⟨h1,h2,h3⟩:=h.al x hx;exact⟨zH h1,th h2 (wK _),by rw[hat _ h1,fk (by rw[hn];exact h2)];exact h3⟩
    ll :=fun x hx=>by
     rcases A8 hx with⟨y,hy,rfl⟩|hx
     · have hb:=hc.1.2;rw[hy]at hb;exact⟨zE _,th hb (wK _),by simp only[gw];rw[fk (by rw[hn];exact hb)];exact hN.ll y hy⟩
     · obtain⟨h1,h2,h3⟩:=h.ll x hx;exact⟨zH h1,th h2 (wK _),by rw[hat _ h1,fk (by rw[hn];exact h2)];exact h3⟩
    sm :=fun x hx=>by
     rcases anj hx with⟨hy,hg⟩|hx
     · have hb:=hc.2;rw[hy]at hb;exact⟨by simp_all,Jo hb (wK _),by rw[hg,gw,Og (by rw[hn];exact hb)];exact hN.sm _ hy⟩
     · obtain⟨h1,h2,h3⟩:=h.sm x hx;exact⟨zH h1,Jo h2 (wK _),by rw[hat _ h1,Og (by rw[hn];exact h2)];exact h3⟩
    pr:=fun x hx=>by
     obtain⟨h1,h2⟩:=h.pr x hx;exact⟨fun g hg=>zH (h1 g hg),by rw[gO (g:=at' τ) fun g hg=>hat g (h1 g hg)];exact h2⟩}
 simp_all
def AS.li (S:AS):At→Li
 | .v i=>match S.env[i]? with
  |some g=> (match lk S.al g with
   |some x=>x
   |none=> (3*g+1,0))
  |none=> (0,0)
 | .i c=> (0,c)
 |_=> (0,0)
def AS.le (S:AS):At→Li
 | .v i=>match S.env[i]? with
  |some g=> (match lk S.ll g with
   |some x=>x
   |none=> (3*g+2,0))
  |none=> (0,0)
 |_=> (0,0)
def AS.ls (S:AS):At→Option Li
 | .v i=>match S.env[i]? with
  |some g=>some (3*g+3,0)
  |none=>some (0,0)
 | .s x=>some (0,x.size)
 |_=>some (0,0)
theorem VN (τ:List L) (g:Nat):bH τ (3*g+1)=(at' τ g).af:=by
 simp_all[bH,if_true,at']
theorem QL (τ:List L) (g:Nat):bH τ (3*g+2)=((at' τ g).ah.length:Int):=by
 simp only[bH,show(3*g+1) /3=g by omega,show(3*g+1)%3=1 by omega,at'];simp
theorem Xm (τ:List L) (g:Nat):bH τ (3*g+3)=((at' τ g).cv.size:Int):=by
 simp only[bH,show(3*g+2) /3=g by omega,show(3*g+2)%3=2 by omega,at'];simp
section
variable {S:AS} {τ ρ:List L} (h:Ga S τ ρ)
include h
theorem Ga.holds {f:Fa} (hf:f∈S.fs):f.holds τ:=(h.fs f hf).2
theorem Ga.ev {i:Nat}:(At.v i).ev ρ=match S.env[i]? with|some g=>at' τ g|none=> .b false:=by
 simp only[At.ev,h.env,bO];cases S.env[i]? <;>rfl
theorem Ga.li (x:At):(x.ev ρ).af=aL τ (S.li x):=by
 cases x with
 | v i=>
  rw[h.ev];simp only[AS.li]
  cases S.env[i]? with
  |none=>rfl
  |some g=>
   simp only;split
   · rename_i x hx;exact(h.al _ (ng hx)).2.2
   · simp only[aL,VN];omega
 |i c=>simp[At.ev,L.af,AS.li,aL,bH]
 |b=>rfl
 |s=>rfl
 |r0=>rfl
theorem Ga.le (x:At):((x.ev ρ).ah.length:Int)=aL τ (S.le x):=by
 cases x with
 | v i=>
  rw[h.ev];simp only[AS.le]
  cases S.env[i]? with
  |none=>rfl
  |some g=>
   simp only;split
   · rename_i x hx;exact(h.ll _ (ng hx)).2.2
   · simp only[aL,QL];omega
 |i c=>rfl
 |b=>rfl
 |s=>rfl
 |r0=>rfl
theorem Ga.ow (x:At):fj τ.length (S.li x).1=true:=by
 cases x with
 | v i=>
  simp only[AS.li]
  cases hg:S.env[i]? with
  |none=>rfl
  |some g=>
   simp only;split
   · rename_i x hx;rw[h.n];exact(h.al _ (ng hx)).2.1
   · have:=h.lt g (cH hg);simp only[fj,h.n,cg];omega
 |_=>rfl
theorem Ga.x5 (x:At):fj τ.length (S.le x).1=true:=by
 cases x with
 | v i=>
  simp only[AS.le]
  cases hg:S.env[i]? with
  |none=>rfl
  |some g=>
   simp only;split
   · rename_i x hx;rw[h.n];exact(h.ll _ (ng hx)).2.1
   · have:=h.lt g (cH hg);simp only[fj,h.n,cg];omega
 |_=>rfl
end
def iZ (t:Nat) (x:Li) (c:Int):Fa:=⟨t,x.1,x.2+c⟩
def kb (t:Nat) (x:Li) (c:Int):Fa:=⟨x.1,t,c-x.2⟩
def uz (t:Nat) (x:Li):List Fa:=[iZ t x 0,kb t x 0]
def eQ (t:Nat) (lo hi:Int):List Fa:=[iZ t (0,0) hi,kb t (0,0) (-lo)]
theorem kD {τ:List L} {t:Nat} {x:Li} {c:Int} (h:bH τ t-aL τ x≤c):(iZ t x c).holds τ:=by
 unfold Fa.holds iZ;unfold aL at h;simp only;omega
theorem lZ {τ:List L} {t:Nat} {x:Li} {c:Int} (h:aL τ x-bH τ t≤c):(kb t x c).holds τ:=by
 unfold Fa.holds kb;unfold aL at h;simp only;omega
theorem YS {τ:List L} {t:Nat} {x:Li} (h:bH τ t=aL τ x):∀f∈uz t x,f.holds τ:=fun f hf=>by
 simp only[uz,cU,lS,or_false]at hf;rcases hf with rfl|rfl
 · exact kD om
 simp_all[lZ]
theorem l_ {τ:List L} {t:Nat} {lo hi:Int} (h0:lo≤bH τ t) (h1:bH τ t≤hi):∀f∈eQ t lo hi,f.holds τ:=fun f hf=>by
 have hz:aL τ (0,0)=0:=by rfl
 simp only[eQ,cU,lS,or_false]at hf;rcases hf with rfl|rfl
 · simp_all[kD]
 simp_all[lZ]
theorem akb {l1 l2:List Fa} {τ:List L} (h1:∀f∈l1,f.holds τ) (h2:∀f∈l2,f.holds τ):∀f∈l1++l2,f.holds τ:=fun f hf=>by
 rcases ei.1 hf with h|h
 · exact h1 f h
 · exact h2 f h
theorem fZ {f:Fa} {l2:List Fa} {τ:List L} (h1:f.holds τ) (h2:∀f∈l2,f.holds τ):∀g∈f::l2,g.holds τ:=fun g hg=>by
 rcases cU.1 hg with rfl|h
 · exact h1
 · exact h2 g h
theorem holds_nil {τ:List L}:∀f∈([]:List Fa),f.holds τ:=fun f hf=>by cases hf
theorem n9 (τ:List L) (l:L):bH (τ++ [l]) (3*τ.length+1)=l.af:=by rw[VN,B4]
theorem uM (τ:List L) (l:L):bH (τ++ [l]) (3*τ.length+2)=(l.ah.length:Int):=by rw[QL,B4]
theorem Cp (τ:List L) (l:L):bH (τ++ [l]) (3*τ.length+3)=(l.cv.size:Int):=by rw[Xm,B4]
def qe (k:Option bS) (lo hi:Int):Bool:=match k with
 |some k=>decide (k.min≤lo)&&decide (hi≤k.max)
 |none=>true
def vi (k:Option bS) (t:Nat):List Fa:=match k with
 |some k=>eQ t k.min k.max
 |none=> []
def kU (k:Option bS) (n:Int):Int:=match k with
 |some k=>k.wrap n
 |none=>n
theorem uY {k:Option bS} {lo hi n:Int} (h:qe k lo hi=true) (h0:lo≤n) (h1:n≤hi):kU k n=n:=by
 cases k with
 |none=>rfl
 |some k=>
  simp only[qe,bt,cg]at h;exact r9 k om om
theorem k_ {k:Option bS} {τ:List L} {t:Nat} {n:Int} (h:bH τ t=kU k n):∀f∈vi k t,f.holds τ:=by
 cases k with
 |none=>exact holds_nil
 |some k=>
  have:=Go.wrap_within k n;exact l_ (by rw[h];exact this.1) (by rw[h];exact this.2)
def BB (fs:List Fa) (k:Option bS) (t:Nat) (x y:Li):List Fa:=match f_ fs x,iC fs x,f_ fs y,iC fs y with
 |some hx,some lx,some hy,some ly=>if qe k (lx+ly) (hx+hy)=true then[iZ t x hy,kb t x (-ly),iZ t y hx,kb t y (-lx)]else vi k t
 |_,_,_,_=>vi k t
theorem QR {fs:List Fa} {τ eG:List L} (hf:∀f∈fs,f.holds τ) {k:Option bS} {t:Nat} {x y:Li} (hx:aL eG x=aL τ x) (hy:aL eG y=aL τ y)
   (h:bH eG t=kU k (aL τ x+aL τ y)):∀f∈BB fs k t x y,f.holds eG:=by
 have hr:=k_ h;unfold BB;split
 · rename_i a b c d h1 h2 h3 h4;have h1:=gp hf h1;have h2:=iW hf h2;have h3:=gp hf h3;have h4:=iW hf h4;split
   · rename_i hc;have he:bH eG t=aL τ x+aL τ y:=by rw[h];exact uY hc om om
     exact fZ (kD om) (fZ (lZ om) (fZ (kD om) (fZ (lZ om) holds_nil)))
   · exact hr
 · exact hr
def EC (fs:List Fa) (k:Option bS) (x y:Li):Option Li:=
 if y.1=0 then match f_ fs x,iC fs x with
  |some hx,some lx=>if qe k (lx+y.2) (hx+y.2)=true then some (x.1,x.2+y.2)else none
  |_,_=>none
 else if x.1=0 then match f_ fs y,iC fs y with
  |some hy,some ly=>if qe k (x.2+ly) (x.2+hy)=true then some (y.1,y.2+x.2)else none
  |_,_=>none
 else none
theorem Y4 {fs:List Fa} {τ:List L} (hf:∀f∈fs,f.holds τ) {k:Option bS} {x y z:Li} (h:EC fs k x y=some z):kU k (aL τ x+aL τ y)=aL τ z:=by
 unfold EC at h;split at h
 · rename_i hy;have e:aL τ y=y.2:=by simp_all[aL,gh]
   split at h
   · rename_i a b h1 h2;have h1:=gp hf h1;have h2:=iW hf h2;split at h
     · rename_i hc;cases h;rw[e,uY hc om om];unfold aL;simp only;omega
     · cases h
   · cases h
 · split at h
   · rename_i hx;have e:aL τ x=x.2:=by simp_all[aL,gh]
     split at h
     · rename_i a b h1 h2;have h1:=gp hf h1;have h2:=iW hf h2;split at h
       · rename_i hc;cases h;rw[e,uY hc om om];unfold aL;simp only;omega
       · cases h
     · cases h
   · cases h
def Cn (fs:List Fa) (k:Option bS) (x y:Li):Option Li:=
 if y.1=0 then match f_ fs x,iC fs x with
  |some hx,some lx=>if qe k (lx-y.2) (hx-y.2)=true then some (x.1,x.2-y.2)else none
  |_,_=>none
 else if x.1=y.1 then(if qe k (x.2-y.2) (x.2-y.2)=true then some (0,x.2-y.2)else none)
 else none
theorem Q_ {fs:List Fa} {τ:List L} (hf:∀f∈fs,f.holds τ) {k:Option bS} {x y z:Li} (h:Cn fs k x y=some z):kU k (aL τ x-aL τ y)=aL τ z:=by
 unfold Cn at h;split at h
 · rename_i hy;have e:aL τ y=y.2:=by simp_all[aL,gh]
   split at h
   · rename_i a b h1 h2;have h1:=gp hf h1;have h2:=iW hf h2;split at h
     · rename_i hc;cases h;rw[e,uY hc om om];unfold aL;simp only;omega
     · cases h
   · cases h
 · split at h
   · rename_i hxy;split at h
     · rename_i hc;cases h;have e:aL τ x-aL τ y=x.2-y.2:=by unfold aL;rw[hxy];omega
       rw[e,uY hc (IL _) (IL _)];simp_all[aL,gh]
     · cases h
   · cases h
def zR (fs:List Fa) (k:Option bS) (t:Nat) (x y:Li):List Fa:=match sQ fs x y,sQ fs y x with
 |some u,some d=>if qe k (-d) u=true then eQ t (-d) u++(match f_ fs y,iC fs y with
  |some hy,some ly=> [iZ t x (-ly),kb t x hy]
  |some hy,none=> [kb t x hy]
  |none,some ly=> [iZ t x (-ly)]
  |none,none=> [])else vi k t
 |_,_=>vi k t
theorem LC {fs:List Fa} {τ eG:List L} (hf:∀f∈fs,f.holds τ) {k:Option bS} {t:Nat} {x y:Li} (hx:aL eG x=aL τ x)
   (h:bH eG t=kU k (aL τ x-aL τ y)):∀f∈zR fs k t x y,f.holds eG:=by
 have hr:=k_ h;unfold zR;split
 · rename_i u d h1 h2;have h1:=xw hf h1;have h2:=xw hf h2;split
   · rename_i hc;have he:bH eG t=aL τ x-aL τ y:=by rw[h];exact uY hc om om
     refine akb (l_ om om) ?_;split
     · rename_i a b h3 h4;have h3:=gp hf h3;have h4:=iW hf h4;exact fZ (kD om) (fZ (lZ om) holds_nil)
     · rename_i a h3 h4;have h3:=gp hf h3;exact fZ (lZ om) holds_nil
     · rename_i a h3 h4;have h4:=iW hf h4;exact fZ (kD om) holds_nil
     · exact holds_nil
   · exact hr
 · exact hr
end AI
namespace AI
def Xo (a b:Int):Int:=if a≤b then a else b
def imax (a b:Int):Int:=if a≤b then b else a
def PD (fs:List Fa) (k:bS) (t:Nat) (x y:Li):List Fa:=match f_ fs x,iC fs x,f_ fs y,iC fs y with
 |some hx,some lx,some hy,some ly=>if 0≤lx∧0≤ly∧hx*hy≤k.max then eQ t (lx*ly) (hx*hy)else eQ t k.min k.max
 |_,_,_,_=>eQ t k.min k.max
theorem alZ {fs:List Fa} {τ eG:List L} (hf:∀f∈fs,f.holds τ) {k:bS} {t:Nat} {x y:Li}
   (h:bH eG t=k.wrap (aL τ x*aL τ y)):∀f∈PD fs k t x y,f.holds eG:=by
 have hr:∀f∈eQ t k.min k.max,f.holds eG:=k_ (k:=some k) h;unfold PD;split
 · rename_i hx lx hy ly h1 h2 h3 h4;have h1:=gp hf h1;have h2:=iW hf h2;have h3:=gp hf h3;have h4:=iW hf h4;split
   · rename_i hc;obtain⟨c1,c2,c3⟩:=hc;have b1:lx*ly≤aL τ x*aL τ y:=Int.mul_le_mul h2 h4 c2 om;have b2:aL τ x*aL τ y≤hx*hy:=Int.mul_le_mul h1 h3 om om;have ahz:k.min≤0:=by cases k<;>decide
     have c4:0≤lx*ly:=Int.mul_nonneg c1 c2;have he:bH eG t=aL τ x*aL τ y:=by rw[h];exact r9 k om om
     exact l_ om om
   · exact hr
 · exact hr
def L9 (fs:List Fa) (k:bS) (t:Nat) (x:Li) (c:Int):List Fa:=match f_ fs x,iC fs x with
 |some hx,some lx=>if 0≤lx∧hx≤k.max then eQ t (lx/c) (hx/c)else eQ t k.min k.max
 |_,_=>eQ t k.min k.max
theorem ari {fs:List Fa} {τ eG:List L} (hf:∀f∈fs,f.holds τ) {k:bS} {t:Nat} {x:Li} {c:Int} (hc:0<c)
   (h:bH eG t=k.wrap ((aL τ x).tdiv c)):∀f∈L9 fs k t x c,f.holds eG:=by
 have hr:∀f∈eQ t k.min k.max,f.holds eG:=k_ (k:=some k) h;unfold L9;split
 · rename_i hx lx h1 h2;have h1:=gp hf h1;have h2:=iW hf h2;split
   · rename_i hcc;obtain⟨c1,c3⟩:=hcc;rw[Di om]at h;have b1:lx/c≤aL τ x/c:=aiK hc h2;have b2:aL τ x/c≤hx/c:=aiK hc h1;have ahz:k.min≤0:=by cases k<;>decide
     have c4:0≤lx/c:=SN c1 om;have b3:hx/c≤hx:=aiL _ om;have he:bH eG t=aL τ x/c:=by rw[h];exact r9 k om om
     exact l_ om om
   · exact hr
 · exact hr
def No (fs:List Fa) (t:Nat) (x:Li) (c:Int):List Fa:=match iC fs x with
 |some lx=>if 0≤lx then iZ t x 0::eQ t 0 (c-1)else eQ t (1-c) (c-1)
 |none=>eQ t (1-c) (c-1)
theorem ayr {fs:List Fa} {τ eG:List L} (hf:∀f∈fs,f.holds τ) {t:Nat} {x:Li} {c:Int} (hc:0<c) (hx:aL eG x=aL τ x)
   (h:bH eG t=(aL τ x).tmod c):∀f∈No fs t x c,f.holds eG:=by
 have hr:∀f∈eQ t (1-c) (c-1),f.holds eG:=by
   have h1:=IS (aL τ x) hc;have h2: -c< (aL τ x).tmod c:=by
     have:=IS (-(aL τ x)) hc;rw[Int.neg_tmod]at this;omega
   exact l_ om om
 unfold No;split
 · rename_i lx h2;have h2:=iW hf h2;split
   · have h1:=IS (aL τ x) hc;have h3:0≤(aL τ x).tmod c:=Int.tmod_nonneg _ om;have h4:(aL τ x).tmod c≤aL τ x:=by
      rw[IT om];have e1:=Int.emod_add_mul_ediv (aL τ x) c;have e2:0≤c*(aL τ x/c):=Int.mul_nonneg om (SN om om);omega
     exact fZ (kD om) (l_ om om)
   · exact hr
 · exact hr
theorem arj (k:bS) (a:Int) {c:Int} (h0:0≤c) (h1:c≤k.max):0≤k.wrap (BitVec.ofInt k.bits a&&&BitVec.ofInt k.bits c).toNat∧k.wrap (BitVec.ofInt k.bits a&&&BitVec.ofInt k.bits c).toNat≤c:=by
 have h2:(BitVec.ofInt k.bits c).toNat=c.toNat:=by
  rw[wL];have:c<2^k.bits:=by cases k<;>simp[IntKind.max,IntKind.bits,IntKind.signed]at h1⊢<;>omega
  rw[Int.emod_eq_of_lt h0 (by exact_mod_cast this)]
 have h3:(BitVec.ofInt k.bits a&&&BitVec.ofInt k.bits c).toNat≤c.toNat:=by
  rw[aiM,h2];exact Nat.and_le_right
 have ahz:k.min≤0:=by cases k<;>decide
 have h4:((BitVec.ofInt k.bits a&&&BitVec.ofInt k.bits c).toNat:Int)≤c:=om;rw[r9 k om om];exact⟨om,h4⟩
def La (k:bS) (t:Nat) (y:Li):List Fa:=if y.1=0∧0≤y.2∧y.2≤k.max then eQ t 0 y.2 else eQ t k.min k.max
theorem aqT {τ eG:List L} {k:bS} {t:Nat} {x y:Int} {z:Li} (hz:y=aL τ z)
   (h:bH eG t=k.wrap (BitVec.ofInt k.bits x&&&BitVec.ofInt k.bits y).toNat):∀f∈La k t z,f.holds eG:=by
 unfold La;split
 · rename_i hc;obtain⟨h1,h2,h3⟩:=hc;have:y=z.2:=by simp_all[aL,gh]
   rw[this]at h;have:=arj k x h2 h3;exact l_ om om
 · exact k_ (k:=some k) h
def Nq (fs:List Fa) (k:bS) (t:Nat) (x y:Li):List Fa:=match f_ fs x,iC fs x with
 |some hx,some lx=>if 0≤lx then(if y.1=0 then eQ t 0 (hx/2^ (min y.2.toNat k.bits))else eQ t 0 hx)else[]
 |_,_=> []
theorem aBW {fs:List Fa} {τ eG:List L} (hf:∀f∈fs,f.holds τ) {k:bS} {t:Nat} {x y:Li}
   (h:bH eG t=(aL τ x).fdiv (2^ (min (aL τ y).toNat k.bits))):∀f∈Nq fs k t x y,f.holds eG:=by
 unfold Nq;split
 · rename_i hx lx h1 h2;have h1:=gp hf h1;have h2:=iW hf h2;split
   · have hp:(0:Int)<2^ (min (aL τ y).toNat k.bits):=Int.pow_pos dc;rw[SO _ om]at h;have b0:0≤aL τ x/2^ (min (aL τ y).toNat k.bits):=SN om om;split
     · rename_i hy;have:aL τ y=y.2:=by simp_all[aL,gh]
       rw[this]at h b0 hp;have b2:=aiK hp h1;exact l_ om om
     · have b2:=aiL (a:=aL τ x) (2^ (min (aL τ y).toNat k.bits)) om;exact l_ om om
   simp_all
 simp_all
def L1 (S:AS) (op:BinOp) (k:bS) (x y:Li):Option bN:=
 let t:=3*S.n+1
 match op with
 | .add=>match EC S.fs (some k) x y with
  |some z=>some {al:=some z}
  |none=>some {fs:=BB S.fs (some k) t x y}
 | .sub=>match Cn S.fs (some k) x y with
  |some z=>some {al:=some z}
  |none=>some {fs:=zR S.fs (some k) t x y}
 | .mul=>some {fs:=PD S.fs k t x y}
 | .quo=>if y.1=0∧0<y.2 then some {fs:=L9 S.fs k t x y.2}else none
 | .rem=>if y.1=0∧0<y.2 then some {fs:=No S.fs t x y.2}else none
 | .and=>some {fs:=La k t y}
 | .or=>some {fs:=eQ t k.min k.max}
 | .xor=>some {fs:=eQ t k.min k.max}
 | .andNot=>some {fs:=eQ t k.min k.max}
 | .shl=>match iC S.fs y with
  |some l=>if 0≤l then some {fs:=eQ t k.min k.max}else none
  |none=>none
 | .shr=>match iC S.fs y with
  |some l=>if 0≤l then some {fs:=Nq S.fs k t x y}else none
  |none=>none
 | .eql=>some {bd:=some (.cmp .eql x y true)}
 | .neq=>some {bd:=some (.cmp .neq x y true)}
 | .lss=>some {bd:=some (.cmp .lss x y true)}
 | .leq=>some {bd:=some (.cmp .leq x y true)}
 | .gtr=>some {bd:=some (.cmp .gtr x y true)}
 | .geq=>some {bd:=some (.cmp .geq x y true)}
theorem eO {τ:List L} {l:L} {fs:List Fa} (h:∀f∈fs,f.holds (τ++ [l])):bN.ok {fs:=fs} τ l:=⟨h,fun _ h=> (by cases h),fun _ h=> (by cases h),fun _ h=> (by cases h),fun _ h=> (by cases h),fun _ h=> (by cases h),fun _ h=> (by cases h)⟩
theorem Kj {τ:List L} {l:L} {b:BD} (h:l.br=b.val τ):bN.ok {bd:=some b} τ l:=⟨holds_nil,fun _ h=> (by cases h),fun _ h=> (by cases h),fun x hx=> (by cases hx;exact h),fun _ h=> (by cases h),fun _ h=> (by cases h),fun _ h=> (by cases h)⟩
theorem uO {τ:List L} {l:L} {z:Li} (h:l.af=aL τ z):bN.ok {al:=some z} τ l:=⟨holds_nil,fun _ h=> (by cases h),fun _ h=> (by cases h),fun _ h=> (by cases h),fun x hx=> (by cases hx;exact h),fun _ h=> (by cases h),fun _ h=> (by cases h)⟩
theorem aCa {S:AS} {τ ρ:List L} (h:Ga S τ ρ) {op:BinOp} {k:bS} {x y:Li} (CI:fj τ.length x.1=true) (hyi:fj τ.length y.1=true) {N:bN} (hN:L1 S op k x y=some N):∃l,bF op k (aL τ x) (aL τ y)=some l∧N.ok τ l:=by
 have hf:∀f∈S.fs,f.holds τ:=fun f hf=>h.holds hf
 have ti:∀n:Int,bH (τ++ [L.i n]) (3*S.n+1)=n:=fun n=>by rw[←h.n,n9];rfl
 have lx:∀l:L,aL (τ++ [l]) x=aL τ x:=fun l=>fk CI
 have ly:∀l:L,aL (τ++ [l]) y=aL τ y:=fun l=>fk hyi
 cases op<;>simp only[L1]at hN<;>simp only[bF]
 case add=>
  split at hN
  · rename_i z hz;cases hN;exact⟨_,rfl,uO (Y4 hf hz)⟩
  · cases hN;exact⟨_,rfl,eO (QR hf (lx _) (ly _) (ti _))⟩
 case sub=>
  split at hN
  · rename_i z hz;cases hN;exact⟨_,rfl,uO (Q_ hf hz)⟩
  · cases hN;exact⟨_,rfl,eO (LC hf (lx _) (ti _))⟩
 case mul=>cases hN;exact⟨_,rfl,eO (alZ hf (ti _))⟩
 case quo=>
  split at hN
  · rename_i hc;cases hN;have hy:aL τ y=y.2:=by simp_all[aL,gh]
    rw[hy,au om];exact⟨_,rfl,eO (ari hf hc.2 (ti _))⟩
  · cases hN
 case rem=>
  split at hN
  · rename_i hc;cases hN;have hy:aL τ y=y.2:=by simp_all[aL,gh]
    rw[hy,au om];exact⟨_,rfl,eO (ayr hf hc.2 (lx _) (ti _))⟩
  · cases hN
 case and=>cases hN;exact⟨_,rfl,eO (aqT rfl (ti _))⟩
 case or=>cases hN;exact⟨_,rfl,eO (k_ (k:=some k) (ti _))⟩
 case xor=>cases hN;exact⟨_,rfl,eO (k_ (k:=some k) (ti _))⟩
 case andNot=>cases hN;exact⟨_,rfl,eO (k_ (k:=some k) (ti _))⟩
 case shl=>
  split at hN
  · rename_i l hl;have:=iW hf hl;split at hN
    · cases hN;rw[au om];exact⟨_,rfl,eO (k_ (k:=some k) (ti _))⟩
    · cases hN
  · cases hN
 case shr=>
  split at hN
  · rename_i l hl;have:=iW hf hl;split at hN
    · cases hN;rw[au om];exact⟨_,rfl,eO (aBW hf (ti _))⟩
    · cases hN
  · cases hN
 all_goals (cases hN;exact⟨_,rfl,Kj (by simp[BD.val,tB,L.br])⟩)
end AI
namespace AI
def AS.rs (S:AS):At→Option RS
 | .v i=>match S.env[i]? with
  |some g=>lk S.rw g
  |none=>some none
 |_=>some none
def AS.cs (S:AS):At→Option (List AC)
 | .v i=>match S.env[i]? with
  |some g=>lk S.cl g
  |none=>none
 |_=>none
def AS.bo (S:AS):At→Option BD
 | .v i=>match S.env[i]? with
  |some g=>lk S.bd g
  |none=>none
 | .b t=>some (.iF t)
 |_=>none
section
variable {S:AS} {τ ρ:List L} (h:Ga S τ ρ)
include h
theorem Ga.rs {x:At} {r:RS} (hr:S.rs x=some r):ic r (x.ev ρ).ah:=by
 cases x with
 |v i=>
  rw[h.ev];simp only[AS.rs]at hr
  cases hg:S.env[i]? with
  |none=>rw[hg]at hr;cases hr;rfl
  |some g=>rw[hg]at hr;exact(h.rw _ (ng hr)).2
 |_=>cases hr;rfl
theorem Ga.cs {x:At} {r:List AC} (hr:S.cs x=some r):AC.dp r (x.ev ρ).jl:=by
 cases x with
 |v i=>
  rw[h.ev];simp only[AS.cs]at hr
  cases hg:S.env[i]? with
  |none=>simp_all
  |some g=>rw[hg]at hr;exact(h.cl _ (ng hr)).2
 |_=>cases hr
theorem Ga.bo {x:At} {b:BD} (hr:S.bo x=some b):(x.ev ρ).br=b.val τ:=by
 cases x with
 |v i=>
  rw[h.ev];simp only[AS.bo]at hr
  cases hg:S.env[i]? with
  |none=>simp_all
  |some g=>rw[hg]at hr;exact(h.bd _ (ng hr)).2.2
 |b t=>cases hr;rfl
 |_=>cases hr
end
def Fq (n:Nat) (k:Kd) (c:AC):Option bN:=match k,c with
 | .int k,.int k' lo hi=>if k==k' then some {fs:=eQ (3*n+1) lo hi}else none
 | .bool,.bool=>some {}
 | .str,.str hi=>some {fs:=eQ (3*n+3) 0 hi}
 | .sl,.sl hi cs=>some {fs:=eQ (3*n+2) 0 hi,rw:=some (if hi≤0 then none else some cs)}
 |_,_=>none
theorem aaI {τ:List L} {k:Kd} {c:AC} {q:PV} {N:bN} (h:AC.ok c q) (hN:Fq τ.length k c=some N):∃l,k.of q=some l∧N.ok τ l:=by
 unfold Fq at hN;split at hN
 · rename_i k k' lo hi;split at hN
   · rename_i hk;have:=eq_of_beq hk;subst this;cases hN;obtain⟨n,rfl,h1,h2⟩:=h;exact⟨.i n,by simp[Kd.of],eO (l_ (by rw[n9];exact h1) (by rw[n9];exact h2))⟩
   · cases hN
 · cases hN;obtain⟨b,rfl⟩:=h;exact⟨.b b,rfl,eO holds_nil⟩
 · cases hN;obtain⟨s,rfl,h1⟩:=h;exact⟨.s s,rfl,eO (l_ (by rw[Cp];omega) (by rw[Cp];exact h1))⟩
 · cases hN;obtain⟨rows,rfl,h1,h2⟩:=h;refine⟨.r rows,rfl,l_ (by rw[uM];omega) (by rw[uM];exact h1),fun x hx=> ?_,fun _ h=> (by cases h),fun _ h=> (by cases h),fun _ h=> (by cases h),fun _ h=> (by cases h),fun _ h=> (by cases h)⟩;have hx:=p9 hx;rw[←hx];split
   · have:rows.length=0:=om;exact iq this
   · exact h2
 · cases hN
def AS.ac (S:AS) (p:Kd×At):AC:=match p.1 with
 | .int k=>match iC S.fs (S.li p.2),f_ S.fs (S.li p.2)with
  |some lo,some hi=> .int k lo hi
  |_,_=> .any
 | .bool=> .bool
 | .sl=>match f_ S.fs (S.le p.2),S.rs p.2 with
  |some hi,some (some cs)=> .sl hi cs
  |_,some none=> .sl 0 []
  |_,_=> .any
 | .str=>match S.ls p.2 with
  |some y=>match f_ S.fs y with
   |some hi=> .str hi
   |none=> .any
  |none=> .any
 |_=> .any
theorem Ga.ls {S:AS} {τ ρ:List L} (h:Ga S τ ρ) {x:At} {y:Li} (hy:S.ls x=some y):((x.ev ρ).cv.size:Int)=aL τ y:=by
 cases x with
 |v i=>
  rw[h.ev];simp only[AS.ls]at hy
  cases hg:S.env[i]? with
  |none=>rw[hg]at hy;cases hy;rfl
  |some g=>rw[hg]at hy;cases hy;simp only[aL,Xm];omega
 |s x=>cases hy;simp[aL,gh,At.ev,L.cv]
 |i c=>cases hy;rfl
 |b t=>cases hy;rfl
 |r0=>cases hy;rfl
theorem Ga.QC {S:AS} {τ ρ:List L} (h:Ga S τ ρ) {x:At} {y:Li} (hy:S.ls x=some y):fj τ.length y.1=true:=by
 cases x with
 | v i=>
  simp only[AS.ls]at hy
  cases hg:S.env[i]? with
  |none=>rw[hg]at hy;cases hy;rfl
  |some g=>
   rw[hg]at hy;cases hy;have:=h.lt g (cH hg);simp only[fj,h.n,cg];omega
 |_=>cases hy;rfl
theorem aBC {S:AS} {τ ρ:List L} (h:Ga S τ ρ) (p:Kd×At):AC.ok (S.ac p) (p.1.pv (p.2.ev ρ)):=by
 have hf:∀f∈S.fs,f.holds τ:=fun f hf=>h.holds hf
 obtain⟨k,x⟩:=p
 cases k with
 |int k=>
  simp only[AS.ac];split
  · rename_i lo hi h1 h2;exact⟨_,rfl,by rw[h.li];exact iW hf h1,by rw[h.li];exact gp hf h2⟩
  · trivial
 |bool=>exact⟨_,rfl⟩
 |sl=>
  simp only[AS.ac];split
  · rename_i hi cs h1 h2;exact⟨_,rfl,by rw[h.le];exact gp hf h1,h.rs h2⟩
  · rename_i h2;have h3:(x.ev ρ).ah=[]:=h.rs h2;exact⟨_,rfl,by rw[h3];decide,by simp_all⟩
  · trivial
 |str=>
  simp only[AS.ac];split
  · rename_i y hy;split
    · rename_i hi h1;exact⟨_,rfl,by rw[h.ls hy];exact gp hf h1⟩
    · trivial
  · trivial
 |ptr=>trivial
 |mp=>trivial
 |fn=>trivial
 |Gz=>trivial
theorem Fh {S:AS} {τ ρ:List L} (h:Ga S τ ρ):∀ps:List (Kd×At),AC.dp (ps.map S.ac) (bp ρ ps)
 |[]=>trivial
 |p::ps=> ⟨aBC h p,Fh h ps⟩
def yU (x y:RS):Option RS:=match x,y with
 |none,y=>some y
 |x,none=>some x
 |some a,some b=>if AC.py a b then some (some b)else if AC.py b a then some (some a)else
  let j:=AC.OG a b
  if AC.py a j&&AC.py b j then some (some j)else none
theorem EY {x y z:RS} (h:yU x y=some z) {rows:List (List PV)}:(ic x rows→ic z rows)∧(ic y rows→ic z rows):=by
 have nil:∀z:RS,ic none rows→ic z rows:=fun z hz=>by
  have:rows=[]:=hz;subst this
  cases z with
  |none=>rfl
  |some c=>intro r hr;cases hr
 cases x with
 |none=>cases h;simp_all
 | some a=>
  cases y with
  |none=>cases h;simp_all
  | some b=>
   simp only[yU]at h;split at h
   · rename_i h1;cases h;exact⟨fun hr r hm=>AC.sH h1 (hr r hm),id⟩
   · split at h
     · rename_i h1;cases h;exact⟨id,fun hr r hm=>AC.sH h1 (hr r hm)⟩
     · split at h
       · rename_i h1;simp only[bt]at h1;cases h;exact⟨fun hr r hm=>AC.sH h1.1 (hr r hm),fun hr r hm=>AC.sH h1.2 (hr r hm)⟩
       · cases h
theorem akW {z:RS} {a b:List (List PV)} (h1:ic z a) (h2:ic z b):ic z (a++b):=by
 cases z with
 |none=>have h1:a=[]:=h1;simp_all
 |some cs=>intro r hr;exact(ei.1 hr).elim (h1 r) (h2 r)
theorem Hl {z:RS} {a b:List (List PV)} (h1:ic z a) (h:∀r∈b,r∈a):ic z b:=by
 cases z with
 |none=>
  have h1:a=[]:=h1;subst h1
  cases b with
  |nil=>rfl
  |cons r b=>exact absurd (h r ek) (by simp)
 |some cs=>exact fun r hr=>h1 r (h r hr)
def AO (n:Nat):RS→Bool
 |none=>true
 |some cs=>cs.length==n
theorem EG {n:Nat} {z:RS} {rows:List (List PV)} (h:AO n z=true) (hr:ic z rows):bA n rows=true:=by
 cases z with
 |none=>have hr:rows=[]:=hr;subst hr;rfl
 |some cs=>
  have h:=eq_of_beq h;subst h;exact AC.vD hr
theorem Xk {τ:List L} {l:L} {fs:List Fa} {z:RS} (h:∀f∈fs,f.holds (τ++ [l])) (hz:ic z l.ah):bN.ok {fs:=fs,rw:=some z} τ l:=
 ⟨h,fun x hx=> (by cases hx;exact hz),fun _ h=> (by cases h),fun _ h=> (by cases h),fun _ h=> (by cases h),fun _ h=> (by cases h),fun _ h=> (by cases h)⟩
theorem si {τ:List L} {l:L} {fs:List Fa} {z:RS} {y:Option Li} (h:∀f∈fs,f.holds (τ++ [l])) (hz:ic z l.ah) (hy:∀x,y=some x→(l.ah.length:Int)=aL τ x):bN.ok {fs:=fs,rw:=some z,ll:=y} τ l:=
 ⟨h,fun x hx=> (by cases hx;exact hz),fun _ h=> (by cases h),fun _ h=> (by cases h),fun _ h=> (by cases h),hy,fun _ h=> (by cases h)⟩
theorem yG {τ:List L} {y x:Li} {v:Int} (h:v=aL τ y) (hx:some y=some x):v=aL τ x:=by cases hx;exact h
def VU (S:AS) (x:At):Option bN:=some {al:=some (S.le x)}
def LQ (S:AS) (x:At):Option bN:=match S.ls x with
 |some y=>some {al:=some y}
 |none=>none
def JH (S:AS) (k:bS) (x:At):Option bN:=match iC S.fs (S.li x),f_ S.fs (S.li x)with
 |some lo,some hi=>if qe (some k) lo hi=true then some {al:=some (S.li x)}else some {fs:=vi (some k) (3*S.n+1)}
 |_,_=>some {fs:=vi (some k) (3*S.n+1)}
def OD (S:AS) (x:At):Option bN:=match S.bo x with
 |some b=>some {bd:=some b.neg}
 |none=>some {}
def AS.at (S:AS) (x i:At):Bool:=dj S.fs (0,0) (S.li i) 0&&dj S.fs (S.li i) (S.le x) (-1)
def Pe (S:AS) (x i:At) (size:Nat):Option bN:=match S.rs x with
 |some (some cs)=>if S.at x i=true∧cs.length=size then some {cl:=some cs}else none
 |_=>none
def QS (S:AS) (x:At) (j:Nat) (k:Kd):Option bN:=match S.cs x with
 |some cs=> (cs[j]?).bind (Fq S.n k)
 |none=>none
def N6 (S:AS) (x i:At) (j:Nat) (k:Kd):Option bN:=match S.rs x with
 |some (some cs)=>if S.at x i=true then(cs[j]?).bind (Fq S.n k)else none
 |_=>none
def Mi (S:AS) (x lo hi:At) (size:Nat):Option bN:=match S.rs x with
 |some z=>if dj S.fs (0,0) (S.li lo) 0=true∧dj S.fs (S.li lo) (S.li hi) 0=true∧dj S.fs (S.li hi) (S.le x) 0=true∧AO size z=true then some {fs:=zR S.fs none (3*S.n+2) (S.li hi) (S.li lo),rw:=some z,ll:=Cn S.fs none (S.li hi) (S.li lo)}else none
 |none=>none
def Qi (S:AS) (x y:At) (n b:Nat):Option bN:=match S.rs x,S.rs y,f_ S.fs (S.le x),f_ S.fs (S.le y)with
 |some zx,some zy,some hx,some hy=>if hx+hy≤9223372036854775807∧(hx+hy)*b≤140737488355328∧AO n zx=true∧AO n zy=true then(yU zx zy).map fun z=> {fs:=BB S.fs none (3*S.n+2) (S.le x) (S.le y),rw:=some z,ll:=EC S.fs none (S.le x) (S.le y)}else none
 |_,_,_,_=>none
def OT (S:AS) (rows:List (List (Kd×At))):Option bN:=match rows with
 |[]=>some {rw:=some none,ll:=some (0,0)}
 |ps::r=> (r.foldl (fun (z:Option RS) ps=>z.bind fun z=>yU z (some (ps.map S.ac))) (some (some (ps.map S.ac)))).bind fun z=>match z with
  |some cs=>if rows.all (fun ps=>AC.py (ps.map S.ac) cs)=true then some {rw:=some (some cs),ll:=some (0,rows.length)}else none
  |none=>none
def K2 (S:AS) (n:At) (ps:List (Kd×At)) (b:Nat):Option bN:=match f_ S.fs (S.li n)with
 |some hi=>if dj S.fs (0,0) (S.li n) 0=true∧hi≤9223372036854775807∧b*hi≤281474976710656 then some {rw:=some (some (ps.map S.ac)),ll:=some (S.li n)}else none
 |none=>none
section
variable {S:AS} {τ ρ:List L} (h:Ga S τ ρ)
include h
theorem atQ {x:At} {N:bN} (hN:VU S x=some N):∃l,Nd.ev ρ (.len x)=some [l]∧N.ok τ l:=by
 cases hN;refine⟨_,rfl,uO ?_⟩;rw[←h.le x];rfl
theorem apa {x:At} {N:bN} (hN:LQ S x=some N):∃l,Nd.ev ρ (.mw x)=some [l]∧N.ok τ l:=by
 unfold LQ at hN;split at hN
 · rename_i y hy;cases hN;refine⟨_,rfl,uO ?_⟩;rw[←h.ls hy];rfl
 · cases hN
theorem aCZ {k:bS} {x:At} {N:bN} (hN:JH S k x=some N):∃l,Nd.ev ρ (.conv k x)=some [l]∧N.ok τ l:=by
 have hf:∀f∈S.fs,f.holds τ:=fun f hf=>h.holds hf
 refine⟨_,rfl,?_⟩;have hv:bH (τ++ [L.i (k.wrap (x.ev ρ).af)]) (3*S.n+1)=kU (some k) (aL τ (S.li x)):=by rw[←h.n,n9,←h.li x];rfl
 unfold JH at hN;split at hN
 · rename_i lo hi h1 h2;split at hN
   · rename_i hc;cases hN;refine uO ?_;rw[←uY hc (iW hf h1) (gp hf h2),←h.li x];rfl
   · cases hN;exact eO (k_ hv)
 · cases hN;exact eO (k_ hv)
theorem aAH {x:At} {N:bN} (hN:OD S x=some N):∃l,Nd.ev ρ (.not x)=some [l]∧N.ok τ l:=by
 refine⟨_,rfl,?_⟩;unfold OD at hN;split at hN
 · rename_i b hb;cases hN;refine Kj ?_;rw[BD.aBB,←h.bo hb];rfl
 · cases hN;exact eO holds_nil
theorem P2 {x i:At} (ha:S.at x i=true):0≤(i.ev ρ).af∧(i.ev ρ).af.toNat< (x.ev ρ).ah.length:=by
 have hf:∀f∈S.fs,f.holds τ:=fun f hf=>h.holds hf
 simp only[AS.at,bt]at ha;have h1:=ff hf ha.1;have h2:=ff hf ha.2;have h3:=h.li i;have h4:=h.le x;have hz:aL τ (0,0)=0:=by simp[aL,gh]
 omega
theorem aCj {x i:At} {size:Nat} {N:bN} (hN:Pe S x i size=some N):∃l,Nd.ev ρ (.row x i size)=some [l]∧N.ok τ l:=by
 unfold Pe at hN;split at hN
 · rename_i cs hcs;split at hN
   · rename_i hc;cases hN;obtain⟨h1,h2⟩:=P2 h hc.1;have hr:=bX h2;have aX:AC.dp cs (x.ev ρ).ah[(i.ev ρ).af.toNat]:=h.rs hcs _ (b9 h2);refine⟨.c (x.ev ρ).ah[(i.ev ρ).af.toNat],?_,holds_nil,fun _ h=> (by cases h),fun y hy=> (by cases hy;exact aX),fun _ h=> (by cases h),fun _ h=> (by cases h),fun _ h=> (by cases h),fun _ h=> (by cases h)⟩;simp only[Nd.ev,au h1,hr,AC.uJ aX,hc.2,if_true]
   · cases hN
 · cases hN
theorem aFa {x:At} {j:Nat} {k:Kd} {N:bN} (hN:QS S x j k=some N):∃l,Nd.ev ρ (.cl x j k)=some [l]∧N.ok τ l:=by
 unfold QS at hN;split at hN
 · rename_i cs hcs;simp only[gE]at hN;obtain⟨c,hj,hN⟩:=hN;obtain⟨q,h1,h2⟩:=AC.NM (h.cs hcs) hj;rw[←h.n]at hN;obtain⟨l,h3,h4⟩:=aaI h2 hN;exact⟨l,by simp only[Nd.ev,h1,h3];rfl,h4⟩
 · cases hN
theorem are {x i:At} {j:Nat} {k:Kd} {N:bN} (hN:N6 S x i j k=some N):∃l,Nd.ev ρ (.rc x i j k)=some [l]∧N.ok τ l:=by
 unfold N6 at hN;split at hN
 · rename_i cs hcs;split at hN
   · rename_i hc;simp only[gE]at hN;obtain⟨c,hj,hN⟩:=hN;obtain⟨g1,g2⟩:=P2 h hc;have hr:=bX g2;have aX:AC.dp cs (x.ev ρ).ah[(i.ev ρ).af.toNat]:=h.rs hcs _ (b9 g2);obtain⟨q,h1,h2⟩:=AC.NM aX hj;rw[←h.n]at hN;obtain⟨l,h3,h4⟩:=aaI h2 hN;exact⟨l,by simp only[Nd.ev,hr,h1,h3];rfl,h4⟩
   · cases hN
 · cases hN
theorem ajf {x lo hi:At} {size:Nat} {N:bN} (hN:Mi S x lo hi size=some N):∃l,Nd.ev ρ (.part x lo hi size)=some [l]∧N.ok τ l:=by
 have hf:∀f∈S.fs,f.holds τ:=fun f hf=>h.holds hf
 unfold Mi at hN;split at hN
 · rename_i z hz;split at hN
   · rename_i hc;obtain⟨c1,c2,c3,c4⟩:=hc;cases hN;have c1:=ff hf c1;have c2:=ff hf c2;have c3:=ff hf c3;have e1:=h.li lo;have e2:=h.li hi;have e3:=h.le x;have hz0:aL τ (0,0)=0:=by rfl
     have hlen:(((x.ev ρ).ah.take (hi.ev ρ).af.toNat).drop (lo.ev ρ).af.toNat).length=(hi.ev ρ).af.toNat- (lo.ev ρ).af.toNat:=by
       rw[fw,dX];omega
     refine⟨.r (((x.ev ρ).ah.take (hi.ev ρ).af.toNat).drop (lo.ev ρ).af.toNat),?_,si (LC hf (fk (h.ow hi)) ?_) (Hl (h.rs hz) fun r hr=>hU (oR hr)) fun y hy=> ?_⟩
     · simp only[Nd.ev];rw[au ⟨om,om,om,EG c4 (h.rs hz)⟩]
     · rw[←h.n,uM];show((((x.ev ρ).ah.take (hi.ev ρ).af.toNat).drop (lo.ev ρ).af.toNat).length:Int)=_;rw[hlen];simp only[kU];omega
     · have:=Q_ hf hy;simp only[kU]at this;rw[←this];show((((x.ev ρ).ah.take (hi.ev ρ).af.toNat).drop (lo.ev ρ).af.toNat).length:Int)=_;rw[hlen];omega
   · cases hN
 · cases hN
theorem ayk {x y:At} {n b:Nat} {N:bN} (hN:Qi S x y n b=some N):∃l,Nd.ev ρ (.app x y n b)=some [l]∧N.ok τ l:=by
 have hf:∀f∈S.fs,f.holds τ:=fun f hf=>h.holds hf
 unfold Qi at hN;split at hN
 · rename_i zx zy hx hy h1 h2 h3 h4;split at hN
   · rename_i hc;obtain⟨c1,c2,c3,c4⟩:=hc;simp only[aW]at hN;obtain⟨z,hz,rfl⟩:=hN;have h3:=gp hf h3;have h4:=gp hf h4;have e1:=h.le x;have e2:=h.le y;refine⟨.r ((x.ev ρ).ah++(y.ev ρ).ah),?_,si (QR hf (fk (h.x5 x)) (fk (h.x5 y)) ?_) (akW ((EY hz).1 (h.rs h1)) ((EY hz).2 (h.rs h2))) fun w hw=> ?_⟩
     · simp only[Nd.ev];have q1:(((x.ev ρ).ah.length+(y.ev ρ).ah.length:Nat):Int)≤hx+hy:=om;have q2:(((x.ev ρ).ah.length+(y.ev ρ).ah.length:Nat):Int)*(b:Int)≤(hx+hy)*b:=Int.mul_le_mul_of_nonneg_right q1 (Int.natCast_nonneg b);have q3:((((x.ev ρ).ah.length+(y.ev ρ).ah.length)*b:Nat):Int)≤140737488355328:=by
        omega
       have q4:((x.ev ρ).ah.length+(y.ev ρ).ah.length)*b≤140737488355328:=Int.ofNat_le.1 q3;have q5:(x.ev ρ).ah.length+(y.ev ρ).ah.length≤9223372036854775807:=om;rw[au ⟨q5,q4,EG c3 (h.rs h1),EG c4 (h.rs h2)⟩]
     · rw[←h.n,uM];show(((x.ev ρ).ah++(y.ev ρ).ah).length:Int)=_;simp_all[kU]
     · have:=Y4 hf hw;simp only[kU]at this;rw[←this];show(((x.ev ρ).ah++(y.ev ρ).ah).length:Int)=_;simp_all
   · cases hN
 · cases hN
theorem azS {rows:List (List (Kd×At))} {N:bN} (hN:OT S rows=some N):∃l,Nd.ev ρ (.lit rows)=some [l]∧N.ok τ l:=by
 refine⟨_,rfl,?_⟩;unfold OT at hN;split at hN
 · cases hN;exact si holds_nil rfl fun x hx=>yG (by rfl) hx
 · simp only[gE]at hN;obtain⟨z,_,hN⟩:=hN
   cases z with
   |none=>cases hN
   |some cs=>
    simp only at hN;split at hN
    · rename_i hc;cases hN;refine si holds_nil ?_ fun x hx=>yG ?_ hx
      rotate_left
      · simp[aL,gh,L.ah]
      · intro r hr;obtain⟨ps,fM,rfl⟩:=dy.1 hr;exact AC.sH (bk.1 hc ps fM) (Fh h ps)
    · cases hN
theorem ajC {n:At} {ps:List (Kd×At)} {b:Nat} {N:bN} (hN:K2 S n ps b=some N):∃l,Nd.ev ρ (.rep n ps b)=some [l]∧N.ok τ l:=by
 have hf:∀f∈S.fs,f.holds τ:=fun f hf=>h.holds hf
 unfold K2 at hN;split at hN
 · rename_i hi eC;split at hN
   · rename_i hc;obtain⟨c1,c2,c3⟩:=hc;cases hN;have c1:=ff hf c1;have c4:=gp hf eC;have e1:=h.li n;have hz0:aL τ (0,0)=0:=by rfl
     refine⟨.r (List.replicate (n.ev ρ).af.toNat (bp ρ ps)),?_,si holds_nil (fun r hr=> ?_) fun x hx=>yG ?_ hx⟩;rotate_left 2
     · show((List.replicate (n.ev ρ).af.toNat (bp ρ ps)).length:Int)=_;rw[pZ];omega
     · simp only[Nd.ev];have q:(b:Int)*((n.ev ρ).af.toNat:Int)≤b*hi:=Int.mul_le_mul_of_nonneg_left om (Int.natCast_nonneg b);have q3:((b*(n.ev ρ).af.toNat:Nat):Int)≤281474976710656:=by rw[zA];exact Int.le_trans q c3
       have q4:b*(n.ev ρ).af.toNat≤281474976710656:=Int.ofNat_le.1 q3;have q5:0≤(n.ev ρ).af:=om;have q6:(n.ev ρ).af≤9223372036854775807:=om;rw[au ⟨q5,q6,q4⟩]
     · obtain⟨_,rfl⟩:=Dg.1 hr;exact Fh h ps
   · cases hN
 · cases hN
end
end AI
namespace AI
theorem nT {n:Nat} {rows:List (List PV)} (h:bA n rows=true):qy n rows=true:=by
 cases rows with
 |nil=>rfl
 |cons r rows=>
  have:=(nZ.1 h) r ek;simp[qy,this]
def Oq (S:AS) (x lo hi:At) (size:Nat):Option bN:=match S.rs x with
 |some z=>if dj S.fs (0,0) (S.li lo) 0=true∧dj S.fs (S.li lo) (S.li hi) 0=true∧dj S.fs (S.li hi) (S.le x) 0=true∧AO size z=true then(match Cn S.fs none (S.li hi) (S.li lo)with|some z=>some {al:=some z}|none=>some {fs:=zR S.fs none (3*S.n+1) (S.li hi) (S.li lo)})else none
 |none=>none
def Kn (S:AS) (x ln:At):Option bN:=match S.rs x with
 |some z=>some {fs:=iZ (3*S.n+2) (S.le x) 0::kb (3*S.n+2) (0,0) 0::(if dj S.fs (0,0) (S.li ln) 0=true then iZ (3*S.n+2) (S.li ln) 0::(if dj S.fs (S.li ln) (S.le x) 0=true then[kb (3*S.n+2) (S.li ln) 0]else[])else[]),rw:=some z}
 |none=>none
def Pn (S:AS) (x lo ln:At):Option bN:=match S.rs x with
 |some z=>if(S.li lo).1=0∧0≤(S.li lo).2∧dj S.fs (0,0) (S.li ln) 0=true∧dj S.fs (S.li ln) (S.le x) (-(S.li lo).2)=true then some {rw:=some z,ll:=some (S.li ln)}else some {fs:=iZ (3*S.n+2) (S.le x) 0::kb (3*S.n+2) (0,0) 0::(if dj S.fs (0,0) (S.li ln) 0=true then[iZ (3*S.n+2) (S.li ln) 0]else[]),rw:=some z}
 |none=>none
def QH (S:AS) (x i:At) (j:Nat) (ps:List (Kd×At)):Option bN:=match S.rs x with
 | some (some cs)=>if S.at x i=true∧j+ps.length≤cs.length then
   let new:=cs.take j++ps.map S.ac++cs.drop (j+ps.length)
   (yU (some cs) (some new)).map fun z=> {rw:=some z,ll:=some (S.le x)}
  else none
 |_=>none
def Wf (S:AS) (x y:At):Option bN:=some {fs:=iZ (3*S.n+1) (S.li x) 0::iZ (3*S.n+1) (S.li y) 0::(match iC S.fs (S.li x),iC S.fs (S.li y)with
 |some a,some b=> [kb (3*S.n+1) (0,0) (-(Xo a b))]
 |_,_=> [])}
def ZK (S:AS) (x y:At):Option bN:=some {fs:=kb (3*S.n+1) (S.li x) 0::kb (3*S.n+1) (S.li y) 0::(match f_ S.fs (S.li x),f_ S.fs (S.li y)with
 |some a,some b=> [iZ (3*S.n+1) (0,0) (imax a b)]
 |_,_=> [])}
def KZ (S:AS) (op:BinOp) (x y:At):Option bN:=match op with
 | .add=>match S.ls x,S.ls y with
  |some a,some b=>match f_ S.fs a,f_ S.fs b with
   |some ha,some hb=>if ha+hb≤9223372036854775807 then some {fs:=BB S.fs none (3*S.n+3) a b}else none
   |_,_=>none
  |_,_=>none
 | .eql| .neq| .lss| .leq| .gtr| .geq=>some {}
 |_=>none
def bbN (op:BinOp):Option bN:=match op with
 | .eql| .neq=>some {}
 |_=>none
def KR (S:AS) (op:UnOp) (k:bS):Option bN:=match op with
 | .neg| .xor=>some {fs:=eQ (3*S.n+1) k.min k.max}
 |_=>none
def KD (S:AS) (x:At):Option bN:=match S.rs x with
 |some none=>some {fs:=uz (3*S.n+3) (S.le x)}
 |some (some [.int .u8 _ _])=>some {fs:=uz (3*S.n+3) (S.le x)}
 |_=>none
def LK (S:AS) (x i:At):Option bN:=match S.ls x with
 |some y=>if dj S.fs (0,0) (S.li i) 0=true∧dj S.fs (S.li i) y (-1)=true then some {fs:=eQ (3*S.n+1) 0 255}else none
 |none=>none
theorem z0 (τ:List L):aL τ (0,0)=0:=by rfl
section
variable {S:AS} {τ ρ:List L} (h:Ga S τ ρ)
include h
theorem aEr {x lo hi:At} {size:Nat} {N:bN} (hN:Oq S x lo hi size=some N):∃l,Nd.ev ρ (.cut x lo hi size)=some [l]∧N.ok τ l:=by
 have hf:∀f∈S.fs,f.holds τ:=fun f hf=>h.holds hf
 unfold Oq at hN;split at hN
 · rename_i z hz;split at hN
   · rename_i hc;obtain⟨c1,c2,c3,c4⟩:=hc;have c1:=ff hf c1;have c2:=ff hf c2;have c3:=ff hf c3;have e1:=h.li lo;have e2:=h.li hi;have e3:=h.le x;have hz0:=z0 τ;refine⟨.i (((hi.ev ρ).af.toNat- (lo.ev ρ).af.toNat:Nat):Int),?_,?_⟩
     · have a1:0≤(lo.ev ρ).af:=om;have a2:(lo.ev ρ).af≤(hi.ev ρ).af:=om;have a3:(hi.ev ρ).af.toNat≤(x.ev ρ).ah.length:=om;simp only[Nd.ev];rw[au ⟨a1,a2,a3,nT (EG c4 (h.rs hz))⟩]
     · split at hN
       · rename_i w hw;cases hN;have:=Q_ hf hw;simp only[kU]at this;refine uO ?_;rw[←this];show(((hi.ev ρ).af.toNat- (lo.ev ρ).af.toNat:Nat):Int)=_;omega
       · cases hN;refine eO (LC hf (fk (h.ow hi)) ?_);rw[←h.n,n9];show(((hi.ev ρ).af.toNat- (lo.ev ρ).af.toNat:Nat):Int)=_;simp only[kU];omega
   · cases hN
 · cases hN
theorem aue {x ln:At} {N:bN} (hN:Kn S x ln=some N):∃l,Nd.ev ρ (.tk x ln)=some [l]∧N.ok τ l:=by
 have hf:∀f∈S.fs,f.holds τ:=fun f hf=>h.holds hf
 unfold Kn at hN;split at hN
 · rename_i z hz;cases hN;have e1:=h.li ln;have e3:=h.le x;have hz0:=z0 τ;have hlen:bH (τ++ [L.r ((x.ev ρ).ah.take (ln.ev ρ).af.toNat)]) (3*S.n+2)=((min (ln.ev ρ).af.toNat (x.ev ρ).ah.length:Nat):Int):=by
     rw[←h.n,uM,←dX];rfl
   have l1:=fk (ys:=[L.r ((x.ev ρ).ah.take (ln.ev ρ).af.toNat)]) (h.ow ln);have l2:=fk (ys:=[L.r ((x.ev ρ).ah.take (ln.ev ρ).af.toNat)]) (h.x5 x);refine⟨_,rfl,Xk (fZ (kD ?_) (fZ (lZ ?_) ?_)) (Hl (h.rs hz) fun r hr=>hU hr)⟩
   · omega
   · rw[hlen,z0];omega
   · split
     · rename_i h1;have h1:=ff hf h1;refine fZ (kD om) ?_;split
       · rename_i h2;have h2:=ff hf h2;exact fZ (lZ (by rw[hlen,l1];omega)) holds_nil
       simp_all
     simp_all
 · cases hN
theorem awc {x lo ln:At} {N:bN} (hN:Pn S x lo ln=some N):∃l,Nd.ev ρ (.vw x lo ln)=some [l]∧N.ok τ l:=by
 have hf:∀f∈S.fs,f.holds τ:=fun f hf=>h.holds hf
 unfold Pn at hN;split at hN
 · rename_i z hz;have e1:=h.li ln;have e3:=h.le x;have hz0:=z0 τ;by_cases hcc:(S.li lo).1=0∧0≤(S.li lo).2∧dj S.fs (0,0) (S.li ln) 0=true∧dj S.fs (S.li ln) (S.le x) (-(S.li lo).2)=true
   · rw[au hcc]at hN;cases hN;obtain⟨c1,c2,c3,c4⟩:=hcc;have e2:=h.li lo;have c3:=ff hf c3;have c4:=ff hf c4;have e4:aL τ (S.li lo)=(S.li lo).2:=by simp_all[aL,gh]
     refine⟨_,rfl,si holds_nil (Hl (h.rs hz) fun r hr=>oR (hU hr)) fun y hy=>yG ?_ hy⟩;show(((((x.ev ρ).ah.drop (lo.ev ρ).af.toNat).take (ln.ev ρ).af.toNat).length:Nat):Int)=_;rw[dX,fw];omega
   rw[aE hcc]at hN;cases hN;have hlen:bH (τ++ [L.r (((x.ev ρ).ah.drop (lo.ev ρ).af.toNat).take (ln.ev ρ).af.toNat)]) (3*S.n+2)=((min (ln.ev ρ).af.toNat ((x.ev ρ).ah.length- (lo.ev ρ).af.toNat):Nat):Int):=by
     rw[←h.n,uM,←fw,←dX];rfl
   have l1:=fk (ys:=[L.r (((x.ev ρ).ah.drop (lo.ev ρ).af.toNat).take (ln.ev ρ).af.toNat)]) (h.ow ln);have l2:=fk (ys:=[L.r (((x.ev ρ).ah.drop (lo.ev ρ).af.toNat).take (ln.ev ρ).af.toNat)]) (h.x5 x);refine⟨_,rfl,Xk (fZ (kD ?_) (fZ (lZ ?_) ?_)) (Hl (h.rs hz) fun r hr=>oR (hU hr))⟩
   · omega
   · rw[hlen,z0];omega
   · split
     · rename_i h1;have h1:=ff hf h1;exact fZ (kD (by rw[hlen,l1];omega)) holds_nil
     simp_all
 · cases hN
theorem amH {x y:At} {N:bN} (hN:Wf S x y=some N):∃l,Nd.ev ρ (.mn x y)=some [l]∧N.ok τ l:=by
 have hf:∀f∈S.fs,f.holds τ:=fun f hf=>h.holds hf
 cases hN;have e1:=h.li x;have e2:=h.li y;refine⟨_,rfl,?_⟩;generalize hv:(if(y.ev ρ).af< (x.ev ρ).af then(y.ev ρ).af else(x.ev ρ).af)=v;have kL:bH (τ++ [L.i v]) (3*S.n+1)=v:=by rw[←h.n,n9];rfl
 have l1:=fk (ys:=[L.i v]) (h.ow x);have l2:=fk (ys:=[L.i v]) (h.ow y);refine eO (fZ (kD ?_) (fZ (kD ?_) ?_))
 · omega
 · omega
 · split
   · rename_i a b h1 h2;have h1:=iW hf h1;have h2:=iW hf h2;refine fZ (lZ ?_) holds_nil;rw[kL,z0];unfold Xo;split<;>split at hv<;>omega
   simp_all
theorem apv {x y:At} {N:bN} (hN:ZK S x y=some N):∃l,Nd.ev ρ (.mx x y)=some [l]∧N.ok τ l:=by
 have hf:∀f∈S.fs,f.holds τ:=fun f hf=>h.holds hf
 cases hN;have e1:=h.li x;have e2:=h.li y;refine⟨_,rfl,?_⟩;generalize hv:(if(y.ev ρ).af> (x.ev ρ).af then(y.ev ρ).af else(x.ev ρ).af)=v;have kL:bH (τ++ [L.i v]) (3*S.n+1)=v:=by rw[←h.n,n9];rfl
 have l1:=fk (ys:=[L.i v]) (h.ow x);have l2:=fk (ys:=[L.i v]) (h.ow y);refine eO (fZ (lZ ?_) (fZ (lZ ?_) ?_))
 · omega
 · omega
 · split
   · rename_i a b h1 h2;have h1:=gp hf h1;have h2:=gp hf h2;refine fZ (kD ?_) holds_nil;rw[kL,z0];unfold imax;split<;>split at hv<;>omega
   simp_all
theorem aCt {x i:At} {j:Nat} {ps:List (Kd×At)} {N:bN} (hN:QH S x i j ps=some N):∃l,Nd.ev ρ (.set x i j ps)=some [l]∧N.ok τ l:=by
 unfold QH at hN;split at hN
 · rename_i cs hcs;split at hN
   · rename_i hc;obtain⟨c1,c2⟩:=hc;simp only[aW]at hN;obtain⟨z,hz,rfl⟩:=hN;obtain⟨g1,g2⟩:=P2 h c1;have hr:=bX g2;have aX:AC.dp cs (x.ev ρ).ah[(i.ev ρ).af.toNat]:=h.rs hcs _ (b9 g2);generalize (x.ev ρ).ah[(i.ev ρ).af.toNat]=r at hr aX;have hl:=AC.uJ aX;have app:∀{a b:List AC} {p q:List PV},AC.dp a p→AC.dp b q→AC.dp (a++b) (p++q):=by
       intro a
       induction a with
       |nil=>intro b p q h1 h2;cases p with|nil=>exact h2|cons=>cases h1
       |cons c a ih=>intro b p q h1 h2;cases p with|nil=>cases h1|cons p ps=>exact⟨h1.1,ih h1.2 h2⟩
     have tk:∀{a:List AC} {p:List PV} (n:Nat),AC.dp a p→AC.dp (a.take n) (p.take n)∧AC.dp (a.drop n) (p.drop n):=by
       intro a
       induction a with
       |nil=>intro p n h1;cases p with|nil=>simp[AC.dp]|cons=>cases h1
       |cons c a ih=>intro p n h1;cases p with
        |nil=>cases h1
        | cons q ps=>cases n with
          |zero=>exact⟨trivial,h1⟩
          |succ n=>exact⟨⟨h1.1,(ih n h1.2).1⟩,(ih n h1.2).2⟩
     have gw:AC.dp (cs.take j++ps.map S.ac++cs.drop (j+ps.length)) (r.take j++bp ρ ps++r.drop (j+ps.length)):=app (app (tk j aX).1 (Fh h ps)) (tk _ aX).2;refine⟨.r ((x.ev ρ).ah.set (i.ev ρ).af.toNat (r.take j++bp ρ ps++r.drop (j+ps.length))),?_,si holds_nil ?_ fun y hy=>yG ?_ hy⟩;rotate_left 2
     · rw[←h.le x];show((List.set _ _ _).length:Int)=_;rw[zI]
     · have c3:j+ps.length≤r.length:=om;simp only[Nd.ev,hr];rw[au c3]
     · have o1:=(EY hz (rows:=(x.ev ρ).ah)).1 (h.rs hcs);have o2:=(EY hz (rows:=[r.take j++bp ρ ps++r.drop (j+ps.length)])).2 (fun q hq=>by simp_all)
       cases z with
       |none=>
        have:(x.ev ρ).ah=[]:=o1;simp_all
       |some d=>
        intro q hq;rcases SG hq with hq|rfl
        · exact o1 q hq
        · exact o2 _ ek
   · cases hN
 · cases hN
end
end AI
end
end
end Go.Proofs.YtndegphojkiblaaGreatDoor
