/- A part of the proof. -/
import Derived.Test.YtndegphojkiblaaGreatDoorG6
import Derived.BigQuiet
import Derived.LoopN
import Derived.Scope
set_option linter.all false
set_option maxHeartbeats 4000000
set_option maxRecDepth 100000
namespace Go.Proofs.YtndegphojkiblaaGreatDoor
noncomputable section
section
open Go.RowKit
open Classical
def eN {X:Type} (g:Nat→X→X) (S:Nat→Bool) (x:X):Nat→X
 |0=>x
 |n+1=>if S n then g n (eN g S x n)else eN g S x n
theorem rL {X:Type} {g:Nat→X→X} {S S':Nat→Bool} {x:X}:∀{n:Nat},(∀k,k<n→S k=S' k∨∀x,g k x=x)→eN g S x n=eN g S' x n
 |0,_=>rfl
 |n+1,h=>by
  have ih:=rL (x:=x) (n:=n) (fun k hk=>h k om);simp only[eN,ih];grind
theorem zq {X Y} {g} {g'} {S} {x} (f:X→Y) (h:∀k x,f (g k x)=g' k (f x)):∀n,f (eN g S x n)=eN g' S (f x) n
 |0=>rfl
 |n+1=>by
  have ih:=zq (S:=S) (x:=x) f h n;grind[eN]
theorem AE {X} {g} {S S'} {x:X} {i} (hi:S i=false) (hi':S' i=true) (hS:∀k,k≠i→S' k=S k):∀{n},i<n→
  ((∀k,i<k→k<n→S k=true→∀x,g k x=x)∨∀x,g i x=x)→eN g S' x n=g i (eN g S x n)
 |0,h,_=>om
 |n+1,hn,h=>by
  by_cases c_:i=n
  · subst c_;simp only[eN,hi,hi',if_true,pO,if_false];congr 1;grind[rL]
  · have ih:=AE (x:=x) (g:=g) hi hi' hS (n:=n) om (h.imp (fun h k h1 h2=>h k h1 om) id);simp only[eN,ih,hS n om];grind
def valOf:Option aW→V
 |none=> .aj []
 |some r=>r.v
def qo:Option aW→g_
 |none=>PR
 |some r=>r.e
def gj (st:av) (o:Oper) (r:Option aW):av:=(st.df (qo r)).put o.dst (valOf r)
def av.raw (st:av):bD→List Nat
 | .tmp t=>match st.tmps[t]? with
  |some v=>v.names
  |none=> []
 | .const v=> (ofValue v).names
 |_=> []
def av.mN (st:av):Op→List Nat
 | .extract _ _=> []
 | .move (.tmp _)=> []
 | .assign (.tmp _)=> []
 |op=>op.operands.toList.flatMap st.raw
def uW (st:av) (o:Oper):Option aW→List Nat
 |none=> []
 |some r=>st.mN o.op++r.rd
def iA (r:Option aW):List Nat:=(qo r).cj.map (·.1)++(qo r).ar
def r8 (ops:Array Oper) (st:av) (o:Oper):Option Bool:=match o.guard with
 |none=>some true
 | some (j,want)=>match(ops[j]?).bind (·.dst)with
  |some d=>match st.tmps[d]? with
   |some (.v (.c (.p (.sc (.bool b)))))=>some (b==want)
   |some (.aj [])=>some false
   |_=>none
  |none=>none
theorem Rz {X} {E} {st} {a} {w} (h:Rel X E st a w) {ops} {o} {b} (hg:r8 ops st o=some b):
  Region.wanted o (yielded ops a.tmps)=b:=by
 unfold r8 at hg;unfold Region.wanted
 cases hgd:o.guard with
 |none=>simp_all
 |some x=>
  rw[hgd]at hg;simp only at hg⊢;split at hg
  · rename_i d hd;unfold yielded;split at hg
    · rename_i b' hb;obtain⟨u,h1,h2⟩:=h.tmps d _ hb;have:=RP.dy h2;simp_all
    · rename_i hb;obtain⟨u,h1,us,h2,h3,_⟩:=h.tmps d _ hb;simp_all
    · cases hg
  · cases hg
theorem KI (M) (E) (w):RV M E w (.aj []) undef:=⟨#[],rfl,rfl,fun i x h=>by simp at h⟩
noncomputable def lx (P:bB) (Sp:Spec) (b:Nat) (ops:Array Oper) (st:av) (k:Nat) (o:Oper):Option (Option aW):=match r8 ops st o with
 |some true=> (a_ P Sp st (b+8*k) o.op).map some
 |some false=>some none
 |none=>none
theorem K9 {X} {Sp} {E} {st} {a} {w} {b k} (h:Rel X E st a w) {ops} {o} (hF:qm X E st (b+8*k))
   {r} (hr:lx X.P Sp b ops st k o=some r) {next} {Q}
   (hn:∀v w' E',(∀n,¬(b+8*k≤n∧n<b+8*k+8)→E.N n=none→E'.N n=none)→Rel X E' (gj st o r) (a.put o.dst v) w'→next (a.put o.dst v) w'):
   if Region.wanted o (yielded ops a.tmps)then o.wp X.P a w next Q else next (a.put o.dst undef) w:=by
 unfold lx at hr;split at hr
 · rename_i hg;rw[Rz h hg];simp only[aT]at hr;obtain⟨r',kg,rfl⟩:=hr;exact snd h hF kg (fun u w' E' k1 k2 k3=>hn u w' E' k1 (k2.put o.dst k3))
 · rename_i hg;rw[Rz h hg];cases hr;exact hn undef w E (fun _ _ h=>h) (h.put o.dst (KI X.M E w))
 · cases hr
theorem Y9 (st) (o) (r) (t:Nat):(gj st o r).tmps[t]? =if o.dst=some t then(st.tmps[t]?).map (fun _=>valOf r)else st.tmps[t]?:=by
 unfold gj
 cases hd:o.dst with
 |none=>rfl
 |some d=>
  simp only[av.put,av.df,Ph,jd];grind
theorem Md (st:av) (d) (v):(st.put d v).heap=st.heap∧(st.put d v).ar=st.ar∧(st.put d v).next=st.next:=by cases d<;>exact⟨rfl,rfl,rfl⟩
theorem Uy (st) (o) (r) (α):List.lookup α (gj st o r).heap=((qo r).cj.lookup α).or (st.heap.lookup α):=by
 simp_all[gj,Md,av.df,SY]
theorem xe (st) (o) (r) (τ):(τ∈(gj st o r).ar)=(τ∈(qo r).ar∨τ∈st.ar):=by
 simp_all[gj,Md,av.df]
theorem FB (st) (o) (r):(gj st o r).next=st.next:=by
 unfold gj;rw[(Md _ _ _).2.2];rfl
theorem Rel.congr {X} {E} {st st'} {a} {w} (h:Rel X E st a w) (ht:∀t:Nat,st'.tmps[t]? =st.tmps[t]?) (hb:∀α,List.lookup α st'.heap=List.lookup α st.heap)
  (hu:∀τ,τ∈st'.ar ↔ τ∈st.ar) (hx:st'.next=st.next):Rel X ⟨E.N,st'.ar⟩ st' a w:=by
 have y7:st'.tmps=st.tmps:=zh ht;have hG:gx X.M E ⟨E.N,st'.ar⟩ w w:={
  cell:=fun _ _ _ h1 h2=> ⟨h1,h2⟩
  name:=fun n x hx=> .inr hx
  ar:=fun n hn=> (hu n).2 (by rw[←h.ar];exact hn)}
 exact{
  defers:=h.defers
  ar:=rfl
  frame:=h.frame
  eB:=h.eB
  cO:=fun n x hn=>by rw[hx];exact h.cO n x hn
  names:=h.names
  inj:=h.inj
  dz:=h.dz
  fq:=by rw[hx];exact h.fq
  fg:=fun n hn=>by rw[hx];exact h.fg n ((hu n).1 hn)
  size:=by rw[y7];exact h.size
  tmps:=fun i v hi=>by
   rw[y7]at hi;obtain⟨u,h1,h2⟩:=h.tmps i v hi;exact⟨u,h1,h2.goes hG⟩
  heap:=fun n b hl=>by
   rw[hb]at hl;by_cases hn:n∈st'.ar
   · exact .inl hn
   · rcases h.heap n b hl with h1|h1
     · simp_all
     · exact .inr (h1.goes hG hn (fun _ _ _ _=>rfl))}
def sC (a b:List Nat):Bool:=a.all fun x=> !b.contains x
theorem Zh {a b} (h:sC a b=true) {x} (ha:x∈a):x∉b:=by
 simp_all[sC]
def direct (ops:Array Oper) (j i:Nat):Bool:=match ops[j]? with
 |some o=>o.after.any fun e=>Region.binds .any e&&e.on==i
 |none=>false
abbrev jR:=List (List Nat×List Nat)
def yo (ops:Array Oper) (ts:jR) (i j:Nat):Bool:=
 match ops[i]?,ops[j]?,ts[i]?,ts[j]? with
 |some x,some y,some (ri,mi),some (rj,mj)=>x.apart ops y&&sC mi rj&&sC mj ri&&sC mi mj
 |_,_,_,_=>false
def before (ops:Array Oper):Nat→Nat→Nat→Bool
 |0,j,i=>direct ops j i
 |n+1,j,i=>direct ops j i||match ops[j]? with
  |some o=>o.after.toList.any fun e=>Region.binds .any e&&before ops n e.on i
  |none=>false
def oG (ops:Array Oper) (ts:jR):Bool:=
 (List.range ops.size).all fun j=> (List.range j).all fun i=>yo ops ts i j||before ops 6 j i
def tL (b:Nat) (ops:Array Oper) (ts:jR):Bool:=
 (List.range ops.size).all fun i=> (List.range ops.size).all fun j=>i==j||direct ops i j||match ts[i]? with
  |some (_,mi)=>mi.all fun n=> !(decide (b+8*j≤n)&&decide (n<b+8*j+8))
  |none=>false
def G6 (ops:Array Oper):Bool:=(List.range ops.size).all fun j=>match ops[j]? with
 |some o=>o.after.all fun e=> !Region.binds .any e||decide (e.on<j)
 |none=>true
structure Lex (P:bB) (Sp:Spec) (b:Nat) (ops:Array Oper) (st0:av) (rs:Nat→Option aW) (ts:jR):Prop where
 step:∀(k:Nat) (o:Oper),ops[k]? =some o→lx P Sp b ops (eN (fun k st=>gj st (ops[k]?.getD default) (rs k)) (fun j=>decide (j<k)) st0 ops.size) k o=some (rs k)
 name:∀(k:Nat) (o:Oper),ops[k]? =some o→ts[k]? =some (uW (eN (fun k st=>gj st (ops[k]?.getD default) (rs k)) (fun j=>decide (j<k)) st0 ops.size) o (rs k),iA (rs k))
theorem apX {st st':av} {x} (ht:∀t,x= .tmp t→st.tmps[t]? =st'.tmps[t]?) (hg:∀n∈st.raw x,(n∈st.ar ↔ n∈st'.ar)):st.arg x=st'.arg x:=by
 have hl:∀v:V,(∀n∈v.names,(n∈st.ar ↔ n∈st'.ar))→v.live st.ar=v.live st'.ar:=by
  intro v hv;unfold V.live;grind
 cases x with
 | tmp t=>
  have h1:=ht t rfl;simp only[av.arg,←h1]
  cases hv:st.tmps[t]? with
  |none=>rfl
  |some v=>
   grind[av.raw]
 |const v=>
  simp only[av.arg];rw[hl (.v (ofValue v)) (fun n hn=>hg n (by exact hn))]
 |_=>rfl
theorem avv {st:av} {x} {v} (h:st.arg x=some v) (hf:∀f,x≠ .func f):st.raw x=v.names:=by
 cases x with
 |tmp t=>
  grind[av.arg,av.raw]
 |const u=>
  simp only[av.arg]at h;split at h
  · cases h;rfl
  · cases h
 |func f=>simp_all
 |global=>cases h
theorem ala {st:av} {op} {n} (h:n∈st.r9 op):n∈st.mN op:=by
 cases hop:vE op with
 |false=>
  have e1:st.r9 op=(op.operands.toList.filterMap st.arg).flatMap V.names:=by unfold av.r9;split<;>first|rfl|cases hop
  have e2:st.mN op=op.operands.toList.flatMap st.raw:=by unfold av.mN;split<;>first|rfl|cases hop
  rw[e1]at h;rw[e2];obtain⟨v,h1,h2⟩:=th.1 h;grind[avv,av.arg,Option.some.injEq,V.names,V1.names,C.names]
 | true=>
  have e1:st.r9 op=[]:=by
   unfold vE at hop;split at hop
   · rfl
   · rfl
   · rfl
   · cases hop
  simp_all
section
variable {P:bB} {Sp:Spec} {b:Nat} {ops:Array Oper} {st0:av} {rs:Nat→Option aW} {ts:jR}
abbrev AS (ops:Array Oper) (rs:Nat→Option aW) (st0:av) (L:Nat→Bool):av:=eN (fun k st=>gj st (ops[k]?.getD default) (rs k)) L st0 ops.size
def gT (ops:Array Oper) (rs:Nat→Option aW) (t:Nat) (k:Nat) (x:Option V):Option V:=if(ops[k]?.getD default).dst=some t then x.map (fun _=>valOf (rs k))else x
def gB (rs:Nat→Option aW) (α:Nat) (k:Nat) (x:Option dI):Option dI:=((qo (rs k)).cj.lookup α).or x
def gU (rs:Nat→Option aW) (τ:Nat) (k:Nat) (x:Prop):Prop:=τ∈(qo (rs k)).ar∨x
theorem Ds (L) (t):(AS ops rs st0 L).tmps[t]? =eN (gT ops rs t) L (st0.tmps[t]?) ops.size:=
 zq (fun st:av=>st.tmps[t]?) (fun k st=>Y9 st _ _ t) ops.size
theorem Gs (L) (α):List.lookup α (AS ops rs st0 L).heap=eN (gB rs α) L (List.lookup α st0.heap) ops.size:=
 zq (g':=gB rs α) (fun st:av=>List.lookup α st.heap) (fun k st=>Uy st (ops[k]?.getD default) (rs k) α) ops.size
theorem yM (L) (τ):(τ∈(AS ops rs st0 L).ar)=eN (gU rs τ) L (τ∈st0.ar) ops.size:=
 zq (g':=gU rs τ) (fun st:av=>τ∈st.ar) (fun k st=>xe st (ops[k]?.getD default) (rs k) τ) ops.size
theorem JC (L):(AS ops rs st0 L).next=st0.next:=by
 have:(AS ops rs st0 L).next=eN (fun _ x=>x) L st0.next ops.size:=zq (fun st:av=>st.next) (fun k st=>FB st _ _) ops.size;rw[this]
 induction ops.size with
 |zero=>rfl
 |succ n ih=>simp only[eN,ih];split<;>rfl
theorem anc {l:Hp} {α} (h:α∉l.map (·.1)):l.lookup α=none:=by
 grind
theorem TA {α k} (h:α∉iA (rs k)):∀x,gB rs α k x=x:=by
 intro x;unfold gB;rw[anc (fun h'=>h (zf _ h'))];rfl
theorem KF {τ k} (h:τ∉iA (rs k)):∀x,gU rs τ k x=x:=by
 intro x;unfold gU;have:τ∉(qo (rs k)).ar:=fun h'=>h (wk _ h')
 simp[this]
theorem PQ {t k:Nat} {o} (ho:ops[k]? =some o) (h:o.dst≠some t):∀x,gT ops rs t k x=x:=by
 simp_all[gT,fx]
theorem E6 (hL:Lex P Sp b ops st0 rs ts) {i j} {x y} (hx:ops[i]? =some x) (hy:ops[j]? =some y) (h:yo ops ts i j=true):
  ∃ri rj,ts[i]? =some (ri,iA (rs i))∧ts[j]? =some (rj,iA (rs j))∧x.apart ops y=true∧sC (iA (rs i)) rj=true∧sC (iA (rs j)) ri=true∧sC (iA (rs i)) (iA (rs j))=true:=by
 have h1:=hL.name i x hx;have h2:=hL.name j y hy;simp_all[yo,bt]
def Shut (ops:Array Oper) (L:Nat→Bool):Prop:=∀j i,L j=true→direct ops j i=true→L i=true
theorem Me (hp:oG ops ts=true) {i j} (hij:i<j) (hj:j<ops.size):before ops 6 j i=true∨yo ops ts i j=true:=by
 unfold oG at hp;simp only[bC,lJ,tm]at hp;grind
theorem Q7:∀{n j i:Nat},before ops n j i=true→direct ops j i=true∨∃m n',direct ops j m=true∧before ops n' m i=true∧n'<n
 |0,j,i,h=> .inl h
 |n+1,j,i,h=>by
  simp only[before,tm]at h;rcases h with h|h
  · exact .inl h
  · split at h
    · rename_i o ho;simp only[Pv,bt]at h;obtain⟨e,h1,h2,h3⟩:=h;refine .inr ⟨e.on,n,?_,h3,ov n⟩;unfold direct;rw[ho];simp only[Array.any_eq_true',bt,beq_iff_eq];grind
    · cases h
theorem NF {L} (hS:Shut ops L) (n):∀{j i},before ops n j i=true→L j=true→L i=true:=by
 induction n using Nat.strongRecOn with
 |_ n ih=>
  intro j i h hj;rcases Q7 h with h| ⟨m,n',h1,h2,h3⟩
  · exact hS j i hj h
  · exact ih n' h3 h2 (hS j m hj h1)
theorem arP {L} (hS:Shut ops L) {n j i} (h:before ops n j i=true) (hr:∀m,direct ops j m=true→L m=true):L i=true:=by
 grind[Q7,NF]
theorem SQ (hp:oG ops ts=true) {L} (hS:Shut ops L) {i k} (hi:L i=false) (c_:i<ops.size) (jC:k<ops.size) (hr:∀j,direct ops i j=true→L j=true) (hd:L k≠decide (k<i)):
   (k<i∧yo ops ts k i=true)∨(i<k∧yo ops ts i k=true):=by
 by_cases qV:k<i
 · have hk:L k=false:=by simp_all
   rcases Me hp qV c_ with h|h
   · grind[arP]
   simp_all
 · have hk:L k=true:=by simp_all
   have hik:i<k:=by
     grind
   rcases Me hp hik jC with h|h
   · grind[NF]
   simp_all
theorem atv (hL:Lex P Sp b ops st0 rs ts) (hp:oG ops ts=true) {L} (hS:Shut ops L) {i} {o} (ho:ops[i]? =some o) (hi:L i=false) (hr:∀j,direct ops i j=true→L j=true):
   lx P Sp b ops (AS ops rs st0 L) i o=some (rs i):=by
 have c_:i<ops.size:=(fc.1 ho).1;have hstep:lx P Sp b ops (AS ops rs st0 fun j=>decide (j<i)) i o=some (rs i):=hL.step i o ho;have hname:ts[i]? =some (uW (AS ops rs st0 fun j=>decide (j<i)) o (rs i),iA (rs i)):=hL.name i o ho;have key:∀k,k<ops.size→L k=decide (k<i)∨∃x,ops[k]? =some x∧(∀t,t∈o.looksAt ops→x.dst≠some t)∧∀α,α∈uW (AS ops rs st0 fun j=>decide (j<i)) o (rs i)→α∉iA (rs k):=by
   intro k hk;by_cases hd:L k=decide (k<i)
   · exact .inl hd
   · right;have hx:ops[k]? =some ops[k]:=ry hk;refine⟨ops[k],hx,?_,?_⟩
     · intro t ht vO;rcases SQ hp hS hi c_ hk hr hd with⟨_,h⟩| ⟨_,h⟩
       · obtain⟨_,_,_,_,h1,_⟩:=E6 hL hx ho h;exact(Oper.apart_spec h1).1 t vO ht
       · obtain⟨_,_,_,_,h1,_⟩:=E6 hL ho hx h;exact(Oper.apart_spec h1).2.2 t vO ht
     grind[SQ,hp,E6,Zh]
 have y7:∀t,t∈o.looksAt ops→(AS ops rs st0 L).tmps[t]? =(AS ops rs st0 fun j=>decide (j<i)).tmps[t]?:=by
   intro t ht;rw[Ds,Ds];grind[rL,PQ]
 have Ot:∀α,α∈uW (AS ops rs st0 fun j=>decide (j<i)) o (rs i)→hU (AS ops rs st0 fun j=>decide (j<i)) (AS ops rs st0 L) α:=by
   intro α hα;refine⟨?_,?_⟩
   · rw[Gs,Gs];grind[rL,TA]
   · rw[yM,yM];refine(Iff.of_eq (rL fun k hk=> ?_)).symm;grind[KF]
 have aBX:r8 ops (AS ops rs st0 L) o=r8 ops (AS ops rs st0 fun j=>decide (j<i)) o:=by
   unfold r8
   cases hg:o.guard with
   |none=>rfl
   | some y=>
     obtain⟨j,want⟩:=y;simp only
     cases hd:(ops[j]?).bind (·.dst)with
     |none=>rfl
     | some d=>
       simp only;rw[y7 d (by
         refine im.2 (.inr ?_);rw[hg];simp only;rw[hd];simp)]
 unfold lx at hstep⊢;rw[aBX];split at hstep
 · simp only[aT]at hstep⊢;obtain⟨r,h1,h2⟩:=hstep;refine⟨r,?_,h2⟩;have jH:∀n,n∈(AS ops rs st0 fun j=>decide (j<i)).mN o.op++r.rd→hU (AS ops rs st0 fun j=>decide (j<i)) (AS ops rs st0 L) n:=by
     intro n hn;refine Ot n ?_;rw[←h2];exact hn
   refine aBe (st:=AS ops rs st0 fun j=>decide (j<i)) (fun hop x hx=> ?_) (fun _ t h3=> ?_) (fun n hn=>jH n (zf _ (ala hn))) (fun n hn=>jH n (wk _ hn)) h1
   · refine apX (fun t ht=> (y7 t ?_).symm) (fun n hn=> (jH n (zf _ ?_)).2)
     · subst ht;exact im.2 (.inl (tj.2 ⟨.tmp t,hx,rfl⟩))
     · have:(AS ops rs st0 fun j=>decide (j<i)).mN o.op=o.op.operands.toList.flatMap (AS ops rs st0 fun j=>decide (j<i)).raw:=by
         unfold av.mN;split<;>first|rfl| (rename_i h;rw[h]at hop;cases hop)
       grind
   · refine(y7 t ?_).symm;exact im.2 (.inl (tj.2 ⟨.tmp t,h3,rfl⟩))
 · exact hstep
 · cases hstep
theorem alm (hL:Lex P Sp b ops st0 rs ts) (hp:oG ops ts=true) {L L'} (hS:Shut ops L) {i} {o} (ho:ops[i]? =some o) (hi:L i=false)
   (hi':L' i=true) (Ou:∀k,k≠i→L' k=L k) {X} {E} {a} {w} (h:Rel X E (gj (AS ops rs st0 L) o (rs i)) a w):
   Rel X ⟨E.N,(AS ops rs st0 L').ar⟩ (AS ops rs st0 L') a w:=by
 have c_:i<ops.size:=(fc.1 ho).1;have aEN:∀k,i<k→k<ops.size→L k=true→∃x,ops[k]? =some x∧(∀t,o.dst=some t→x.dst≠some t)∧∀α,α∈iA (rs i)→α∉iA (rs k):=by
   intro k hik hk hLk;have hx:ops[k]? =some ops[k]:=ry hk;rcases Me hp hik hk with hd|hd
   · grind[NF]
   · obtain⟨ri,rj,_,_,h1,_,_,h4⟩:=E6 hL ho hx hd;exact⟨ops[k],hx,fun t ht=> (Oper.apart_spec h1).2.1 t ht,fun α hα=>Zh h4 hα⟩
 refine h.congr ?_ ?_ ?_ ?_
 · intro t;rw[Ds,AE hi hi' Ou c_,Y9,Ds]
   · grind[gT]
   grind[PQ]
 · intro α;rw[Gs,AE hi hi' Ou c_,Uy,Gs]
   · rfl
   grind[iA,TA]
 · intro τ;rw[yM,AE hi hi' Ou c_,xe,yM]
   · rfl
   grind[iA,KF]
 · rw[JC,FB,JC]
end
def C.clear (g:List Nat) (c:C):C:=if c.names.any (g.contains ·)then .dead else c
def av.settle (st:av):av:=match st.ar with
 |[]=>st
 |g=> ⟨st.tmps.map (V.on (C.clear g)),(st.heap.filter fun x=> !g.contains x.1).map fun x=> (x.1,x.2.on (C.clear g)),[],st.next⟩
def Env.settle (E:Env):Env:=⟨fun n=>if n∈E.ar then none else E.N n,[]⟩
theorem Ur {M} {E} {g} (h:bad M E.settle g):bad M E g:=by
 rcases h with h| ⟨n,x,h1,h2⟩
 · exact .inl h
 · simp only[Env.settle]at h1;split at h1
   · cases h1
   · exact .inr ⟨n,x,h1,h2⟩
theorem RC.clear {M} {E} {w} {c} {v} (h:RC M E w c v):RC M E.settle w (c.clear E.ar) v:=by
 unfold C.clear;split
 · trivial
 · rename_i hn;have cQ:∀n∈c.names,n∉E.ar:=fun n h1 h2=>hn (Pv.2 ⟨n,h1,by simpa using h2⟩)
   have hs:h_ (bad M E) (bad M E.settle) w w:=fun g o u h1 h2=> ⟨h1,fun h=>h2 (Ur h)⟩
   have:RC M E.settle w (c.cR id) v:=RC.cR (.inl hs) (fun n h1=> ⟨cQ n h1,fun x hx=>by simp only[Env.settle,id,aC (cQ n h1)];exact hx⟩) h;have e:c.cR id=c:=by cases c<;>simp[C.cR]
   simp_all
theorem akN {l:Hp} {p:Nat→Bool} {n}:List.lookup n (l.filter fun x=>p x.1)=if p n then List.lookup n l else none:=by
 induction l with
 |nil=>simp
 |cons x l ih=>
  grind
theorem aeZ {l:Hp} {f:dI→dI} {n}:List.lookup n (l.map fun x=> (x.1,f x.2))=(List.lookup n l).map f:=by
 induction l with
 |nil=>simp
 |cons x l ih=>
  grind
theorem Rel.settle {X} {E} {st} {a} {w} (h:Rel X E st a w):∃E',Rel X E' st.settle a w∧st.settle.ar=[]:=by
 cases hg:st.ar with
 |nil=>exact⟨E,by simp only[av.settle,hg];exact h,by simp[av.settle,hg]⟩
 | cons t U=>
  have hs:st.settle=⟨st.tmps.map (V.on (C.clear E.ar)),(st.heap.filter fun x=> !E.ar.contains x.1).map fun x=> (x.1,x.2.on (C.clear E.ar)),[],st.next⟩:=by simp only[av.settle,hg,h.ar]
  have hN:∀n x,E.settle.N n=some x→n∉E.ar∧E.N n=some x:=fun n x hx=>by
   simp only[Env.settle]at hx;simp_all
  have hst:h_ (bad X.M E) (bad X.M E.settle) w w:=fun g o u h1 h2=> ⟨h1,fun h=>h2 (Ur h)⟩
  refine⟨E.settle,?_,by rw[hs]⟩;rw[hs];exact{
   defers:=h.defers
   ar:=rfl
   frame:=h.frame
   eB:=h.eB
   cO:=fun n x hx=>h.cO n x (hN n x hx).2
   names:=fun n x g hx hg=>h.names n x g (hN n x hx).2 hg
   inj:=fun n m x y g hx hy=>h.inj n m x y g (hN n x hx).2 (hN m y hy).2
   dz:=fun m hm=>by
    simp only[Env.settle];split
    · exact .inl rfl
    · exact h.dz m hm
   fq:=h.fq
   fg:=fun n hn=>by cases hn
   size:=by simp[h.size]
   tmps:=fun i v hi=>by
    simp only[bV,aT]at hi;obtain⟨v',hv,rfl⟩:=hi;obtain⟨u,h1,h2⟩:=h.tmps i v' hv;exact⟨u,h1,RV.on (fun c v hc=>RC.clear hc) h2⟩
   heap:=fun n b hl=>by
    simp only[aeZ]at hl;rw[akN (p:=fun k=> !E.ar.contains k)]at hl;split at hl
    · rename_i hn;simp only[aT]at hl;obtain⟨b',hb',rfl⟩:=hl;have cQ:n∉E.ar:=by simpa using hn
      have hr:=h.row (by rw[←h.ar];exact cQ) hb';have lD:∀x,E.N n=some x→E.settle.N n=some x:=fun x hx=>by simp only[Env.settle,aC cQ];exact hx
      right
      cases b' with
      |box cs=>
       obtain⟨x,g,cur,e,h1,h0,h2,h3,h4⟩:=hr;refine⟨x,g,cur,e,lD x h1,h0,h2,by simp[h3],fun i c hi=> ?_⟩;simp only[bV,aT]at hi;obtain⟨c',hc',rfl⟩:=hi;obtain⟨u,h5,h6,h7⟩:=h4 i c' hc';exact⟨u,h5,RC.clear h6,h7⟩
      |row e rows=>
       obtain⟨x,cur,fz,h1,bX,h2,h3,h4,h5,h6,h11,h7,h8,h10,h9⟩:=hr;exact⟨x,cur,fz,lD x h1,bX,h2,h3,h4,h5,h6,h11,h7,h8,h10,fun i r j p hi hj=>let⟨u,k1,k2⟩:=h9 i r j p hi hj; ⟨u,k1,k2.trans hst⟩⟩
      |map es=>
       obtain⟨x,g,en,clock,h1,h0,h2,h3⟩:=hr;exact⟨x,g,en,clock,lD x h1,h0,h2,h3.trans hst⟩
    · cases hl}
def av.bump (st:av) (k:Nat):av:={st with next:=st.next+8*k}
theorem Rel.bump {X} {E} {st} {a} {w} (h:Rel X E st a w) (k):Rel X E (st.bump k) a w:=
 {h with cO:=fun n x hx=>oo (h.cO n x hx) (abJ _ _),fq:=me h.fq (abJ _ _),fg:=fun n hn=>oo (h.fg n hn) (abJ _ _),size:=h.size,tmps:=h.tmps,heap:=h.heap,defers:=h.defers,ar:=h.ar}
theorem Rel.free {X} {E} {st} {a} {w} (h:Rel X E st a w) (hg:st.ar=[]) {k j} (hj:j<k):qm X E (st.bump k) (st.next+8*j):=fun n h1 h2=>by
 refine⟨?_,?_,?_,?_⟩
 · cases hn:E.N n with
   |none=>rfl
   |some x=>have:=h.cO n x hn;omega
 · show n∉st.ar;rw[hg];simp
 · show n<st.next+8*k;omega
 · have:=h.fq;omega
noncomputable def jX (P:bB) (Sp:Spec) (b:Nat) (ops:Array Oper):List Oper→Nat→av→Option (List (Option aW)×jR×av)
 |[],_,st=>some ([],[],st)
 | o::l,k,st=>match lx P Sp b ops st k o with
  |some r=>match jX P Sp b ops l (k+1) (gj st o r)with
   |some (rs,ts,st')=>some (r::rs,(uW st o r,iA r)::ts,st')
   |none=>none
  |none=>none
def oH (b:Nat):Nat→jR→Bool
 |_,[]=>true
 |k,(_,m)::ts=>m.all (fun n=>decide (n<b+8*k+8))&&oH b (k+1) ts
theorem TO {X:Fx} {Sp:Spec} {b:Nat} {ops:Array Oper} {Q:Exit→Act→a7→Prop}:∀(l:List Oper) (k:Nat) {E:Env} {st st':av} {rs:List (Option aW)} {ts:jR} {a:Act} {w:a7},
  (∀j,l[j]? =ops[k+j]?)→Rel X E st a w→(∀j,k≤j→j<ops.size→qm X E st (b+8*j))→jX X.P Sp b ops l k st=some (rs,ts,st')→oH b k ts=true→
  (∀a' w' E',Rel X E' st' a' w'→Q .normal a' w')→wpOps X.P ops Q (List.range' k l.length) a w
 |[],k,E,st,st',rs,ts,a,w,_,h,_,he,_,hq=>by
  cases he;exact hq a w E h
 |o::l,k,E,st,st',rs,ts,a,w,hl,h,hF,he,vP,hq=>by
  have h0:ops[k]? =some o:=by simpa using(hl 0).symm
  have hk:k<ops.size:=(fc.1 h0).1;simp only[jX]at he;split at he
  · rename_i r hr;split at he
    · rename_i rs1 ts1 st1 Cv;cases he;simp only[oH,bt,bC,dj]at vP;simp only[ir,List.range'_succ,wpOps,h0];have:=K9 h (hF k (cn _) hk) (ops:=ops) hr (next:=wpOps X.P ops Q (List.range' (k+1) l.length)) (Q:=Q) (fun v w' E' k1 k2=>by
       refine TO l (k+1) (fun j=>by have:=hl (j+1);grind) k2 ?_ Cv vP.2 hq;intro j hj Ov n h1 h2;obtain⟨f1,f2,f3,f4⟩:=hF j om Ov n h1 h2;refine⟨k1 n om f1,?_,by rw[FB];exact f3,f4⟩;rw[xe];rintro(h3|h3)
       · have:=vP.1 n (wk _ h3);omega
       · exact f2 h3)
      grind
    · cases he
  · cases he
def bS (p:Nat→Bool):Nat→Nat
 |0=>0
 |n+1=>bS p n+if p n then 1 else 0
theorem Xs {p q:Nat→Bool}:∀{n:Nat},(∀k,k<n→p k=q k)→bS p n=bS q n
 |0,_=>rfl
 |n+1,h=>by simp only[bS,Xs (n:=n) (fun k hk=>h k om),h n om]
theorem Up {p q} {i} (hi:p i=true) (hi':q i=false) (h:∀k,k≠i→q k=p k):∀{n},i<n→bS q n+1=bS p n
 |0,hn=>om
 |n+1,hn=>by
  by_cases c_:i=n
  · subst c_;simp only[bS,hi,hi',if_true,pO,if_false,Xs (n:=i) (p:=q) (q:=p) (fun k hk=>h k om)]
  · have ih:=Up hi hi' h (n:=n) om;grind[bS]
theorem V8 {p}:∀{n},bS p n=0→∀k,k<n→p k=false
 |0,_,k,hk=>om
 |n+1,h,k,hk=>by
  simp only[bS]at h;by_cases jC:k=n
  · simp_all
  · exact V8 (n:=n) om k om
def eL (listed:Array Bool) (k:Nat):Bool:=listed.getD k false
section
variable {X:Fx} {Sp:Spec} {b:Nat} {ops:Array Oper} {st0:av} {rs:Nat→Option aW} {ts:jR}
theorem Wq (hL:Lex X.P Sp b ops st0 rs ts) (hf:tL b ops ts=true) {i j} (hi:i<ops.size) (hj:j<ops.size) (hij:i≠j) (hd:direct ops i j=false):∀n∈iA (rs i),¬(b+8*j≤n∧n<b+8*j+8):=by
 unfold tL at hf;simp only[bC,lJ,tm,beq_iff_eq]at hf;have h1:=hL.name i ops[i] (ry hi);grind
theorem avc (hL:Lex X.P Sp b ops st0 rs ts) (hp:oG ops ts=true) (y6:tL b ops ts=true) (hf:G6 ops=true) {Q}
  (hq:∀a' w' E',Rel X E' (AS ops rs st0 fun k=>decide (k<ops.size)) a' w'→Q .normal a' w'):
  ∀(fuel) (listed) (E) (a) (w),listed.size=ops.size→bS (fun k=> !eL listed k) ops.size=fuel→Shut ops (eL listed)→Rel X E (AS ops rs st0 (eL listed)) a w→
   (∀k,k<ops.size→eL listed k=false→qm X E (AS ops rs st0 (eL listed)) (b+8*k))→wpAny X.P .any ops Q fuel listed a w:=by
 have hend:∀(listed:Array Bool) (E:Env) (a:Act) (w:a7),(∀k,k<ops.size→eL listed k=true)→Rel X E (AS ops rs st0 (eL listed)) a w→Q .normal a w:=by
  intro listed E a w hall hR;refine hq a w E ?_;have:AS ops rs st0 (eL listed)=AS ops rs st0 fun k=>decide (k<ops.size):=rL fun k hk=> .inl (by simp_all)
  simp_all
 have hnone:∀(listed:Array Bool),listed.size=ops.size→Region.ready .any ops listed=[]→∀k,k<ops.size→eL listed k=true:=by
  intro listed hsz hr k
  induction k using Nat.strongRecOn with
  |_ k ih=>
   intro hk
   cases hd:eL listed k with
   |true=>rfl
   | false=>
     have:k∈Region.ready .any ops listed:=mem_ready.2 ⟨by
       simp_all[eL,fx],ops[k],ry hk,fun e he hb=>by
       unfold G6 at hf;simp only[bC,lJ]at hf;have:=hf k hk;rw[ry hk]at this;simp only[Array.all_eq_true_iff_forall_mem]at this;have:=this e he;rw[hb]at this;simp at this;exact ih e.on this om⟩
     simp_all
 intro fuel
 induction fuel with
 |zero=>
  intro listed E a w hsz hc Hv hR hF;have hall:∀k,k<ops.size→eL listed k=true:=fun k hk=>by grind[V8]
  refine⟨?_,hend listed E a w hall hR⟩;refine List.eq_nil_iff_forall_not_mem.2 fun i hi=> ?_
  obtain⟨h1,o,ho,_⟩:=mem_ready.1 hi;grind[eL]
 | succ fuel ih=>
  intro listed E a w hsz hc Hv hR hF;refine⟨fun hr=>hend listed E a w (hnone listed hsz hr) hR,fun i hi=> ?_⟩;obtain⟨h1,o,ho,aBY⟩:=mem_ready.1 hi;have c_:i<ops.size:=(fc.1 ho).1;have sU:eL listed i=false:=by
   simp_all[eL,fx]
  have hri:∀j,direct ops i j=true→eL listed j=true:=by
   intro j hj;unfold direct at hj;rw[ho]at hj;simp only[Array.any_eq_true',bt,beq_iff_eq]at hj;obtain⟨e,he,hb,rfl⟩:=hj;exact aBY e he hb
  have Ow:eL (listed.setIfInBounds i true) i=true:=by
   simp_all[eL]
  have y8:∀k,k≠i→eL (listed.setIfInBounds i true) k=eL listed k:=fun k hk=>by
   simp_all[eL,Ne.symm]
  have hst:=atv hL hp Hv ho sU hri;unfold wpOp;rw[ho];simp only;have :=K9 hR (hF i c_ sU) (ops:=ops) (o:=o) hst (next:=wpAny X.P .any ops Q fuel (listed.setIfInBounds i true)) (Q:=Q) (fun v w' E' k1 k2=>by
   have k4:=alm hL hp Hv ho sU Ow y8 k2;refine ih (listed.setIfInBounds i true) _ _ w' (by simpa using hsz) ?_ ?_ k4 ?_
   · have:=Up (p:=fun k=> !eL listed k) (q:=fun k=> !eL (listed.setIfInBounds i true) k) (i:=i) (by simp[sU]) (by simp[Ow]) (fun k hk=>by simp[y8 k hk]) c_;omega
   · intro j k hj hd;by_cases qV:k=i
     · simp_all
     · rw[y8 k qV];by_cases jI:j=i
       · simp_all
       · rw[y8 j jI]at hj;exact Hv j k hj hd
   · intro k hk hkd n h5 h6;have qV:k≠i:=by grind
     rw[y8 k qV]at hkd;obtain⟨f1,f2,f3,f4⟩:=hF k hk hkd n h5 h6;refine⟨k1 n om f1,?_,by simp_all[JC],f4⟩;have aCa:(n∈(AS ops rs st0 (eL (listed.setIfInBounds i true))).ar) ↔ n∈(gj (AS ops rs st0 (eL listed)) o (rs i)).ar:=by
       have hg:n∉iA (rs i):=by
         intro hm
         cases vF:direct ops i k with
         |true=>simp_all
         |false=>exact Wq hL y6 c_ hk (Ne.symm qV) vF n hm ⟨h5,h6⟩
       rw[yM,AE sU Ow y8 c_ (.inr (KF hg)),xe,yM];rfl
     intro h7;have h8:=aCa.1 h7;rw[xe]at h8;rcases h8 with h8|h8
     · cases vF:direct ops i k with
       |true=>simp_all
       |false=>exact Wq hL y6 c_ hk (Ne.symm qV) vF n (wk _ h8) ⟨h5,h6⟩
     · exact f2 h8)
  grind
theorem Wa {rsF:Nat→Option aW}:∀(l) (k) {st st'} {ts} {rs},
  (∀j,l[j]? =ops[k+j]?)→jX X.P Sp b ops l k st=some (rs,ts,st')→(∀j,j<rs.length→rsF (k+j)=(rs[j]?).getD none)→
  st=eN (fun k st=>gj st (ops[k]?.getD default) (rsF k)) (fun _=>true) st0 k→
  rs.length=l.length∧ts.length=l.length∧
  st'=eN (fun k st=>gj st (ops[k]?.getD default) (rsF k)) (fun _=>true) st0 (k+l.length)∧
  ∀ (j) (o),l[j]? =some o→lx X.P Sp b ops (eN (fun k st=>gj st (ops[k]?.getD default) (rsF k)) (fun _=>true) st0 (k+j)) (k+j) o=some (rsF (k+j))∧
    ts[j]? =some (uW (eN (fun k st=>gj st (ops[k]?.getD default) (rsF k)) (fun _=>true) st0 (k+j)) o (rsF (k+j)),iA (rsF (k+j)))
 |[],k,st,st',ts,rs,_,he,_,hst=>by
  cases he;simp_all
 |o::l,k,st,st',ts,rs,hl,he,lE,hst=>by
  have h0:ops[k]? =some o:=by simpa using(hl 0).symm
  simp only[jX]at he;split at he
  · rename_i r hr;split at he
    · rename_i rs1 ts1 st1 Cv;cases he;have hrk:rsF k=r:=by have:=lE 0 (by simp);simpa using this
      have aCb:gj st o r=eN (fun k st=>gj st (ops[k]?.getD default) (rsF k)) (fun _=>true) st0 (k+1):=by
       simp_all[eN,fx]
      obtain⟨g1,g2,g4,g5⟩:=Wa l (k+1) (fun j=>by have:=hl (j+1);grind) Cv
       (fun j hj=>by have:=lE (j+1) (by simpa using hj);grind) aCb
      refine⟨by simp[g1],by simp[g2],by grind,fun j x hj=> ?_⟩;grind
    · cases he
  · cases he
end
theorem Gv {X} {g} {x:X} {k n} (h:k≤n):eN g (fun j=>decide (j<k)) x n=eN g (fun _=>true) x k:=by
  induction n with
  | zero =>
            have:k=0:=om;subst this;rfl
  | succ n ih=>
    by_cases hk:k=n+1
    · grind[rL]
    · simp only[eN];grind
def Told (X:Fx) (st:av) (a:Act) (w:a7):Prop:=∃E,Rel X E st a w∧st.ar=[]
def Aw (X:Fx) (c:Code) (Q:Exit→av→Prop) (st:av):Prop:=
 ∀a w,Told X st a w→c.wp X.P (fun e a' w'=>∃st',Q e st'∧Told X st' a' w') a w
section
variable {X:Fx} {Sp:Spec} {Q:Exit→av→Prop} {st:av}
theorem uj {id} {ops} {rs} {ts} {st'} (he:jX X.P Sp st.next ops.toArray ops 0 (st.bump ops.length)=some (rs,ts,st')) (hs:oH st.next 0 ts=true) (h:Q .normal st'.settle):
  Aw X (.region id ops.toArray false) Q st:=fun a w ht=>by
 obtain⟨E,hR,hg⟩:=ht;refine wp_region ?_;have:=TO (X:=X) (ops:=ops.toArray) (Q:=fun e a' w'=>∃st',Q e st'∧Told X st' a' w') ops 0 (fun j=>by simp) (hR.bump ops.length) (fun j _ hj=>hR.free hg (by simpa using hj)) he hs (fun a' w' E' k1=>by
  obtain⟨E2,k3,k4⟩:=k1.settle;exact⟨_,h,E2,k3,k4⟩)
 rw[←List.range_eq_range']at this;simpa using this
theorem ajU (hm:X.P.follows .mixedOrders=true) {id} {ops} (hf:G6 ops.toArray=true) {rs} {ts} {st'}
   (he:jX X.P Sp st.next ops.toArray ops 0 (st.bump ops.length)=some (rs,ts,st')) (hp:oG ops.toArray ts=true) (y6:tL st.next ops.toArray ts=true) (h:Q .normal st'.settle):
   Aw X (.region id ops.toArray true) Q st:=fun a w ht=>by
 obtain⟨E,hR,hg⟩:=ht;obtain⟨g1,g2,g4,g5⟩:=Wa (X:=X) (st0:=st.bump ops.length) (rsF:=fun k=> (rs[k]?).getD none) ops 0 (fun j=>by simp) he (fun j _=>by simp) rfl;have aCc:Lex X.P Sp st.next ops.toArray (st.bump ops.length) (fun k=> (rs[k]?).getD none) ts:={
   step:=fun k o ho=>by
    grind[Gv]
   name:=fun k o ho=>by
    grind[Gv]}
 refine wp_region_any hm ?_;have Cw:Rel X E (st.bump ops.length) a {w with drawn:=w.drawn+1}:=(hR.bump ops.length).drew;have e1:AS ops.toArray (fun k=> (rs[k]?).getD none) (st.bump ops.length) (eL (Array.replicate ops.toArray.size false))=st.bump ops.length:=by
   have:AS ops.toArray (fun k=> (rs[k]?).getD none) (st.bump ops.length) (eL (Array.replicate ops.toArray.size false))=AS ops.toArray (fun k=> (rs[k]?).getD none) (st.bump ops.length) (fun j=>decide (j<0)):=
    rL fun k hk=> .inl (by simp_all[eL])
   rw[this];show eN _ _ _ _=_;rw[Gv (fm _)];rfl
 refine avc (X:=X) (Q:=fun e a' w'=>∃st',Q e st'∧Told X st' a' w') aCc hp y6 hf ?_ _ _ E a _ (by simp) ?_ ?_ ?_ ?_
 · intro a' w' E' k2;have e1:AS ops.toArray (fun k=> (rs[k]?).getD none) (st.bump ops.length) (fun k=>decide (k<ops.toArray.size))=st':=by
    simp_all[Gv]
   rw[e1]at k2;obtain⟨E2,k3,k4⟩:=k2.settle;exact⟨_,h,E2,k3,k4⟩
 · have:∀n,n≤ops.length→bS (fun k=> !eL (Array.replicate ops.toArray.size false) k) n=n:=by
    intro n hn
    induction n with
    |zero=>rfl
    |succ n ih=>
     simp only[bS,ih om];simp[eL,wg,show n<ops.length by omega]
   simp_all
 · intro j i hj _;simp[eL,wg,Array.getElem?_replicate]at hj;grind
 · rw[e1];exact Cw
 · intro k hk _;rw[e1];exact hR.free hg (by simpa using hk)
theorem lN {c} {Q'} (h:Aw X c Q st) (hq:∀e st,Q e st→Q' e st):Aw X c Q' st:=
 fun a w ht=>wp_mono (h a w ht) fun e _ _ ⟨st',h1,h2⟩=> ⟨st',hq e st' h1,h2⟩
def Le (X:Fx) (st st':av):Prop:=∀a w,Told X st a w→Told X st' a w
theorem VG {c} {st'} (hl:Le X st st') (h:Aw X c Q st'):Aw X c Q st:=fun a w ht=>h a w (hl a w ht)
theorem Dz (h:Q .normal st):Aw X .skip Q st:=fun _ _ ht=>wp_skip ⟨st,h,ht⟩
theorem apS {id} (h:Q (.exit id) st):Aw X (.exit id) Q st:=fun _ _ ht=>wp_exit ⟨st,h,ht⟩
theorem tN (h:Q .ret st):Aw X .ret Q st:=fun _ _ ht=>wp_ret ⟨st,h,ht⟩
def AD (next:av→Prop) (Q:Exit→av→Prop):Exit→av→Prop
 | .normal,st=>next st
 |e,st=>Q e st
theorem fJ {x y} (h:Aw X x (AD (Aw X y Q) Q) st):Aw X (.seq x y) Q st:=fun a w ht=>by
 refine wp_seq (wp_mono (h a w ht) ?_);rintro e a' w' ⟨st',h1,h2⟩
 cases e with
 |normal=>exact h1 a' w' h2
 |_=>exact⟨st',h1,h2⟩
theorem u9 {c} {x y} {t} (hc:st.arg c=some (.sc (.bool t))) (h1:t=true→Aw X x Q st) (h2:t=false→Aw X y Q st):Aw X (.cond c x y) Q st:=fun a w ht=>by
 have fk:=ht;obtain⟨E,hR,_⟩:=fk;have k1:=RP.dy (hR.bR hc).1;refine wp_cond k1 ?_;cases t
 · exact h2 rfl a w ht
 · exact h1 rfl a w ht
def BW (id:Nat) (Q:Exit→av→Prop):Exit→av→Prop
 | .exit vQ,st=>if vQ=id then Q .normal st else Q (.exit vQ) st
 |e,st=>Q e st
theorem WV {id} {c} (h:Aw X c (BW id Q) st):Aw X (.block id c) Q st:=fun a w ht=>by
 refine wp_block (wp_mono (h a w ht) ?_);rintro e a' w' ⟨st',h1,h2⟩
 cases e with
 |exit vQ=>
  simp only[BW]at h1;by_cases hid:vQ=id
  · rw[ay hid]at h1;simp only[Exit.inBlock,hid,if_true];grind
  · rw[aC hid]at h1;simp only[Exit.inBlock];grind
 |_=>exact⟨st',h1,h2⟩
def azF (Q:Exit→av→Prop):Exit→av→Prop
 | .goto _,_=>False
 |e,st=>Q e st
theorem aro {c} (h:Aw X c (azF Q) st):Aw X (.scope c) Q st:=fun a w ht=>by
 refine wp_scope_straight (wp_mono (h a w ht) ?_);rintro e a' w' ⟨st',h1,h2⟩
 cases e with
 |goto l=>exact h1.elim
 |_=>exact⟨st',h1,h2⟩
theorem ani {l} (h:Q .normal st):Aw X (.label l) Q st:=fun _ _ ht=>wp_label ⟨st,h,ht⟩
def r7 (X:Fx) (c:Code):Nat→(Exit→av→Prop)→av→Prop
 |0,_,_=>False
 |n+1,Q,st=>Aw X c (AD (r7 X c n Q) Q) st
theorem P9 {c} {st'}:∀{n},Le X st st'→r7 X c n Q st'→r7 X c n Q st
 |0,_,h=>h.elim
 |_+1,hl,h=>VG hl h
theorem Wu {c}:∀{n} {st},r7 X c n Q st→∀a w,Told X st a w→Code.rounds X.P c (fun e a' w'=>∃st',Q e st'∧Told X st' a' w') n a w
 |0,_,h=>h.elim
 |n+1,st,h=>fun a w ht=>by
  refine wp_mono (h a w ht) ?_;rintro e a' w' ⟨st',h1,h2⟩
  cases e with
  |normal=>exact Wu (n:=n) h1 a' w' h2
  |_=>exact⟨st',h1,h2⟩
theorem Rc {c} {n} (h:r7 X c n Q st):Aw X (.loop c) Q st:=fun a w ht=>wp_loop_rounds n (Wu h a w ht)
theorem ahY {c} {α:Type} (I:α→av→Prop) (μ:α→Nat) {x0} (h0:∃st1,Le X st st1∧I x0 st1)
  (round:∀x st,I x st→Aw X c (AD (fun st'=>∃x' st1,Le X st' st1∧I x' st1∧μ x'<μ x) Q) st):Aw X (.loop c) Q st:=fun a w ht=>by
 obtain⟨st1,hl,hI⟩:=h0;intro b k cs;have key:∀n x st,μ x=n→I x st→∀a w,Told X st a w→
   ∃e a' w',(∃st',Q e st'∧Told X st' a' w')∧Arrives X.P (lone (b.at a (.code c:: .inLoop c::k)) cs w) b k cs e a' w':=by
  intro n
  induction n using Nat.strongRecOn with
  | _ n ih=>
   intro x st hx hI a w ht;obtain⟨e,a₁,w₁,⟨st',hq,fk⟩,lF⟩:=round x st hI a w ht b (.inLoop c::k) cs
   cases e with
   |normal=>
    obtain⟨x',st2,hl2,sZ,hμ⟩:=hq;obtain⟨e₂,a₂,w₂,hq₂,harr₂⟩:=ih (μ x') (hx▸hμ) x' st2 rfl sZ a₁ w₁ (hl2 _ _ fk);exact⟨e₂,a₂,w₂,hq₂,.of_steps (Steps.trans lF (.one step_inLoop)) harr₂⟩
   |exit id=>exact⟨_,a₁,w₁,⟨st',hq,fk⟩,.pass (x:= .inLoop c) rfl (fun _ _=> .inl (by simp)) lF⟩
   |goto l=>exact⟨_,a₁,w₁,⟨st',hq,fk⟩,.pass (x:= .inLoop c) rfl (fun _ _=> .inl (by simp)) lF⟩
   |ret=>exact⟨_,a₁,w₁,⟨st',hq,fk⟩,.pass (x:= .inLoop c) rfl (fun _ _=> .inl (by simp)) lF⟩
   |panic ch=>exact⟨_,a₁,w₁,⟨st',hq,fk⟩,.pass (x:= .inLoop c) rfl (fun _ _=> .inl (by simp)) lF⟩
   |outgrown=>exact⟨_,a₁,w₁,⟨st',hq,fk⟩,.pass (x:= .inLoop c) rfl (fun _ _=> .inl (by simp)) lF⟩
 obtain⟨e,a',w',hq,lF⟩:=key _ x0 st1 rfl hI a w (hl _ _ ht);exact⟨e,a',w',hq,.of_steps (.one step_loop) lF⟩
end
end
end
end Go.Proofs.YtndegphojkiblaaGreatDoor
