/- A part. -/
import Derived.Test.YtiikkkhcolcebaaGreatDoorG7
import Derived.LoopN
import Derived.Scope
import Derived.Laws.ComplexArith
set_option linter.all false
set_option maxHeartbeats 4000000
set_option maxRecDepth 100000
namespace Go.Proofs.YtiikkkhcolcebaaGreatDoor
noncomputable section
section
open Go.RowKit
open Classical
def C.clear(g:List Nat)(c:C):C:=if c.names.any (g.contains ·)then .dead else c
def bx.settle(st:bx):bx:=match st.bu with
 |[]=>st
 |g=>⟨st.tmps.map (V.on (C.clear g)),(st.heap.filter λx=> !g.contains x.1).map λx=>(x.1,x.2.on (C.clear g)),[],st.next⟩
def Env.settle(E:Env):Env:=⟨λn=>if n∈E.bu then none else E.N n,[]⟩
theorem Tf{M E g}(h:bad M E.settle g):bad M E g:=by
 rcases h with h| ⟨n,x,c,d⟩
 .exact .inl h
 .simp only[Env.settle]at c;split at c
  .cases c
  .exact .inr ⟨n,x,c,d⟩
theorem RC.clear{M E w c v}(h:RC M E w c v):RC M E.settle w (c.clear E.bu) v:=by
 unfold C.clear;split
 .trivial
 .rename_i q;have k:∀n∈c.names,n∉E.bu:=λn d m=>q (On.2 ⟨n,d,by simpa using m⟩)
  have t:iK (bad M E) (bad M E.settle) w w:=λg o u d m=>⟨d,λh=>m (Tf h)⟩
  have:RC M E.settle w (c.dJ id) v:=RC.dJ (.inl t) (λn d=>⟨k n d,λx y=>by simp only[Env.settle,id,bH (k n d)];exact y⟩) h;have e:c.dJ id=c:=by cases c<;>simp[C.dJ]
  simp_all
theorem ajA{l:Hp}{p:Nat->Bool}{n}:List.lookup n (l.filter λx=>p x.1)=if p n then List.lookup n l else none:=by
 induction l with
 |nil=>simp
 |cons x l ih=>
  grind
theorem acZ{l:Hp}{f:eQ->eQ}{n}:List.lookup n (l.map λx=>(x.1,f x.2))=(List.lookup n l).map f:=by
 induction l with
 |nil=>simp
 |cons x l ih=>
  grind
theorem Rel.settle{X E st a w}(h:Rel X E st a w):∃E',Rel X E' st.settle a w/\st.settle.bu=[]:=by
 cases G:st.bu with
 |nil=>exact⟨E,by simp only[bx.settle,G];exact h,by simp[bx.settle,G]⟩
 |cons t U=>
  have hs:st.settle=⟨st.tmps.map (V.on (C.clear E.bu)),(st.heap.filter λx=> !E.bu.contains x.1).map λx=>(x.1,x.2.on (C.clear E.bu)),[],st.next⟩:=by simp only[bx.settle,G,h.bu]
  have K:∀n x,E.settle.N n=some x->n∉E.bu/\E.N n=some x:=λn x d=>by
   simp only[Env.settle]at d;simp_all
  have H:iK (bad X.M E) (bad X.M E.settle) w w:=λg o u q z=>⟨q,λh=>z (Tf h)⟩
  refine⟨E.settle,?_,by rw[hs]⟩;rw[hs];exact{
   defers:=h.defers
   bu:=rfl
   frame:=h.frame
   iS:=h.iS
   eJ:=λn x d=>h.eJ n x (K n x d).2
   names:=λn x g d G=>h.names n x g (K n x d).2 G
   inj:=λn m x y g d hy=>h.inj n m x y g (K n x d).2 (K m y hy).2
   fM:=λm hm=>by
    simp only[Env.settle];split
    .exact .inl rfl
    .exact h.fM m hm
   jh:=h.jh
   kz:=λn M=>by cases M
   size:=by simp[h.size]
   tmps:=λi v B=>by
    simp only[cX,bY]at B;obtain⟨v',hv,rfl⟩:=B;obtain⟨u,q,z⟩:=h.tmps i v' hv;exact⟨u,q,RV.on (λc v hc=>RC.clear hc) z⟩
   heap:=λn b F=>by
    simp only[acZ]at F;rw[ajA (p:=λk=> !E.bu.contains k)]at F;split at F
    .rename_i M;simp only[bY]at F;obtain⟨b',N,rfl⟩:=F;have I:n∉E.bu:=by simpa using M
     have O:=h.row (by rw[<-h.bu];exact I) N;have D:∀x,E.N n=some x->E.settle.N n=some x:=λx d=>by simp only[Env.settle,bH I];exact d
     right
     cases b' with
     |box cs=>
      obtain⟨x,g,cur,e,q,P,z,J,R⟩:=O;refine⟨x,g,cur,e,D x q,P,z,by simp[J],λi c B=>?_⟩;simp only[cX,bY]at B;obtain⟨c',S,rfl⟩:=B;obtain⟨u,T,W,Y⟩:=R i c' S;exact⟨u,T,RC.clear W,Y⟩
     |row e rows=>
      obtain⟨x,cur,fz,q,aa,z,J,R,T,W,ab,Y,h8,ac,h9⟩:=O;exact⟨x,cur,fz,D x q,aa,z,J,R,T,W,ab,Y,h8,ac,λi r j p B hj=>let⟨u,k1,k2⟩:=h9 i r j p B hj; ⟨u,k1,k2.trans H⟩⟩
     |map es=>
      obtain⟨x,g,en,clock,q,P,z,J⟩:=O;exact⟨x,g,en,clock,D x q,P,z,J.trans H⟩
    .cases F}
def bx.bump(st:bx)(k:Nat):bx:={st with next:=st.next+8*k}
theorem Rel.bump{X E st a w}(h:Rel X E st a w)(k):Rel X E (st.bump k) a w:=
 {h with eJ:=λn x d=>mM (h.eJ n x d) (ZM _ _),jh:=oU h.jh (ZM _ _),kz:=λn m=>mM (h.kz n m) (ZM _ _),size:=h.size,tmps:=h.tmps,heap:=h.heap,defers:=h.defers,bu:=h.bu}
theorem Rel.free{X E st a w}(h:Rel X E st a w)(d:st.bu=[]){k j}(q:j<k):rY X E (st.bump k) (st.next+8*j):=λn t u=>by
 refine⟨?_,?_,?_,?_⟩
 .cases m:E.N n with
  |none=>rfl
  |some x=>have:=h.eJ n x m;omega
 .show n∉st.bu;rw[d];simp
 .show n<st.next+8*k;omega
 .have:=h.jh;omega
def mz(P:cC)(Sp:Spec)(b:Nat)(ops:Array Oper):List Oper->Nat->bx->Option (List (Option bZ)×kf×bx)
 |[],_,st=>some ([],[],st)
 |o::l,k,st=>match l' P Sp b ops st k o with
  |some r=>match mz P Sp b ops l (k+1) (gZ st o r)with
   |some (rs,ts,st')=>some (r::rs,(um st o r,iT r)::ts,st')
   |none=>none
  |none=>none
def vP(b:Nat):Nat->kf->Bool
 |_,[]=>true
 |k,(_,m)::ts=>m.all (λn=>decide (n<b+8*k+8))&&vP b (k+1) ts
theorem Sm{X:Fx}{Sp:Spec}{b:Nat}{ops:Array Oper}{Q:Exit->Act->bX->Prop}:∀(l:List Oper)(k:Nat){E:Env}{st st':bx}{rs:List (Option bZ)}{ts:kf}{a:Act}{w:bX},
 (∀j,l[j]?=ops[k+j]?)->Rel X E st a w->(∀j,k<=j->j<ops.size->rY X E st (b+8*j))->mz X.P Sp b ops l k st=some (rs,ts,st')->vP b k ts=true->
 (∀a' w' E',Rel X E' st' a' w'->Q .normal a' w')->wpOps X.P ops Q (List.range' k l.length) a w
 |[],k,E,st,st',rs,ts,a,w,_,h,_,c,_,e=>by
  cases c;exact e a w E h
 |o::l,k,E,st,st',rs,ts,a,w,m,h,p,c,d,e=>by
  have q:ops[k]?=some o:=by simpa using(m 0).symm
  have s:k<ops.size:=(jW.1 q).1;simp only[mz]at c;split at c
  .rename_i r t;split at c
   .rename_i u x y f;cases c;simp only[vP,cu,cz,eD]at d;simp only[gy,List.range'_succ,wpOps,q];have:=TE h (p k (de _) s) (ops:=ops) t (next:=wpOps X.P ops Q (List.range' (k+1) l.length)) (Q:=Q) (λv w' E' k1 k2=>by
     refine Sm l (k+1) (λj=>by have:=m (j+1);grind) k2 ?_ f d.2 e;intro j G g n z A;obtain⟨B,C,D,F⟩:=p j om g n z A;refine⟨k1 n om B,?_,by rw[Lg];exact D,F⟩;rw[yX];rintro(i|i)
     .have:=d.1 n (x5 _ i);omega
     .exact C i)
    grind
   .cases c
  .cases c
def cZ(p:Nat->Bool):Nat->Nat
 |0=>0
 |n+1=>cZ p n+if p n then 1 else 0
theorem VV{p q:Nat->Bool}:∀{n:Nat},(∀k,k<n->p k=q k)->cZ p n=cZ q n
 |0,_=>rfl
 |n+1,h=>by simp only[cZ,VV (n:=n) (λk c=>h k om),h n om]
theorem S_{p q i}(e:p i=true)(c:q i=false)(h:∀k,k≠i->q k=p k):∀{n},i<n->cZ q n+1=cZ p n
 |0,f=>om
 |n+1,f=>by
  by_cases d:i=n
  .subst d;simp only[cZ,e,c,if_true,pS,if_false,VV (n:=i) (p:=q) (q:=p) (λk g=>h k om)]
  .have ih:=S_ e c h (n:=n) om;grind[cZ]
theorem UO{p}:∀{n},cZ p n=0->∀k,k<n->p k=false
 |0,_,k,c=>om
 |n+1,h,k,c=>by
  simp only[cZ]at h;by_cases d:k=n
  .simp_all
  .exact UO (n:=n) om k om
def fL(listed:Array Bool)(k:Nat):Bool:=listed.getD k false
section
variable{X:Fx}{Sp:Spec}{b:Nat}{ops:Array Oper}{st0:bx}{rs:Nat->Option bZ}{ts:kf}
theorem Vb(d:Lex X.P Sp b ops st0 rs ts)(c:vF b ops ts=true){i j}(e:i<ops.size)(k:j<ops.size)(f:i≠j)(g:before ops 6 i j=false):∀n∈iT (rs i),¬(b+8*j<=n/\n<b+8*j+8):=by
 unfold vF at c;simp only[cz,jr,oX,beq_iff_eq]at c;have l:=d.name i ops[i] (ri e);have m:direct ops i j=false:=by
  cases h:direct ops i j with
  |false=>rfl
  |true=>simp[before,h]at g
 grind
theorem atP(D:Lex X.P Sp b ops st0 rs ts)(hp:qf ops ts=true)(A:vF b ops ts=true)(F:FE ops=true){Q}
 (R:∀a' w' E',Rel X E' (AS ops rs st0 λk=>decide (k<ops.size)) a' w'->Q .normal a' w'):
 ∀(fuel)(listed)(E)(a)(w),listed.size=ops.size->cZ (λk=> !fL listed k) ops.size=fuel->Shut ops (fL listed)->Rel X E (AS ops rs st0 (fL listed)) a w->
  (∀k,k<ops.size->fL listed k=false->rY X E (AS ops rs st0 (fL listed)) (b+8*k))->wpAny X.P .any ops Q fuel listed a w:=by
 have hend:∀(listed:Array Bool)(E:Env)(a:Act)(w:bX),(∀k,k<ops.size->fL listed k=true)->Rel X E (AS ops rs st0 (fL listed)) a w->Q .normal a w:=by
  intro listed E a w hall hR;refine R a w E ?_;have:AS ops rs st0 (fL listed)=AS ops rs st0 λk=>decide (k<ops.size):=rq λk f=>.inl (by simp_all)
  simp_all
 have hnone:∀(listed:Array Bool),listed.size=ops.size->Region.ready .any ops listed=[]->∀k,k<ops.size->fL listed k=true:=by
  intro listed s O k
  induction k using Nat.strongRecOn with
  |_ k ih=>
   intro f
   cases P:fL listed k with
   |true=>rfl
   |false=>
    have:k∈Region.ready .any ops listed:=mem_ready.2 ⟨by
     simp_all[fL,gx],ops[k],ri f,λe G H=>by
     unfold FE at F;simp only[cz,jr]at F;have:=F k f;rw[ri f]at this;simp only[Array.all_eq_true_iff_forall_mem]at this;have:=this e G;rw[H]at this;simp at this;exact ih e.on this om⟩
    simp_all
 intro fuel
 induction fuel with
 |zero=>
  intro listed E a w s S d hR I;have hall:∀k,k<ops.size->fL listed k=true:=λk f=>by grind[UO]
  refine⟨?_,hend listed E a w hall hR⟩;refine List.eq_nil_iff_forall_not_mem.2 λi J=>?_
  obtain⟨T,o,y,_⟩:=mem_ready.1 J;grind[fL]
 |succ fuel ih=>
  intro listed E a w s S d hR I;refine⟨λO=>hend listed E a w (hnone listed s O) hR,λi J=>?_⟩;obtain⟨T,o,y,B⟩:=mem_ready.1 J;have g:i<ops.size:=(jW.1 y).1;have h:fL listed i=false:=by
   simp_all[fL,gx]
  have u:∀j,direct ops i j=true->fL listed j=true:=by
   intro j x;unfold direct at x;rw[y]at x;simp only[Array.any_eq_true',cu,beq_iff_eq]at x;obtain⟨e,G,H,rfl⟩:=x;exact B e G H
  have l:fL (listed.setIfInBounds i true) i=true:=by
   simp_all[fL]
  have c:∀k,k≠i->fL (listed.setIfInBounds i true) k=fL listed k:=λk f=>by
   simp_all[fL,Ne.symm]
  have K:=ase D hp d y h u;unfold wpOp;rw[y];simp only;have :=TE hR (I i g h) (ops:=ops) (o:=o) K (next:=wpAny X.P .any ops Q fuel (listed.setIfInBounds i true)) (Q:=Q) (λv w' E' k1 k2=>by
   have U:=ajU D hp d y h l c k2;refine ih (listed.setIfInBounds i true) _ _ w' (by simpa using s) ?_ ?_ U ?_
   .have:=S_ (p:=λk=> !fL listed k) (q:=λk=> !fL (listed.setIfInBounds i true) k) (i:=i) (by simp[h]) (by simp[l]) (λk f=>by simp[c k f]) g;omega
   .intro j k x P;by_cases m:k=i
    .simp_all
    .rw[c k m];by_cases L:j=i
     .simp_all
     .rw[c j L]at x;exact d j k x P
   .intro k f t n M N;have m:k≠i:=by grind
    rw[c k m]at t;obtain⟨V,W,f3,Y⟩:=I k f t n M N;refine⟨k1 n om V,?_,by simp_all[Ip],Y⟩;have C:(n∈(AS ops rs st0 (fL (listed.setIfInBounds i true))).bu)↔n∈(gZ (AS ops rs st0 (fL listed)) o (rs i)).bu:=by
     have hg:n∉iT (rs i):=by
      intro hm
      cases r:before ops 6 i k with
      |true=>exact absurd (Lc d r u) (by simp[t])
      |false=>exact Vb D A g f (Ne.symm m) r n hm ⟨M,N⟩
     rw[xD,ze h l c g (.inr (Jz hg)),yX,xD];rfl
    intro h7;have z:=C.1 h7;rw[yX]at z;rcases z with z|z
    .cases r:before ops 6 i k with
     |true=>exact absurd (Lc d r u) (by simp[t])
     |false=>exact Vb D A g f (Ne.symm m) r n (x5 _ z) ⟨M,N⟩
    .exact W z)
  grind
theorem US{rsF:Nat->Option bZ}:∀(l)(k){st st'}{ts}{rs},
 (∀j,l[j]?=ops[k+j]?)->mz X.P Sp b ops l k st=some (rs,ts,st')->(∀j,j<rs.length->rsF (k+j)=(rs[j]?).getD none)->
 st=fO (λk st=>gZ st (ops[k]?.getD default) (rsF k)) (λ_=>true) st0 k->
 rs.length=l.length/\ts.length=l.length/\
 st'=fO (λk st=>gZ st (ops[k]?.getD default) (rsF k)) (λ_=>true) st0 (k+l.length)/\
 ∀(j)(o),l[j]?=some o->l' X.P Sp b ops (fO (λk st=>gZ st (ops[k]?.getD default) (rsF k)) (λ_=>true) st0 (k+j)) (k+j) o=some (rsF (k+j))/\
  ts[j]?=some (um (fO (λk st=>gZ st (ops[k]?.getD default) (rsF k)) (λ_=>true) st0 (k+j)) o (rsF (k+j)),iT (rsF (k+j)))
 |[],k,st,st',ts,rs,_,c,_,f=>by
  cases c;simp_all
 |o::l,k,st,st',ts,rs,h,c,d,f=>by
  have u:ops[k]?=some o:=by simpa using(h 0).symm
  simp only[mz]at c;split at c
  .rename_i r v;split at c
   .rename_i m n p g;cases c;have q:rsF k=r:=by have:=d 0 (by simp);simpa using this
    have e:gZ st o r=fO (λk st=>gZ st (ops[k]?.getD default) (rsF k)) (λ_=>true) st0 (k+1):=by
     simp_all[fO,gx]
    obtain⟨s,t,y,z⟩:=US l (k+1) (λj=>by have:=h (j+1);grind) g
     (λj i=>by have:=d (j+1) (by simpa using i);grind) e
    refine⟨by simp[s],by simp[t],by grind,λj x i=>?_⟩;grind
   .cases c
  .cases c
end
theorem ET{X g}{x:X}{k n}(h:k<=n):fO g (λj=>decide (j<k)) x n=fO g (λ_=>true) x k:=by
 induction n with
 |zero =>
           have:k=0:=om;subst this;rfl
 |succ n ih=>
  by_cases c:k=n+1
  .grind[rq]
  .simp only[fO];grind
def Told(X:Fx)(st:bx)(a:Act)(w:bX):Prop:=∃E,Rel X E st a w/\st.bu=[]
def Aw(X:Fx)(c:Code)(Q:Exit->bx->Prop)(st:bx):Prop:=
 ∀a w,Told X st a w->c.wp X.P (λe a' w'=>∃st',Q e st'/\Told X st' a' w') a w
section
variable{X:Fx}{Sp:Spec}{Q:Exit->bx->Prop}{st:bx}
theorem kg{id ops rs ts st'}(he:mz X.P Sp st.next ops.toArray ops 0 (st.bump ops.length)=some (rs,ts,st'))(hs:vP st.next 0 ts=true)(h:Q .normal st'.settle):
 Aw X (.region id ops.toArray false) Q st:=λa w ht=>by
 obtain⟨E,hR,hg⟩:=ht;refine wp_region ?_;have:=Sm (X:=X) (ops:=ops.toArray) (Q:=λe a' w'=>∃st',Q e st'/\Told X st' a' w') ops 0 (λj=>by simp) (hR.bump ops.length) (λj _ hj=>hR.free hg (by simpa using hj)) he hs (λa' w' E' k1=>by
  obtain⟨E2,k3,k4⟩:=k1.settle;exact⟨_,h,E2,k3,k4⟩)
 rw[<-List.range_eq_range']at this;simpa using this
theorem aiB(hm:X.P.follows .mixedOrders=true){id ops}(hf:FE ops.toArray=true){rs ts st'}
 (he:mz X.P Sp st.next ops.toArray ops 0 (st.bump ops.length)=some (rs,ts,st')) (hp:qf ops.toArray ts=true) (hfo:vF st.next ops.toArray ts=true) (h:Q .normal st'.settle):
 Aw X (.region id ops.toArray true) Q st:=λa w ht=>by
 obtain⟨E,hR,hg⟩:=ht;obtain⟨g1,g2,g4,g5⟩:=US (X:=X) (st0:=st.bump ops.length) (rsF:=λk=>(rs[k]?).getD none) ops 0 (λj=>by simp) he (λj _=>by simp) rfl;have aAw:Lex X.P Sp st.next ops.toArray (st.bump ops.length) (λk=>(rs[k]?).getD none) ts:={
  step:=λk o ho=>by
   grind[ET]
  name:=λk o ho=>by
   grind[ET]}
 refine wp_region_any hm ?_;have NF:Rel X E (st.bump ops.length) a {w with drawn:=w.drawn+1}:=(hR.bump ops.length).drew;have e1:AS ops.toArray (λk=>(rs[k]?).getD none) (st.bump ops.length) (fL (Array.replicate ops.toArray.size false))=st.bump ops.length:=by
  have:AS ops.toArray (λk=>(rs[k]?).getD none) (st.bump ops.length) (fL (Array.replicate ops.toArray.size false))=AS ops.toArray (λk=>(rs[k]?).getD none) (st.bump ops.length) (λj=>decide (j<0)):=
   rq λk hk=>.inl (by simp_all[fL])
  rw[this];show fO _ _ _ _=_;rw[ET (eM _)];rfl
 refine atP (X:=X) (Q:=λe a' w'=>∃st',Q e st'/\Told X st' a' w') aAw hp hfo hf ?_ _ _ E a _ (by simp) ?_ ?_ ?_ ?_
 .intro a' w' E' k2;have e1:AS ops.toArray (λk=>(rs[k]?).getD none) (st.bump ops.length) (λk=>decide (k<ops.toArray.size))=st':=by
   simp_all[ET]
  rw[e1]at k2;obtain⟨E2,k3,k4⟩:=k2.settle;exact⟨_,h,E2,k3,k4⟩
 .have:∀n,n<=ops.length->cZ (λk=> !fL (Array.replicate ops.toArray.size false) k) n=n:=by
   intro n hn
   induction n with
   |zero=>rfl
   |succ n ih=>
    simp only[cZ,ih om];simp[fL,rf,show n<ops.length by omega]
  simp_all
 .intro j i hj _;simp[fL,rf,ZN]at hj;grind
 .rw[e1];exact NF
 .intro k hk _;rw[e1];exact hR.free hg (by simpa using hk)
theorem kO{c Q'}(h:Aw X c Q st)(hq:∀e st,Q e st->Q' e st):Aw X c Q' st:=
 λa w ht=>wp_mono (h a w ht) λe _ _⟨st',h1,h2⟩=>⟨st',hq e st' h1,h2⟩
def Le(X:Fx)(st st':bx):Prop:=∀a w,Told X st a w->Told X st' a w
theorem Uo{c st'}(d:Le X st st')(h:Aw X c Q st'):Aw X c Q st:=λa w e=>h a w (d a w e)
theorem qa(h:Q .normal st):Aw X .skip Q st:=λ_ _ ht=>wp_skip ⟨st,h,ht⟩
theorem aoF{id}(h:Q (.exit id) st):Aw X (.exit id) Q st:=λ_ _ ht=>wp_exit ⟨st,h,ht⟩
theorem nZ(h:Q .ret st):Aw X .ret Q st:=λ_ _ ht=>wp_ret ⟨st,h,ht⟩
def C1(next:bx->Prop)(Q:Exit->bx->Prop):Exit->bx->Prop
 |.normal,st=>next st
 |e,st=>Q e st
theorem ei{x y}(h:Aw X x (C1 (Aw X y Q) Q) st):Aw X (.seq x y) Q st:=λa w ht=>by
 refine wp_seq (wp_mono (h a w ht) ?_);rintro e a' w' ⟨st',h1,h2⟩
 cases e with
 |normal=>exact h1 a' w' h2
 |_=>exact⟨st',h1,h2⟩
theorem nC{c x y t}(hc:st.arg c=some (.sc (.bool t)))(h1:t=true->Aw X x Q st)(h2:t=false->Aw X y Q st):Aw X (.cond c x y) Q st:=λa w ht=>by
 have mL:=ht;obtain⟨E,hR,_⟩:=mL;have k1:=RP.ek (hR.cN hc).1;refine wp_cond k1 ?_;cases t
 .exact h2 rfl a w ht
 .exact h1 rfl a w ht
def Mz(id:Nat)(Q:Exit->bx->Prop):Exit->bx->Prop
 |.exit c,st=>if c=id then Q .normal st else Q (.exit c) st
 |e,st=>Q e st
theorem VB{id c}(h:Aw X c (Mz id Q) st):Aw X (.block id c) Q st:=λa w ht=>by
 refine wp_block (wp_mono (h a w ht) ?_);rintro e a' w' ⟨st',h1,h2⟩
 cases e with
 |exit id'=>
  simp only[Mz]at h1;by_cases hid:id'=id
  .rw[bA hid]at h1;simp only[Exit.inBlock,hid,if_true];grind
  .rw[bH hid]at h1;simp only[Exit.inBlock];grind
 |_=>exact⟨st',h1,h2⟩
def ayG(Q:Exit->bx->Prop):Exit->bx->Prop
 |.goto _,_=>False
 |e,st=>Q e st
theorem apX{c}(h:Aw X c (ayG Q) st):Aw X (.scope c) Q st:=λa w ht=>by
 refine wp_scope_straight (wp_mono (h a w ht) ?_);rintro e a' w' ⟨st',h1,h2⟩
 cases e with
 |goto l=>exact h1.elim
 |_=>exact⟨st',h1,h2⟩
theorem alO{l}(h:Q .normal st):Aw X (.label l) Q st:=λ_ _ ht=>wp_label ⟨st,h,ht⟩
def rS(X:Fx)(c:Code):Nat->(Exit->bx->Prop)->bx->Prop
 |0,_,_=>False
 |n+1,Q,st=>Aw X c (C1 (rS X c n Q) Q) st
theorem OZ{c st'}:∀{n},Le X st st'->rS X c n Q st'->rS X c n Q st
 |0,_,h=>h.elim
 |_+1,d,h=>Uo d h
theorem Ve{c}:∀{n}{st},rS X c n Q st->∀a w,Told X st a w->Code.rounds X.P c (λe a' w'=>∃st',Q e st'/\Told X st' a' w') n a w
 |0,_,h=>h.elim
 |n+1,st,h=>λa w ht=>by
  refine wp_mono (h a w ht) ?_;rintro e a' w' ⟨st',h1,h2⟩
  cases e with
  |normal=>exact Ve (n:=n) h1 a' w' h2
  |_=>exact⟨st',h1,h2⟩
theorem P9{c n}(h:rS X c n Q st):Aw X (.loop c) Q st:=λa w ht=>wp_loop_rounds n (Ve h a w ht)
theorem ags{c}{α:Type}(I:α->bx->Prop)(t:α->Nat){x0}(C:∃h,Le X st h/\I x0 h)
 (round:∀x st,I x st->Aw X c (C1 (λst'=>∃p h,Le X st' h/\I p h/\t p<t x) Q) st):Aw X (.loop c) Q st:=λa w u=>by
 obtain⟨h,D,v⟩:=C;intro b k cs;have key:∀n x st,t x=n->I x st->∀a w,Told X st a w->
  ∃e a' w',(∃st',Q e st'/\Told X st' a' w')/\Arrives X.P (lone (b.at a (.code c:: .inLoop c::k)) cs w) b k cs e a' w':=by
  intro n
  induction n using Nat.strongRecOn with
  |_ n ih=>
   intro x st F v a w u;obtain⟨e,f,g,⟨st',m,i⟩,d⟩:=round x st v a w u b (.inLoop c::k) cs
   cases e with
   |normal=>
    obtain⟨p,y,z,A,B⟩:=m;obtain⟨q,r,s,o,j⟩:=ih (t p) (F▸B) p y rfl A f g (z _ _ i);exact⟨q,r,s,o,.of_steps (Steps.trans d (.one step_inLoop)) j⟩
   |exit id=>exact⟨_,f,g,⟨st',m,i⟩,.pass (x:=.inLoop c) rfl (λ_ _=>.inl (by simp)) d⟩
   |goto l=>exact⟨_,f,g,⟨st',m,i⟩,.pass (x:=.inLoop c) rfl (λ_ _=>.inl (by simp)) d⟩
   |ret=>exact⟨_,f,g,⟨st',m,i⟩,.pass (x:=.inLoop c) rfl (λ_ _=>.inl (by simp)) d⟩
   |panic G=>exact⟨_,f,g,⟨st',m,i⟩,.pass (x:=.inLoop c) rfl (λ_ _=>.inl (by simp)) d⟩
   |outgrown=>exact⟨_,f,g,⟨st',m,i⟩,.pass (x:=.inLoop c) rfl (λ_ _=>.inl (by simp)) d⟩
 obtain⟨e,a',w',m,d⟩:=key _ x0 h rfl v a w (D _ _ u);exact⟨e,a',w',m,.of_steps (.one step_loop) d⟩
end
abbrev Ren:=List (Nat×Nat)
def Ren.to(ι:Ren)(n:Nat):Nat:=(List.lookup n ι).getD 0
def Ren.old(ι:Ren):List Nat:=ι.map (·.1)
def Ren.new(ι:Ren):List Nat:=ι.map (·.2)
def AL(st:bx)(ι:Ren)(Z:List Nat):C->C->Prop
 |_,.dead=>True
 |c,.p q=>c=.p q\/∃rows,q=.sl rows/\st.view c=some rows/\∀n∈c.names,n∉ι.old
 |.nil,.own d=>d∈Z
 |.nil,.sub d lo len=>d∈Z/\lo=0/\len=0
 |c,e=>e=c.dJ ι.to/\∀n∈c.names,n∈ι.old
def Aq(st:bx)(ι:Ren)(Z:List Nat):List C->List C->Prop
 |[],[]=>True
 |c::cs,e::d=>AL st ι Z c e/\Aq st ι Z cs d
 |_,_=>False
def tP(st:bx)(ι:Ren)(Z:List Nat):V1->V1->Prop
 |_,.c .dead=>True
 |.c c,.c e=>AL st ι Z c e
 |.agg cs,.agg d=>Aq st ι Z cs d
 |_,_=>False
def Eg(st:bx)(ι:Ren)(Z:List Nat):List V1->List V1->Prop
 |[],[]=>True
 |c::cs,e::d=>tP st ι Z c e/\Eg st ι Z cs d
 |_,_=>False
def vL(st:bx)(ι:Ren)(Z:List Nat):V->V->Prop
 |_,.v (.c .dead)=>True
 |.v x,.v d=>tP st ι Z x d
 |.bL xs,.bL c=>Eg st ι Z xs c
 |_,_=>False
def o6(st:bx)(ι:Ren)(Z:List Nat):List V->List V->Prop
 |[],[]=>True
 |v::l,c::d=>vL st ι Z v c/\o6 st ι Z l d
 |_,_=>False
def YL(st:bx)(ι:Ren)(Z:List Nat):eQ->eQ->Prop
 |.box cs,.box d=>Aq st ι Z cs d
 |.row e rows,.row g c=>e=g/\rows=c
 |.map h,.map f=>h=f
 |_,_=>False
structure kP(P:cC)(k0:Nat)(st st':bx)(ι:Ren)(Z:List Nat):Prop where
 bu:st'.bu=[]
 old:ι.old.Nodup
 new:ι.new.Nodup
 zs:∀n∈Z,n∉ι.new/\k0<=n/\n<st'.next/\∃e,st'.heap.lookup n=some (.row e [])/\0<P.cellsOf e
 lt:∀x∈ι,x.2<st'.next/\(x.2<k0->x.1=x.2)
 k0:k0<=st'.next
 tmps:o6 st ι Z st.tmps st'.tmps
 heap:∀n' b',st'.heap.lookup n'=some b'->n'∈Z\/∃n b,(n,n')∈ι/\st.heap.lookup n=some b/\YL st ι Z b b'
theorem aiZ{ι:Ren}{n}(h:n∈ι.old):∃c,List.lookup n ι=some c/\(n,c)∈ι:=by
 induction ι with
 |nil=>simp[Ren.old]at h
 |cons x ι ih=>
  grind[Ren.old]
theorem avB{ι:Ren}(c:ι.old.Nodup){n a b}(d:(n,a)∈ι)(e:(n,b)∈ι):a=b:=by
 induction ι with
 |nil=>cases d
 |cons x ι ih=>
  simp only[Ren.old,dk,List.nodup_cons]at c;rcases eG.1 d with k1|k1<;>rcases eG.1 e with k2|k2
  .grind
  .grind
  .grind
  .exact ih c.2 k1 k2
theorem avA{ι:Ren}(c:ι.new.Nodup){n a b}(d:(a,n)∈ι)(e:(b,n)∈ι):a=b:=by
 induction ι with
 |nil=>cases d
 |cons x ι ih=>
  simp only[Ren.new,dk,List.nodup_cons]at c;rcases eG.1 d with k1|k1<;>rcases eG.1 e with k2|k2
  .grind
  .grind
  .grind
  .exact ih c.2 k1 k2
def Env.le(P:cC)(E:Env)(st':bx)(ι:Ren)(Z:List Nat):Env:=
 ⟨λd=>if d∈Z then some ⟨none,0,0,match st'.heap.lookup d with|some (.row e _)=>P.cellsOf e|_=>0⟩else match ι.find? (λx=>x.2==d)with|some x=>E.N x.1|none=>none,[]⟩
section
variable{X:Fx}{E:Env}{st st':bx}{a:Act}{w:bX}{ι:Ren}{Z:List Nat}
theorem s_{c x}(h:(E.le X.P st' ι Z).N c=some x):(c∈Z/\x.g=none)\/(c∉Z/\∃n,(n,c)∈ι/\E.N n=some x):=by
 simp only[Env.le]at h;grind
theorem O6(d:kP X.P X.k0 st st' ι Z){n c}(e:(n,c)∈ι){x}(h:E.N n=some x):(E.le X.P st' ι Z).N c=some x:=by
 simp only[Env.le];rw[bH (λi=>(d.zs c i).1 (fE.2 ⟨_,e,rfl⟩))]
 cases f:ι.find? (λx=>x.2==c)with
 |none=>
  grind
 |some y=>
  have g:=ZO f;have j:=ZP f;simp at g;subst g;have:=avA d.new e j;subst this;exact h
theorem QA{g}(h:bad X.M (E.le X.P st' ι Z) g):bad X.M E g:=by
 rcases h with h| ⟨f,x,d,e⟩
 .exact .inl h
 .rcases s_ d with⟨_,c⟩| ⟨_,n,_,c⟩
  .simp_all
  .exact .inr ⟨n,x,c,e⟩
theorem RC.le(h:Rel X E st a w)(O:st.bu=[])(F:kP X.P X.k0 st st' ι Z){c m v}(k:AL st ι Z c m)(t:RC X.M E w c v):RC X.M (E.le X.P st' ι Z) w m v:=by
 have y:iK (bad X.M E) (bad X.M (E.le X.P st' ι Z)) w w:=λg o u z B=>⟨z,λh=>B (QA h)⟩
 have G:∀n,n∉E.bu:=λn=>by rw[h.bu,O];simp
 have key:m=c.dJ ι.to/\(∀n∈c.names,n∈ι.old)->RC X.M (E.le X.P st' ι Z) w m v:=by
  rintro⟨rfl,H⟩;refine RC.dJ (.inl y) (λn z=>⟨G n,λx R=>?_⟩) t;obtain⟨d,B,I⟩:=aiZ (H n z);have:ι.to n=d:=by simp[Ren.to,B]
  rw[this];exact O6 F I R
 cases m with
 |dead=>trivial
 |p q=>
  have J:c=.p q\/∃rows,q=.sl rows/\st.view c=some rows/\∀n∈c.names,n∉ι.old:=by cases c<;>exact k
  rcases J with rfl| ⟨rows,rfl,S,H⟩
  .exact RP.trans t y
  .obtain⟨T,z,B⟩:=VT S;obtain⟨_,_,I⟩:=h.sink t (λn _=>by rw[O];simp) z;refine RP.trans (I T (λ_ h=>h)) (λg o u k1 k2=>⟨k1,λK=>k2 ?_⟩);rcases K with K| ⟨d,x,U,W⟩
   .exact .inl K
   .rcases s_ U with⟨_,P⟩| ⟨_,n,P,Y⟩
    .simp_all
    .refine .inr ⟨n,x,?_,W⟩;simp only[Env.drop];rw[bH λM=>H n (B n M) (fE.2 ⟨_,P,rfl⟩)];exact Y
 |own d=>
  cases c with
  |nil=>
   have D:d∈Z:=k;obtain⟨_,_,_,e,N,h5⟩:=F.zs d D;refine .inr ⟨⟨none,0,0,X.P.cellsOf e⟩,by simp[Env.le,D,N],?_⟩;exact t
  |_=>exact key k
 |sub d lo len=>
  cases c with
  |nil=>
   obtain⟨D,rfl,rfl⟩:d∈Z/\lo=0/\len=0:=k;obtain⟨_,_,_,e,N,h5⟩:=F.zs d D;exact .inr ⟨⟨none,0,0,X.P.cellsOf e⟩,by simp[Env.le,D,N],de _,none,t,λ_=>rfl⟩
  |_=>exact key k
 |_=>cases c<;>exact key k
theorem G0:∀{cs d},Aq st ι Z cs d->cs.length=d.length/\∀(i:Nat)(e),d[i]?=some e->∃c,cs[i]?=some c/\AL st ι Z c e
 |[],[],_=>⟨rfl,λi e h=>by simp at h⟩
 |c::cs,e::d,h=>by
  obtain⟨g,j⟩:=G0 h.2;refine⟨by simp[g],λi x f=>?_⟩
  cases i with
  |zero=>simp at f;subst f;exact⟨c,rfl,h.1⟩
  |succ i=>simp_all
 |[],_::_,h=>h.elim
 |_::_,[],h=>h.elim
theorem OO:∀{cs d},Eg st ι Z cs d->cs.length=d.length/\∀(i:Nat)(e),d[i]?=some e->∃c,cs[i]?=some c/\tP st ι Z c e
 |[],[],_=>⟨rfl,λi e h=>by simp at h⟩
 |c::cs,e::d,h=>by
  obtain⟨g,j⟩:=OO h.2;refine⟨by simp[g],λi x f=>?_⟩
  cases i with
  |zero=>simp at f;subst f;exact⟨c,rfl,h.1⟩
  |succ i=>simp_all
 |[],_::_,h=>h.elim
 |_::_,[],h=>h.elim
theorem KL:∀{cs d},o6 st ι Z cs d->cs.length=d.length/\∀(i:Nat)(e),d[i]?=some e->∃c,cs[i]?=some c/\vL st ι Z c e
 |[],[],_=>⟨rfl,λi e h=>by simp at h⟩
 |c::cs,e::d,h=>by
  obtain⟨g,j⟩:=KL h.2;refine⟨by simp[g],λi x f=>?_⟩
  cases i with
  |zero=>simp at f;subst f;exact⟨c,rfl,h.1⟩
  |succ i=>simp_all
 |[],_::_,h=>h.elim
 |_::_,[],h=>h.elim
theorem eB.le(h:Rel X E st a w)(m:st.bu=[])(q:kP X.P X.k0 st st' ι Z){x t v}(d:tP st ι Z x t)(y:eB X.M E w x v):eB X.M (E.le X.P st' ι Z) w t v:=by
 unfold tP at d;split at d
 .trivial
 .exact RC.le h m q d y
 .obtain⟨us,z,B,D⟩:=y;obtain⟨F,G⟩:=G0 d;refine⟨us,z,by rw[B,F],λi c H=>?_⟩;obtain⟨c0,I,J⟩:=G i c H;obtain⟨u,K,M,k⟩:=D i c0 I;exact⟨u,K,RC.le h m q J M,k⟩
 .exact d.elim
theorem RV.le(h:Rel X E st a w)(k:st.bu=[])(m:kP X.P X.k0 st st' ι Z){x q v}(d:vL st ι Z x q)(t:RV X.M E w x v):RV X.M (E.le X.P st' ι Z) w q v:=by
 unfold vL at d;split at d
 .trivial
 .exact eB.le h k m d t
 .obtain⟨us,y,z,B⟩:=t;obtain⟨D,F⟩:=OO d;refine⟨us,y,by rw[z,D],λi c G=>?_⟩;obtain⟨c0,H,I⟩:=F i c G;obtain⟨u,J,K⟩:=B i c0 H;exact⟨u,J,eB.le h k m I K⟩
 .exact d.elim
theorem Rel.le(h:Rel X E st a w)(I:st.bu=[])(k:kP X.P X.k0 st st' ι Z):Rel X (E.le X.P st' ι Z) st' a w:=by
 have J:iK (bad X.M E) (bad X.M (E.le X.P st' ι Z)) w w:=λg o u d q=>⟨d,λh=>q (QA h)⟩
 exact {
  defers:=h.defers
  bu:=by rw[k.bu];rfl
  frame:=h.frame
  iS:=h.iS
  eJ:=λB x z=>by
   rcases s_ z with⟨d,_⟩| ⟨_,n,d,_⟩
   .exact(k.zs B d).2.2.1
   .exact(k.lt _ d).1
  names:=λB x g z D=>by
   rcases s_ z with⟨_,d⟩| ⟨_,n,_,d⟩
   .simp_all
   .exact h.names n x g d D
  inj:=λB m' x y g z hy D U=>by
   rcases s_ z with⟨_,d⟩| ⟨_,n,K,d⟩
   .simp_all
   .rcases s_ hy with⟨_,q⟩| ⟨_,m,t,q⟩
    .simp_all
    .have:=h.inj n m x y g d q D U;subst this;exact avB k.old K t
  fM :=λm hm=>by
   cases z:(E.le X.P st' ι Z).N m with
   |none=>exact .inl rfl
   |some x=>
    right;rcases s_ z with⟨d,_⟩| ⟨_,n,K,d⟩
    .have:=(k.zs m d).2.1;omega
    .have:=(k.lt _ K).2 hm;simp at this;subst this;rcases h.fM n hm with q|q
     .simp_all
     .rw[<-q,d]
  jh:=k.k0
  kz:=λn hn=>by rw[k.bu]at hn;cases hn
  size:=by rw[h.size,(KL k.tmps).1]
  tmps:=λi v' F=>by
   obtain⟨v,M,N⟩:=(KL k.tmps).2 i v' F;obtain⟨u,O,P⟩:=h.tmps i v M;exact⟨u,O,P.le h I k N⟩
  heap :=λB T W=>by
   right;rcases k.heap B T W with hz| ⟨n,b,d,q,t⟩
   .obtain⟨_,_,_,e,H,R⟩:=k.zs B hz;rw[H]at W;cases W;exact⟨⟨none,0,0,X.P.cellsOf e⟩,#[],(0,0),by simp[Env.le,hz,H],.inl rfl,λg I=>(by cases I),rfl,de _,by simp[maxLen],R,rfl,by simp,λr S=>by simp at S,λ_=>rfl,λi r j p F=>by simp at F⟩
   .have S:=h.row (by rw[I];simp) q;have Y:∀x,E.N n=some x->(E.le X.P st' ι Z).N B=some x:=λx z=>O6 k d z
    cases b with
    |box cs=>
     cases T with
     |box ad=>
      obtain⟨x,g,cur,e,k1,k0,k2,k3,k4⟩:=S;obtain⟨H,R⟩:=G0 t;refine⟨x,g,cur,e,Y x k1,k0,k2,by rw[k3,H],λi c' F=>?_⟩;obtain⟨c,M,N⟩:=R i c' F;obtain⟨u,O,P,G⟩:=k4 i c M;exact⟨u,O,RC.le h I k N P,G⟩
     |_=>exact t.elim
    |row e rows=>
     cases T with
     |row e' aa=>
      obtain⟨rfl,rfl⟩:=t;obtain⟨x,cur,fz,d,ab,q,t,H,R,M,ac,N,O,G,P⟩:=S;exact⟨x,cur,fz,Y x d,ab,q,t,H,R,M,ac,N,O,G,λi r j p F hj=>let⟨u,k1,k2⟩:=P i r j p F hj; ⟨u,k1,k2.trans J⟩⟩
     |_=>exact t.elim
    |map es=>
     cases T with
     |map ae=>
      cases t;obtain⟨x,g,en,clock,d,K,q,t⟩:=S;exact⟨x,g,en,clock,Y x d,K,q,t.trans J⟩
     |_=>exact t.elim}
theorem kP.le(k:st.bu=[])(d:kP X.P X.k0 st st' ι Z):Le X st st':=λ_ _⟨E,h,_⟩=>⟨E.le X.P st' ι Z,h.le k d,d.bu⟩
end
def tz(n L:Nat)(c d:C):Prop:=d=.dead\/(d=c/\n∉c.names)\/(c=.sub n 0 L/\d=.own n)
def yL(n L:Nat):V1->V1->Prop
 |_,.c .dead=>True
 |.c c,.c e=>tz n L c e
 |.agg cs,.agg d=>cs.length=d.length/\∀(i:Nat)(e:C),d[i]?=some e->∃c,cs[i]?=some c/\tz n L c e
 |_,_=>False
def WT(n L:Nat):V->V->Prop
 |_,.v (.c .dead)=>True
 |.v x,.v f=>yL n L x f
 |.bL xs,.bL d=>xs.length=d.length/\∀(i:Nat)(e:V1),d[i]?=some e->∃c,xs[i]?=some c/\yL n L c e
 |_,_=>False
def P4(n L:Nat):eQ->eQ->Prop
 |.box cs,.box f=>cs.length=f.length/\∀(i:Nat)(h:C),f[i]?=some h->∃c,cs[i]?=some c/\tz n L c h
 |.row e rows,.row j d=>j=e/\d=rows
 |.map k,.map g=>g=k
 |_,_=>False
structure JD(k0:Nat)(st st':bx)(n L:Nat)(e:cd)(rows:List (List PV)):Prop where
 k0:k0<=n
 bu:st'.bu=[]
 next:st'.next=st.next
 row:st.heap.lookup n=some (.row e rows)
 told:∃i:Nat,st.tmps[i]?=some (.v (.c (.sub n 0 L)))
 len:st.tmps.length=st'.tmps.length
 tmps:∀(i:Nat)(v':V),st'.tmps[i]?=some v'->∃v,st.tmps[i]?=some v/\WT n L v v'
 heap:∀m b',st'.heap.lookup m=some b'->(m=n/\b'=.row e (rows.take L))\/(m≠n/\∃b,st.heap.lookup m=some b/\P4 n L b b')
theorem JD.le{X st st' n L e rows}(Y:st.bu=[])(M:JD X.k0 st st' n L e rows):Le X st st':=by
 rintro a w ⟨E,h,_⟩;have S:∀m,m∉E.bu:=λm=>by rw[h.bu,Y];simp
 obtain⟨x,cur,fz,k1,ab,k2,k3,k4,k5,k6,k7,k8,k9,ac,ad⟩:=h.row (by rw[Y];simp) M.row;obtain⟨i0,ae⟩:=M.told;obtain⟨u0,_,af⟩:=h.tmps i0 _ ae;obtain⟨x',aa,hL,_⟩:=cW.get (show RC X.M E w (.sub n 0 L) u0 from af) (S n);rw[k1]at aa;cases aa
 let E':Env:=⟨λm=>if m=n then some {x with len:=L}else E.N m,[]⟩
 have hN:∀m y,m≠n->E.N m=some y->E'.N m=some y:=λm y D B=>by grind
 have N:∀m y,E'.N m=some y->∃z,E.N m=some z/\z.g=y.g:=λm y B=>by
  grind
 have R:∀g,bad X.M E' g->bad X.M E g:=by
  rintro g (k| ⟨m,y,k,d⟩)
  .exact .inl k
  .obtain⟨z,F,G⟩:=N m y k;exact .inr ⟨m,z,F,G.trans d⟩
 have O:iK (bad X.M E) (bad X.M E') w w:=λg o u k d=>⟨k,λh=>d (R g h)⟩
 have H:∀m(Q:Nm->Prop),m≠n->cW E m Q->cW E' m Q:=λm Q D hq=>by
  obtain⟨y,k,d⟩:=cW.get hq (S m);exact .inr ⟨y,hN m y D k,d⟩
 have hc:∀c t v,tz n L c t->RC X.M E w c v->RC X.M E' w t v:=by
  rintro c t v (rfl| ⟨rfl,U⟩| ⟨rfl,rfl⟩) I
  .trivial
  .cases t with
   |p q=>exact RP.trans I O
   |nil=>exact I
   |own m=>exact H m _ (by simpa[C.names]usingλh:m=n=>U (by simp[C.names,h])) I
   |sub m lo len=>exact H m _ (by simpa[C.names]usingλh:m=n=>U (by simp[C.names,h])) I
   |ptr m off=>exact H m _ (by simpa[C.names]usingλh:m=n=>U (by simp[C.names,h])) I
   |dH m i j=>exact H m _ (by simpa[C.names]usingλh:m=n=>U (by simp[C.names,h])) I
   |ref cells=>
    obtain⟨g,o,k,d⟩:=I;refine⟨g,o,k,λj p T=>?_⟩;obtain⟨u,F,G,W⟩:=d j p T;exact⟨u,F,λh=>G (R g h),RP.trans W O⟩
   |fn f ee=>
    obtain⟨us,k,d,F⟩:=I;refine⟨us,k,d,λi m J=>?_⟩;obtain⟨u,G,W⟩:=F i m J;exact⟨u,G,H m _ (λD=>U (by subst D;exact eb J)) W⟩
   |mp m=>exact H m _ (by simpa[C.names]usingλh:m=n=>U (by simp[C.names,h])) I
   |dead=>trivial
  .obtain⟨y,k,_,A,F,G⟩:=cW.get (show RC X.M E w (.sub n 0 L) v from I) (S n);rw[k1]at k;cases k;have hA:=G (.inr rfl);simp only[Bg,Oj]at hA F;exact .inr ⟨{x with len:=L},by simp[E'],by rw[F,hA]⟩
 have ag:∀y K v,yL n L y K->eB X.M E w y v->eB X.M E' w K v:=by
  intro y K v B I
  cases K with
  |c t=>
   cases y with
   |c c=>
    have:t=.dead\/tz n L c t:=by cases t<;>first|exact .inl rfl|exact .inr B
    rcases this with rfl|B
    .trivial
    .exact hc c t v B I
   |agg=>cases t<;>first|trivial|exact B.elim
  |agg ah=>
   cases y with
   |c=>exact B.elim
   |agg cs=>
    obtain⟨us,rfl,d,F⟩:=I;refine⟨us,rfl,d.trans B.1,λi t J=>?_⟩;obtain⟨c,G,W⟩:=B.2 i t J;grind
 refine⟨E',?_,M.bu⟩;exact{
  defers:=h.defers
  bu:=by rw[M.bu]
  frame:=h.frame
  iS:=h.iS
  eJ:=λm y B=>by
   obtain⟨z,k,_⟩:=N m y B;rw[M.next];exact h.eJ m z k
  names:=λm y g B ai=>by
   obtain⟨z,k,d⟩:=N m y B;exact h.names m z g k (d.trans ai)
  inj:=λm m' y K g B aj Y ak=>by
   obtain⟨z,k,d⟩:=N m y B;obtain⟨z',F,G⟩:=N m' K aj;exact h.inj m m' z z' g k F (d.trans Y) (G.trans ak)
  fM:=λm D=>by
   have:m≠n:=by have:=M.k0;omega
   simp only[E',bH this];exact h.fM m D
  jh:=by rw[M.next];exact h.jh
  kz:=λm D=>by rw[M.bu]at D;cases D
  size:=by rw[h.size,M.len]
  tmps :=λi v' J=>by
   obtain⟨v,k,d⟩:=M.tmps i v' J;obtain⟨u,F,G⟩:=h.tmps i v k;refine⟨u,F,?_⟩
   cases v' with
   |v K=>
    cases v with
    |v y=>
     have:K=.c .dead\/yL n L y K:=by
      cases K with
      |c t=>cases t<;>first|exact .inl rfl|exact .inr d
      |agg=>exact .inr d
     rcases this with rfl|d
     .trivial
     .exact ag y K u d G
    |bL=>
     cases K with
     |c t=>cases t<;>first|trivial|exact d.elim
     |agg=>exact d.elim
   |bL aq=>
    cases v with
    |v=>exact d.elim
    |bL xs=>
     obtain⟨us,rfl,W,h6⟩:=G;refine⟨us,rfl,W.trans d.1,λj t T=>?_⟩;obtain⟨c,h7,h8⟩:=d.2 j t T;grind
  heap :=λm b' hb=>by
   right;rcases M.heap m b' hb with⟨rfl,rfl⟩| ⟨D,b,k,d⟩
   .exact⟨{x with len:=L},cur,fz,by simp[E'],ab,k2,by simp;omega,by simp only;omega,k5,k6,k7,k8,λr hr=>k9 r (mO hr),ac,λi r j p J T=>by
     obtain⟨u,q1,q2⟩:=ad i r j p (B' J).1 T;exact⟨u,q1,q2.trans O⟩⟩
   .have hr:=h.row (by rw[Y];simp) k
    cases b with
    |box cs=>
     cases b' with
     |box ah=>
      obtain⟨y,g,P,e',j1,j2,j3,j4,j5⟩:=hr;refine⟨y,g,P,e',hN m y D j1,j2,j3,j4.trans d.1,λi t J=>?_⟩;obtain⟨c,q1,q2⟩:=d.2 i t J;grind
     |_=>exact d.elim
    |row e0 al=>
     cases b' with
     |row e' am=>
      obtain⟨rfl,rfl⟩:=d;obtain⟨y,P,an,j1,jf,j2,j3,j4,j5,j6,j7,j8,j9,ao,ap⟩:=hr;exact⟨y,P,an,hN m y D j1,jf,j2,j3,j4,j5,j6,j7,j8,j9,ao,λi r j p J T=>let⟨u,q1,q2⟩:=ap i r j p J T; ⟨u,q1,q2.trans O⟩⟩
     |_=>exact d.elim
    |map es=>
     cases b' with
     |map ar=>
      obtain⟨y,g,en,clock,j1,j2,j3,j4⟩:=hr;exact⟨y,g,en,clock,hN m y D j1,j2,j3,d▸j4.trans O⟩
     |_=>exact d.elim}
def V.one:V->Option V1
 |.v x=>some x
 |.bL _=>none
def oi(P:cC)(st:bx):ResultVar->Option V1
 |.tmp t=>(st.tmps[t]?).bind V.one
 |.cell t ty=>match st.tmps[t]? with
  |some (.v (.c (.ptr n off)))=>match st.heap.lookup n with
   |some (.box cs)=>(kW P ty (cs.drop off)).bind V.one
   |_=>none
  |_=>none
def api:List V1->V
 |[x]=>.v x
 |xs=>.bL xs
def tW(P:cC)(rs:List ResultVar)(st:bx):Option V:=(rs.mapM (oi P st)).map api
theorem YM{v:V}{x}(h:v.one=some x):v=.v x:=by cases v<;>simp[V.one]at h;subst h;rfl
def yn(tmps:Array b9):ResultVar->Sem b9
 |.tmp t=>Pure.pure (tmps.getD t undef)
 |.cell t ty=>do loadVar ty (<-asAddr (tmps.getD t undef))
theorem ajq(fn)(tmps):results fn tmps=(do let vs<-fn.results.mapM (yn tmps);Pure.pure (if h:vs.size=1 then vs[0]else .tuple vs)):=by
 rfl
section
variable{X:Fx}{E:Env}{st:bx}{a:Act}{w:bX}
theorem avC(h:Rel X E st a w)(m:st.bu=[]){f x}(d:oi X.P st f=some x):
 ∃u,(yn a.tmps f).run X.P w=.ok u w/\eB X.M E w x u:=by
 cases f with
 |tmp t=>
  simp only[oi,iy]at d;obtain⟨v,s,y⟩:=d;have:=YM y;subst this;obtain⟨u,p,i⟩:=h.tmps t _ s;exact⟨u,by simp_all[yn],i⟩
 |cell t ty=>
  simp only[oi]at d;split at d
  .rename_i n off z;obtain⟨u,p,k⟩:=h.tmps t _ z;obtain⟨L,i,g,A,l⟩:=cW.get k (by rw[h.bu,m];simp);subst l;split at d
   .rename_i cs B;simp only[iy]at d;obtain⟨v,l,C⟩:=d;have:=YM C;subst this;obtain⟨N,g',cur,e,q,k0,D,O,F⟩:=h.row (by rw[m];simp) B;rw[i]at q;cases q;rw[A]at k0;cases k0;obtain⟨u,G,H⟩:=BZ (P:=X.P) (M:=X.M) (E:=E) (w:=w) (g:=g) (o:=off) l (λj c r=>by
     rw[kC]at r;obtain⟨u,I,J,K⟩:=F _ c r;exact⟨u,by rw[cell_of_row w g _ cur e (0,0) D];exact I,J,K⟩)
    refine⟨u,?_,H⟩;simp[yn,rf,p,asAddr,G]
   .cases d
  .cases d
theorem Se(h:Rel X E st a w)(f:st.bu=[]):∀(l:List ResultVar){xs},l.mapM (oi X.P st)=some xs->
 ∃us,(l.mapM (yn a.tmps)).run X.P w=.ok us w/\
  us.length=xs.length/\∀(i:Nat)(x),xs[i]?=some x->∃u,us[i]?=some u/\eB X.M E w x u
 |[],xs,c=>by simp_all
 |rv::l,xs,c=>by
  cases d:oi X.P st rv with
  |none=>simp[d]at c
  |some x=>
   cases e:l.mapM (oi X.P st)with
   |none=>simp[d,e]at c
   |some ys=>
    simp[d,e]at c;subst c;obtain⟨u,j,k⟩:=avC h f d;obtain⟨us,m,g,n⟩:=Se h f l e;refine⟨u::us,?_,by simp[g],λi y o=>?_⟩
    .simp_all
    grind
theorem amn(h:Rel X E st a w)(g:st.bu=[]){fn r}(d:tW X.P fn.results.toList st=some r):∃u,(results fn a.tmps).run X.P w=.ok u w/\RV X.M E w r u:=by
 unfold tW at d;simp only[bY]at d;obtain⟨xs,j,rfl⟩:=d;obtain⟨us,m,c,k⟩:=Se h g _ j;refine⟨if n:us.toArray.size=1 then us.toArray[0]else .tuple us.toArray,?_,?_⟩
 .simp_all[ajq,Array.mapM_eq_mapM_toList]
 .cases xs with
  |nil=>
   have:us=[]:=mN (by simpa using c);subst this;exact⟨#[],by simp,rfl,by simp⟩
  |cons x ys=>
   cases ys with
   |nil=>
    obtain⟨u,f,l⟩:=k 0 x rfl
    cases us with
    |nil=>simp at c
    |cons o e=>
     have:e=[]:=mN (by simpa using c);subst this;simp at f;subst f;show eB X.M E w x _;simpa using l
   |cons y p=>
    have:us.length≠1:=by rw[c];simp
    refine⟨us.toArray,by simp[this],by simp[c],λi z q=>?_⟩;simp_all
end
def nD(P:cC)(rs:List ResultVar)(r:V)(c:Hp)(e:Exit)(st:bx):Prop:=
 (match e with| .normal=>True| .ret=>True|_=>False)/\tW P rs st=some r/\∀n b,c.lookup n=some b->st.heap.lookup n=some b
def iH(n:Nat)(args:List V1)(H:List eQ):bx:=⟨args.map V.v++List.replicate (n-args.length) (.bL []),hp H,[],H.length⟩
theorem eC.intro{P f fn c}(hf:P.funcs[f]?=some fn) (hname:(fn.name== "runtime.NumGoroutine")=false) (hb:fn.body=some c) {n} (hn:fn.ntmps=n) {rs} (hrs:fn.results=rs.toArray) {args} {H} {r} {H'}
 (h:∀X:Fx,X.P=P->X.k0=H.length->Aw X c (nD P rs r H') (iH n args H)):eC P f args H r H' where
 own:=⟨fn,hf,hname,by rw[hb];rfl⟩
 call :=λw M N vals hM hNl YP hNi hH hsz hv=>by
  subst hn;have aAB:rs=fn.results.toList:=by rw[hrs]
  subst aAB
  let X:Fx:=⟨P,M,λg=>∃n x,N n=some x/\x.g=some g,w,N,H.length,[]⟩
  refine calls_of_wp hf hb (wp_mono (h X rfl rfl _ w ?_) ?_)
  .refine⟨⟨N,[]⟩,?_,rfl⟩;exact {
    defers:=rfl
    bu:=rfl
    frame:=Frame.refl _ _
    iS:=hM
    eJ:=hNl
    names:=λn x g h1 h2=>⟨(YP n x g h1 h2).1,.inl ⟨n,x,h1,h2⟩,(YP n x g h1 h2).2⟩
    inj:=hNi
    fM:=λ_ _=>.inr rfl
    jh:=de _
    kz:=λn hn=>by cases hn
    size:=by simp[iH,hsz]
    tmps :=λi v hi=>by
     simp only[iH]at hi;rw[lg]at hi;simp only[bD]at hi;split at hi
     .rename_i hlt;simp only[cX,bY]at hi;obtain⟨x,hx,rfl⟩:=hi;obtain⟨u,h1,h2⟩:=hv i x hx;exact⟨u,by grind,h2⟩
     .rename_i hlt;rw[Oo]at hi;split at hi
      .rename_i NG;simp at hi;subst hi;exact⟨undef,by grind,SO _ _ _⟩
      .cases hi
    heap:=λn b hl=>by
     simp only[iH,anT]at hl;grind}
  .rintro e a' w' ⟨st',⟨he,hr,hHl⟩,E,hR,hg⟩;obtain⟨u,h1,h2⟩:=amn (X:=X) hR hg hr;have hback:JZ N H.length w w' E:={
    bu:=hR.bu.trans hg
    names:=λn x g k1 k2=>by
     obtain⟨k3,k4,_⟩:=hR.names n x g k1 k2;grind
    inj:=hR.inj
    fM:=hR.fM}
   have FT:∀n b,H'.lookup n=some b->RB P M E w' n b:=λn b hl=>hR.row (by rw[hg];simp) (hHl n b hl)
   cases e with
   |normal=>exact⟨hR.defers,u,h1,u,E,rfl,hR.frame,hback,FT,h2⟩
   |ret=>exact⟨hR.defers,u,h1,u,E,rfl,hR.frame,hback,FT,h2⟩
   |exit=>exact he.elim
   |goto=>exact he.elim
   |panic=>exact he.elim
   |outgrown=>exact he.elim
end
section
open Ieee
theorem M9(c:Toward)(s:Bool){m:Nat}(e:0<m)(d:Nat):c.cut s (m*2^d) d=m:=by
 have hp:0<2^d:=Oq d;have f:d<=(m*2^d).log2:=(Nat.le_log2 (by have:=x9 e hp;omega)).2 (Nat.le_mul_of_pos_left _ e);unfold Toward.cut;rw[nQ (by omega),Nat.one_shiftLeft];simp only[Nat.mul_div_cancel _ hp,Nat.mul_mod_left];cases c<;>simp<;>omega
theorem aoW(c:Toward)(s:Bool)(d:Nat):c.cut s 0 d=0:=by
 unfold Toward.cut;have hp:0<1<<<min d ((0:Nat).log2+2):=by rw[Nat.one_shiftLeft];exact Oq _
 simp only[Nat.zero_div,Nat.zero_mod];cases c<;>simp
theorem Hs(s:Bool){n k:Nat}(r:0<n)(h:n<2^53)(x:k<=1074):
 double.nearest s (n*2^k) (-(k:Int))=double.word s ((n.log2+1022)*4503599627370496+n*2^ (52-n.log2))/\n.log2<=52/\4503599627370496<=n*2^ (52-n.log2)/\n*2^ (52-n.log2)<9007199254740992:=by
 obtain⟨L,t⟩:∃L,n.log2=L:=⟨_,rfl⟩
 obtain⟨g,u⟩:=(Nat.log2_eq_iff (by omega)).1 t;have d:L<=52:=by
  have:=ZQ g h;have:=(Nat.pow_lt_pow_iff_right (by decide)).1 this;omega
 have hp:0<2^k:=Oq k;have e:(n*2^k).log2=L+k:=by
  refine(Nat.log2_eq_iff (by have:=x9 r hp;omega)).2 ⟨?_,?_⟩
  .rw[x_];exact gi _ g
  .rw[show L+k+1=(L+1)+k by omega,x_];exact aCq u hp
 have i:2^L*2^ (52-L)=4503599627370496:=by rw[<-x_,show L+(52-L)=52 by omega]
 have j:2^ (L+1)*2^ (52-L)=9007199254740992:=by rw[<-x_,show L+1+(52-L)=53 by omega]
 have b1:4503599627370496<=n*2^ (52-L):=by rw[<-i];exact gi _ g
 have v:n*2^ (52-L)<9007199254740992:=by rw[<-j];exact aCq u (Oq _)
 rw[t];refine⟨?_,d,b1,v⟩;have f:n*2^k≠0:=by have:=x9 r hp;omega
 have l:(double.fractionBits:Int)=52:=rfl;have o:double.leastPlace= -1074:=by decide
 have p:double.binade=4503599627370496:=by decide
 have q:double.infRung=2047*4503599627370496:=by decide
 have c:max (-(k:Int)+((L+k:Nat):Int) -52) (-1074)=(L:Int) -52:=by omega
 unfold Format.nearest;rw[bH f,e,l,o,p,q];simp only[c];have hcut:Toward.even.cut s ((n*2^k)<<< (-(k:Int) - ((L:Int) -52)).toNat) ((L:Int) -52- -(k:Int)).toNat=n*2^ (52-L):=by
  by_cases y:k+L<=52
  .rw[show(-(k:Int) - ((L:Int) -52)).toNat=52-L-k by omega,show((L:Int) -52- -(k:Int)).toNat=0 by omega,Bh,Nat.mul_assoc,<-x_,show k+(52-L-k)=52-L by omega];have:=M9 .even s (m:=n*2^ (52-L)) (by omega) 0
   rwa [Nat.pow_zero,x7]at this
  .rw[show(-(k:Int) - ((L:Int) -52)).toNat=0 by omega,show((L:Int) -52- -(k:Int)).toNat=k+L-52 by omega,Nat.shiftLeft_zero];have:=M9 .even s (m:=n*2^ (52-L)) (by omega) (k+L-52)
   rwa [Nat.mul_assoc,<-x_,show 52-L+(k+L-52)=k by omega]at this
 rw[hcut,show((L:Int) -52- -1074).toNat=L+1022 by omega,nQ (by omega)]
theorem axD(s:Bool){L M:Nat}(q:L<=52)(r:4503599627370496<=M)(t:M<9007199254740992):
 double.read (double.word s ((L+1022)*4503599627370496+M))=.number s M ((L:Int) -52):=by
 obtain⟨g,i⟩:∃g,(L+1022)*4503599627370496+M=g:=⟨_,rfl⟩
 have c:double.signWeight=9223372036854775808:=by decide
 have d:double.leastPlace= -1074:=by decide
 have e:double.binade=4503599627370496:=by decide
 have f:double.infRung=2047*4503599627370496:=by decide
 have h:double.word s g/double.signWeight%2=s.toNat/\double.word s g%double.signWeight=g:=by
  unfold Format.word;rw[c];cases s
  .simp only[pS,if_false,Bool.toNat_false];omega
  .simp only[if_true,Bool.toNat_true];omega
 rw[i];have j:g%4503599627370496=M-4503599627370496:=by omega
 have k:g/4503599627370496=L+1023:=by omega
 have l:¬g<4503599627370496:=by omega
 have m:g<2047*4503599627370496:=by omega
 have n:4503599627370496+(M-4503599627370496)=M:=by omega
 have o:(-1074:Int)+((L+1023-1:Nat):Int)=(L:Int) -52:=by omega
 have p:(s.toNat==1)=s:=by cases s<;>rfl
 unfold Format.read;simp only[h.1,h.2,e,f,d];rw[bH l,bA m,j,k,n,o,p]
def fK(a:Int):Nat:=FloatKind.f64.nearest a
theorem R0:fK 0=0:=by decide
theorem Pk{a:Int}(h:a.natAbs<2^53){k:Nat}(c:k<=1074):double.nearest (decide (a<0)) (a.natAbs*2^k) (-(k:Int))=fK a:=by
 by_cases f:a.natAbs=0
 .obtain rfl:a=0:=by omega
  show double.nearest (decide ((0:Int)<0)) (0*2^k) _=_;rw[Bg,R0];rfl
 .have d:=(Hs (decide (a<0)) (n:=a.natAbs) (by omega) h c).1;have e:=(Hs (decide (a<0)) (n:=a.natAbs) (by omega) h (k:=0) (by omega)).1;rw[d,<-e];show _=double.nearest (decide (a<0)) a.natAbs 0;rw[Nat.pow_zero,x7];rfl
theorem JX{a:Int}(h:a.natAbs<2^53):∃k:Nat,k<=1074/\double.read (fK a)=.number (decide (a<0)) (a.natAbs*2^k) (-(k:Int)):=by
 by_cases i:a.natAbs=0
 .obtain rfl:a=0:=by omega
  obtain⟨k,c⟩:∃k:Nat,k=1074:=⟨_,rfl⟩
  refine⟨k,by omega,?_⟩;rw[R0,show((0:Int).natAbs*2^k)=0 from Bg _];subst c;rfl
 .obtain⟨d,e,f,g⟩:=Hs (decide (a<0)) (n:=a.natAbs) (by omega) h (k:=0) (by omega);refine⟨52-a.natAbs.log2,by omega,?_⟩;rw[<-Pk h (k:=0) (by omega),d,axD _ e f g];congr 1;omega
theorem Kv(a:Int)(k u:Nat):signed (decide (a<0)) (a.natAbs*2^k) u=a*2^ (k+u):=by
 unfold signed;rw[Bh,Nat.mul_assoc,<-x_];by_cases h:a<0
 .rw[decide_eq_true h,bA rfl,Og,Int.natCast_pow,show((a.natAbs:Nat):Int)= -a by omega,Int.neg_mul,Int.neg_neg];rfl
 .rw[decide_eq_false h,bH (by decide),Og,Int.natCast_pow,show((a.natAbs:Nat):Int)=a by omega];rfl
theorem Uw{a b:Int}(m:a.natAbs<2^53)(n:b.natAbs<2^53)(d:(a+b).natAbs<2^53):floatBits .add .f64 (fK a) (fK b)=some (fK (a+b)):=by
 obtain⟨i,t,o⟩:=JX m;obtain⟨j,u,p⟩:=JX n;show((double.read (fK a)).sum (double.read (fK b))).map double.write=_;rw[o,p];unfold Datum.sum;simp only[b_];have e:min (-(i:Int)) (-(j:Int))= -((max i j:Nat):Int):=by omega
 rw[e];have f:(-(i:Int) - -((max i j:Nat):Int)).toNat=max i j-i:=by omega
 have g:(-(j:Int) - -((max i j:Nat):Int)).toNat=max i j-j:=by omega
 rw[f,g,Kv,Kv,show i+(max i j-i)=max i j by omega,show j+(max i j-j)=max i j by omega,<-Int.add_mul];obtain⟨K,q⟩:∃K,max i j=K:=⟨_,rfl⟩
 rw[q];have hp:(0:Int)<2^K:=Int.pow_pos (by decide);have c:(if(a+b)*2^K=0 then decide (a<0)&&decide (b<0)else decide ((a+b)*2^K<0))=decide (a+b<0):=by
  by_cases l:a+b=0
  .rw[l,Int.zero_mul,bA rfl];by_cases r:a<0
   .rw[decide_eq_false (show¬b<0 by omega)];simp
   .rw[decide_eq_false r];simp
  .rw[bH (λh=>(Int.mul_eq_zero.1 h).elim l (by omega))];refine decide_eq_decide.2 ⟨λh=>?_,λh=>Int.mul_neg_of_neg_of_pos h hp⟩;apply Int.not_le.1;intro s;have:=Int.mul_nonneg s (Int.le_of_lt hp);omega
 rw[c,Int.natAbs_mul,Int.natAbs_pow];exact cO some (Pk d (k:=K) (by omega))
theorem aix{a:Int}(h:a.natAbs<2^53):(FloatKind.f64.decode (fK a)).toInt .zero=some a:=by
 obtain⟨k,f,c⟩:=JX h;show(double.read (fK a)).toInt .zero=_;rw[c];unfold Datum.toInt Datum.integral;simp only;have d:Toward.zero.cut (decide (a<0)) ((a.natAbs*2^k)<<< (-(k:Int)).toNat) (- -(k:Int)).toNat=a.natAbs:=by
  rw[show(-(k:Int)).toNat=0 by omega,show(- -(k:Int)).toNat=k by omega,Nat.shiftLeft_zero];by_cases e:a.natAbs=0
  .rw[e,Bg];exact aoW _ _ _
  .exact M9 _ _ (by omega) _
 rw[d];have:=Kv a 0 0;rw[Nat.pow_zero,x7]at this;rw[this,Int.pow_zero,Int.mul_one]
theorem abd{a:Int}(h:a.natAbs<9007199254740992):floatToIntVal .f64 (fK a) .i64=some a:=by
 unfold floatToIntVal;rw[aix h];dsimp only;rw[bA];simp[IntKind.min,IntKind.max,IntKind.signed,IntKind.bits];omega
end
end
end Go.Proofs.YtiikkkhcolcebaaGreatDoor
