/- A part. -/
import Derived.Test.YtiikkkhcolcebaaGreatDoorG6
import Derived.BigQuiet
set_option linter.all false
set_option maxHeartbeats 4000000
set_option maxRecDepth 100000
namespace Go.Proofs.YtiikkkhcolcebaaGreatDoor
noncomputable section
section
open Go.RowKit
open Classical
def uV:Op->Bool
 |.extract _ _=>true
 |.move (.tmp _)=>true
 |.assign (.tmp _)=>true
 |_=>false
def bx.rU(st:bx):Op->List Nat
 |.extract _ _=>[]
 |.move (.tmp _)=>[]
 |.assign (.tmp _)=>[]
 |op=>(op.operands.toList.filterMap st.arg).flatMap V.names
def iE(st st':bx)(n:Nat):Prop:=st.heap.lookup n=st'.heap.lookup n/\(n∈st.bu↔n∈st'.bu)
section
variable{st st':bx}
theorem qS{c}(h:∀n∈c.names,iE st st' n):st.view c=st'.view c:=by
 cases c with
 |own n=>simp only[bx.view,(h n (by simp[C.names])).1]
 |sub n lo len=>simp only[bx.view,(h n (by simp[C.names])).1]
 |p q=>cases q<;>rfl
 |_=>rfl
theorem aeZ{c size i}(h:∀n∈c.names,iE st st' n):st.elem size i c=st'.elem size i c:=by
 cases c with
 |own n=>simp only[bx.elem,(h n (by simp[C.names])).1]
 |sub n lo len=>simp only[bx.elem,(h n (by simp[C.names])).1]
 |p q=>cases q<;>rfl
 |_=>rfl
theorem abh{c size l k}(h:∀n∈c.names,iE st st' n):st.part size l k c=st'.part size l k c:=by
 cases c with
 |own n=>simp only[bx.part,(h n (by simp[C.names])).1]
 |sub n lo len=>simp only[bx.part,(h n (by simp[C.names])).1]
 |p q=>cases q<;>rfl
 |_=>rfl
theorem abJ{c}(h:∀n∈c.names,iE st st' n):st.nG c=st'.nG c:=by
 cases c with
 |sub n lo len=>rfl
 |_=>simp only[bx.nG];rw[qS h]
theorem arQ{c}(h:∀n∈c.names,iE st st' n):st.sink c=st'.sink c:=by
 cases c with
 |own n=>simp only[bx.sink,(h n (by simp[C.names])).1]
 |sub n lo len=>simp only[bx.sink,(h n (by simp[C.names])).1]
 |_=>rfl
theorem MC:∀{cs},(∀c∈cs,∀n∈c.names,iE st st' n)->st.sinks cs=st'.sinks cs
 |[],_=>rfl
 |c::cs,h=>by
  have d:=arQ (h c (by simp));have e:=MC (cs:=cs) (λf a=>h f (by simp[a]));simp only[bx.sinks,d,e]
theorem UA{e c}(h:∀n∈c.names,iE st st' n):st.hX e c=st'.hX e c:=by
 cases c with
 |own n=>simp only[bx.hX,(h n (by simp[C.names])).1]
 |sub n lo len=>cases lo<;>simp only[bx.hX,(h n (by simp[C.names])).1]
 |_=>rfl
theorem Ef{x}(h:st.arg x=st'.arg x):st.fG x=st'.fG x:=by unfold bx.fG;rw[h]
theorem Ra(y:V1):∀c∈y.cells,∀n∈c.names,n∈y.names:=by
 cases y with
 |c c=>intro f a n d;simp[V1.cells]at a;subst a;exact d
 |agg cs=>intro c e n d;exact sM.2 ⟨c,e,d⟩
theorem VY:∀{xs},(∀x∈xs,st.arg x=st'.arg x/\∀v,st.arg x=some v->∀n∈v.names,iE st st' n)->st.lits xs=st'.lits xs
 |[],_=>rfl
 |x::xs,h=>by
  simp only[bx.lits];rw[VY (xs:=xs) (λy d=>h y (by simp[d])),<-Ef (h x (by simp)).1]
  cases a:st.fG x with
  |none=>rfl
  |some y=>
   have:st.arg x=some (.v y):=by
    unfold bx.fG at a;split at a
    .simp_all
    .cases a
   simp only[MC (λc e n f=>(h x (by simp)).2 _ this n (Ra y c e n f))]
theorem Ft{α a:Type}{f g:α->Option a}:∀{l:List α},(∀x∈l,f x=g x)->l.mapM f=l.mapM g
 |[],_=>rfl
 |x::l,h=>by
  simp only[rk,h x (by simp),Ft (l:=l) (λy c=>h y (by simp[c]))]
theorem MY{o k}(h:∀x,o=some x->st.arg x=st'.arg x):st.num o k=st'.num o k:=by
 cases o with
 |none=>rfl
 |some x=>simp only[bx.num,h x rfl]
theorem LI{ι L a c}(e:∀n∈L,iE st st' n)(h:rO st ι L a c):rO st' ι L a c:=by
 cases a with
 |p q=>
  rcases h with h| ⟨rows,f,g,d⟩
  .exact .inl h
  .exact .inr ⟨rows,f,by rw[<-qS (λn i=>e n (d n i))];exact g,d⟩
 |dead=>trivial
 |_=>exact h
theorem acU{ι L a x}(d:∀n∈L,iE st st' n)(h:xH st ι L a x):xH st' ι L a x:=by
 cases a with
 |c e=>
  cases x with
  |c c=>exact LI d h
  |agg=>exact h.elim
 |agg f=>
  cases x with
  |c=>exact h.elim
  |agg cs=>exact⟨h.1,λi e g=>let⟨c,j,k⟩:=h.2 i e g; ⟨c,j,LI d k⟩⟩
theorem arc{ι L a b}(d:∀n∈L,iE st st' n)(h:xk st ι L a b):xk st' ι L a b:=by
 cases a with
 |box e=>
  cases b with
  |box cs=>exact⟨h.1,λi f g=>let⟨c,j,k⟩:=h.2 i f g; ⟨c,j,LI d k⟩⟩
  |_=>exact h.elim
 |row=>cases b<;>exact h
 |map=>cases b<;>exact h
theorem aon{P d f xs v G rd}(I:∀n∈rd,iE st st' n)(h:zf P st d f xs v G rd):zf P st' d f xs v G rd:=by
 obtain⟨g,H,r,J,ι,L,K,hlen,t,u,m,j,o,M,w,y,z,A,k,p,B,C,N,e,rfl⟩:=h;have l:∀n∈L,iE st st' n:=λn c=>I n (x5 _ c)
 have a:∀n∈ι,iE st st' n:=λn c=>I n (xZ _ c)
 refine⟨g,H,r,J,ι,L,K,hlen,t,u,λi O D=>?_,λi Q D=>?_,λn c=>⟨λE=>(o n c).1 ((a n c).2.2 E),(o n c).2⟩,λn c E=>M n c ((l n c).2.2 E),w,y,z,A,k,p,B,C,N,⟨e.1,λn b R=>(e.2 n b R).imp id λq=>⟨q.1,q.2.1,by rw[<-(a n q.1).1];exact q.2.2⟩⟩,rfl⟩
 .obtain⟨x,s,F⟩:=m i O D;exact⟨x,s,acU l F⟩
 .obtain⟨n,b,s,F,S⟩:=j i Q D;exact⟨n,b,s,by rw[<-(a n (eb s)).1];exact F,arc l S⟩
theorem alE{op x v}(a:uV op=false)(c:x∈op.operands.toList)(d:st.arg x=some v){n}(e:n∈v.names):n∈st.rU op:=by
 have:st.rU op=(op.operands.toList.filterMap st.arg).flatMap V.names:=by unfold bx.rU;split<;>first|rfl|cases a
 rw[this];exact sM.2 ⟨v,sR.2 ⟨x,c,d⟩,e⟩
theorem aAl{P Sp d op r}(z:uV op=false->∀x∈op.operands.toList,st.arg x=st'.arg x)(E:uV op=true->∀t,Operand.tmp t∈op.operands.toList->st.tmps[t]?=st'.tmps[t]?)
 (ht:∀n∈st.rU op,iE st st' n) (hr:∀n∈r.rd,iE st st' n) (H:cq P Sp st d op=some r):cq P Sp st' d op=some r:=by
 have M:uV op=false->∀x∈op.operands.toList,∀v,st.arg x=some v->∀n∈v.names,iE st st' n:=λN x E v T n M=>ht n (alE N E T M)
 have F:uV op=false->∀x∈op.operands.toList,∀c,st.arg x=some (.v (.c c))->∀n∈c.names,iE st st' n:=λN x E c T n ab=>M N x E _ T n ab
 rw[<-H];symm
 cases op with
 |move x=>
  cases x with
  |tmp t=>simp only[cq,E rfl t (by simp[Op.operands])]
  |const v=>have e:=z rfl (.const v) (by simp[Op.operands]);simp only[cq,e]
  |global v=>rfl
  |func v=>rfl
 |assign x=>
  cases x with
  |tmp t=>simp only[cq,E rfl t (by simp[Op.operands])]
  |const v=>have e:=z rfl (.const v) (by simp[Op.operands]);simp only[cq,e]
  |global v=>rfl
  |func v=>rfl
 |pick c x y=>
  have w:=z rfl;simp only[cq,<-w c (by simp[Op.operands]),<-w x (by simp[Op.operands]),<-w y (by simp[Op.operands])]
 |alloc e=>rfl
 |box e x=>
  have w:=z rfl;simp only[cq,<-Ef (w x (by simp[Op.operands]))]
 |build t parts=>
  have w:=z rfl;simp only[cq,w3];rw[Ft (g:=λx=>(st'.fG x.2).map λy=>(x.1,y.cells)) (λx E=>by rw[Ef (w x.2 (by simp[Op.operands];exact⟨x.1,by simpa using E⟩))])]
 |buildSlice t len parts=>
  have w:=z rfl;simp only[cq,wN];rw[VY (st':=st') (λx E=>by
   simp only[fE]at E;obtain⟨y,hy,rfl⟩:=E;have hm:y.2∈(Op.buildSlice t len parts).operands.toList:=by simp[Op.operands];exact⟨y.1,by simpa using hy⟩
   exact⟨w _ hm,λv T=>M rfl _ hm v T⟩)]
 |load t x=>
  have w:=z rfl;have B:=w x (by simp[Op.operands]);have D:=F rfl x (by simp[Op.operands]);simp only[cq,oG,<-B]
  cases h:st.arg x with
  |none=>rfl
  |some v=>
   cases v with
   |bL=>rfl
   |v v=>
    cases v with
    |agg=>rfl
    |c c=>
     have G:=D c h
     cases c with
     |ptr n off=>simp only[(G n (by simp[C.names])).1]
     |dH n i j=>simp only[(G n (by simp[C.names])).1]
     |_=>rfl
 |store t x y=>
  have w:=z rfl;have B:=w x (by simp[Op.operands]);have D:=w y (by simp[Op.operands]);have G:=F rfl x (by simp[Op.operands]);have O:=M rfl y (by simp[Op.operands]);simp only[cq,uF,<-B,<-D]
  cases h:st.arg x with
  |none=>rfl
  |some v=>
   cases v with
   |bL=>rfl
   |v v =>
    cases v with
    |agg=>rfl
    |c c=>
     have I:=G c h
     cases ac:st.arg y with
     |none=>cases c<;>rfl
     |some vy=>
      have h6:=O vy ac
      cases vy with
      |bL=>cases c<;>rfl
      |v vy=>
       cases c with
       |ptr n off=>simp only[(I n (by simp[C.names])).1]
       |dH n i j=>simp only[(I n (by simp[C.names])).1,MC (st':=st') (λc F n M=>h6 n (Ra vy c F n M))]
       |_=>rfl
 |nilCheck x=>
  have w:=z rfl;simp only[cq,<-w x (by simp[Op.operands])]
 |binOp op t x y yt=>
  have w:=z rfl;simp only[cq,<-w x (by simp[Op.operands]),<-w y (by simp[Op.operands])]
 |unOp op t x=>
  have w:=z rfl;simp only[cq,<-w x (by simp[Op.operands])]
 |convert s t x=>
  have w:=z rfl;have B:=w x (by simp[Op.operands]);have D:=F rfl x (by simp[Op.operands]);have k1:ku P st' s t x=ku P st s t x:=by
   simp only[ku,<-B]
   cases h:st.arg x with
   |none=>rfl
   |some v=>
    cases v with
    |bL=>rfl
    |v v=>
     cases v with
     |agg=>rfl
     |c c=>
      have e0:=qS (st:=st) (st':=st') (D c h)
      cases c with
      |p q=>
       cases q with
       |sc v=>cases v<;>first|rfl|simp only[e0]
       |sl=>first|rfl|simp only[e0]
       |nl=>first|rfl|simp only[e0]
       |any=>first|rfl|simp only[e0]
      |_=>first|rfl|simp only[e0]
  have k2:se P st' s t x=se P st s t x:=by
   simp only[se,<-B]
   cases h:st.arg x with
   |none=>rfl
   |some v=>
    cases v with
    |bL=>rfl
    |v v=>
     cases v with
     |agg=>rfl
     |c c=>
      cases c with
      |own n=>simp only[(D _ h n (by simp[C.names])).1]
      |_=>rfl
  simp_all[cq]
 |makeSlice t l c=>
  have w:=z rfl;simp only[cq,xq,<-w l (by simp[Op.operands]),<-w c (by simp[Op.operands])]
 |sliceToArrayPointer t x=>
  have w:=z rfl;simp only[cq,xz,<-w x (by simp[Op.operands])]
 |slice t x lo Q mx=>
  have w:=z rfl
  cases mx with
  |some mx=>
   cases Q with
   |none=>rfl
   |some Q=>
    have G:st.num lo 0=st'.num lo 0:=MY (λo U=>w o (by simp[Op.operands,U]));simp only[cq,w_,<-w x (by simp[Op.operands]),<-w Q (by simp[Op.operands]),<-w mx (by simp[Op.operands]),<-G]
  |none =>
   have B:=w x (by simp[Op.operands]);have D:=F rfl x (by simp[Op.operands]);have G:∀k,st.num lo k=st'.num lo k:=λk=>MY (λo U=>w o (by simp[Op.operands,U]))
   have O:∀k,st.num Q k=st'.num Q k:=λk=>MY (λo U=>w o (by simp[Op.operands,U]))
   have k1:lU P st' t x lo Q=lU P st t x lo Q:=by
    simp only[lU,<-B,<-G,<-O]
    cases h:st.arg x with
    |none=>rfl
    |some v=>
     cases v with
     |bL=>rfl
     |v v=>
      cases v with
      |agg=>rfl
      |c c=>
       have I:=D c h;have e0:=abJ (st:=st) (st':=st') I;have V:=λa b k=>abh (st:=st) (st':=st') (size:=a) (l:=b) (k:=k) I
       cases c with
       |p q=>
        cases q with
        |sc v=>cases v<;>first|rfl|simp only[e0,V]
        |sl=>first|rfl|simp only[e0,V]
        |nl=>first|rfl|simp only[e0,V]
        |any=>first|rfl|simp only[e0,V]
       |_=>first|rfl|simp only[e0,V]
   have k2:su P st' t x=su P st t x:=by
    simp only[su,<-B]
    cases h:st.arg x with
    |none=>rfl
    |some v=>
     cases v with
     |bL=>rfl
     |v v=>
      cases v with
      |agg=>rfl
      |c c=>
       cases c with
       |ptr n off=>simp only[(D _ h n (by simp[C.names])).1]
       |_=>rfl
   simp_all[cq]
 |makeMap t r=>
  cases r<;>rfl
 |mapUpdate t m k x=>
  have w:=z rfl;have B:=w m (by simp[Op.operands]);have D:=w k (by simp[Op.operands]);have G:=w x (by simp[Op.operands]);have O:=F rfl m (by simp[Op.operands]);simp only[cq,wF,<-B,<-D,<-G]
  cases h:st.arg m with
  |none=>rfl
  |some v=>
   cases v with
   |bL=>rfl
   |v v=>
    cases v with
    |agg=>rfl
    |c c=>
     cases c with
     |mp n=>simp only[(O _ h n (by simp[C.names])).1]
     |_=>rfl
 |lookup t m k ok=>
  have w:=z rfl;have B:=w m (by simp[Op.operands]);have D:=w k (by simp[Op.operands]);have O:=F rfl m (by simp[Op.operands]);simp only[cq,xJ,<-B,<-D]
  cases h:st.arg m with
  |none=>rfl
  |some v=>
   cases v with
   |bL=>rfl
   |v v=>
    cases v with
    |agg=>rfl
    |c c=>
     cases c with
     |mp n=>simp only[(O _ h n (by simp[C.names])).1]
     |_=>rfl
 |fieldAddr t x f=>
  have w:=z rfl;simp only[cq,qc,<-w x (by simp[Op.operands])]
 |indexAddr t x i=>
  have w:=z rfl;have B:=w x (by simp[Op.operands]);have D:=w i (by simp[Op.operands]);have G:=F rfl x (by simp[Op.operands]);simp only[cq,nf,<-B,<-D]
  cases h:st.arg x with
  |none=>rfl
  |some v=>
   cases v with
   |bL=>rfl
   |v v=>
    cases v with
    |agg=>rfl
    |c c=>
     have e0:=λa b=>aeZ (st:=st) (st':=st') (size:=a) (i:=b) (G c h)
     cases c with
     |p q=>
      simp_all
     |_=>first|rfl|simp only[e0]
 |index t x i=>
  have w:=z rfl;simp only[cq,<-w x (by simp[Op.operands]),<-w i (by simp[Op.operands])]
 |extract t i=>
  cases t with
  |tmp t=>simp only[cq,E rfl t (by simp[Op.operands])]
  |_=>rfl
 |makeFunc fn first captured=>
  have w:=z rfl
  cases fn with
  |func f=>
   simp only[cq];rw[Ft (g:=st'.cap) (λx E=>by
    unfold bx.cap;rw[w x (by simp[Op.operands];exact .inr (by simpa using E))])]
  |_=>rfl
 |call c =>
  have w:=z rfl;obtain⟨callee,args,ts⟩:=c
  cases callee with
  |value f=>
   simp only[cq]at H⊢;have hf:=w f (by simp[Op.operands,Call.operands]);have K:st.callee f=st'.callee f:=by
    unfold bx.callee
    cases f with
    |func=>rfl
    |_=>simp only[hf]
   have A:args.toList.mapM st.fG=args.toList.mapM st'.fG:=Ft (λx E=>Ef (w x (by simp[Op.operands,Call.operands];simp_all)));unfold tX at H⊢;rw[K,A]at H;split at H
   .split at H
    .rename_i R J ad W;cases H;simp only[K,R,A,J,ad];rw[bA (aon hr W),bA W]
    .cases H
   .cases H
  |invoke=>rfl
  |builtin b =>
   simp only[cq];have B:∀x∈args.toList,st.arg x=st'.arg x:=λx E=>w x (by simp[Op.operands,Call.operands];simpa using E)
   have D:∀x∈args.toList,∀c,st.arg x=some (.v (.c c))->∀n∈c.names,iE st st' n:=λx E=>F rfl x (by simp[Op.operands,Call.operands];simpa using E)
   unfold kB;split
   .rename_i x t A _;rw[A]at B D;simp only[ov,<-B x (by simp)]
    cases h:st.arg x with
    |none=>rfl
    |some v=>
     cases v with
     |bL=>rfl
     |v v=>
      cases v with
      |agg=>rfl
      |c c=>
       have e0:=qS (st:=st) (st':=st') (D x (by simp) c h)
       cases c with
       |p q=>
        cases q with
        |sc v=>cases v<;>first|rfl|simp only[e0]
        |sl=>first|rfl|simp only[e0]
        |nl=>first|rfl|simp only[e0]
        |any=>first|rfl|simp only[e0]
       |_=>first|rfl|simp only[e0]
   .rename_i s x t S A _;rw[A]at B D;have key :na P st' d t s x=na P st d t s x:=by
     simp only[na,<-B s (by simp),<-B x (by simp)]
     cases fr P t with
     |none=>rfl
     |some e=>
      simp only
      cases iR P e with
      |none=>rfl
      |some nb=>
       cases L:st.arg s with
       |none=>rfl
       |some vs=>
        cases vs with
        |bL=>rfl
        |v vs=>
         cases vs with
         |agg=>rfl
         |c cs=>
          cases h:st.arg x with
          |none=>rfl
          |some v=>
           cases v with
           |bL=>rfl
           |v v=>
            cases v with
            |agg=>rfl
            |c c=>simp only[qS (st':=st') (D x (by simp) c h),UA (st':=st') (D s (by simp) cs L)]
    have X : qg P st' d t S s x=qg P st d t S s x:=by
     have q1:o7 P st' d t S s x=o7 P st d t S s x:=by
      simp_all[o7]
     have q2 : uN P st' d t S s x=uN P st d t S s x:=by
      simp only[uN,<-B s (by simp),<-B x (by simp)]
      cases fr P t with
      |none=>rfl
      |some e =>
       cases L:st.arg s with
       |none=>rfl
       |some vs =>
        cases vs with
        |bL=>rfl
        |v vs =>
         cases vs with
         |agg=>rfl
         |c cs =>
          have F:=λe=>UA (st:=st) (st':=st') (e:=e) (D s (by simp) cs L)
          cases st.arg x with
          |none=>rfl
          |some v=>
           cases v with
           |bL=>rfl
           |v v =>
            cases v with
            |agg=>rfl
            |c c =>
             cases c with
             |p q=>
              cases q with
              |sc u=>
               cases u with
               |int k n=>
                cases k<;>first
                 |rfl
                 |(cases P.underlying S with
                  |none=>rfl
                  |some dd=>cases dd<;>first|rfl|simp only[F])
               |_=>rfl
              |sl=>rfl
              |nl=>rfl
              |any=>rfl
             |_=>rfl
     simp_all[qg]
    have Y:sC P st' t s x=sC P st t s x:=by
     simp only[sC,<-B s (by simp),<-B x (by simp)]
     cases L:st.arg s with
     |none=>rfl
     |some vs=>
      cases vs with
      |bL=>rfl
      |v vs=>
       cases vs with
       |agg=>rfl
       |c cs=>
        cases cs with
        |sub m lo len=>
         cases lo with
         |succ lo=>rfl
         |zero=>
          cases h:st.arg x with
          |none=>rfl
          |some v=>
           cases v with
           |bL=>rfl
           |v v=>
            cases v with
            |agg=>rfl
            |c c=>simp only[qS (st':=st') (D x (by simp) c h),(D s (by simp) _ L m (by simp[C.names])).1]
        |_=>rfl
    have Z :sB P st' d t s x=sB P st d t s x:=by
     simp only[sB,<-B s (by simp),<-B x (by simp)]
     cases fr P t with
     |none=>rfl
     |some e =>
      simp only
      cases iR P e with
      |none=>rfl
      |some nb=>
       cases L:st.arg s with
       |none=>rfl
       |some vs=>
        cases vs with
        |bL=>rfl
        |v vs=>
         cases vs with
         |agg=>rfl
         |c cs=>
          cases cs with
          |p q=>
           cases q with
           |nl=>
            cases h:st.arg x with
            |none=>rfl
            |some v=>
             cases v with
             |bL=>rfl
             |v v=>
              cases v with
              |agg=>rfl
              |c c=>simp only[qS (st':=st') (D x (by simp) c h)]
           |_=>rfl
          |_=>rfl
    have aa:pt P st' d t s x=pt P st d t s x:=by
     unfold pt;rw[key,Z]
    rw[aa,X,Y]
   .rename_i x y t _ A _;rw[A]at B D;have key :ql P st' t x y=ql P st t x y:=by
     simp only[ql,<-B x (by simp),<-B y (by simp)]
     cases fr P t with
     |none=>rfl
     |some e=>
      cases L:st.arg x with
      |none=>rfl
      |some vs=>
       cases vs with
       |bL=>rfl
       |v vs=>
        cases vs with
        |agg=>rfl
        |c cs=>
         cases h:st.arg y with
         |none=>rfl
         |some v=>
          cases v with
          |bL=>rfl
          |v v=>
           cases v with
           |agg=>rfl
           |c c=>
            have I:=D x (by simp) cs L;simp only[qS (st':=st') (D y (by simp) c h),qS (st':=st') I]
            cases cs with
            |own n=>first|rfl|simp only[(I n (by simp[C.names])).1]
            |sub n lo len=>first|rfl|simp only[(I n (by simp[C.names])).1]
            |_=>rfl
    rw[key]
   .simp_all
   .simp_all
   .simp_all
   .rename_i m k t tl A _;rw[A]at B D;simp only[w5,<-B m (by simp),<-B k (by simp)]
    cases h:st.arg m with
    |none=>rfl
    |some v=>
     cases v with
     |bL=>rfl
     |v v=>
      cases v with
      |agg=>rfl
      |c c=>
       cases c with
       |mp n=>simp only[(D m (by simp) _ h n (by simp[C.names])).1]
       |_=>rfl
   .simp_all
   .simp_all
   .simp_all
   .rfl
 |_=>rfl
end
def fO{X:Type}(g:Nat->X->X)(S:Nat->Bool)(x:X):Nat->X
 |0=>x
 |n+1=>if S n then g n (fO g S x n)else fO g S x n
theorem rq{X:Type}{g:Nat->X->X}{S a:Nat->Bool}{x:X}:∀{n:Nat},(∀k,k<n->S k=a k\/∀x,g k x=x)->fO g S x n=fO g a x n
 |0,_=>rfl
 |n+1,h=>by
  have ih:=rq (x:=x) (n:=n) (λk c=>h k om);simp only[fO,ih];grind
theorem yl{X Y g g' S x}(f:X->Y)(h:∀k x,f (g k x)=g' k (f x)):∀n,f (fO g S x n)=fO g' S (f x) n
 |0=>rfl
 |n+1=>by
  have ih:=yl (S:=S) (x:=x) f h n;grind[fO]
theorem ze{X g S c}{x:X}{i}(e:S i=false)(a:c i=true)(f:∀k,k≠i->c k=S k):∀{n},i<n->
 ((∀k,i<k->k<n->S k=true->∀x,g k x=x)\/∀x,g i x=x)->fO g c x n=g i (fO g S x n)
 |0,h,_=>om
 |n+1,l,h=>by
  by_cases d:i=n
  .subst d;simp only[fO,e,a,if_true,pS,if_false];congr 1;grind[rq]
  .have ih:=ze (x:=x) (g:=g) e a f (n:=n) om (h.imp (λh k j m=>h k j om) id);simp only[fO,ih,f n om];grind
def valOf:Option bZ->V
 |none=>.bL []
 |some r=>r.v
def qA:Option bZ->gO
 |none=>OM
 |some r=>r.e
def gZ(st:bx)(o:Oper)(r:Option bZ):bx:=(st.dS (qA r)).put o.dst (valOf r)
def bx.raw(st:bx):cF->List Nat
 |.tmp t=>match st.tmps[t]? with
  |some v=>v.names
  |none=>[]
 |.const v=>(ofValue v).names
 |_=>[]
def bx.ni(st:bx):Op->List Nat
 |.extract _ _=>[]
 |.move (.tmp _)=>[]
 |.assign (.tmp _)=>[]
 |op=>op.operands.toList.flatMap st.raw
def um(st:bx)(o:Oper):Option bZ->List Nat
 |none=>[]
 |some r=>st.ni o.op++r.rd
def iT(r:Option bZ):List Nat:=(qA r).ch.map (·.1)++(qA r).bu
def rT(ops:Array Oper)(st:bx)(o:Oper):Option Bool:=match o.guard with
 |none=>some true
 |some (j,want)=>match(ops[j]?).bind (·.dst)with
  |some d=>match st.tmps[d]? with
   |some (.v (.c (.p (.sc (.bool b)))))=>some (b==want)
   |some (.bL [])=>some false
   |_=>none
  |none=>none
theorem Qk{X E st a w}(h:Rel X E st a w){ops o b}(c:rT ops st o=some b):
 Region.wanted o (yielded ops a.tmps)=b:=by
 unfold rT at c;unfold Region.wanted
 cases e:o.guard with
 |none=>simp_all
 |some x=>
  rw[e]at c;simp only at c⊢;split at c
  .rename_i d j;unfold yielded;split at c
   .rename_i k f;obtain⟨u,i,g⟩:=h.tmps d _ f;have:=RP.ek g;simp_all
   .rename_i f;obtain⟨u,i,us,g,l,_⟩:=h.tmps d _ f;simp_all
   .cases c
  .cases c
theorem SO(M)(E)(w):RV M E w (.bL []) undef:=⟨#[],rfl,rfl,λi x h=>by simp at h⟩
def l'(P:cC)(Sp:Spec)(b:Nat)(ops:Array Oper)(st:bx)(k:Nat)(o:Oper):Option (Option bZ):=match rT ops st o with
 |some true=>(cq P Sp st (b+8*k) o.op).map some
 |some false=>some none
 |none=>none
theorem TE{X Sp E st a w b k}(h:Rel X E st a w){ops o}(g:rY X E st (b+8*k))
 {r} (c:l' X.P Sp b ops st k o=some r) {next} {Q}
 (f:∀v w' E',(∀n,¬(b+8*k<=n/\n<b+8*k+8)->E.N n=none->E'.N n=none)->Rel X E' (gZ st o r) (a.put o.dst v) w'->next (a.put o.dst v) w'):
 if Region.wanted o (yielded ops a.tmps)then o.wp X.P a w next Q else next (a.put o.dst undef) w:=by
 unfold l' at c;split at c
 .rename_i d;rw[Qk h d];simp only[bY]at c;obtain⟨r',e,rfl⟩:=c;exact snd h g e (λu w' E' k1 k2 i=>f u w' E' k1 (k2.put o.dst i))
 .rename_i d;rw[Qk h d];cases c;exact f undef w E (λ_ _ h=>h) (h.put o.dst (SO X.M E w))
 .cases c
theorem XV(st)(o)(r)(t:Nat):(gZ st o r).tmps[t]?=if o.dst=some t then(st.tmps[t]?).map (λ_=>valOf r)else st.tmps[t]?:=by
 unfold gZ
 cases a:o.dst with
 |none=>rfl
 |some d=>
  simp only[bx.put,bx.dS,Gp,jq];grind
theorem Lr(st:bx)(d)(v):(st.put d v).heap=st.heap/\(st.put d v).bu=st.bu/\(st.put d v).next=st.next:=by cases d<;>exact⟨rfl,rfl,rfl⟩
theorem Tn(st)(o)(r)(α):List.lookup α (gZ st o r).heap=((qA r).ch.lookup α).or (st.heap.lookup α):=by
 simp_all[gZ,Lr,bx.dS,Rp]
theorem yX(st)(o)(r)(τ):(τ∈(gZ st o r).bu)=(τ∈(qA r).bu\/τ∈st.bu):=by
 simp_all[gZ,Lr,bx.dS]
theorem Lg(st)(o)(r):(gZ st o r).next=st.next:=by
 unfold gZ;rw[(Lr _ _ _).2.2];rfl
theorem Rel.congr{X E st st' a w}(h:Rel X E st a w)(G:∀t:Nat,st'.tmps[t]?=st.tmps[t]?)(H:∀α,List.lookup α st'.heap=List.lookup α st.heap)
 (z:∀τ,τ∈st'.bu↔τ∈st.bu) (m:st'.next=st.next):Rel X ⟨E.N,st'.bu⟩ st' a w:=by
 have q:st'.tmps=st.tmps:=sP G;have B:h_ X.M E ⟨E.N,st'.bu⟩ w w:={
  cell:=λ_ _ _ k y=>⟨k,y⟩
  name:=λn x m=>.inr m
  bu:=λn d=>(z n).2 (by rw[<-h.bu];exact d)}
 exact{
  defers:=h.defers
  bu:=rfl
  frame:=h.frame
  iS:=h.iS
  eJ:=λn x d=>by rw[m];exact h.eJ n x d
  names:=h.names
  inj:=h.inj
  fM:=h.fM
  jh:=by rw[m];exact h.jh
  kz:=λn d=>by rw[m];exact h.kz n ((z n).1 d)
  size:=by rw[q];exact h.size
  tmps:=λi v D=>by
   rw[q]at D;obtain⟨u,k,y⟩:=h.tmps i v D;exact⟨u,k,y.goes B⟩
  heap:=λn b F=>by
   rw[H]at F;by_cases d:n∈st'.bu
   .exact .inl d
   .rcases h.heap n b F with k|k
    .simp_all
    .exact .inr (k.goes B d (λ_ _ _ _=>rfl))}
def si(a b:List Nat):Bool:=a.all λx=> !b.contains x
theorem X1{a b}(h:si a b=true){x}(c:x∈a):x∉b:=by
 simp_all[si]
def direct(ops:Array Oper)(j i:Nat):Bool:=match ops[j]? with
 |some o=>o.after.any λe=>Region.binds .any e&&e.on==i
 |none=>false
abbrev kf:=List (List Nat×List Nat)
def xg(ops:Array Oper)(ts:kf)(i j:Nat):Bool:=
 match ops[i]?,ops[j]?,ts[i]?,ts[j]? with
 |some x,some y,some (d,a),some (e,c)=>x.apart ops y&&si a e&&si c d&&si a c
 |_,_,_,_=>false
def before(ops:Array Oper):Nat->Nat->Nat->Bool
 |0,j,i=>direct ops j i
 |n+1,j,i=>direct ops j i||match ops[j]? with
  |some o=>o.after.toList.any λe=>Region.binds .any e&&before ops n e.on i
  |none=>false
def qf(ops:Array Oper)(ts:kf):Bool:=
 (List.range ops.size).all λj=>(List.range j).all λi=>xg ops ts i j||before ops 6 j i
def vF(b:Nat)(ops:Array Oper)(ts:kf):Bool:=
 (List.range ops.size).all λi=>(List.range ops.size).all λj=>i==j||direct ops i j|| (match ts[i]? with
  |some (_,a)=>a.all λn=> !(decide (b+8*j<=n)&&decide (n<b+8*j+8))
  |none=>false)||before ops 6 i j
def FE(ops:Array Oper):Bool:=(List.range ops.size).all λj=>match ops[j]? with
 |some o=>o.after.all λe=> !Region.binds .any e||decide (e.on<j)
 |none=>true
structure Lex(P:cC)(Sp:Spec)(b:Nat)(ops:Array Oper)(st0:bx)(rs:Nat->Option bZ)(ts:kf):Prop where
 step:∀(k:Nat)(o:Oper),ops[k]?=some o->l' P Sp b ops (fO (λk st=>gZ st (ops[k]?.getD default) (rs k)) (λj=>decide (j<k)) st0 ops.size) k o=some (rs k)
 name:∀(k:Nat)(o:Oper),ops[k]?=some o->ts[k]?=some (um (fO (λk st=>gZ st (ops[k]?.getD default) (rs k)) (λj=>decide (j<k)) st0 ops.size) o (rs k),iT (rs k))
theorem aoJ{st st':bx}{x}(a:∀t,x=.tmp t->st.tmps[t]?=st'.tmps[t]?)(c:∀n∈st.raw x,(n∈st.bu↔n∈st'.bu)):st.arg x=st'.arg x:=by
 have d:∀v:V,(∀n∈v.names,(n∈st.bu↔n∈st'.bu))->v.live st.bu=v.live st'.bu:=by
  intro v e;unfold V.live;grind
 cases x with
 |tmp t=>
  have f:=a t rfl;simp only[bx.arg,<-f]
  cases e:st.tmps[t]? with
  |none=>rfl
  |some v=>
   grind[bx.raw]
 |const v=>
  simp only[bx.arg];rw[d (.v (ofValue v)) (λn g=>c n (by exact g))]
 |_=>rfl
theorem auk{st:bx}{x v}(h:st.arg x=some v)(a:∀f,x≠ .func f):st.raw x=v.names:=by
 cases x with
 |tmp t=>
  grind[bx.arg,bx.raw]
 |const u=>
  simp only[bx.arg]at h;split at h
  .cases h;rfl
  .cases h
 |func f=>simp_all
 |global=>cases h
theorem ajJ{st:bx}{op n}(h:n∈st.rU op):n∈st.ni op:=by
 cases a:uV op with
 |false=>
  have c:st.rU op=(op.operands.toList.filterMap st.arg).flatMap V.names:=by unfold bx.rU;split<;>first|rfl|cases a
  have d:st.ni op=op.operands.toList.flatMap st.raw:=by unfold bx.ni;split<;>first|rfl|cases a
  rw[c]at h;rw[d];obtain⟨v,e,f⟩:=sM.1 h;grind[auk,bx.arg,Option.some.injEq,V.names,V1.names,C.names]
 |true=>
  have c:st.rU op=[]:=by
   unfold uV at a;split at a
   .rfl
   .rfl
   .rfl
   .cases a
  simp_all
section
variable{P:cC}{Sp:Spec}{b:Nat}{ops:Array Oper}{st0:bx}{rs:Nat->Option bZ}{ts:kf}
abbrev AS(ops:Array Oper)(rs:Nat->Option bZ)(st0:bx)(L:Nat->Bool):bx:=fO (λk st=>gZ st (ops[k]?.getD default) (rs k)) L st0 ops.size
def gT(ops:Array Oper)(rs:Nat->Option bZ)(t:Nat)(k:Nat)(x:Option V):Option V:=if(ops[k]?.getD default).dst=some t then x.map (λ_=>valOf (rs k))else x
def gB(rs:Nat->Option bZ)(α:Nat)(k:Nat)(x:Option eQ):Option eQ:=((qA (rs k)).ch.lookup α).or x
def gU(rs:Nat->Option bZ)(τ:Nat)(k:Nat)(x:Prop):Prop:=τ∈(qA (rs k)).bu\/x
theorem B2(L)(t):(AS ops rs st0 L).tmps[t]?=fO (gT ops rs t) L (st0.tmps[t]?) ops.size:=
 yl (λst:bx=>st.tmps[t]?) (λk st=>XV st _ _ t) ops.size
theorem ES(L)(α):List.lookup α (AS ops rs st0 L).heap=fO (gB rs α) L (List.lookup α st0.heap) ops.size:=
 yl (g':=gB rs α) (λst:bx=>List.lookup α st.heap) (λk st=>Tn st (ops[k]?.getD default) (rs k) α) ops.size
theorem xD(L)(τ):(τ∈(AS ops rs st0 L).bu)=fO (gU rs τ) L (τ∈st0.bu) ops.size:=
 yl (g':=gU rs τ) (λst:bx=>τ∈st.bu) (λk st=>yX st (ops[k]?.getD default) (rs k) τ) ops.size
theorem Ip(L):(AS ops rs st0 L).next=st0.next:=by
 have:(AS ops rs st0 L).next=fO (λ_ x=>x) L st0.next ops.size:=yl (λst:bx=>st.next) (λk st=>Lg st _ _) ops.size;rw[this]
 induction ops.size with
 |zero=>rfl
 |succ n ih=>simp only[fO,ih];split<;>rfl
theorem alK{l:Hp}{α}(h:α∉l.map (·.1)):l.lookup α=none:=by
 grind
theorem R5{α k}(h:α∉iT (rs k)):∀x,gB rs α k x=x:=by
 intro x;unfold gB;rw[alK (λa=>h (xZ _ a))];rfl
theorem Jz{τ k}(h:τ∉iT (rs k)):∀x,gU rs τ k x=x:=by
 intro x;unfold gU;have:τ∉(qA (rs k)).bu:=λa=>h (x5 _ a)
 simp[this]
theorem OL{t k:Nat}{o}(a:ops[k]?=some o)(h:o.dst≠some t):∀x,gT ops rs t k x=x:=by
 simp_all[gT,gx]
theorem DL(a:Lex P Sp b ops st0 rs ts){i j x y}(e:ops[i]?=some x)(f:ops[j]?=some y)(h:xg ops ts i j=true):
 ∃c d,ts[i]?=some (c,iT (rs i))/\ts[j]?=some (d,iT (rs j))/\x.apart ops y=true/\si (iT (rs i)) d=true/\si (iT (rs j)) c=true/\si (iT (rs i)) (iT (rs j))=true:=by
 have g:=a.name i x e;have k:=a.name j y f;simp_all[xg,cu]
def Shut(ops:Array Oper)(L:Nat->Bool):Prop:=∀j i,L j=true->direct ops j i=true->L i=true
theorem Lu(hp:qf ops ts=true){i j}(a:i<j)(c:j<ops.size):before ops 6 j i=true\/xg ops ts i j=true:=by
 unfold qf at hp;simp only[cz,jr,oX]at hp;grind
theorem PZ:∀{n j i:Nat},before ops n j i=true->direct ops j i=true\/∃m a,direct ops j m=true/\before ops a m i=true/\a<n
 |0,j,i,h=>.inl h
 |n+1,j,i,h=>by
  simp only[before,oX]at h;rcases h with h|h
  .exact .inl h
  .split at h
   .rename_i o c;simp only[On,cu]at h;obtain⟨e,f,g,d⟩:=h;refine .inr ⟨e.on,n,?_,d,pV n⟩;unfold direct;rw[c];simp only[Array.any_eq_true',cu,beq_iff_eq];grind
   .cases h
theorem Ng{L}(a:Shut ops L)(n):∀{j i},before ops n j i=true->L j=true->L i=true:=by
 induction n using Nat.strongRecOn with
 |_ n ih=>
  intro j i h c;rcases PZ h with h| ⟨m,d,e,f,g⟩
  .exact a j i c h
  .exact ih d g f (a j m c e)
theorem Lc{L}(a:Shut ops L){n j i}(h:before ops n j i=true)(c:∀m,direct ops j m=true->L m=true):L i=true:=by
 grind[PZ,Ng]
theorem Rk(hp:qf ops ts=true){L}(g:Shut ops L){i k}(l:L i=false)(a:i<ops.size)(c:k<ops.size)(m:∀j,direct ops i j=true->L j=true)(n:L k≠decide (k<i)):
 (k<i/\xg ops ts k i=true)\/(i<k/\xg ops ts i k=true):=by
 by_cases d:k<i
 .have f:L k=false:=by simp_all
  rcases Lu hp d a with h|h
  .grind[Lc]
  simp_all
 .have f:L k=true:=by simp_all
  have e:i<k:=by
   grind
  rcases Lu hp e c with h|h
  .grind[Ng]
  simp_all
theorem ase(u:Lex P Sp b ops st0 rs ts)(hp:qf ops ts=true){L}(C:Shut ops L){i o}(g:ops[i]?=some o)(D:L i=false)(E:∀j,direct ops i j=true->L j=true):
 l' P Sp b ops (AS ops rs st0 L) i o=some (rs i):=by
 have w:i<ops.size:=(jW.1 g).1;have hstep:l' P Sp b ops (AS ops rs st0 λj=>decide (j<i)) i o=some (rs i):=u.step i o g;have hname:ts[i]?=some (um (AS ops rs st0 λj=>decide (j<i)) o (rs i),iT (rs i)):=u.name i o g;have key:∀k,k<ops.size->L k=decide (k<i)\/∃x,ops[k]?=some x/\(∀t,t∈o.looksAt ops->x.dst≠some t)/\∀α,α∈um (AS ops rs st0 λj=>decide (j<i)) o (rs i)->α∉iT (rs k):=by
  intro k z;by_cases v:L k=decide (k<i)
  .exact .inl v
  .right;have l:ops[k]?=some ops[k]:=ri z;refine⟨ops[k],l,?_,?_⟩
   .intro t m p;rcases Rk hp C D w z E v with⟨_,h⟩| ⟨_,h⟩
    .obtain⟨_,_,_,_,q,_⟩:=DL u l g h;exact(Oper.apart_spec q).1 t p m
    .obtain⟨_,_,_,_,q,_⟩:=DL u g l h;exact(Oper.apart_spec q).2.2 t p m
   grind[Rk,hp,DL,X1]
 have c:∀t,t∈o.looksAt ops->(AS ops rs st0 L).tmps[t]?=(AS ops rs st0 λj=>decide (j<i)).tmps[t]?:=by
  intro t m;rw[B2,B2];grind[rq,OL]
 have A:∀α,α∈um (AS ops rs st0 λj=>decide (j<i)) o (rs i)->iE (AS ops rs st0 λj=>decide (j<i)) (AS ops rs st0 L) α:=by
  intro α F;refine⟨?_,?_⟩
  .rw[ES,ES];grind[rq,R5]
  .rw[xD,xD];refine(Iff.of_eq (rq λk z=>?_)).symm;grind[Jz]
 have a:rT ops (AS ops rs st0 L) o=rT ops (AS ops rs st0 λj=>decide (j<i)) o:=by
  unfold rT
  cases G:o.guard with
  |none=>rfl
  |some y=>
   obtain⟨j,want⟩:=y;simp only
   cases v:(ops[j]?).bind (·.dst)with
   |none=>rfl
   |some d=>
    simp only;rw[c d (by
     refine gI.2 (.inr ?_);rw[G];simp only;rw[v];simp)]
 unfold l' at hstep⊢;rw[a];split at hstep
 .simp only[bY]at hstep⊢;obtain⟨r,q,B⟩:=hstep;refine⟨r,?_,B⟩;have e:∀n,n∈(AS ops rs st0 λj=>decide (j<i)).ni o.op++r.rd->iE (AS ops rs st0 λj=>decide (j<i)) (AS ops rs st0 L) n:=by
   intro n f;refine A n ?_;rw[<-B];exact f
  refine aAl (st:=AS ops rs st0 λj=>decide (j<i)) (λs x l=>?_) (λ_ t H=>?_) (λn f=>e n (xZ _ (ajJ f))) (λn f=>e n (x5 _ f)) q
  .refine aoJ (λt m=>(c t ?_).symm) (λn f=>(e n (xZ _ ?_)).2)
   .subst m;exact gI.2 (.inl (sR.2 ⟨.tmp t,l,rfl⟩))
   .have:(AS ops rs st0 λj=>decide (j<i)).ni o.op=o.op.operands.toList.flatMap (AS ops rs st0 λj=>decide (j<i)).raw:=by
     unfold bx.ni;split<;>first|rfl| (rename_i h;rw[h]at s;cases s)
    grind
  .refine(c t ?_).symm;exact gI.2 (.inl (sR.2 ⟨.tmp t,H,rfl⟩))
 .exact hstep
 .cases hstep
theorem ajU(s:Lex P Sp b ops st0 rs ts)(hp:qf ops ts=true){L f}(A:Shut ops L){i o}(n:ops[i]?=some o)(g:L i=false)
 (c:f i=true) (d:∀k,k≠i->f k=L k) {X} {E} {a} {w} (h:Rel X E (gZ (AS ops rs st0 L) o (rs i)) a w):
 Rel X ⟨E.N,(AS ops rs st0 f).bu⟩ (AS ops rs st0 f) a w:=by
 have e:i<ops.size:=(jW.1 n).1;have j:∀k,i<k->k<ops.size->L k=true->∃x,ops[k]?=some x/\(∀t,o.dst=some t->x.dst≠some t)/\∀α,α∈iT (rs i)->α∉iT (rs k):=by
  intro k l p u;have q:ops[k]?=some ops[k]:=ri p;rcases Lu hp l p with r|r
  .grind[Ng]
  .obtain⟨B,C,_,_,v,_,_,y⟩:=DL s n q r;exact⟨ops[k],q,λt z=>(Oper.apart_spec v).2.1 t z,λα m=>X1 y m⟩
 refine h.congr ?_ ?_ ?_ ?_
 .intro t;rw[B2,ze g c d e,XV,B2]
  .grind[gT]
  grind[OL]
 .intro α;rw[ES,ze g c d e,Tn,ES]
  .rfl
  grind[iT,R5]
 .intro τ;rw[xD,ze g c d e,yX,xD]
  .rfl
  grind[iT,Jz]
 .rw[Ip,Lg,Ip]
end
end
end
end Go.Proofs.YtiikkkhcolcebaaGreatDoor
