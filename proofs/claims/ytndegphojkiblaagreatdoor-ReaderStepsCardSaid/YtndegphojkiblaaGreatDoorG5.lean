/- A part. -/
import Derived.Test.YtndegphojkiblaaGreatDoorG4
import Derived.BigQuiet
import Derived.LoopN
import Derived.Scope
set_option linter.all false
set_option maxHeartbeats 4000000
set_option maxRecDepth 100000
namespace Go.Proofs.YtndegphojkiblaaGreatDoor
noncomputable section
section
open Go.RowKit
open Classical
def tC:Op->Bool
 |.extract _ _=>true
 |.move (.tmp _)=>true
 |.assign (.tmp _)=>true
 |_=>false
def bz.rL(st:bz):Op->List Nat
 |.extract _ _=>[]
 |.move (.tmp _)=>[]
 |.assign (.tmp _)=>[]
 |op=>(op.operands.toList.filterMap st.arg).flatMap V.names
def iq(st st':bz)(n:Nat):Prop:=st.heap.lookup n=st'.heap.lookup n/\(n∈st.bt↔n∈st'.bt)
section
variable{st st':bz}
theorem qF{c}(h:∀n∈c.names,iq st st' n):st.view c=st'.view c:=by
 cases c with
 |own n=>simp only[bz.view,(h n (by simp[C.names])).1]
 |sub n a len=>simp only[bz.view,(h n (by simp[C.names])).1]
 |p q=>cases q<;>rfl
 |_=>rfl
theorem ahj{c size i}(h:∀n∈c.names,iq st st' n):st.elem size i c=st'.elem size i c:=by
 cases c with
 |own n=>simp only[bz.elem,(h n (by simp[C.names])).1]
 |sub n a len=>simp only[bz.elem,(h n (by simp[C.names])).1]
 |p q=>cases q<;>rfl
 |_=>rfl
theorem aiX{c size l k}(h:∀n∈c.names,iq st st' n):st.part size l k c=st'.part size l k c:=by
 cases c with
 |own n=>simp only[bz.part,(h n (by simp[C.names])).1]
 |sub n a len=>simp only[bz.part,(h n (by simp[C.names])).1]
 |p q=>cases q<;>rfl
 |_=>rfl
theorem afA{c}(h:∀n∈c.names,iq st st' n):st.mI c=st'.mI c:=by
 cases c with
 |sub n a len=>rfl
 |_=>simp only[bz.mI];rw[qF h]
theorem ajx{c}(h:∀n∈c.names,iq st st' n):st.sink c=st'.sink c:=by
 cases c with
 |own n=>simp only[bz.sink,(h n (by simp[C.names])).1]
 |sub n a len=>simp only[bz.sink,(h n (by simp[C.names])).1]
 |_=>rfl
theorem Nz:∀{cs},(∀c∈cs,∀n∈c.names,iq st st' n)->st.sinks cs=st'.sinks cs
 |[],_=>rfl
 |c::cs,h=>by
  have d:=ajx (h c (by simp));have e:=Nz (cs:=cs) (λf a=>h f (by simp[a]));simp only[bz.sinks,d,e]
theorem Ry{e c}(h:∀n∈c.names,iq st st' n):st.gH e c=st'.gH e c:=by
 cases c with
 |own n=>simp only[bz.gH,(h n (by simp[C.names])).1]
 |sub n a len=>cases a<;>simp only[bz.gH,(h n (by simp[C.names])).1]
 |_=>rfl
theorem ES{x}(h:st.arg x=st'.arg x):st.fb x=st'.fb x:=by unfold bz.fb;rw[h]
theorem aaG(y:V1):∀c∈y.cells,∀n∈c.names,n∈y.names:=by
 cases y with
 |c c=>intro f a n d;simp[V1.cells]at a;subst a;exact d
 |agg cs=>intro c e n d;exact so.2 ⟨c,e,d⟩
theorem Qz:∀{xs},(∀x∈xs,st.arg x=st'.arg x/\∀v,st.arg x=some v->∀n∈v.names,iq st st' n)->st.lits xs=st'.lits xs
 |[],_=>rfl
 |x::xs,h=>by
  simp only[bz.lits];rw[Qz (xs:=xs) (λy d=>h y (by simp[d])),<-ES (h x (by simp)).1]
  cases a:st.fb x with
  |none=>rfl
  |some y=>
   have:st.arg x=some (.v y):=by
    unfold bz.fb at a;split at a
    .simp_all
    .cases a
   simp only[Nz (λc e n f=>(h x (by simp)).2 _ this n (aaG y c e n f))]
theorem CX{α a:Type}{f g:α->Option a}:∀{l:List α},(∀x∈l,f x=g x)->l.mapM f=l.mapM g
 |[],_=>rfl
 |x::l,h=>by
  simp only[nU,h x (by simp),CX (l:=l) (λy c=>h y (by simp[c]))]
theorem Me{o k}(h:∀x,o=some x->st.arg x=st'.arg x):st.num o k=st'.num o k:=by
 cases o with
 |none=>rfl
 |some x=>simp only[bz.num,h x rfl]
theorem L'{ι L a c}(e:∀n∈L,iq st st' n)(h:rR st ι L a c):rR st' ι L a c:=by
 cases a with
 |p q=>
  rcases h with h| ⟨rows,f,g,d⟩
  .exact .inl h
  .exact .inr ⟨rows,f,by rw[<-qF (λn i=>e n (d n i))];exact g,d⟩
 |dead=>trivial
 |_=>exact h
theorem afd{ι L a x}(d:∀n∈L,iq st st' n)(h:vf st ι L a x):vf st' ι L a x:=by
 cases a with
 |c e=>
  cases x with
  |c c=>exact L' d h
  |agg=>exact h.elim
 |agg f=>
  cases x with
  |c=>exact h.elim
  |agg cs=>exact⟨h.1,λi e g=>let⟨c,j,k⟩:=h.2 i e g; ⟨c,j,L' d k⟩⟩
theorem aoI{ι L a b}(d:∀n∈L,iq st st' n)(h:vz st ι L a b):vz st' ι L a b:=by
 cases a with
 |box e=>
  cases b with
  |box cs=>exact⟨h.1,λi f g=>let⟨c,j,k⟩:=h.2 i f g; ⟨c,j,L' d k⟩⟩
  |_=>exact h.elim
 |row=>cases b<;>exact h
 |map=>cases b<;>exact h
theorem auf{P d f xs v F rd}(G:∀n∈rd,iq st st' n)(h:AA P st d f xs v F rd):AA P st' d f xs v F rd:=by
 obtain⟨e,H,r,I,ι,L,J,hlen,s,t,l,g,m,K,u,w,y,z,j,o,A,B,M,p,rfl⟩:=h;have k:∀n∈L,iq st st' n:=λn a=>G n (qq _ a)
 have c:∀n∈ι,iq st st' n:=λn a=>G n (sq _ a)
 refine⟨e,H,r,I,ι,L,J,hlen,s,t,λi N C=>?_,λi O C=>?_,λn a=>⟨λD=>(m n a).1 ((c n a).2.2 D),(m n a).2⟩,λn a D=>K n a ((k n a).2.2 D),u,w,y,z,j,o,A,B,M,p,rfl⟩
 .obtain⟨x,q,E⟩:=l i N C;exact⟨x,q,afd k E⟩
 .obtain⟨n,b,q,E,R⟩:=g i O C;exact⟨n,b,q,by rw[<-(c n (dB q)).1];exact E,aoI k R⟩
theorem akR{op x v}(a:tC op=false)(c:x∈op.operands.toList)(d:st.arg x=some v){n}(e:n∈v.names):n∈st.rL op:=by
 have:st.rL op=(op.operands.toList.filterMap st.arg).flatMap V.names:=by unfold bz.rL;split<;>first|rfl|cases a
 rw[this];exact so.2 ⟨v,sx.2 ⟨x,c,d⟩,e⟩
theorem ajD{P Sp d op r}(z:tC op=false->∀x∈op.operands.toList,st.arg x=st'.arg x)(E:tC op=true->∀t,Operand.tmp t∈op.operands.toList->st.tmps[t]?=st'.tmps[t]?)
 (ht:∀n∈st.rL op,iq st st' n) (hr:∀n∈r.rd,iq st st' n) (I:cn P Sp st d op=some r):cn P Sp st' d op=some r:=by
 have M:tC op=false->∀x∈op.operands.toList,∀v,st.arg x=some v->∀n∈v.names,iq st st' n:=λN x E v U n M=>ht n (akR N E U M)
 have G:tC op=false->∀x∈op.operands.toList,∀c,st.arg x=some (.v (.c c))->∀n∈c.names,iq st st' n:=λN x E c U n ab=>M N x E _ U n ab
 rw[<-I];symm
 cases op with
 |move x=>
  cases x with
  |tmp t=>simp only[cn,E rfl t (by simp[Op.operands])]
  |const v=>have e:=z rfl (.const v) (by simp[Op.operands]);simp only[cn,e]
  |global v=>rfl
  |func v=>rfl
 |assign x=>
  cases x with
  |tmp t=>simp only[cn,E rfl t (by simp[Op.operands])]
  |const v=>have e:=z rfl (.const v) (by simp[Op.operands]);simp only[cn,e]
  |global v=>rfl
  |func v=>rfl
 |pick c x y=>
  have h:=z rfl;simp only[cn,<-h c (by simp[Op.operands]),<-h x (by simp[Op.operands]),<-h y (by simp[Op.operands])]
 |alloc e=>rfl
 |box e x=>
  have h:=z rfl;simp only[cn,<-ES (h x (by simp[Op.operands]))]
 |build t parts=>
  have h:=z rfl;simp only[cn,wj];rw[CX (g:=λx=>(st'.fb x.2).map λy=>(x.1,y.cells)) (λx E=>by rw[ES (h x.2 (by simp[Op.operands];exact⟨x.1,by simpa using E⟩))])]
 |buildSlice t len parts=>
  have h:=z rfl;simp only[cn,vb];rw[Qz (st':=st') (λx E=>by
   simp only[eV]at E;obtain⟨y,hy,rfl⟩:=E;have hm:y.2∈(Op.buildSlice t len parts).operands.toList:=by simp[Op.operands];exact⟨y.1,by simpa using hy⟩
   exact⟨h _ hm,λv U=>M rfl _ hm v U⟩)]
 |load t x=>
  have h:=z rfl;have B:=h x (by simp[Op.operands]);have D:=G rfl x (by simp[Op.operands]);simp only[cn,pq,<-B]
  cases w:st.arg x with
  |none=>rfl
  |some v=>
   cases v with
   |bq=>rfl
   |v v=>
    cases v with
    |agg=>rfl
    |c c=>
     have F:=D c w
     cases c with
     |ptr n off=>simp only[(F n (by simp[C.names])).1]
     |dy n i j=>simp only[(F n (by simp[C.names])).1]
     |_=>rfl
 |store t x y=>
  have h:=z rfl;have B:=h x (by simp[Op.operands]);have D:=h y (by simp[Op.operands]);have F:=G rfl x (by simp[Op.operands]);have V:=M rfl y (by simp[Op.operands]);simp only[cn,tH,<-B,<-D]
  cases w:st.arg x with
  |none=>rfl
  |some v=>
   cases v with
   |bq=>rfl
   |v v =>
    cases v with
    |agg=>rfl
    |c c=>
     have J:=F c w
     cases ad:st.arg y with
     |none=>cases c<;>rfl
     |some vy=>
      have h6:=V vy ad
      cases vy with
      |bq=>cases c<;>rfl
      |v vy=>
       cases c with
       |ptr n off=>simp only[(J n (by simp[C.names])).1]
       |dy n i j=>simp only[(J n (by simp[C.names])).1,Nz (st':=st') (λc G n M=>h6 n (aaG vy c G n M))]
       |_=>rfl
 |nilCheck x=>
  have h:=z rfl;simp only[cn,<-h x (by simp[Op.operands])]
 |binOp op t x y yt=>
  have h:=z rfl;simp only[cn,<-h x (by simp[Op.operands]),<-h y (by simp[Op.operands])]
 |unOp op t x=>
  have h:=z rfl;simp only[cn,<-h x (by simp[Op.operands])]
 |convert s t x=>
  have h:=z rfl;have B:=h x (by simp[Op.operands]);have D:=G rfl x (by simp[Op.operands]);have k1:kT P st' s t x=kT P st s t x:=by
   simp only[kT,<-B]
   cases w:st.arg x with
   |none=>rfl
   |some v=>
    cases v with
    |bq=>rfl
    |v v=>
     cases v with
     |agg=>rfl
     |c c=>
      have e0:=qF (st:=st) (st':=st') (D c w)
      cases c with
      |p q=>
       cases q with
       |sc v=>cases v<;>first|rfl|simp only[e0]
       |sl=>first|rfl|simp only[e0]
      |_=>first|rfl|simp only[e0]
  have k2:qE P st' s t x=qE P st s t x:=by
   simp only[qE,<-B]
   cases w:st.arg x with
   |none=>rfl
   |some v=>
    cases v with
    |bq=>rfl
    |v v=>
     cases v with
     |agg=>rfl
     |c c=>
      cases c with
      |own n=>simp only[(D _ w n (by simp[C.names])).1]
      |_=>rfl
  simp_all[cn]
 |makeSlice t l c=>
  have h:=z rfl;simp only[cn,v7,<-h l (by simp[Op.operands]),<-h c (by simp[Op.operands])]
 |sliceToArrayPointer t x=>
  have h:=z rfl;simp only[cn,wo,<-h x (by simp[Op.operands])]
 |slice t x H O mx=>
  have h:=z rfl
  cases mx with
  |some mx=>
   cases O with
   |none=>rfl
   |some O=>
    have F:st.num H 0=st'.num H 0:=Me (λo W=>h o (by simp[Op.operands,W]));simp only[cn,wE,<-h x (by simp[Op.operands]),<-h O (by simp[Op.operands]),<-h mx (by simp[Op.operands]),<-F]
  |none =>
   have B:=h x (by simp[Op.operands]);have D:=G rfl x (by simp[Op.operands]);have F:∀k,st.num H k=st'.num H k:=λk=>Me (λo W=>h o (by simp[Op.operands,W]))
   have V:∀k,st.num O k=st'.num O k:=λk=>Me (λo W=>h o (by simp[Op.operands,W]))
   have k1:kZ P st' t x H O=kZ P st t x H O:=by
    simp only[kZ,<-B,<-F,<-V]
    cases w:st.arg x with
    |none=>rfl
    |some v=>
     cases v with
     |bq=>rfl
     |v v=>
      cases v with
      |agg=>rfl
      |c c=>
       have J:=D c w;have e0:=afA (st:=st) (st':=st') J;have e1:=λa b k=>aiX (st:=st) (st':=st') (size:=a) (l:=b) (k:=k) J
       cases c with
       |p q=>
        cases q with
        |sc v=>cases v<;>first|rfl|simp only[e0,e1]
        |sl=>first|rfl|simp only[e0,e1]
       |_=>first|rfl|simp only[e0,e1]
   have k2:qW P st' t x=qW P st t x:=by
    simp only[qW,<-B]
    cases w:st.arg x with
    |none=>rfl
    |some v=>
     cases v with
     |bq=>rfl
     |v v=>
      cases v with
      |agg=>rfl
      |c c=>
       cases c with
       |ptr n off=>simp only[(D _ w n (by simp[C.names])).1]
       |_=>rfl
   simp_all[cn]
 |makeMap t r=>
  cases r<;>rfl
 |mapUpdate t m k x=>
  have h:=z rfl;have B:=h m (by simp[Op.operands]);have D:=h k (by simp[Op.operands]);have F:=h x (by simp[Op.operands]);have V:=G rfl m (by simp[Op.operands]);simp only[cn,vU,<-B,<-D,<-F]
  cases w:st.arg m with
  |none=>rfl
  |some v=>
   cases v with
   |bq=>rfl
   |v v=>
    cases v with
    |agg=>rfl
    |c c=>
     cases c with
     |mp n=>simp only[(V _ w n (by simp[C.names])).1]
     |_=>rfl
 |fieldAddr t x f=>
  have h:=z rfl;simp only[cn,qd,<-h x (by simp[Op.operands])]
 |indexAddr t x i=>
  have h:=z rfl;have B:=h x (by simp[Op.operands]);have D:=h i (by simp[Op.operands]);have F:=G rfl x (by simp[Op.operands]);simp only[cn,mc,<-B,<-D]
  cases w:st.arg x with
  |none=>rfl
  |some v=>
   cases v with
   |bq=>rfl
   |v v=>
    cases v with
    |agg=>rfl
    |c c=>
     have e0:=λa b=>ahj (st:=st) (st':=st') (size:=a) (i:=b) (F c w)
     cases c with
     |p q=>
      simp_all
     |_=>first|rfl|simp only[e0]
 |index t x i=>
  have h:=z rfl;simp only[cn,<-h x (by simp[Op.operands]),<-h i (by simp[Op.operands])]
 |extract t i=>
  cases t with
  |tmp t=>simp only[cn,E rfl t (by simp[Op.operands])]
  |_=>rfl
 |makeFunc fn first captured=>
  have h:=z rfl
  cases fn with
  |func f=>
   simp only[cn];rw[CX (g:=st'.cap) (λx E=>by
    unfold bz.cap;rw[h x (by simp[Op.operands];exact .inr (by simpa using E))])]
  |_=>rfl
 |call c =>
  have h:=z rfl;obtain⟨callee,args,ts⟩:=c
  cases callee with
  |value f=>
   simp only[cn]at I⊢;have hf:=h f (by simp[Op.operands,Call.operands]);have L:st.callee f=st'.callee f:=by
    unfold bz.callee
    cases f with
    |func=>rfl
    |_=>simp only[hf]
   have A:args.toList.mapM st.fb=args.toList.mapM st'.fb:=CX (λx E=>ES (h x (by simp[Op.operands,Call.operands];simp_all)));unfold ur at I⊢;rw[L,A]at I;split at I
   .split at I
    .rename_i R K ae Y;cases I;simp only[L,R,A,K,ae];rw[bF (auf hr Y),bF Y]
    .cases I
   .cases I
  |invoke=>rfl
  |builtin b =>
   simp only[cn];have B:∀x∈args.toList,st.arg x=st'.arg x:=λx E=>h x (by simp[Op.operands,Call.operands];simpa using E)
   have D:∀x∈args.toList,∀c,st.arg x=some (.v (.c c))->∀n∈c.names,iq st st' n:=λx E=>G rfl x (by simp[Op.operands,Call.operands];simpa using E)
   unfold lT;split
   .rename_i x t A _;rw[A]at B D;simp only[oe,<-B x (by simp)]
    cases w:st.arg x with
    |none=>rfl
    |some v=>
     cases v with
     |bq=>rfl
     |v v=>
      cases v with
      |agg=>rfl
      |c c=>
       have e0:=qF (st:=st) (st':=st') (D x (by simp) c w)
       cases c with
       |p q=>
        cases q with
        |sc v=>cases v<;>first|rfl|simp only[e0]
        |sl=>first|rfl|simp only[e0]
       |_=>first|rfl|simp only[e0]
   .rename_i s x t S A _;rw[A]at B D;have key :r9 P st' d t s x=r9 P st d t s x:=by
     simp only[r9,<-B s (by simp),<-B x (by simp)]
     cases fk P t with
     |none=>rfl
     |some e=>
      simp only
      cases jE P e with
      |none=>rfl
      |some nb=>
       cases T:st.arg s with
       |none=>rfl
       |some vs=>
        cases vs with
        |bq=>rfl
        |v vs=>
         cases vs with
         |agg=>rfl
         |c cs=>
          cases w:st.arg x with
          |none=>rfl
          |some v=>
           cases v with
           |bq=>rfl
           |v v=>
            cases v with
            |agg=>rfl
            |c c=>simp only[qF (st':=st') (D x (by simp) c w),Ry (st':=st') (D s (by simp) cs T)]
    have Z : pn P st' d t S s x=pn P st d t S s x:=by
     have q1:oV P st' d t S s x=oV P st d t S s x:=by
      simp_all[oV]
     have q2 : sH P st' d t S s x=sH P st d t S s x:=by
      simp only[sH,<-B s (by simp),<-B x (by simp)]
      cases fk P t with
      |none=>rfl
      |some e =>
       cases T:st.arg s with
       |none=>rfl
       |some vs =>
        cases vs with
        |bq=>rfl
        |v vs =>
         cases vs with
         |agg=>rfl
         |c cs =>
          have G:=λe=>Ry (st:=st) (st':=st') (e:=e) (D s (by simp) cs T)
          cases st.arg x with
          |none=>rfl
          |some v=>
           cases v with
           |bq=>rfl
           |v v =>
            cases v with
            |agg=>rfl
            |c c =>
             cases c with
             |p q=>
              cases q with
              |sc u=>
               cases u with
               |int k n=>
                cases k<;>first
                 |rfl
                 |(cases P.underlying S with
                  |none=>rfl
                  |some dd=>cases dd<;>first|rfl|simp only[G])
               |_=>rfl
              |sl=>rfl
             |_=>rfl
     simp_all[pn]
    have aa:qK P st' t s x=qK P st t s x:=by
     simp only[qK,<-B s (by simp),<-B x (by simp)]
     cases T:st.arg s with
     |none=>rfl
     |some vs=>
      cases vs with
      |bq=>rfl
      |v vs=>
       cases vs with
       |agg=>rfl
       |c cs=>
        cases cs with
        |sub m H len=>
         cases H with
         |succ H=>rfl
         |zero=>
          cases w:st.arg x with
          |none=>rfl
          |some v=>
           cases v with
           |bq=>rfl
           |v v=>
            cases v with
            |agg=>rfl
            |c c=>simp only[qF (st':=st') (D x (by simp) c w),(D s (by simp) _ T m (by simp[C.names])).1]
        |_=>rfl
    rw[key,Z,aa]
   .rename_i x y t _ A _;rw[A]at B D;have key :p9 P st' t x y=p9 P st t x y:=by
     simp only[p9,<-B x (by simp),<-B y (by simp)]
     cases fk P t with
     |none=>rfl
     |some e=>
      cases T:st.arg x with
      |none=>rfl
      |some vs=>
       cases vs with
       |bq=>rfl
       |v vs=>
        cases vs with
        |agg=>rfl
        |c cs=>
         cases w:st.arg y with
         |none=>rfl
         |some v=>
          cases v with
          |bq=>rfl
          |v v=>
           cases v with
           |agg=>rfl
           |c c=>
            have J:=D x (by simp) cs T;simp only[qF (st':=st') (D y (by simp) c w),qF (st':=st') J]
            cases cs with
            |own n=>first|rfl|simp only[(J n (by simp[C.names])).1]
            |sub n H len=>first|rfl|simp only[(J n (by simp[C.names])).1]
            |_=>rfl
    rw[key]
   .simp_all
   .simp_all
   .simp_all
   .rename_i m k t tl A _;rw[A]at B D;simp only[wx,<-B m (by simp),<-B k (by simp)]
    cases w:st.arg m with
    |none=>rfl
    |some v=>
     cases v with
     |bq=>rfl
     |v v=>
      cases v with
      |agg=>rfl
      |c c=>
       cases c with
       |mp n=>simp only[(D m (by simp) _ w n (by simp[C.names])).1]
       |_=>rfl
   .rfl
 |_=>rfl
end
def fi{X:Type}(g:Nat->X->X)(S:Nat->Bool)(x:X):Nat->X
 |0=>x
 |n+1=>if S n then g n (fi g S x n)else fi g S x n
theorem rm{X:Type}{g:Nat->X->X}{S S':Nat->Bool}{x:X}:∀{n:Nat},(∀k,k<n->S k=S' k\/∀x,g k x=x)->fi g S x n=fi g S' x n
 |0,_=>rfl
 |n+1,h=>by
  have ih:=rm (x:=x) (n:=n) (λk a=>h k om);simp only[fi,ih];grind
theorem yM{X Y g g' S x}(f:X->Y)(h:∀k x,f (g k x)=g' k (f x)):∀n,f (fi g S x n)=fi g' S (f x) n
 |0=>rfl
 |n+1=>by
  have ih:=yM (S:=S) (x:=x) f h n;grind[fi]
theorem Ak{X g S S'}{x:X}{i}(d:S i=false)(a:S' i=true)(e:∀k,k≠i->S' k=S k):∀{n},i<n->
 ((∀k,i<k->k<n->S k=true->∀x,g k x=x)\/∀x,g i x=x)->fi g S' x n=g i (fi g S x n)
 |0,h,_=>om
 |n+1,j,h=>by
  by_cases c:i=n
  .subst c;simp only[fi,d,a,if_true,qp,if_false];congr 1;grind[rm]
  .have ih:=Ak (x:=x) (g:=g) d a e (n:=n) om (h.imp (λh k f l=>h k f om) id);simp only[fi,ih,e n om];grind
def valOf:Option cb->V
 |none=>.bq []
 |some r=>r.v
def pU:Option cb->im
 |none=>XW
 |some r=>r.e
def gE(st:bz)(o:Oper)(r:Option cb):bz:=(st.dQ (pU r)).put o.dst (valOf r)
def bz.raw(st:bz):cF->List Nat
 |.tmp t=>match st.tmps[t]? with
  |some v=>v.names
  |none=>[]
 |.const v=>(ofValue v).names
 |_=>[]
def bz.mo(st:bz):Op->List Nat
 |.extract _ _=>[]
 |.move (.tmp _)=>[]
 |.assign (.tmp _)=>[]
 |op=>op.operands.toList.flatMap st.raw
def ux(st:bz)(o:Oper):Option cb->List Nat
 |none=>[]
 |some r=>st.mo o.op++r.rd
def iC(r:Option cb):List Nat:=(pU r).jl.map (·.1)++(pU r).bt
def r8(ops:Array Oper)(st:bz)(o:Oper):Option Bool:=match o.guard with
 |none=>some true
 |some (j,want)=>match(ops[j]?).bind (·.dst)with
  |some d=>match st.tmps[d]? with
   |some (.v (.c (.p (.sc (.bool b)))))=>some (b==want)
   |some (.bq [])=>some false
   |_=>none
  |none=>none
theorem UM{X E st a w}(h:Rel X E st a w){ops o b}(c:r8 ops st o=some b):
 Region.wanted o (yielded ops a.tmps)=b:=by
 unfold r8 at c;unfold Region.wanted
 cases e:o.guard with
 |none=>simp_all
 |some x=>
  rw[e]at c;simp only at c⊢;split at c
  .rename_i d j;unfold yielded;split at c
   .rename_i k f;obtain⟨u,i,g⟩:=h.tmps d _ f;have:=RP.ei g;simp_all
   .rename_i f;obtain⟨u,i,us,g,l,_⟩:=h.tmps d _ f;simp_all
   .cases c
  .cases c
theorem MA(M)(E)(w):RV M E w (.bq []) undef:=⟨#[],rfl,rfl,λi x h=>by simp at h⟩
def kY(P:cD)(Sp:Spec)(b:Nat)(ops:Array Oper)(st:bz)(k:Nat)(o:Oper):Option (Option cb):=match r8 ops st o with
 |some true=>(cn P Sp st (b+8*k) o.op).map some
 |some false=>some none
 |none=>none
theorem Ku{X Sp E st a w b k}(h:Rel X E st a w){ops o}(g:pC X E st (b+8*k))
 {r} (c:kY X.P Sp b ops st k o=some r) {next} {Q}
 (f:∀v w' E',(∀n,¬(b+8*k<=n/\n<b+8*k+8)->E.N n=none->E'.N n=none)->Rel X E' (gE st o r) (a.put o.dst v) w'->next (a.put o.dst v) w'):
 if Region.wanted o (yielded ops a.tmps)then o.wp X.P a w next Q else next (a.put o.dst undef) w:=by
 unfold kY at c;split at c
 .rename_i d;rw[UM h d];simp only[bY]at c;obtain⟨j,e,rfl⟩:=c;exact snd h g e (λu w' E' k1 k2 i=>f u w' E' k1 (k2.put o.dst i))
 .rename_i d;rw[UM h d];cases c;exact f undef w E (λ_ _ h=>h) (h.put o.dst (MA X.M E w))
 .cases c
theorem aaq(st)(o)(r)(t:Nat):(gE st o r).tmps[t]?=if o.dst=some t then(st.tmps[t]?).map (λ_=>valOf r)else st.tmps[t]?:=by
 unfold gE
 cases a:o.dst with
 |none=>rfl
 |some d=>
  simp only[bz.put,bz.dQ,P1,iQ];grind
theorem JC(st:bz)(d)(v):(st.put d v).heap=st.heap/\(st.put d v).bt=st.bt/\(st.put d v).next=st.next:=by cases d<;>exact⟨rfl,rfl,rfl⟩
theorem Ux(st)(o)(r)(α):List.lookup α (gE st o r).heap=((pU r).jl.lookup α).or (st.heap.lookup α):=by
 simp_all[gE,JC,bz.dQ,Wz]
theorem wk(st)(o)(r)(τ):(τ∈(gE st o r).bt)=(τ∈(pU r).bt\/τ∈st.bt):=by
 simp_all[gE,JC,bz.dQ]
theorem Fz(st)(o)(r):(gE st o r).next=st.next:=by
 unfold gE;rw[(JC _ _ _).2.2];rfl
theorem Rel.congr{X E st st' a w}(h:Rel X E st a w)(G:∀t:Nat,st'.tmps[t]?=st.tmps[t]?)(H:∀α,List.lookup α st'.heap=List.lookup α st.heap)
 (A:∀τ,τ∈st'.bt↔τ∈st.bt) (m:st'.next=st.next):Rel X ⟨E.N,st'.bt⟩ st' a w:=by
 have o:st'.tmps=st.tmps:=sv G;have B:gL X.M E ⟨E.N,st'.bt⟩ w w:={
  cell:=λ_ _ _ k q=>⟨k,q⟩
  name:=λn x m=>.inr m
  bt:=λn d=>(A n).2 (by rw[<-h.bt];exact d)}
 exact{
  defers:=h.defers
  bt:=rfl
  frame:=h.frame
  eW:=h.eW
  dD:=λn x d=>by rw[m];exact h.dD n x d
  names:=h.names
  inj:=h.inj
  ec:=h.ec
  fQ:=by rw[m];exact h.fQ
  fK:=λn d=>by rw[m];exact h.fK n ((A n).1 d)
  size:=by rw[o];exact h.size
  tmps:=λi v D=>by
   rw[o]at D;obtain⟨u,k,q⟩:=h.tmps i v D;exact⟨u,k,q.goes B⟩
  heap:=λn b F=>by
   rw[H]at F;by_cases d:n∈st'.bt
   .exact .inl d
   .rcases h.heap n b F with k|k
    .simp_all
    .exact .inr (k.goes B d (λ_ _ _ _=>rfl))}
def qT(a b:List Nat):Bool:=a.all λx=> !b.contains x
theorem Q7{a b}(h:qT a b=true){x}(c:x∈a):x∉b:=by
 simp_all[qT]
def direct(ops:Array Oper)(j i:Nat):Bool:=match ops[j]? with
 |some o=>o.after.any λe=>Region.binds .any e&&e.on==i
 |none=>false
abbrev jL:=List (List Nat×List Nat)
def vF(ops:Array Oper)(ts:jL)(i j:Nat):Bool:=
 match ops[i]?,ops[j]?,ts[i]?,ts[j]? with
 |some x,some y,some (d,a),some (e,c)=>x.apart ops y&&qT a e&&qT c d&&qT a c
 |_,_,_,_=>false
def before(ops:Array Oper):Nat->Nat->Nat->Bool
 |0,j,i=>direct ops j i
 |n+1,j,i=>direct ops j i||match ops[j]? with
  |some o=>o.after.toList.any λe=>Region.binds .any e&&before ops n e.on i
  |none=>false
def oE(ops:Array Oper)(ts:jL):Bool:=
 (List.range ops.size).all λj=>(List.range j).all λi=>vF ops ts i j||before ops 6 j i
def tc(b:Nat)(ops:Array Oper)(ts:jL):Bool:=
 (List.range ops.size).all λi=>(List.range ops.size).all λj=>i==j||direct ops i j||match ts[i]? with
  |some (_,a)=>a.all λn=> !(decide (b+8*j<=n)&&decide (n<b+8*j+8))
  |none=>false
def CY(ops:Array Oper):Bool:=(List.range ops.size).all λj=>match ops[j]? with
 |some o=>o.after.all λe=> !Region.binds .any e||decide (e.on<j)
 |none=>true
structure Lex(P:cD)(Sp:Spec)(b:Nat)(ops:Array Oper)(st0:bz)(rs:Nat->Option cb)(ts:jL):Prop where
 step:∀(k:Nat)(o:Oper),ops[k]?=some o->kY P Sp b ops (fi (λk st=>gE st (ops[k]?.getD default) (rs k)) (λj=>decide (j<k)) st0 ops.size) k o=some (rs k)
 name:∀(k:Nat)(o:Oper),ops[k]?=some o->ts[k]?=some (ux (fi (λk st=>gE st (ops[k]?.getD default) (rs k)) (λj=>decide (j<k)) st0 ops.size) o (rs k),iC (rs k))
theorem afw{st st':bz}{x}(a:∀t,x=.tmp t->st.tmps[t]?=st'.tmps[t]?)(c:∀n∈st.raw x,(n∈st.bt↔n∈st'.bt)):st.arg x=st'.arg x:=by
 have d:∀v:V,(∀n∈v.names,(n∈st.bt↔n∈st'.bt))->v.live st.bt=v.live st'.bt:=by
  intro v e;unfold V.live;grind
 cases x with
 |tmp t=>
  have f:=a t rfl;simp only[bz.arg,<-f]
  cases e:st.tmps[t]? with
  |none=>rfl
  |some v=>
   grind[bz.raw]
 |const v=>
  simp only[bz.arg];rw[d (.v (ofValue v)) (λn g=>c n (by exact g))]
 |_=>rfl
theorem aqd{st:bz}{x v}(h:st.arg x=some v)(a:∀f,x≠ .func f):st.raw x=v.names:=by
 cases x with
 |tmp t=>
  grind[bz.arg,bz.raw]
 |const u=>
  simp only[bz.arg]at h;split at h
  .cases h;rfl
  .cases h
 |func f=>simp_all
 |global=>cases h
theorem avA{st:bz}{op n}(h:n∈st.rL op):n∈st.mo op:=by
 cases a:tC op with
 |false=>
  have c:st.rL op=(op.operands.toList.filterMap st.arg).flatMap V.names:=by unfold bz.rL;split<;>first|rfl|cases a
  have e2:st.mo op=op.operands.toList.flatMap st.raw:=by unfold bz.mo;split<;>first|rfl|cases a
  rw[c]at h;rw[e2];obtain⟨v,d,e⟩:=so.1 h;grind[aqd,bz.arg,Option.some.injEq,V.names,V1.names,C.names]
 |true=>
  have c:st.rL op=[]:=by
   unfold tC at a;split at a
   .rfl
   .rfl
   .rfl
   .cases a
  simp_all
section
variable{P:cD}{Sp:Spec}{b:Nat}{ops:Array Oper}{st0:bz}{rs:Nat->Option cb}{ts:jL}
abbrev AS(ops:Array Oper)(rs:Nat->Option cb)(st0:bz)(L:Nat->Bool):bz:=fi (λk st=>gE st (ops[k]?.getD default) (rs k)) L st0 ops.size
def gT(ops:Array Oper)(rs:Nat->Option cb)(t:Nat)(k:Nat)(x:Option V):Option V:=if(ops[k]?.getD default).dst=some t then x.map (λ_=>valOf (rs k))else x
def gB(rs:Nat->Option cb)(α:Nat)(k:Nat)(x:Option eD):Option eD:=((pU (rs k)).jl.lookup α).or x
def gU(rs:Nat->Option cb)(τ:Nat)(k:Nat)(x:Prop):Prop:=τ∈(pU (rs k)).bt\/x
theorem DY(L)(t):(AS ops rs st0 L).tmps[t]?=fi (gT ops rs t) L (st0.tmps[t]?) ops.size:=
 yM (λst:bz=>st.tmps[t]?) (λk st=>aaq st _ _ t) ops.size
theorem DV(L)(α):List.lookup α (AS ops rs st0 L).heap=fi (gB rs α) L (List.lookup α st0.heap) ops.size:=
 yM (g':=gB rs α) (λst:bz=>List.lookup α st.heap) (λk st=>Ux st (ops[k]?.getD default) (rs k) α) ops.size
theorem w7(L)(τ):(τ∈(AS ops rs st0 L).bt)=fi (gU rs τ) L (τ∈st0.bt) ops.size:=
 yM (g':=gU rs τ) (λst:bz=>τ∈st.bt) (λk st=>wk st (ops[k]?.getD default) (rs k) τ) ops.size
theorem Nj(L):(AS ops rs st0 L).next=st0.next:=by
 have:(AS ops rs st0 L).next=fi (λ_ x=>x) L st0.next ops.size:=yM (λst:bz=>st.next) (λk st=>Fz st _ _) ops.size;rw[this]
 induction ops.size with
 |zero=>rfl
 |succ n ih=>simp only[fi,ih];split<;>rfl
theorem aoz{l:Hp}{α}(h:α∉l.map (·.1)):l.lookup α=none:=by
 grind
theorem V7{α k}(h:α∉iC (rs k)):∀x,gB rs α k x=x:=by
 intro x;unfold gB;rw[aoz (λa=>h (sq _ a))];rfl
theorem JM{τ k}(h:τ∉iC (rs k)):∀x,gU rs τ k x=x:=by
 intro x;unfold gU;have:τ∉(pU (rs k)).bt:=λa=>h (qq _ a)
 simp[this]
theorem YY{t k:Nat}{o}(a:ops[k]?=some o)(h:o.dst≠some t):∀x,gT ops rs t k x=x:=by
 simp_all[gT,gS]
theorem D1(a:Lex P Sp b ops st0 rs ts){i j x y}(e:ops[i]?=some x)(f:ops[j]?=some y)(h:vF ops ts i j=true):
 ∃c d,ts[i]?=some (c,iC (rs i))/\ts[j]?=some (d,iC (rs j))/\x.apart ops y=true/\qT (iC (rs i)) d=true/\qT (iC (rs j)) c=true/\qT (iC (rs i)) (iC (rs j))=true:=by
 have g:=a.name i x e;have k:=a.name j y f;simp_all[vF,cd]
def Shut(ops:Array Oper)(L:Nat->Bool):Prop:=∀j i,L j=true->direct ops j i=true->L i=true
theorem KH(hp:oE ops ts=true){i j}(a:i<j)(c:j<ops.size):before ops 6 j i=true\/vF ops ts i j=true:=by
 unfold oE at hp;simp only[cj,jZ,qu]at hp;grind
theorem abN:∀{n j i:Nat},before ops n j i=true->direct ops j i=true\/∃m a,direct ops j m=true/\before ops a m i=true/\a<n
 |0,j,i,h=>.inl h
 |n+1,j,i,h=>by
  simp only[before,qu]at h;rcases h with h|h
  .exact .inl h
  .split at h
   .rename_i o c;simp only[Bt,cd]at h;obtain⟨e,f,g,d⟩:=h;refine .inr ⟨e.on,n,?_,d,xE n⟩;unfold direct;rw[c];simp only[Array.any_eq_true',cd,beq_iff_eq];grind
   .cases h
theorem Jh{L}(a:Shut ops L)(n):∀{j i},before ops n j i=true->L j=true->L i=true:=by
 induction n using Nat.strongRecOn with
 |_ n ih=>
  intro j i h c;rcases abN h with h| ⟨m,d,e,f,g⟩
  .exact a j i c h
  .exact ih d g f (a j m c e)
theorem aey{L}(a:Shut ops L){n j i}(h:before ops n j i=true)(c:∀m,direct ops j m=true->L m=true):L i=true:=by
 grind[abN,Jh]
theorem V0(hp:oE ops ts=true){L}(g:Shut ops L){i k}(l:L i=false)(a:i<ops.size)(c:k<ops.size)(m:∀j,direct ops i j=true->L j=true)(n:L k≠decide (k<i)):
 (k<i/\vF ops ts k i=true)\/(i<k/\vF ops ts i k=true):=by
 by_cases d:k<i
 .have f:L k=false:=by simp_all
  rcases KH hp d a with h|h
  .grind[aey]
  simp_all
 .have f:L k=true:=by simp_all
  have e:i<k:=by
   grind
  rcases KH hp e c with h|h
  .grind[Jh]
  simp_all
theorem avB(u:Lex P Sp b ops st0 rs ts)(hp:oE ops ts=true){L}(C:Shut ops L){i o}(g:ops[i]?=some o)(D:L i=false)(E:∀j,direct ops i j=true->L j=true):
 kY P Sp b ops (AS ops rs st0 L) i o=some (rs i):=by
 have w:i<ops.size:=(fx.1 g).1;have hstep:kY P Sp b ops (AS ops rs st0 λj=>decide (j<i)) i o=some (rs i):=u.step i o g;have hname:ts[i]?=some (ux (AS ops rs st0 λj=>decide (j<i)) o (rs i),iC (rs i)):=u.name i o g;have key:∀k,k<ops.size->L k=decide (k<i)\/∃x,ops[k]?=some x/\(∀t,t∈o.looksAt ops->x.dst≠some t)/\∀α,α∈ux (AS ops rs st0 λj=>decide (j<i)) o (rs i)->α∉iC (rs k):=by
  intro k z;by_cases v:L k=decide (k<i)
  .exact .inl v
  .right;have l:ops[k]?=some ops[k]:=pd z;refine⟨ops[k],l,?_,?_⟩
   .intro t m p;rcases V0 hp C D w z E v with⟨_,h⟩| ⟨_,h⟩
    .obtain⟨_,_,_,_,q,_⟩:=D1 u l g h;exact(Oper.apart_spec q).1 t p m
    .obtain⟨_,_,_,_,q,_⟩:=D1 u g l h;exact(Oper.apart_spec q).2.2 t p m
   grind[V0,hp,D1,Q7]
 have c:∀t,t∈o.looksAt ops->(AS ops rs st0 L).tmps[t]?=(AS ops rs st0 λj=>decide (j<i)).tmps[t]?:=by
  intro t m;rw[DY,DY];grind[rm,YY]
 have A:∀α,α∈ux (AS ops rs st0 λj=>decide (j<i)) o (rs i)->iq (AS ops rs st0 λj=>decide (j<i)) (AS ops rs st0 L) α:=by
  intro α F;refine⟨?_,?_⟩
  .rw[DV,DV];grind[rm,V7]
  .rw[w7,w7];refine(Iff.of_eq (rm λk z=>?_)).symm;grind[JM]
 have a:r8 ops (AS ops rs st0 L) o=r8 ops (AS ops rs st0 λj=>decide (j<i)) o:=by
  unfold r8
  cases G:o.guard with
  |none=>rfl
  |some y=>
   obtain⟨j,want⟩:=y;simp only
   cases v:(ops[j]?).bind (·.dst)with
   |none=>rfl
   |some d=>
    simp only;rw[c d (by
     refine fo.2 (.inr ?_);rw[G];simp only;rw[v];simp)]
 unfold kY at hstep⊢;rw[a];split at hstep
 .simp only[bY]at hstep⊢;obtain⟨r,q,B⟩:=hstep;refine⟨r,?_,B⟩;have e:∀n,n∈(AS ops rs st0 λj=>decide (j<i)).mo o.op++r.rd->iq (AS ops rs st0 λj=>decide (j<i)) (AS ops rs st0 L) n:=by
   intro n f;refine A n ?_;rw[<-B];exact f
  refine ajD (st:=AS ops rs st0 λj=>decide (j<i)) (λs x l=>?_) (λ_ t H=>?_) (λn f=>e n (sq _ (avA f))) (λn f=>e n (qq _ f)) q
  .refine afw (λt m=>(c t ?_).symm) (λn f=>(e n (sq _ ?_)).2)
   .subst m;exact fo.2 (.inl (sx.2 ⟨.tmp t,l,rfl⟩))
   .have:(AS ops rs st0 λj=>decide (j<i)).mo o.op=o.op.operands.toList.flatMap (AS ops rs st0 λj=>decide (j<i)).raw:=by
     unfold bz.mo;split<;>first|rfl| (rename_i h;rw[h]at s;cases s)
    grind
  .refine(c t ?_).symm;exact fo.2 (.inl (sx.2 ⟨.tmp t,H,rfl⟩))
 .exact hstep
 .cases hstep
theorem aec(s:Lex P Sp b ops st0 rs ts)(hp:oE ops ts=true){L f}(A:Shut ops L){i o}(n:ops[i]?=some o)(g:L i=false)
 (c:f i=true) (d:∀k,k≠i->f k=L k) {X} {E} {a} {w} (h:Rel X E (gE (AS ops rs st0 L) o (rs i)) a w):
 Rel X ⟨E.N,(AS ops rs st0 f).bt⟩ (AS ops rs st0 f) a w:=by
 have e:i<ops.size:=(fx.1 n).1;have j:∀k,i<k->k<ops.size->L k=true->∃x,ops[k]?=some x/\(∀t,o.dst=some t->x.dst≠some t)/\∀α,α∈iC (rs i)->α∉iC (rs k):=by
  intro k l p u;have q:ops[k]?=some ops[k]:=pd p;rcases KH hp l p with r|r
  .grind[Jh]
  .obtain⟨B,C,_,_,v,_,_,y⟩:=D1 s n q r;exact⟨ops[k],q,λt z=>(Oper.apart_spec v).2.1 t z,λα m=>Q7 y m⟩
 refine h.congr ?_ ?_ ?_ ?_
 .intro t;rw[DY,Ak g c d e,aaq,DY]
  .grind[gT]
  grind[YY]
 .intro α;rw[DV,Ak g c d e,Ux,DV]
  .rfl
  grind[iC,V7]
 .intro τ;rw[w7,Ak g c d e,wk,w7]
  .rfl
  grind[iC,JM]
 .rw[Nj,Fz,Nj]
end
def C.clear(g:List Nat)(c:C):C:=if c.names.any (g.contains ·)then .dead else c
def bz.settle(st:bz):bz:=match st.bt with
 |[]=>st
 |g=>⟨st.tmps.map (V.on (C.clear g)),(st.heap.filter λx=> !g.contains x.1).map λx=>(x.1,x.2.on (C.clear g)),[],st.next⟩
def Env.settle(E:Env):Env:=⟨λn=>if n∈E.bt then none else E.N n,[]⟩
theorem Uk{M E g}(h:bad M E.settle g):bad M E g:=by
 rcases h with h| ⟨n,x,a,c⟩
 .exact .inl h
 .simp only[Env.settle]at a;split at a
  .cases a
  .exact .inr ⟨n,x,a,c⟩
theorem RC.clear{M E w c v}(h:RC M E w c v):RC M E.settle w (c.clear E.bt) v:=by
 unfold C.clear;split
 .trivial
 .rename_i m;have d:∀n∈c.names,n∉E.bt:=λn a k=>m (Bt.2 ⟨n,a,by simpa using k⟩)
  have q:iP (bad M E) (bad M E.settle) w w:=λg o u a k=>⟨a,λh=>k (Uk h)⟩
  have:RC M E.settle w (c.dK id) v:=RC.dK (.inl q) (λn a=>⟨d n a,λx t=>by simp only[Env.settle,id,bO (d n a)];exact t⟩) h;have e:c.dK id=c:=by cases c<;>simp[C.dK]
  simp_all
theorem auI{l:Hp}{p:Nat->Bool}{n}:List.lookup n (l.filter λx=>p x.1)=if p n then List.lookup n l else none:=by
 induction l with
 |nil=>simp
 |cons x l ih=>
  grind
theorem auG{l:Hp}{f:eD->eD}{n}:List.lookup n (l.map λx=>(x.1,f x.2))=(List.lookup n l).map f:=by
 induction l with
 |nil=>simp
 |cons x l ih=>
  grind
theorem Rel.settle{X E st a w}(h:Rel X E st a w):∃E',Rel X E' st.settle a w/\st.settle.bt=[]:=by
 cases H:st.bt with
 |nil=>exact⟨E,by simp only[bz.settle,H];exact h,by simp[bz.settle,H]⟩
 |cons t U=>
  have hs:st.settle=⟨st.tmps.map (V.on (C.clear E.bt)),(st.heap.filter λx=> !E.bt.contains x.1).map λx=>(x.1,x.2.on (C.clear E.bt)),[],st.next⟩:=by simp only[bz.settle,H,h.bt]
  have K:∀n x,E.settle.N n=some x->n∉E.bt/\E.N n=some x:=λn x d=>by
   simp only[Env.settle]at d;simp_all
  have M:iP (bad X.M E) (bad X.M E.settle) w w:=λg o u q A=>⟨q,λh=>A (Uk h)⟩
  refine⟨E.settle,?_,by rw[hs]⟩;rw[hs];exact{
   defers:=h.defers
   bt:=rfl
   frame:=h.frame
   eW:=h.eW
   dD:=λn x d=>h.dD n x (K n x d).2
   names:=λn x g d H=>h.names n x g (K n x d).2 H
   inj:=λn m x y g d hy=>h.inj n m x y g (K n x d).2 (K m y hy).2
   ec:=λm hm=>by
    simp only[Env.settle];split
    .exact .inl rfl
    .exact h.ec m hm
   fQ:=h.fQ
   fK:=λn N=>by cases N
   size:=by simp[h.size]
   tmps:=λi v B=>by
    simp only[cN,bY]at B;obtain⟨v',hv,rfl⟩:=B;obtain⟨u,q,A⟩:=h.tmps i v' hv;exact⟨u,q,RV.on (λc v hc=>RC.clear hc) A⟩
   heap:=λn b G=>by
    simp only[auG]at G;rw[auI (p:=λk=> !E.bt.contains k)]at G;split at G
    .rename_i N;simp only[bY]at G;obtain⟨b',O,rfl⟩:=G;have I:n∉E.bt:=by simpa using N
     have R:=h.row (by rw[<-h.bt];exact I) O;have D:∀x,E.N n=some x->E.settle.N n=some x:=λx d=>by simp only[Env.settle,bO I];exact d
     right
     cases b' with
     |box cs=>
      obtain⟨x,g,F,e,q,S,A,J,T⟩:=R;refine⟨x,g,F,e,D x q,S,A,by simp[J],λi c B=>?_⟩;simp only[cN,bY]at B;obtain⟨c',W,rfl⟩:=B;obtain⟨u,Y,Z,h7⟩:=T i c' W;exact⟨u,Y,RC.clear Z,h7⟩
     |row e rows=>
      obtain⟨x,F,fz,q,aa,A,J,T,Y,Z,ab,h7,h8,ad,h9⟩:=R;exact⟨x,F,fz,D x q,aa,A,J,T,Y,Z,ab,h7,h8,ad,λi r j p B hj=>let⟨u,k1,k2⟩:=h9 i r j p B hj; ⟨u,k1,k2.trans M⟩⟩
     |map es=>
      obtain⟨x,g,en,clock,q,S,A,J⟩:=R;exact⟨x,g,en,clock,D x q,S,A,J⟩
    .cases G}
def bz.bump(st:bz)(k:Nat):bz:={st with next:=st.next+8*k}
theorem Rel.bump{X E st a w}(h:Rel X E st a w)(k):Rel X E (st.bump k) a w:=
 {h with dD:=λn x d=>mO (h.dD n x d) (acZ _ _),fQ:=qo h.fQ (acZ _ _),fK:=λn m=>mO (h.fK n m) (acZ _ _),size:=h.size,tmps:=h.tmps,heap:=h.heap,defers:=h.defers,bt:=h.bt}
theorem Rel.free{X E st a w}(h:Rel X E st a w)(d:st.bt=[]){k j}(o:j<k):pC X E (st.bump k) (st.next+8*j):=λn q t=>by
 refine⟨?_,?_,?_,?_⟩
 .cases m:E.N n with
  |none=>rfl
  |some x=>have:=h.dD n x m;omega
 .show n∉st.bt;rw[d];simp
 .show n<st.next+8*k;omega
 .have:=h.fQ;omega
def jK(P:cD)(Sp:Spec)(b:Nat)(ops:Array Oper):List Oper->Nat->bz->Option (List (Option cb)×jL×bz)
 |[],_,st=>some ([],[],st)
 |o::l,k,st=>match kY P Sp b ops st k o with
  |some r=>match jK P Sp b ops l (k+1) (gE st o r)with
   |some (rs,ts,st')=>some (r::rs,(ux st o r,iC r)::ts,st')
   |none=>none
  |none=>none
def oB(b:Nat):Nat->jL->Bool
 |_,[]=>true
 |k,(_,m)::ts=>m.all (λn=>decide (n<b+8*k+8))&&oB b (k+1) ts
theorem SD{X:Fx}{Sp:Spec}{b:Nat}{ops:Array Oper}{Q:Exit->Act->cp->Prop}:∀(l:List Oper)(k:Nat){E:Env}{st st':bz}{rs:List (Option cb)}{ts:jL}{a:Act}{w:cp},
 (∀j,l[j]?=ops[k+j]?)->Rel X E st a w->(∀j,k<=j->j<ops.size->pC X E st (b+8*j))->jK X.P Sp b ops l k st=some (rs,ts,st')->oB b k ts=true->
 (∀m w' E',Rel X E' st' m w'->Q .normal m w')->wpOps X.P ops Q (List.range' k l.length) a w
 |[],k,E,st,st',rs,ts,a,w,_,h,_,c,_,e=>by
  cases c;exact e a w E h
 |o::l,k,E,st,st',rs,ts,a,w,p,h,q,c,d,e=>by
  have s:ops[k]?=some o:=by simpa using(p 0).symm
  have t:k<ops.size:=(fx.1 s).1;simp only[jK]at c;split at c
  .rename_i r u;split at c
   .rename_i x y z f;cases c;simp only[oB,cd,cj,dj]at d;simp only[kH,List.range'_succ,wpOps,s];have:=Ku h (q k (dx _) t) (ops:=ops) u (next:=wpOps X.P ops Q (List.range' (k+1) l.length)) (Q:=Q) (λv w' E' k1 k2=>by
     refine SD l (k+1) (λj=>by have:=p (j+1);grind) k2 ?_ f d.2 e;intro j H g n A B;obtain⟨C,D,F,G⟩:=q j om g n A B;refine⟨k1 n om C,?_,by rw[Fz];exact F,G⟩;rw[wk];rintro(i|i)
     .have:=d.1 n (qq _ i);omega
     .exact D i)
    grind
   .cases c
  .cases c
def cM(p:Nat->Bool):Nat->Nat
 |0=>0
 |n+1=>cM p n+if p n then 1 else 0
theorem Sr{p q:Nat->Bool}:∀{n:Nat},(∀k,k<n->p k=q k)->cM p n=cM q n
 |0,_=>rfl
 |n+1,h=>by simp only[cM,Sr (n:=n) (λk a=>h k om),h n om]
theorem XR{p q i}(d:p i=true)(a:q i=false)(h:∀k,k≠i->q k=p k):∀{n},i<n->cM q n+1=cM p n
 |0,e=>om
 |n+1,e=>by
  by_cases c:i=n
  .subst c;simp only[cM,d,a,if_true,qp,if_false,Sr (n:=i) (p:=q) (q:=p) (λk f=>h k om)]
  .have ih:=XR d a h (n:=n) om;grind[cM]
theorem SM{p}:∀{n},cM p n=0->∀k,k<n->p k=false
 |0,_,k,a=>om
 |n+1,h,k,a=>by
  simp only[cM]at h;by_cases c:k=n
  .simp_all
  .exact SM (n:=n) om k om
def e8(listed:Array Bool)(k:Nat):Bool:=listed.getD k false
section
variable{X:Fx}{Sp:Spec}{b:Nat}{ops:Array Oper}{st0:bz}{rs:Nat->Option cb}{ts:jL}
theorem QQ(c:Lex X.P Sp b ops st0 rs ts)(a:tc b ops ts=true){i j}(d:i<ops.size)(f:j<ops.size)(e:i≠j)(g:direct ops i j=false):∀n∈iC (rs i),¬(b+8*j<=n/\n<b+8*j+8):=by
 unfold tc at a;simp only[cj,jZ,qu,beq_iff_eq]at a;have h:=c.name i ops[i] (pd d);grind
theorem akv(C:Lex X.P Sp b ops st0 rs ts)(hp:oE ops ts=true)(y:tc b ops ts=true)(D:CY ops=true){Q}
 (T:∀O w' E',Rel X E' (AS ops rs st0 λk=>decide (k<ops.size)) O w'->Q .normal O w'):
 ∀(fuel)(listed)(E)(a)(w),listed.size=ops.size->cM (λk=> !e8 listed k) ops.size=fuel->Shut ops (e8 listed)->Rel X E (AS ops rs st0 (e8 listed)) a w->
  (∀k,k<ops.size->e8 listed k=false->pC X E (AS ops rs st0 (e8 listed)) (b+8*k))->wpAny X.P .any ops Q fuel listed a w:=by
 have hend:∀(listed:Array Bool)(E:Env)(a:Act)(w:cp),(∀k,k<ops.size->e8 listed k=true)->Rel X E (AS ops rs st0 (e8 listed)) a w->Q .normal a w:=by
  intro listed E a w hall hR;refine T a w E ?_;have:AS ops rs st0 (e8 listed)=AS ops rs st0 λk=>decide (k<ops.size):=rm λk d=>.inl (by simp_all)
  simp_all
 have hnone:∀(listed:Array Bool),listed.size=ops.size->Region.ready .any ops listed=[]->∀k,k<ops.size->e8 listed k=true:=by
  intro listed m R k
  induction k using Nat.strongRecOn with
  |_ k ih=>
   intro d
   cases S:e8 listed k with
   |true=>rfl
   |false=>
    have:k∈Region.ready .any ops listed:=mem_ready.2 ⟨by
     simp_all[e8,gS],ops[k],pd d,λe F G=>by
     unfold CY at D;simp only[cj,jZ]at D;have:=D k d;rw[pd d]at this;simp only[Array.all_eq_true_iff_forall_mem]at this;have:=this e F;rw[G]at this;simp at this;exact ih e.on this om⟩
    simp_all
 intro fuel
 induction fuel with
 |zero=>
  intro listed E a w m U r hR H;have hall:∀k,k<ops.size->e8 listed k=true:=λk d=>by grind[SM]
  refine⟨?_,hend listed E a w hall hR⟩;refine List.eq_nil_iff_forall_not_mem.2 λi I=>?_
  obtain⟨V,o,u,_⟩:=mem_ready.1 I;grind[e8]
 |succ fuel ih=>
  intro listed E a w m U r hR H;refine⟨λR=>hend listed E a w (hnone listed m R) hR,λi I=>?_⟩;obtain⟨V,o,u,z⟩:=mem_ready.1 I;have f:i<ops.size:=(fx.1 u).1;have g:e8 listed i=false:=by
   simp_all[e8,gS]
  have J:∀j,direct ops i j=true->e8 listed j=true:=by
   intro j s;unfold direct at s;rw[u]at s;simp only[Array.any_eq_true',cd,beq_iff_eq]at s;obtain⟨e,F,G,rfl⟩:=s;exact z e F G
  have h:e8 (listed.setIfInBounds i true) i=true:=by
   simp_all[e8]
  have c:∀k,k≠i->e8 (listed.setIfInBounds i true) k=e8 listed k:=λk d=>by
   simp_all[e8,Ne.symm]
  have K:=avB C hp r u g J;unfold wpOp;rw[u];simp only;have :=Ku hR (H i f g) (ops:=ops) (o:=o) K (next:=wpAny X.P .any ops Q fuel (listed.setIfInBounds i true)) (Q:=Q) (λv w' E' k1 k2=>by
   have W:=aec C hp r u g h c k2;refine ih (listed.setIfInBounds i true) _ _ w' (by simpa using m) ?_ ?_ W ?_
   .have:=XR (p:=λk=> !e8 listed k) (q:=λk=> !e8 (listed.setIfInBounds i true) k) (i:=i) (by simp[g]) (by simp[h]) (λk d=>by simp[c k d]) f;omega
   .intro j k s S;by_cases l:k=i
    .simp_all
    .rw[c k l];by_cases L:j=i
     .simp_all
     .rw[c j L]at s;exact r j k s S
   .intro k d A n M N;have l:k≠i:=by grind
    rw[c k l]at A;obtain⟨Y,Z,f3,f4⟩:=H k d A n M N;refine⟨k1 n om Y,?_,by simp_all[Nj],f4⟩;have B:(n∈(AS ops rs st0 (e8 (listed.setIfInBounds i true))).bt)↔n∈(gE (AS ops rs st0 (e8 listed)) o (rs i)).bt:=by
     have hg:n∉iC (rs i):=by
      intro hm
      cases t:direct ops i k with
      |true=>simp_all
      |false=>exact QQ C y f d (Ne.symm l) t n hm ⟨M,N⟩
     rw[w7,Ak g h c f (.inr (JM hg)),wk,w7];rfl
    intro h7;have x:=B.1 h7;rw[wk]at x;rcases x with x|x
    .cases t:direct ops i k with
     |true=>simp_all
     |false=>exact QQ C y f d (Ne.symm l) t n (qq _ x) ⟨M,N⟩
    .exact Z x)
  grind
theorem aaD{rsF:Nat->Option cb}:∀(l)(k){st st'}{ts}{rs},
 (∀j,l[j]?=ops[k+j]?)->jK X.P Sp b ops l k st=some (rs,ts,st')->(∀j,j<rs.length->rsF (k+j)=(rs[j]?).getD none)->
 st=fi (λk st=>gE st (ops[k]?.getD default) (rsF k)) (λ_=>true) st0 k->
 rs.length=l.length/\ts.length=l.length/\
 st'=fi (λk st=>gE st (ops[k]?.getD default) (rsF k)) (λ_=>true) st0 (k+l.length)/\
 ∀(j)(o),l[j]?=some o->kY X.P Sp b ops (fi (λk st=>gE st (ops[k]?.getD default) (rsF k)) (λ_=>true) st0 (k+j)) (k+j) o=some (rsF (k+j))/\
  ts[j]?=some (ux (fi (λk st=>gE st (ops[k]?.getD default) (rsF k)) (λ_=>true) st0 (k+j)) o (rsF (k+j)),iC (rsF (k+j)))
 |[],k,st,st',ts,rs,_,a,_,e=>by
  cases a;simp_all
 |o::l,k,st,st',ts,rs,g,a,c,e=>by
  have t:ops[k]?=some o:=by simpa using(g 0).symm
  simp only[jK]at a;split at a
  .rename_i r u;split at a
   .rename_i i m n f;cases a;have p:rsF k=r:=by have:=c 0 (by simp);simpa using this
    have d:gE st o r=fi (λk st=>gE st (ops[k]?.getD default) (rsF k)) (λ_=>true) st0 (k+1):=by
     simp_all[fi,gS]
    obtain⟨q,s,v,w⟩:=aaD l (k+1) (λj=>by have:=g (j+1);grind) f
     (λj h=>by have:=c (j+1) (by simpa using h);grind) d
    refine⟨by simp[q],by simp[s],by grind,λj x h=>?_⟩;grind
   .cases a
  .cases a
end
theorem B_{X g}{x:X}{k n}(h:k<=n):fi g (λj=>decide (j<k)) x n=fi g (λ_=>true) x k:=by
 induction n with
 |zero =>
           have:k=0:=om;subst this;rfl
 |succ n ih=>
  by_cases a:k=n+1
  .grind[rm]
  .simp only[fi];grind
def Told(X:Fx)(st:bz)(a:Act)(w:cp):Prop:=∃E,Rel X E st a w/\st.bt=[]
def Aw(X:Fx)(c:Code)(Q:Exit->bz->Prop)(st:bz):Prop:=
 ∀a w,Told X st a w->c.wp X.P (λe d w'=>∃st',Q e st'/\Told X st' d w') a w
section
variable{X:Fx}{Sp:Spec}{Q:Exit->bz->Prop}{st:bz}
theorem te{id ops rs ts st'}(he:jK X.P Sp st.next ops.toArray ops 0 (st.bump ops.length)=some (rs,ts,st'))(hs:oB st.next 0 ts=true)(h:Q .normal st'.settle):
 Aw X (.region id ops.toArray false) Q st:=λa w ht=>by
 obtain⟨E,hR,hg⟩:=ht;refine wp_region ?_;have:=SD (X:=X) (ops:=ops.toArray) (Q:=λe a' w'=>∃st',Q e st'/\Told X st' a' w') ops 0 (λj=>by simp) (hR.bump ops.length) (λj _ hj=>hR.free hg (by simpa using hj)) he hs (λa' w' E' k1=>by
  obtain⟨E2,k3,k4⟩:=k1.settle;exact⟨_,h,E2,k3,k4⟩)
 rw[<-List.range_eq_range']at this;simpa using this
theorem ajl(hm:X.P.follows .mixedOrders=true){id ops}(hf:CY ops.toArray=true){rs ts st'}
 (he:jK X.P Sp st.next ops.toArray ops 0 (st.bump ops.length)=some (rs,ts,st')) (hp:oE ops.toArray ts=true) (hfo:tc st.next ops.toArray ts=true) (h:Q .normal st'.settle):
 Aw X (.region id ops.toArray true) Q st:=λa w ht=>by
 obtain⟨E,hR,hg⟩:=ht;obtain⟨g1,g2,g4,g5⟩:=aaD (X:=X) (st0:=st.bump ops.length) (rsF:=λk=>(rs[k]?).getD none) ops 0 (λj=>by simp) he (λj _=>by simp) rfl;have axe:Lex X.P Sp st.next ops.toArray (st.bump ops.length) (λk=>(rs[k]?).getD none) ts:={
  step:=λk o ho=>by
   grind[B_]
  name:=λk o ho=>by
   grind[B_]}
 refine wp_region_any hm ?_;have O6:Rel X E (st.bump ops.length) a {w with drawn:=w.drawn+1}:=(hR.bump ops.length).drew;have e1:AS ops.toArray (λk=>(rs[k]?).getD none) (st.bump ops.length) (e8 (Array.replicate ops.toArray.size false))=st.bump ops.length:=by
  have:AS ops.toArray (λk=>(rs[k]?).getD none) (st.bump ops.length) (e8 (Array.replicate ops.toArray.size false))=AS ops.toArray (λk=>(rs[k]?).getD none) (st.bump ops.length) (λj=>decide (j<0)):=
   rm λk hk=>.inl (by simp_all[e8])
  rw[this];show fi _ _ _ _=_;rw[B_ (gk _)];rfl
 refine akv (X:=X) (Q:=λe a' w'=>∃st',Q e st'/\Told X st' a' w') axe hp hfo hf ?_ _ _ E a _ (by simp) ?_ ?_ ?_ ?_
 .intro a' w' E' k2;have e1:AS ops.toArray (λk=>(rs[k]?).getD none) (st.bump ops.length) (λk=>decide (k<ops.toArray.size))=st':=by
   simp_all[B_]
  rw[e1]at k2;obtain⟨E2,k3,k4⟩:=k2.settle;exact⟨_,h,E2,k3,k4⟩
 .have:∀n,n<=ops.length->cM (λk=> !e8 (Array.replicate ops.toArray.size false) k) n=n:=by
   intro n hn
   induction n with
   |zero=>rfl
   |succ n ih=>
    simp only[cM,ih om];simp[e8,u5,show n<ops.length by omega]
  simp_all
 .intro j i hj _;simp[e8,u5,Array.getElem?_replicate]at hj;grind
 .rw[e1];exact O6
 .intro k hk _;rw[e1];exact hR.free hg (by simpa using hk)
theorem lB{c Q'}(h:Aw X c Q st)(hq:∀e st,Q e st->Q' e st):Aw X c Q' st:=
 λa w ht=>wp_mono (h a w ht) λe _ _⟨st',h1,h2⟩=>⟨st',hq e st' h1,h2⟩
def Le(X:Fx)(st st':bz):Prop:=∀a w,Told X st a w->Told X st' a w
theorem Sy{c st'}(d:Le X st st')(h:Aw X c Q st'):Aw X c Q st:=λa w e=>h a w (d a w e)
theorem Dc(h:Q .normal st):Aw X .skip Q st:=λ_ _ ht=>wp_skip ⟨st,h,ht⟩
theorem anv{id}(h:Q (.exit id) st):Aw X (.exit id) Q st:=λ_ _ ht=>wp_exit ⟨st,h,ht⟩
theorem tB(h:Q .ret st):Aw X .ret Q st:=λ_ _ ht=>wp_ret ⟨st,h,ht⟩
def z6(next:bz->Prop)(Q:Exit->bz->Prop):Exit->bz->Prop
 |.normal,st=>next st
 |e,st=>Q e st
theorem gg{x y}(h:Aw X x (z6 (Aw X y Q) Q) st):Aw X (.seq x y) Q st:=λa w ht=>by
 refine wp_seq (wp_mono (h a w ht) ?_);rintro e a' w' ⟨st',h1,h2⟩
 cases e with
 |normal=>exact h1 a' w' h2
 |_=>exact⟨st',h1,h2⟩
theorem tp{c x y t}(hc:st.arg c=some (.sc (.bool t)))(h1:t=true->Aw X x Q st)(h2:t=false->Aw X y Q st):Aw X (.cond c x y) Q st:=λa w ht=>by
 have nO:=ht;obtain⟨E,hR,_⟩:=nO;have k1:=RP.ei (hR.cY hc).1;refine wp_cond k1 ?_;cases t
 .exact h2 rfl a w ht
 .exact h1 rfl a w ht
def Au(id:Nat)(Q:Exit->bz->Prop):Exit->bz->Prop
 |.exit a,st=>if a=id then Q .normal st else Q (.exit a) st
 |e,st=>Q e st
theorem aau{id c}(h:Aw X c (Au id Q) st):Aw X (.block id c) Q st:=λa w ht=>by
 refine wp_block (wp_mono (h a w ht) ?_);rintro e a' w' ⟨st',h1,h2⟩
 cases e with
 |exit id'=>
  simp only[Au]at h1;by_cases hid:id'=id
  .rw[bF hid]at h1;simp only[Exit.inBlock,hid,if_true];grind
  .rw[bO hid]at h1;simp only[Exit.inBlock];grind
 |_=>exact⟨st',h1,h2⟩
def ajN(Q:Exit->bz->Prop):Exit->bz->Prop
 |.goto _,_=>False
 |e,st=>Q e st
theorem arP{c}(h:Aw X c (ajN Q) st):Aw X (.scope c) Q st:=λa w ht=>by
 refine wp_scope_straight (wp_mono (h a w ht) ?_);rintro e a' w' ⟨st',h1,h2⟩
 cases e with
 |goto l=>exact h1.elim
 |_=>exact⟨st',h1,h2⟩
theorem apG{l}(h:Q .normal st):Aw X (.label l) Q st:=λ_ _ ht=>wp_label ⟨st,h,ht⟩
def rj(X:Fx)(c:Code):Nat->(Exit->bz->Prop)->bz->Prop
 |0,_,_=>False
 |n+1,Q,st=>Aw X c (z6 (rj X c n Q) Q) st
theorem abG{c st'}:∀{n},Le X st st'->rj X c n Q st'->rj X c n Q st
 |0,_,h=>h.elim
 |_+1,a,h=>Sy a h
theorem aaz{c}:∀{n}{st},rj X c n Q st->∀a w,Told X st a w->Code.rounds X.P c (λe a' w'=>∃st',Q e st'/\Told X st' a' w') n a w
 |0,_,h=>h.elim
 |n+1,st,h=>λa w ht=>by
  refine wp_mono (h a w ht) ?_;rintro e a' w' ⟨st',h1,h2⟩
  cases e with
  |normal=>exact aaz (n:=n) h1 a' w' h2
  |_=>exact⟨st',h1,h2⟩
theorem Wt{c n}(h:rj X c n Q st):Aw X (.loop c) Q st:=λa w ht=>wp_loop_rounds n (aaz h a w ht)
theorem atY{c}{α:Type}(I:α->bz->Prop)(t:α->Nat){x0}(D:∃h,Le X st h/\I x0 h)
 (round:∀x st,I x st->Aw X c (z6 (λst'=>∃p h,Le X st' h/\I p h/\t p<t x) Q) st):Aw X (.loop c) Q st:=λa w v=>by
 obtain⟨h,E,y⟩:=D;intro b k cs;have key:∀n x st,t x=n->I x st->∀a w,Told X st a w->
  ∃e u w',(∃st',Q e st'/\Told X st' u w')/\Arrives X.P (lone (b.at a (.code c:: .inLoop c::k)) cs w) b k cs e u w':=by
  intro n
  induction n using Nat.strongRecOn with
  |_ n ih=>
   intro x st F y a w v;obtain⟨e,f,g,⟨st',m,i⟩,d⟩:=round x st y a w v b (.inLoop c::k) cs
   cases e with
   |normal=>
    obtain⟨p,z,A,B,C⟩:=m;obtain⟨q,r,s,o,j⟩:=ih (t p) (F▸C) p z rfl B f g (A _ _ i);exact⟨q,r,s,o,.of_steps (Steps.trans d (.one step_inLoop)) j⟩
   |exit id=>exact⟨_,f,g,⟨st',m,i⟩,.pass (x:=.inLoop c) rfl (λ_ _=>.inl (by simp)) d⟩
   |goto l=>exact⟨_,f,g,⟨st',m,i⟩,.pass (x:=.inLoop c) rfl (λ_ _=>.inl (by simp)) d⟩
   |ret=>exact⟨_,f,g,⟨st',m,i⟩,.pass (x:=.inLoop c) rfl (λ_ _=>.inl (by simp)) d⟩
   |panic G=>exact⟨_,f,g,⟨st',m,i⟩,.pass (x:=.inLoop c) rfl (λ_ _=>.inl (by simp)) d⟩
   |outgrown=>exact⟨_,f,g,⟨st',m,i⟩,.pass (x:=.inLoop c) rfl (λ_ _=>.inl (by simp)) d⟩
 obtain⟨e,u,w',m,d⟩:=key _ x0 h rfl y a w (E _ _ v);exact⟨e,u,w',m,.of_steps (.one step_loop) d⟩
end
end
end
end Go.Proofs.YtndegphojkiblaaGreatDoor
