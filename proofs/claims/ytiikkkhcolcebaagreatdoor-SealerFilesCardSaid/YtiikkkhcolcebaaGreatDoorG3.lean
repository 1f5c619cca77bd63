/- A part. -/
import Derived.Test.YtiikkkhcolcebaaGreatDoorG2
import Derived.Laws.Cover3
import Derived.BigQuiet
import Derived.LoopN
import Derived.Scope
import Derived.Laws.ComplexArith
set_option linter.all false
set_option maxHeartbeats 4000000
set_option maxRecDepth 100000
namespace Go.Proofs.YtiikkkhcolcebaaGreatDoor
noncomputable section
section
open Go.RowKit
open Classical
abbrev Spec:=Nat->Option (V×iI×List Nat)
structure b_ where
 v:V
 e:iI
 rd:List Nat
def QN:iI:=⟨[],[]⟩
def b_.pure(v:V):b_:=⟨v,QN,[]⟩
def b_.of(x:V×iI):b_:=⟨x.1,x.2,[]⟩
def Kk:b8->b8->Option b8
 |.int k x,.int _ y=>some (.int k (if y<x then y else x))
 |_,_=>none
def O5:b8->b8->Option b8
 |.int k x,.int _ y=>some (.int k (if y>x then y else x))
 |_,_=>none
def lJ(P:cJ)(Sp:Spec)(st:bC)(d:Nat)(b:Builtin)(args:List cL)(ts:List cf):Option b_:=
 match b,args,ts with
 |.len,[x],[t]=>(pt P st t x).map b_.pure
 |.append,[s,x],[t,c]=>if t=c then match Sp d with
  |some (.v (.c (.sub _ _ _)),_,_)=>(tZ P st t s x).map b_.of
  |_=>(qw P st d t s x).map b_.of
  else(rA P st d t c s x).map b_.of
 |.copy,[x,y],[t,_]=>(rF P st t x y).map b_.of
 |.min,[x,y],_=>match st.arg x,st.arg y with
  |some (.v (.c (.p (.sc u)))),some (.v (.c (.p (.sc v))))=>(Kk u v).map λr=>b_.pure (.sc r)
  |_,_=>none
 |.max,[x,y],_=>match st.arg x,st.arg y with
  |some (.v (.c (.p (.sc u)))),some (.v (.c (.p (.sc v))))=>(O5 u v).map λr=>b_.pure (.sc r)
  |_,_=>none
 |.cap,[x],[t]=>match st.arg x,P.underlying t with
  |some (.v (.c .nil)),some (.slice _)=>some (b_.pure (.sc (.int .i64 0)))
  |_,_=>none
 |.delete,[m,k],t::_=>(yz P st t m k).map λe=>⟨.bM [],e,[]⟩
 |.complex,[x,y],_=>match st.arg x,st.arg y with
  |some (.v (.c (.p (.sc (.float k a))))),some (.v (.c (.p (.sc (.float f b)))))=>if k=f then some (b_.pure (.sc (.complex k a b)))else none
  |_,_=>none
 |.real,[x],_=>match st.arg x with
  |some (.v (.c (.p (.sc (.complex k a _)))))=>some (b_.pure (.sc (.float k a)))
  |_=>none
 |.imag,[x],_=>match st.arg x with
  |some (.v (.c (.p (.sc (.complex k _ b)))))=>some (b_.pure (.sc (.float k b)))
  |_=>none
 |_,_,_=>none
def bC.callee(st:bC):cL->Option (FuncId×List Nat)
 |.func f=>some (f,[])
 |x=>match st.arg x with
  |some (.v (.c (.fn f eS)))=>some (f,eS)
  |_=>none
def vB(P:cJ)(Sp:Spec)(st:bC)(d:Nat)(x:cL)(args:List cL):Option b_:=
 match st.callee x,args.mapM st.gr,Sp d with
 |some (f,eS),some xs,some (v,c,rd)=>if AT P st d f (xs++eS.map λn=>.c (.ptr n 0)) v c rd then some ⟨v,c,rd⟩else none
 |_,_,_=>none
def bC.cap(st:bC)(x:cL):Option Nat:=match st.arg x with
 |some (.v (.c (.ptr n 0)))=>some n
 |_=>none
def cr(P:cJ)(Sp:Spec)(st:bC)(d:Nat)(op:Op):Option b_:=
 match op with
 |.move (.tmp t)=>(st.tmps[t]?).map b_.pure
 |.move x=>(st.arg x).map b_.pure
 |.assign (.tmp t)=>(st.tmps[t]?).map b_.pure
 |.assign x=>(st.arg x).map b_.pure
 |.pick c a b=>match st.arg c with
  |some (.v (.c (.p (.sc (.bool t)))))=>(if t then st.arg a else st.arg b).map b_.pure
  |_=>none
 |.alloc e=>(qO P e).map λcs=>⟨.c (.ptr d 0),⟨[(d,.box cs)],[]⟩,[]⟩
 |.box _ x=>(st.gr x).map λx=>⟨.c (.ptr d 0),⟨[(d,.box x.cells)],[]⟩,[]⟩
 |.build t parts=>(yx P st t parts).map b_.pure
 |.buildSlice t len parts=>(yk P st d t len parts.toList).map b_.of
 |.load t x=>(pG P st t x).map b_.pure
 |.store t x y=>(wo P st t x y).map λe=>⟨.c .dead,e,[]⟩
 |.nilCheck x=>match st.arg x with
  |some (.v (.c (.ptr n o)))=>some (.pure (.c (.ptr n o)))
  |some (.v (.c (.d' n i j)))=>some (.pure (.c (.d' n i j)))
  |some (.v (.c (.ref cells)))=>some (.pure (.c (.ref cells)))
  |some (.v (.c (.fn f eS)))=>some (.pure (.c (.fn f eS)))
  |_=>none
 |.binOp op t x y _=>match st.arg x,st.arg y with
  |some (.v (.c (.p (.sc u)))),some (.v (.c (.p (.sc v))))=>(jZ (rM P t) op u v).map λr=>.pure (.sc r)
  |some (.v (.agg cs)),some (.v (.agg ds))=>(Ed P op t cs ds).map λb=>.pure (.sc (.bool b))
  |_,_=>none
 |.unOp op _ x=>match st.arg x with
  |some (.v (.c (.p (.sc u))))=>(yW op u).map λr=>.pure (.sc r)
  |_=>none
 |.convert s t x=>match lD P st s t x with
  |some v=>some (.pure v)
  |none=>(tJ P st s t x).map b_.of
 |.makeSlice t l c=>(yR P st d t l c).map b_.of
 |.slice t x lo g none=>match mZ P st t x lo g with
  |some v=>some (.pure v)
  |none=>match lo,g with
   |none,none=>(tT P st t x).map b_.of
   |_,_=>none
 |.slice t x lo (some g) (some mx)=>(yC P st t x lo g mx).map b_.pure
 |.sliceToArrayPointer t x=>(y8 P st t x).map b_.pure
 |.makeMap _ none=>some ⟨.c (.mp d),⟨[(d,.map [])],[]⟩,[]⟩
 |.mapUpdate t m k x=>(yf P st t m k x).map λe=>⟨.c .dead,e,[]⟩
 |.lookup t m k ok=>(zh P st t m k ok).map b_.pure
 |.fieldAddr t x f=>(rr P st t x f).map b_.pure
 |.indexAddr t x i=>(ov P st t x i).map b_.pure
 |.index t x i=>match st.arg x,st.arg i,P.underlying t with
  |some (.v (.c (.p (.sc (.string s))))),some (.v (.c (.p (.sc (.int _ i))))),some .string=>jC (0<=i) (match s[i.toNat]? with
   |some b=>some (.pure (.sc (.int .u8 b.toNat)))
   |none=>none)
  |some (.v (.agg cs)),some (.v (.c (.p (.sc (.int _ i))))),some (.array n e)=>jC (0<=i/\i<n/\oq P e=true) ((mf P e (cs.drop (i.toNat*eG P e))).map b_.pure)
  |_,_,_=>none
 |.extract (.tmp t) i=>match st.tmps[t]? with
  |some (.bM xs)=>match xs[i]? with
   |some x=>some (.pure (.v x))
   |none=>none
  |_=>none
 |.makeFunc (.func f) first captured=>if first.size=0 then(captured.toList.mapM st.cap).map λh=>.pure (.c (.fn f h))else none
 |.call c=>match c.callee with
  |.value x=>vB P Sp st d x c.args.toList
  |.builtin b=>lJ P Sp st d b c.args.toList c.argTypes.toList
  |_=>none
 |_=>none
def arR{P f}(h:Own P f)(args)(w):(callFunc f args).run P w=.ok (.enter f args) w:=by
 obtain⟨fn,c,e,g⟩:=h.fn;simp only[callFunc,Sem.run_bind,run_program,Result.andThen_ok,c,e,g,pW,if_false,Sem.run_pure]
def wq(X:Fx)(E:Env)(st:bC)(d:Nat)(a:Act)(o:Oper)(r:b_)(next:Act->bW->Prop):Prop:=
 ∀u w' E',(∀n,¬(d<=n/\n<d+8)->E.N n=none->E'.N n=none)->Rel X E' (st.ez r.e) a w'->RV X.M E' w' r.v u->next (a.put o.dst u) w'
def jA{P o a w w' next Q u}
 (hr:(execOp a.eval o).run P w=.ok (.value u) w') (h:next (a.put o.dst u) w'):o.wp P a w next Q:=by
 unfold Oper.wp;rw[hr];exact h
section
variable{X:Fx}{Sp:Spec}{E:Env}{st:bC}{a:Act}{w:bW}{d:Nat}{o:Oper}{r:b_}{next:Act->bW->Prop}{Q:Exit->Act->bW->Prop}
def wq.pure(hn:wq X E st d a o r next)(h:Rel X E st a w){v}(hr:r=.pure v){u}(hv:RV X.M E w v u){s}(h1:execOp a.eval o=(do let x<-s;Pure.pure (Next.value x)))(h2:s.run X.P w=.ok u w):o.wp X.P a w next Q:=by
 subst hr;exact jA (u:=u) (w':=w) (by rw[h1];simp[h2]) (hn u w E (λ_ _ h=>h) h hv)
def wq.pure'(hn:wq X E st d a o r next)(h:Rel X E st a w){v}(hr:r=.pure v){u}(hv:RV X.M E w v u)(h1:(execOp a.eval o).run X.P w=.ok (.value u) w):o.wp X.P a w next Q:=by
 subst hr;exact jA (u:=u) (w':=w) h1 (hn u w E (λ_ _ h=>h) h hv)
theorem azb(h:Rel X E st a w)(hF:tp X E st d){b args ts}(ho:o.op=.call ⟨.builtin b,args,ts⟩)
 (he:lJ X.P Sp st d b args.toList ts.toList=some r) (hn:wq X E st d a o r next):o.wp X.P a w next Q:=by
 have hex:(execOp a.eval o)=(builtin b ts o.type (args.map λ| .const _=>true|_=>false) (args.map a.eval)):=by
  unfold execOp;rw[ho];rfl
 have fS:=hF d (dz _) om;unfold lJ at he;split at he
 .rename_i x t ha ht;have ha':args= #[x]:=ny.1 (by simpa using ha);have n4:ts= #[t]:=ny.1 (by simpa using ht);subst ha' n4;simp only[b9]at he;obtain⟨v,hv,rfl⟩:=he;obtain⟨u,h1,h2⟩:=afN h hv (ty:=o.type);exact hn.pure' h rfl h2 (by rw[hex];simp[builtin,h1])
 .rename_i s x t t' ha ht;have ha':args= #[s,x]:=ny.1 (by simpa using ha);have n4:ts= #[t,t']:=ny.1 (by simpa using ht);subst ha' n4;split at he
  .rename_i htt;subst htt;split at he
   .simp only[b9]at he;obtain⟨⟨v,ef⟩,hv,rfl⟩:=he;obtain⟨u,w',h1,h3,h4⟩:=anf h hv (ty:=o.type);exact jA (u:=u) (w':=w') (by rw[hex];simp[builtin,h1]) (hn u w' E (λ_ _ h=>h) h3 h4)
   simp only[b9]at he;obtain⟨⟨v,ef⟩,hv,rfl⟩:=he;obtain⟨u,w',E',h1,h2,h3,h4⟩:=azM h fS.1 fS.2.2.2 fS.2.2.1 fS.2.1 hv (ty:=o.type);exact jA (u:=u) (w':=w') (by rw[hex];simp[builtin,h1]) (hn u w' E' (λn ss=>h2 n om) h3 h4)
  .simp only[b9]at he;obtain⟨⟨v,ef⟩,hv,rfl⟩:=he;obtain⟨u,w',E',h1,h2,h3,h4⟩:=ajb h fS.1 fS.2.2.2 fS.2.2.1 fS.2.1 hv (ty:=o.type);exact jA (u:=u) (w':=w') (by rw[hex];simp[builtin,h1]) (hn u w' E' (λn ss=>h2 n om) h3 h4)
 .rename_i x y t t' ha ht;have ha':args= #[x,y]:=ny.1 (by simpa using ha);have n4:ts= #[t,t']:=ny.1 (by simpa using ht);subst ha' n4;simp only[b9]at he;obtain⟨⟨v,ef⟩,hv,rfl⟩:=he;obtain⟨u,w',h1,h3,h4⟩:=apN h hv (ty:=o.type) (t2:=t');exact jA (u:=u) (w':=w') (by rw[hex];simp[builtin,h1]) (hn u w' E (λ_ _ h=>h) h3 h4)
 .rename_i _ x y ha;have ha':args= #[x,y]:=ny.1 (by simpa using ha);subst ha';split at he
  .rename_i u v hx hy;have k1:=RP.eM (h.cX hx).1;have k2:=RP.eM (h.cX hy).1;simp only[b9]at he;obtain⟨q,hq,rfl⟩:=he;unfold Kk at hq;split at hq
   .simp at hq;subst hq;refine hn.pure' h rfl (.sc rfl) ?_;rw[hex];simp[builtin,k1,k2,Builtin.min_,Builtin.min2]
   .cases hq
  .cases he
 .rename_i _ x y ha;have ha':args= #[x,y]:=ny.1 (by simpa using ha);subst ha';split at he
  .rename_i u v hx hy;have k1:=RP.eM (h.cX hx).1;have k2:=RP.eM (h.cX hy).1;simp only[b9]at he;obtain⟨q,hq,rfl⟩:=he;unfold O5 at hq;split at hq
   .simp at hq;subst hq;refine hn.pure' h rfl (.sc rfl) ?_;rw[hex];simp[builtin,k1,k2,Builtin.max_,Builtin.max2]
   .cases hq
  .cases he
 .rename_i x t ha ht;have ha':args= #[x]:=ny.1 (by simpa using ha);have n4:ts= #[t]:=ny.1 (by simpa using ht);subst ha' n4;split at he
  .rename_i e hx hu;cases he;have k1:=(h.cX hx).1;refine hn.pure' h rfl (.sc rfl) ?_;rw[hex];simp only[RC]at k1;simp[builtin,k1,Builtin.cap_,run_underlying hu,goInt]
  .cases he
 .rename_i m k t tl ha ht;have ha':args= #[m,k]:=ny.1 (by simpa using ha);have n4:ts=(t::tl).toArray:=ny.1 (by simpa using ht);subst ha' n4;simp only[b9]at he;obtain⟨ef,hv,rfl⟩:=he;obtain⟨w',h1,h3⟩:=azB h hv (ts:=tl) (ty:=o.type);exact jA (u:=.tuple #[]) (w':=w') (by rw[hex];simp[builtin,h1]) (hn _ w' E (λ_ _ h=>h) h3 ⟨#[],rfl,rfl,by simp⟩)
 .rename_i _ x y ha;have ha':args= #[x,y]:=ny.1 (by simpa using ha);subst ha';split at he
  .rename_i k u k' v hx hy;have k1:=RP.eM (h.cX hx).1;have k2:=RP.eM (h.cX hy).1;split at he
   .rename_i hk;subst hk;cases he;refine hn.pure' h rfl (.sc rfl) ?_;rw[hex];simp[builtin,k1,k2,run_complex]
   .cases he
  .cases he
 .rename_i _ x ha;have ha':args= #[x]:=ny.1 (by simpa using ha);subst ha';split at he
  .rename_i k u v hx;have k1:=RP.eM (h.cX hx).1;cases he;refine hn.pure' h rfl (.sc rfl) ?_;rw[hex];simp[builtin,k1,run_real]
  .cases he
 .rename_i _ x ha;have ha':args= #[x]:=ny.1 (by simpa using ha);subst ha';split at he
  .rename_i k u v hx;have k1:=RP.eM (h.cX hx).1;cases he;refine hn.pure' h rfl (.sc rfl) ?_;rw[hex];simp[builtin,k1,run_imag]
  .cases he
 .cases he
def aqH(h:Rel X E st a w){args:List cL}{xs}(c:args.mapM st.gr=some xs):args.length=xs.length/\∀(i:Nat)(x),xs[i]?=some x->∃u,(args.map a.eval)[i]?=some u/\e7 X.M E w x u:=by
 obtain⟨e,f⟩:=oU c;refine⟨e.symm,λi x g=>?_⟩;obtain⟨o,k,j⟩:=f i x g;exact⟨a.eval o,by simp_all,(h.gr j).1⟩
theorem aph(h:Rel X E st a w)(C:tp X E st d){x args ts}(D:o.op=.call ⟨.value x,args,ts⟩)
 (j:vB X.P Sp st d x args.toList=some r) (F:wq X E st d a o r next):o.wp X.P a w next Q:=by
 unfold vB at j;split at j
 .rename_i f eS xs v O rd k m G;split at j
  .rename_i H;cases j;obtain⟨B,I⟩:=aqH h m;have p:∃us:Array b8,a.eval x=.func (.func f) #[] us/\us.size=eS.length/\∀(i n:Nat),eS[i]?=some n->∃u,us[i]?=some u/\dj E n λx=>∃g,x.g=some g/\u=.pointer (some ⟨g,0,none⟩):=by
    unfold bC.callee at k;split at k
    .cases k;exact⟨#[],by simp[Act.eval],rfl,λi n l=>by simp at l⟩
    .split at k
     .rename_i J;cases k;exact(h.cX J).1
     .cases k
   obtain⟨us,q,s,t⟩:=p;have e:(args.map a.eval++us).size=(xs++eS.map λn=>V1.c (.ptr n 0)).length:=by simp[s,<-B]
   have c:=art h C (vals:=args.map a.eval++us) e (λi y l=>by
    rw[mm]at l;rw[ui];simp only[Array.size_map];have K:args.size=xs.length:=by rw[<-B];simp
    split at l
    .grind
    .rw[bG om];simp only[cY,b9]at l;obtain⟨n,z,rfl⟩:=l;obtain⟨u,L,M⟩:=t _ n z;refine⟨u,by rw[K];exact L,M⟩) H
   have A:(execOp a.eval o).run X.P w=.ok (.enter f (args.map a.eval++us)) w:=by
    unfold execOp;rw[D];simp[resolve,Deferred.ofValue,q,invoke,arR c.1]
   unfold Oper.wp;rw[A,Oper.upon_enter];refine c.2.mono ?_;rintro _ w' ⟨u,E',rfl,k1,k2,N⟩;exact F u w' E' k1 k2 N
  .cases j
 .cases j
set_option maxHeartbeats 4000000 in
def snd(h:Rel X E st a w)(hF:tp X E st d)
 (he:cr X.P Sp st d o.op=some r) (hn:wq X E st d a o r next):o.wp X.P a w next Q:=by
 have fS:=hF d (dz _) om;have PK:∀n,¬(d<=n/\n<d+8)->n≠d:=λn ss=>om
 cases hop:o.op with
 |move x=>
  rw[hop]at he
  cases x with
  |tmp t=>
   simp only[cr,b9]at he;obtain⟨v,hv,rfl⟩:=he;obtain⟨u,h1,h2⟩:=h.tmps t _ hv;have e1:a.eval (.tmp t)=u:=by simp[Act.eval,h1]
   exact hn.pure' h rfl (u:=a.eval (.tmp t)) (by rw[e1];exact h2) (by unfold execOp;rw[hop];rfl)
  |_=>
   simp only[cr,b9]at he;obtain⟨v,hv,rfl⟩:=he;exact hn.pure' h rfl (h.arg hv).1 (by unfold execOp;rw[hop];rfl)
 |assign x=>
  rw[hop]at he
  cases x with
  |tmp t=>
   simp only[cr,b9]at he;obtain⟨v,hv,rfl⟩:=he;obtain⟨u,h1,h2⟩:=h.tmps t _ hv;have e1:a.eval (.tmp t)=u:=by simp[Act.eval,h1]
   exact hn.pure' h rfl (u:=a.eval (.tmp t)) (by rw[e1];exact h2) (by unfold execOp;rw[hop];rfl)
  |_=>
   simp only[cr,b9]at he;obtain⟨v,hv,rfl⟩:=he;exact hn.pure' h rfl (h.arg hv).1 (by unfold execOp;rw[hop];rfl)
 |pick c x y=>
  rw[hop]at he;simp only[cr]at he;split at he
  .rename_i t hc;have k1:=RP.eM (h.cX hc).1;simp only[b9]at he;obtain⟨v,hv,rfl⟩:=he;refine hn.pure' h rfl (u:=if t then a.eval x else a.eval y) ?_ (by unfold execOp;rw[hop];simp[k1,asBool]);cases t
   .simpa using(h.arg hv).1
   .simpa using(h.arg hv).1
  .cases he
 |alloc e=>
  rw[hop]at he;simp only[cr,b9]at he;obtain⟨cs,hcs,rfl⟩:=he;obtain⟨i,z,hi,hz,hzr⟩:=xW (M:=X.M) (E:=E) (w:=w) hcs;have hb:=h.fresh (w':=w.alloc (.cells z.cells e)) d fS.1 fS.2.2.2 fS.2.2.1 ((Below.refl _ _).alloc (dz _) _) (x:=⟨some w.heap.size,0,0,0⟩) (.inr ⟨rfl,by simp⟩) (.box cs) (λhG=>
   ⟨⟨some w.heap.size,0,0,0⟩,w.heap.size,z.cells,e,by simp[Env.add],rfl,heap_alloc_new w _,hzr.1,λi c hi=>let⟨u,h1,h2,h3⟩:=hzr.2 i c hi; ⟨u,h1,h2.goes hG,h3⟩⟩)
  refine jA (u:=.pointer (some ⟨w.heap.size,0,none⟩)) (w':=w.alloc (.cells z.cells e)) ?_ (hn _ _ _ (λn ss hE=>by grind[Env.lT]) hb.2 (.inr ⟨⟨some w.heap.size,0,0,0⟩,by simp[Env.add],_,rfl,rfl⟩));unfold execOp;rw[hop];simp[Instr.alloc,zeroValue,typeInfo,hi,hz,newVar,newRow]
 |box e x=>
  rw[hop]at he;simp only[cr,b9]at he;obtain⟨y,hy,rfl⟩:=he;obtain⟨k1,k2⟩:=h.gr hy;obtain⟨k3,k4⟩:=e7.cells k1 (by rw[h.bx];exact k2);have hb:=h.fresh (w':=w.alloc (.cells (a.eval x).cells e)) d fS.1 fS.2.2.2 fS.2.2.1 ((Below.refl _ _).alloc (dz _) _) (x:=⟨some w.heap.size,0,0,0⟩) (.inr ⟨rfl,by simp⟩) (.box y.cells) (λhG=>
   ⟨⟨some w.heap.size,0,0,0⟩,w.heap.size,(a.eval x).cells,e,by simp[Env.add],rfl,heap_alloc_new w _,k3,λi c hi=>let⟨u,h1,h2,h3⟩:=k4 i c hi; ⟨u,h1,h2.goes hG,h3⟩⟩)
  refine jA (u:=.pointer (some ⟨w.heap.size,0,none⟩)) (w':=w.alloc (.cells (a.eval x).cells e)) ?_ (hn _ _ _ (λn ss hE=>by grind[Env.lT]) hb.2 (.inr ⟨⟨some w.heap.size,0,0,0⟩,by simp[Env.add],_,rfl,rfl⟩));unfold execOp;rw[hop];rfl
 |build t parts=>
  rw[hop]at he;simp only[cr,b9]at he;obtain⟨v,hv,rfl⟩:=he;obtain⟨u,h1,h2⟩:=aBS h hv;exact hn.pure h rfl h2 (s:=Instr.build t (parts.map λx=>(x.1,a.eval x.2))) (by unfold execOp;rw[hop]) h1
 |buildSlice t len parts=>
  rw[hop]at he;simp only[cr,b9]at he;obtain⟨⟨v,ef⟩,hv,rfl⟩:=he;obtain⟨u,w',E',h1,h2,h3,h4⟩:=aki h fS.1 fS.2.2.2 fS.2.2.1 hv;exact jA (u:=u) (w':=w') (by unfold execOp;simp_all) (hn u w' E' (λn ss=>h2 n (PK n ss)) h3 h4)
 |load t x=>
  rw[hop]at he;simp only[cr,b9]at he;obtain⟨v,hv,rfl⟩:=he;obtain⟨u,h1,h2⟩:=aCM h hv;exact hn.pure h rfl h2 (s:=Instr.loadAt t (a.eval x)) (by unfold execOp;rw[hop]) h1
 |store t x y=>
  rw[hop]at he;simp only[cr,b9]at he;obtain⟨ef,hv,rfl⟩:=he;obtain⟨w',E',h1,h2,h3⟩:=anM h hv;have hex:(execOp a.eval o).run X.P w=.ok .skip w':=by unfold execOp;simp_all
  unfold Oper.wp;rw[hex];exact hn undef w' E' (λn _=>h2 n) h3 trivial
 |nilCheck x=>
  rw[hop]at he;simp only[cr]at he;split at he
  .rename_i n off hx;cases he;have hh:=(h.cX hx).1;obtain⟨y,k1,g,k2,k3⟩:=dj.get hh (h.ji hx (n:=n) (by simp[C.names]));exact hn.pure' h rfl (u:=a.eval x) hh (by unfold execOp;simp_all)
  .rename_i n i j hx;cases he;have hh:=(h.cX hx).1;obtain⟨y,k1,k4,g,k2,k3⟩:=dj.get hh (h.ji hx (n:=n) (by simp[C.names]));exact hn.pure' h rfl (u:=a.eval x) hh (by unfold execOp;simp_all)
  .rename_i cells hx;cases he;have hh:=(h.cX hx).1;obtain⟨g,o',k1,k2⟩:=hh;exact hn.pure' h rfl (u:=a.eval x) (h.cX hx).1 (by unfold execOp;simp_all)
  .rename_i f eS hx;cases he;have hh:=(h.cX hx).1;obtain⟨us,k1,k2⟩:=hh;exact hn.pure' h rfl (u:=a.eval x) (h.cX hx).1 (by unfold execOp;simp_all)
  .cases he
 |binOp op t x y yt=>
  rw[hop]at he;simp only[cr]at he;split at he
  .rename_i u v hx hy;simp only[b9]at he;obtain⟨q,hq,rfl⟩:=he;have k1:=RP.eM (h.cX hx).1;have k2:=RP.eM (h.cX hy).1;exact hn.pure h rfl (v:=.sc q) (RP.sc (aye hq)) (s:=do eqGuard op t x y u v;binOp op t u v) (by unfold execOp;simp_all) (avI t x y hq w)
  .rename_i cs ds hx hy;simp only[b9]at he;obtain⟨b,hb,rfl⟩:=he;obtain⟨us,k1,k2,k3⟩:=(h.arg hx).1;obtain⟨vs,j1,j2,j3⟩:=(h.arg hy).1;unfold Ed at hb;split at hb
   .rename_i i0 a0 xs j0 b0 ys hcs su;split at hb
    .rename_i hc;obtain⟨ht,hk⟩:=hc;simp only[List.cons.injEq]at hk;obtain⟨rfl,hk⟩:=hk;have hl:xs.length=ys.length:=by simpa using cW List.length hk
     have kk:∀i,(nI ((i0,b0)::ys) i).1=(nI ((i0,a0)::xs) i).1:=λi=>by
      cases i with
      |zero=>rfl
      |succ i=>
       have:=cW (λl:List fE=>l[i]?) hk;grind[nI]
     have hu:oK us 0 (xs.length+1) (λi=>(nI ((i0,a0)::xs) i).1) (λi=>(nI ((i0,a0)::xs) i).2):=λi hi=>by
      obtain⟨u,q1,q2,_⟩:=k3 i _ (O8 hcs i hi);rw[kp,q1,RP.eM q2]
     have hv:oK vs 0 (xs.length+1) (λi=>(nI ((i0,a0)::xs) i).1) (λi=>(nI ((i0,b0)::ys) i).2):=λi hi=>by
      obtain⟨u,q1,q2,_⟩:=j3 i _ (O8 su i gL);rw[kp,q1,RP.eM q2,kk]
     obtain⟨r1,r2⟩:=amp ht om w x y hu hv (r:=qe (a0==b0) xs ys) (by
      rw[WU hl,beq_iff_eq];refine⟨λ⟨g1,g2⟩i hi=>?_,λg=>⟨g 0 om,λi hi=>g (i+1) om⟩⟩
      cases i with
      |zero=>exact g1
      |succ i=>exact g2 i om)
     split at hb
     .cases hb;exact hn.pure h rfl (v:=.sc (.bool _)) (RP.sc rfl) (s:=do eqGuard .eql t x y (a.eval x) (a.eval y);binOp .eql t (a.eval x) (a.eval y)) (by unfold execOp;rw[hop]) gL
     .cases hb;exact hn.pure h rfl (v:=.sc (.bool _)) (RP.sc rfl) (s:=do eqGuard .neq t x y (a.eval x) (a.eval y);binOp .neq t (a.eval x) (a.eval y)) (by unfold execOp;rw[hop]) gL
     .cases hb
    .cases hb
   .cases hb
  .cases he
 |unOp op t x=>
  rw[hop]at he;simp only[cr]at he;split at he
  .rename_i u hx;simp only[b9]at he;obtain⟨q,hq,rfl⟩:=he;have k1:=RP.eM (h.cX hx).1;have k2:=ahE (P:=X.P) hq w;exact hn.pure h rfl (v:=.sc q) (RP.sc k2.2) (s:=Op.unary op (a.eval x)) (by unfold execOp;rw[hop]) gL
  .cases he
 |convert s t x=>
  rw[hop]at he;simp only[cr]at he;split at he
  .rename_i v hv;cases he;obtain⟨u,h1,h2⟩:=ajH h hv;exact hn.pure h rfl h2 (s:=convert s t (a.eval x)) (by unfold execOp;rw[hop]) h1
  .simp only[b9]at he;obtain⟨⟨v,ef⟩,hv,rfl⟩:=he;obtain⟨u,w',h1,h2,h3⟩:=azf h hv;exact jA (u:=u) (w':=w') (by unfold execOp;simp_all) (hn u w' E (λ_ _ h=>h) h2 h3)
 |makeSlice t l c=>
  rw[hop]at he;simp only[cr,b9]at he;obtain⟨⟨v,ef⟩,hv,rfl⟩:=he;obtain⟨u,w',E',h1,h2,h3,h4⟩:=alC h fS.1 fS.2.2.2 fS.2.2.1 hv;exact jA (u:=u) (w':=w') (by unfold execOp;simp_all) (hn u w' E' (λn ss=>h2 n (PK n ss)) h3 h4)
 |sliceToArrayPointer t x=>
  rw[hop]at he;simp only[cr,b9]at he;obtain⟨v,hv,rfl⟩:=he;obtain⟨u,h1,h2⟩:=afb h hv;exact hn.pure h rfl h2 (s:=Instr.arrayAt t (a.eval x)) (by unfold execOp;rw[hop]) h1
 |slice t x lo hi mx=>
  rw[hop]at he
  cases mx with
  |some mx=>
   cases hi with
   |none=>simp[cr]at he
   |some hi=>
    simp only[cr,b9]at he;obtain⟨v,hv,rfl⟩:=he;obtain⟨u,h1,h2⟩:=azx h hv;exact hn.pure h rfl h2 (s:=Instr.sliceAt t (a.eval x) (lo.map a.eval) (some (a.eval hi)) (some (a.eval mx))) (by unfold execOp;rw[hop];rfl) h1
  |none=>
   simp only[cr]at he;split at he
   .rename_i v hv;cases he;obtain⟨u,h1,h2⟩:=ato h hv;exact hn.pure h rfl h2 (s:=Instr.sliceAt t (a.eval x) (lo.map a.eval) (hi.map a.eval) none) (by unfold execOp;rw[hop];rfl) h1
   .split at he
    .simp only[b9]at he;obtain⟨⟨v,ef⟩,hv,rfl⟩:=he;obtain⟨u,E',h1,h2,h3,h4⟩:=apZ h hv;exact jA (u:=u) (w':=w) (by unfold execOp;simp_all) (hn u w E' (λn _=>h2 n) h3 h4)
    .cases he
 |makeMap t r=>
  rw[hop]at he
  cases r with
  |some _=>simp[cr]at he
  |none=>
   simp only[cr,ko]at he;subst he;have hb:=h.fresh (w':=w.alloc (.map #[] 0)) d fS.1 fS.2.2.2 fS.2.2.1 ((Below.refl _ _).alloc (dz _) _) (x:=⟨some w.heap.size,0,0,0⟩) (.inr ⟨rfl,by simp⟩) (.map []) (λhG=>
    ⟨⟨some w.heap.size,0,0,0⟩,w.heap.size,#[],0,by simp[Env.add],rfl,heap_alloc_new w _,trivial⟩)
   refine jA (u:=.map (some w.heap.size)) (w':=w.alloc (.map #[] 0)) ?_ (hn _ _ _ (λn ss hE=>by grind[Env.lT]) hb.2 (.inr ⟨⟨some w.heap.size,0,0,0⟩,by simp[Env.add],_,rfl,rfl⟩));unfold execOp;rw[hop];rfl
 |mapUpdate t m k x=>
  rw[hop]at he;simp only[cr,b9]at he;obtain⟨ef,hv,rfl⟩:=he;obtain⟨w',h1,h2⟩:=aox h hv;have hex:(execOp a.eval o).run X.P w=.ok .skip w':=by unfold execOp;simp_all
  unfold Oper.wp;rw[hex];exact hn undef w' E (λ_ _ h=>h) h2 trivial
 |lookup t m k ok=>
  rw[hop]at he;simp only[cr,b9]at he;obtain⟨v,hv,rfl⟩:=he;obtain⟨u,h1,h2⟩:=azz h hv;exact hn.pure h rfl h2 (s:=Instr.lookup t (a.eval m) (a.eval k) ok) (by unfold execOp;rw[hop]) h1
 |fieldAddr t x f=>
  rw[hop]at he;simp only[cr,b9]at he;obtain⟨v,hv,rfl⟩:=he;obtain⟨u,h1,h2⟩:=avG h hv;exact hn.pure h rfl h2 (s:=Instr.fieldAt t (a.eval x) f) (by unfold execOp;rw[hop]) h1
 |indexAddr t x i=>
  rw[hop]at he;simp only[cr,b9]at he;obtain⟨v,hv,rfl⟩:=he;obtain⟨u,h1,h2⟩:=asA h hv;exact hn.pure h rfl h2 (s:=Instr.indexAt t (a.eval x) (a.eval i)) (by unfold execOp;rw[hop]) h1
 |index t x i=>
  rw[hop]at he;simp only[cr]at he;split at he
  .rename_i s k i' hx hi hu;unfold jC at he;have k1:=RP.eM (h.cX hx).1;have k2:=RP.eM (h.cX hi).1;split at he
   .rename_i h0;split at he
    .rename_i b hb;cases he;refine hn.pure h rfl (v:=.sc (.int .u8 b.toNat)) (u:=.int .u8 b.toNat) (RP.sc rfl) (s:=Instr.index t (a.eval x) (a.eval i)) (by unfold execOp;rw[hop]) ?_;rw[k1,k2];simp[Instr.index,asIntOf,run_underlying hu,h0,hb]
    .cases he
   .cases he
  .rename_i cs k i' n e hx hi hu;unfold jC at he;have k2:=RP.eM (h.cX hi).1;obtain⟨us,k1,k3,k4⟩:=(h.arg hx).1;split at he
   .rename_i h0;obtain⟨h1,h2,h3⟩:=h0;simp only[b9]at he;obtain⟨v,hv,rfl⟩:=he;obtain⟨u,h4,h5⟩:=aia (w:=w) hv k3 k4;refine hn.pure h rfl h5 (s:=Instr.index t (a.eval x) (a.eval i)) (by unfold execOp;rw[hop]) ?_;rw[k1,k2];simp only[Instr.index,asIntOf,Sem.run_bind,Sem.run_pure,Result.andThen_ok,run_underlying hu,bB (And.intro h1 h2),run_sizeOf w h3];exact h4
   .cases he
  .cases he
 |extract t i=>
  rw[hop]at he
  cases t with
  |tmp t=>
   simp only[cr]at he;split at he
   .rename_i xs hx;split at he
    .rename_i x hxi;cases he;obtain⟨u,h1,us,h2,h3,h4⟩:=h.tmps t _ hx;subst h2;obtain⟨u',h5,h6⟩:=h4 i x hxi;refine hn.pure h rfl (v:=.v x) (u:=u') h6 (s:=Instr.extract (a.eval (.tmp t)) i) (by unfold execOp;rw[hop]) ?_;simp[Act.eval,sB,h1,Instr.extract,h5]
    .cases he
   .cases he
  |const=>simp[cr]at he
  |global=>simp[cr]at he
  |func=>simp[cr]at he
 |makeFunc fn first captured=>
  rw[hop]at he
  cases fn with
  |func f=>
   simp only[cr]at he;split at he
   .rename_i hz;simp only[b9]at he;obtain⟨ns,HZ,rfl⟩:=he;have hfe:first= #[]:=CY hz
    obtain⟨h1,h2⟩:=oU HZ;refine hn.pure' h rfl (v:=.c (.fn f ns)) (u:=.func (.func f) #[] (captured.map a.eval)) ⟨_,rfl,by simp[h1],λi n hi=>?_⟩ (by unfold execOp;rw[hop];simp[Instr.makeFunc,hfe]);obtain⟨x,h3,h4⟩:=h2 i n hi;refine⟨a.eval x,by simp_all,?_⟩;unfold bC.cap at h4;split at h4
    .rename_i hx;cases h4;exact(h.cX hx).1
    .cases h4
   .cases he
  |_=>simp[cr]at he
 |call c=>
  obtain⟨callee,args,ts⟩:=c;grind[azb,cr,aph]
 |_=>rw[hop]at he;simp[cr]at he
end
def wI:Op->Bool
 |.extract _ _=>true
 |.move (.tmp _)=>true
 |.assign (.tmp _)=>true
 |_=>false
def bC.th(st:bC):Op->List Nat
 |.extract _ _=>[]
 |.move (.tmp _)=>[]
 |.assign (.tmp _)=>[]
 |op=>(op.operands.toList.filterMap st.arg).flatMap V.names
def jw(st st':bC)(n:Nat):Prop:=st.heap.lookup n=st'.heap.lookup n/\(n∈st.bx↔n∈st'.bx)
section
variable{st st':bC}
def si{c}(h:∀n∈c.names,jw st st' n):st.view c=st'.view c:=by
 cases c with
 |own n=>simp only[bC.view,(h n (by simp[C.names])).1]
 |sub n lo len=>simp only[bC.view,(h n (by simp[C.names])).1]
 |p q=>cases q<;>rfl
 |_=>rfl
def aic{c size i}(h:∀n∈c.names,jw st st' n):st.elem size i c=st'.elem size i c:=by
 cases c with
 |own n=>simp only[bC.elem,(h n (by simp[C.names])).1]
 |sub n lo len=>simp only[bC.elem,(h n (by simp[C.names])).1]
 |p q=>cases q<;>rfl
 |_=>rfl
def aem{c size l k}(h:∀n∈c.names,jw st st' n):st.part size l k c=st'.part size l k c:=by
 cases c with
 |own n=>simp only[bC.part,(h n (by simp[C.names])).1]
 |sub n lo len=>simp only[bC.part,(h n (by simp[C.names])).1]
 |p q=>cases q<;>rfl
 |_=>rfl
def aeP{c}(h:∀n∈c.names,jw st st' n):st.oN c=st'.oN c:=by
 cases c with
 |sub n lo len=>rfl
 |_=>simp only[bC.oN];rw[si h]
def avt{c}(h:∀n∈c.names,jw st st' n):st.sink c=st'.sink c:=by
 cases c with
 |own n=>simp only[bC.sink,(h n (by simp[C.names])).1]
 |sub n lo len=>simp only[bC.sink,(h n (by simp[C.names])).1]
 |_=>rfl
def OL:∀{cs},(∀c∈cs,∀n∈c.names,jw st st' n)->st.sinks cs=st'.sinks cs
 |[],_=>rfl
 |c::cs,h=>by
  have f:=avt (h c ch);have g:=OL (cs:=cs) (λi e=>h i (by simp[e]));simp only[bC.sinks,f,g]
def WX{e c}(h:∀n∈c.names,jw st st' n):st.iW e c=st'.iW e c:=by
 cases c with
 |own n=>simp only[bC.iW,(h n (by simp[C.names])).1]
 |sub n lo len=>cases lo<;>simp only[bC.iW,(h n (by simp[C.names])).1]
 |_=>rfl
def Gs{x}(h:st.arg x=st'.arg x):st.gr x=st'.gr x:=by unfold bC.gr;rw[h]
def TA(y:V1):∀c∈y.cells,∀n∈c.names,n∈y.names:=by
 cases y with
 |c c=>intro h e n f;simp[V1.cells]at e;subst e;exact f
 |agg cs=>intro c g n f;exact ug.2 ⟨c,g,f⟩
def Yd:∀{xs},(∀x∈xs,st.arg x=st'.arg x/\∀v,st.arg x=some v->∀n∈v.names,jw st st' n)->st.lits xs=st'.lits xs
 |[],_=>rfl
 |x::xs,h=>by
  simp only[bC.lits];rw[Yd (xs:=xs) (λy f=>h y (by simp[f])),<-Gs (h x ch).1]
  cases e:st.gr x with
  |none=>rfl
  |some y=>
   have:st.arg x=some (.v y):=by
    unfold bC.gr at e;split at e
    .simp_all
    .cases e
   simp only[OL (λc g n i=>(h x ch).2 _ this n (TA y c g n i))]
def HC{α c:Type}{f g:α->Option c}:∀{l:List α},(∀x∈l,f x=g x)->l.mapM f=l.mapM g
 |[],_=>rfl
 |x::l,h=>by
  simp only[pY,h x ch,HC (l:=l) (λy e=>h y (by simp[e]))]
def O6{o k}(h:∀x,o=some x->st.arg x=st'.arg x):st.num o k=st'.num o k:=by
 cases o with
 |none=>rfl
 |some x=>simp only[bC.num,h x rfl]
def NQ{ι L e c}(g:∀n∈L,jw st st' n)(h:tb st ι L e c):tb st' ι L e c:=by
 cases e with
 |p q=>
  rcases h with h| ⟨rows,i,j,f⟩
  .exact .inl h
  .exact .inr ⟨rows,i,by rw[<-si (λn k=>g n (f n k))];exact j,f⟩
 |dead=>trivial
 |_=>exact h
def agd{ι L e x}(f:∀n∈L,jw st st' n)(h:zf st ι L e x):zf st' ι L e x:=by
 cases e with
 |c g=>
  cases x with
  |c c=>exact NQ f h
  |agg=>exact h.elim
 |agg j=>
  cases x with
  |c=>exact h.elim
  |agg cs=>exact⟨h.1,λi g k=>let⟨c,l,m⟩:=h.2 i g k; ⟨c,l,NQ f m⟩⟩
def auD{ι L e b}(f:∀n∈L,jw st st' n)(h:yL st ι L e b):yL st' ι L e b:=by
 cases e with
 |box g=>
  cases b with
  |box cs=>exact⟨h.1,λi j k=>let⟨c,l,m⟩:=h.2 i j k; ⟨c,l,NQ f m⟩⟩
  |_=>exact h.elim
 |row=>cases b<;>exact h
 |map=>cases b<;>exact h
def arw{P d f xs v M rd}(N:∀n∈rd,jw st st' n)(h:AT P st d f xs v M rd):AT P st' d f xs v M rd:=by
 obtain⟨j,H,r,O,ι,L,R,hlen,y,z,p,k,s,S,A,B,C,D,l,t,F,G,T,g,rfl⟩:=h;have m:∀n∈L,jw st st' n:=λn e=>N n (wX _ e)
 have c:∀n∈ι,jw st st' n:=λn e=>N n (zE _ e)
 refine⟨j,H,r,O,ι,L,R,hlen,y,z,λi U I=>?_,λi V I=>?_,λn e=>⟨λJ=>(s n e).1 ((c n e).2.2 J),(s n e).2⟩,λn e J=>S n e ((m n e).2.2 J),A,B,C,D,l,t,F,G,T,⟨g.1,λn b W=>(g.2 n b W).imp id λq=>⟨q.1,q.2.1,by rw[<-(c n q.1).1];exact q.2.2⟩⟩,rfl⟩
 .obtain⟨x,u,K⟩:=p i U I;exact⟨x,u,agd m K⟩
 .obtain⟨n,b,u,K,Y⟩:=k i V I;exact⟨n,b,u,by rw[<-(c n (eN u)).1];exact K,auD m Y⟩
def aoL{op x v}(c:wI op=false)(e:x∈op.operands.toList)(f:st.arg x=some v){n}(g:n∈v.names):n∈st.th op:=by
 have:st.th op=(op.operands.toList.filterMap st.arg).flatMap V.names:=by unfold bC.th;split<;>first|rfl|cases c
 rw[this];exact ug.2 ⟨v,uj.2 ⟨x,e,f⟩,g⟩
def aDN{P Sp d op r}(A:wI op=false->∀x∈op.operands.toList,st.arg x=st'.arg x)(G:wI op=true->∀t,Operand.tmp t∈op.operands.toList->st.tmps[t]?=st'.tmps[t]?)
 (ht:∀n∈st.th op,jw st st' n) (hr:∀n∈r.rd,jw st st' n) (J:cr P Sp st d op=some r):cr P Sp st' d op=some r:=by
 have O:wI op=false->∀x∈op.operands.toList,∀v,st.arg x=some v->∀n∈v.names,jw st st' n:=λR x G v W n O=>ht n (aoL R G W O)
 have H:wI op=false->∀x∈op.operands.toList,∀c,st.arg x=some (.v (.c c))->∀n∈c.names,jw st st' n:=λR x G c W n af=>O R x G _ W n af
 rw[<-J];symm
 cases op with
 |move x=>
  cases x with
  |tmp t=>simp only[cr,G rfl t eZ]
  |const v=>have e:=A rfl (.const v) eZ;simp only[cr,e]
  |global v=>rfl
  |func v=>rfl
 |assign x=>
  cases x with
  |tmp t=>simp only[cr,G rfl t eZ]
  |const v=>have e:=A rfl (.const v) eZ;simp only[cr,e]
  |global v=>rfl
  |func v=>rfl
 |pick c x y=>
  have z:=A rfl;simp only[cr,<-z c eZ,<-z x eZ,<-z y eZ]
 |alloc e=>rfl
 |box e x=>
  have z:=A rfl;simp only[cr,<-Gs (z x eZ)]
 |build t parts=>
  have z:=A rfl;simp only[cr,yx];rw[HC (g:=λx=>(st'.gr x.2).map λy=>(x.1,y.cells)) (λx G=>by rw[Gs (z x.2 (by simp[Op.operands];exact⟨x.1,by simpa using G⟩))])]
 |buildSlice t len parts=>
  have z:=A rfl;simp only[cr,yk];rw[Yd (st':=st') (λx G=>by
   simp only[gg]at G;obtain⟨y,hy,rfl⟩:=G;have hm:y.2∈(Op.buildSlice t len parts).operands.toList:=by simp[Op.operands];exact⟨y.1,by simpa using hy⟩
   exact⟨z _ hm,λv W=>O rfl _ hm v W⟩)]
 |load t x=>
  have z:=A rfl;have D:=z x eZ;have F:=H rfl x eZ;simp only[cr,pG,<-D]
  cases h:st.arg x with
  |none=>rfl
  |some v=>
   cases v with
   |bM=>rfl
   |v v=>
    cases v with
    |agg=>rfl
    |c c=>
     have I:=F c h
     cases c with
     |ptr n off=>simp only[(I n (by simp[C.names])).1]
     |d' n i j=>simp only[(I n (by simp[C.names])).1]
     |_=>rfl
 |store t x y=>
  have z:=A rfl;have D:=z x eZ;have F:=z y eZ;have I:=H rfl x eZ;have S:=O rfl y eZ;simp only[cr,wo,<-D,<-F]
  cases h:st.arg x with
  |none=>rfl
  |some v=>
   cases v with
   |bM=>rfl
   |v v =>
    cases v with
    |agg=>rfl
    |c c=>
     have K:=I c h
     cases ag:st.arg y with
     |none=>cases c<;>rfl
     |some vy=>
      have h6:=S vy ag
      cases vy with
      |bM=>cases c<;>rfl
      |v vy=>
       cases c with
       |ptr n off=>simp only[(K n (by simp[C.names])).1]
       |d' n i j=>simp only[(K n (by simp[C.names])).1,OL (st':=st') (λc H n O=>h6 n (TA vy c H n O))]
       |_=>rfl
 |nilCheck x=>
  have z:=A rfl;simp only[cr,<-z x eZ]
 |binOp op t x y yt=>
  have z:=A rfl;simp only[cr,<-z x eZ,<-z y eZ]
 |unOp op t x=>
  have z:=A rfl;simp only[cr,<-z x eZ]
 |convert s t x=>
  have z:=A rfl;have D:=z x eZ;have F:=H rfl x eZ;have k1:lD P st' s t x=lD P st s t x:=by
   simp only[lD,<-D]
   cases h:st.arg x with
   |none=>rfl
   |some v=>
    cases v with
    |bM=>rfl
    |v v=>
     cases v with
     |agg=>rfl
     |c c=>
      have e0:=si (st:=st) (st':=st') (F c h)
      cases c with
      |p q=>
       cases q with
       |sc v=>cases v<;>first|rfl|simp only[e0]
       |sl=>first|rfl|simp only[e0]
       |nl=>first|rfl|simp only[e0]
       |any=>first|rfl|simp only[e0]
      |_=>first|rfl|simp only[e0]
  have k2:tJ P st' s t x=tJ P st s t x:=by
   simp only[tJ,<-D]
   cases h:st.arg x with
   |none=>rfl
   |some v=>
    cases v with
    |bM=>rfl
    |v v=>
     cases v with
     |agg=>rfl
     |c c=>
      cases c with
      |own n=>simp only[(F _ h n (by simp[C.names])).1]
      |_=>rfl
  simp_all[cr]
 |makeSlice t l c=>
  have z:=A rfl;simp only[cr,yR,<-z l eZ,<-z c eZ]
 |sliceToArrayPointer t x=>
  have z:=A rfl;simp only[cr,y8,<-z x eZ]
 |slice t x lo T mx=>
  have z:=A rfl
  cases mx with
  |some mx=>
   cases T with
   |none=>rfl
   |some T=>
    have I:st.num lo 0=st'.num lo 0:=O6 (λo Y=>z o (by simp[Op.operands,Y]));simp only[cr,yC,<-z x eZ,<-z T eZ,<-z mx eZ,<-I]
  |none =>
   have D:=z x eZ;have F:=H rfl x eZ;have I:∀k,st.num lo k=st'.num lo k:=λk=>O6 (λo Y=>z o (by simp[Op.operands,Y]))
   have S:∀k,st.num T k=st'.num T k:=λk=>O6 (λo Y=>z o (by simp[Op.operands,Y]))
   have k1:mZ P st' t x lo T=mZ P st t x lo T:=by
    simp only[mZ,<-D,<-I,<-S]
    cases h:st.arg x with
    |none=>rfl
    |some v=>
     cases v with
     |bM=>rfl
     |v v=>
      cases v with
      |agg=>rfl
      |c c=>
       have K:=F c h;have e0:=aeP (st:=st) (st':=st') K;have e1:=λa b k=>aem (st:=st) (st':=st') (size:=a) (l:=b) (k:=k) K
       cases c with
       |p q=>
        cases q with
        |sc v=>cases v<;>first|rfl|simp only[e0,e1]
        |sl=>first|rfl|simp only[e0,e1]
        |nl=>first|rfl|simp only[e0,e1]
        |any=>first|rfl|simp only[e0,e1]
       |_=>first|rfl|simp only[e0,e1]
   have k2:tT P st' t x=tT P st t x:=by
    simp only[tT,<-D]
    cases h:st.arg x with
    |none=>rfl
    |some v=>
     cases v with
     |bM=>rfl
     |v v=>
      cases v with
      |agg=>rfl
      |c c=>
       cases c with
       |ptr n off=>simp only[(F _ h n (by simp[C.names])).1]
       |_=>rfl
   simp_all[cr]
 |makeMap t r=>
  cases r<;>rfl
 |mapUpdate t m k x=>
  have z:=A rfl;have D:=z m eZ;have F:=z k eZ;have I:=z x eZ;have S:=H rfl m eZ;simp only[cr,yf,<-D,<-F,<-I]
  cases h:st.arg m with
  |none=>rfl
  |some v=>
   cases v with
   |bM=>rfl
   |v v=>
    cases v with
    |agg=>rfl
    |c c=>
     cases c with
     |mp n=>simp only[(S _ h n (by simp[C.names])).1]
     |_=>rfl
 |lookup t m k ok=>
  have z:=A rfl;have D:=z m eZ;have F:=z k eZ;have S:=H rfl m eZ;simp only[cr,zh,<-D,<-F]
  cases h:st.arg m with
  |none=>rfl
  |some v=>
   cases v with
   |bM=>rfl
   |v v=>
    cases v with
    |agg=>rfl
    |c c=>
     cases c with
     |mp n=>simp only[(S _ h n (by simp[C.names])).1]
     |_=>rfl
 |fieldAddr t x f=>
  have z:=A rfl;simp only[cr,rr,<-z x eZ]
 |indexAddr t x i=>
  have z:=A rfl;have D:=z x eZ;have F:=z i eZ;have I:=H rfl x eZ;simp only[cr,ov,<-D,<-F]
  cases h:st.arg x with
  |none=>rfl
  |some v=>
   cases v with
   |bM=>rfl
   |v v=>
    cases v with
    |agg=>rfl
    |c c=>
     have e0:=λa b=>aic (st:=st) (st':=st') (size:=a) (i:=b) (I c h)
     cases c with
     |p q=>
      simp_all
     |_=>first|rfl|simp only[e0]
 |index t x i=>
  have z:=A rfl;simp only[cr,<-z x eZ,<-z i eZ]
 |extract t i=>
  cases t with
  |tmp t=>simp only[cr,G rfl t eZ]
  |_=>rfl
 |makeFunc fn first captured=>
  have z:=A rfl
  cases fn with
  |func f=>
   simp only[cr];rw[HC (g:=st'.cap) (λx G=>by
    unfold bC.cap;rw[z x (by simp[Op.operands];exact .inr (by simpa using G))])]
  |_=>rfl
 |call c =>
  have z:=A rfl;obtain⟨callee,args,ts⟩:=c
  cases callee with
  |value f=>
   simp only[cr]at J⊢;have hf:=z f (by simp[Op.operands,Call.operands]);have M:st.callee f=st'.callee f:=by
    unfold bC.callee
    cases f with
    |func=>rfl
    |_=>simp only[hf]
   have B:args.toList.mapM st.gr=args.toList.mapM st'.gr:=HC (λx G=>Gs (z x (by simp[Op.operands,Call.operands];simp_all)));unfold vB at J⊢;rw[M,B]at J;split at J
   .split at J
    .rename_i U L ah aa;cases J;simp only[M,U,B,L,ah];rw[bB (arw hr aa),bB aa]
    .cases J
   .cases J
  |invoke=>rfl
  |builtin b =>
   simp only[cr];have D:∀x∈args.toList,st.arg x=st'.arg x:=λx G=>z x (by simp[Op.operands,Call.operands];simpa using G)
   have F:∀x∈args.toList,∀c,st.arg x=some (.v (.c c))->∀n∈c.names,jw st st' n:=λx G=>H rfl x (by simp[Op.operands,Call.operands];simpa using G)
   unfold lJ;split
   .rename_i x t B _;rw[B]at D F;simp only[pt,<-D x ch]
    cases h:st.arg x with
    |none=>rfl
    |some v=>
     cases v with
     |bM=>rfl
     |v v=>
      cases v with
      |agg=>rfl
      |c c=>
       have e0:=si (st:=st) (st':=st') (F x ch c h)
       cases c with
       |p q=>
        cases q with
        |sc v=>cases v<;>first|rfl|simp only[e0]
        |sl=>first|rfl|simp only[e0]
        |nl=>first|rfl|simp only[e0]
        |any=>first|rfl|simp only[e0]
       |_=>first|rfl|simp only[e0]
   .rename_i s x t V B _;rw[B]at D F;have key :ot P st' d t s x=ot P st d t s x:=by
     simp only[ot,<-D s ch,<-D x ch]
     cases f_ P t with
     |none=>rfl
     |some e=>
      simp only
      cases jH P e with
      |none=>rfl
      |some nb=>
       cases N:st.arg s with
       |none=>rfl
       |some vs=>
        cases vs with
        |bM=>rfl
        |v vs=>
         cases vs with
         |agg=>rfl
         |c cs=>
          cases h:st.arg x with
          |none=>rfl
          |some v=>
           cases v with
           |bM=>rfl
           |v v=>
            cases v with
            |agg=>rfl
            |c c=>simp only[si (st':=st') (F x ch c h),WX (st':=st') (F s ch cs N)]
    have ab : rA P st' d t V s x=rA P st d t V s x:=by
     have q1:qd P st' d t V s x=qd P st d t V s x:=by
      simp_all[qd]
     have q2 : wC P st' d t V s x=wC P st d t V s x:=by
      simp only[wC,<-D s ch,<-D x ch]
      cases f_ P t with
      |none=>rfl
      |some e =>
       cases N:st.arg s with
       |none=>rfl
       |some vs =>
        cases vs with
        |bM=>rfl
        |v vs =>
         cases vs with
         |agg=>rfl
         |c cs =>
          have H:=λe=>WX (st:=st) (st':=st') (e:=e) (F s ch cs N)
          cases st.arg x with
          |none=>rfl
          |some v=>
           cases v with
           |bM=>rfl
           |v v =>
            cases v with
            |agg=>rfl
            |c c =>
             cases c with
             |p q=>
              cases q with
              |sc u=>
               cases u with
               |int k n=>
                cases k<;>first
                 |rfl
                 |(cases P.underlying V with
                  |none=>rfl
                  |some dd=>cases dd<;>first|rfl|simp only[H])
               |_=>rfl
              |sl=>rfl
              |nl=>rfl
              |any=>rfl
             |_=>rfl
     simp_all[rA]
    have ac:tZ P st' t s x=tZ P st t s x:=by
     simp only[tZ,<-D s ch,<-D x ch]
     cases N:st.arg s with
     |none=>rfl
     |some vs=>
      cases vs with
      |bM=>rfl
      |v vs=>
       cases vs with
       |agg=>rfl
       |c cs=>
        cases cs with
        |sub m lo len=>
         cases lo with
         |succ lo=>rfl
         |zero=>
          cases h:st.arg x with
          |none=>rfl
          |some v=>
           cases v with
           |bM=>rfl
           |v v=>
            cases v with
            |agg=>rfl
            |c c=>simp only[si (st':=st') (F x ch c h),(F s ch _ N m (by simp[C.names])).1]
        |_=>rfl
    have ad :tY P st' d t s x=tY P st d t s x:=by
     simp only[tY,<-D s ch,<-D x ch]
     cases f_ P t with
     |none=>rfl
     |some e =>
      simp only
      cases jH P e with
      |none=>rfl
      |some nb=>
       cases N:st.arg s with
       |none=>rfl
       |some vs=>
        cases vs with
        |bM=>rfl
        |v vs=>
         cases vs with
         |agg=>rfl
         |c cs=>
          cases cs with
          |p q=>
           cases q with
           |nl=>
            cases h:st.arg x with
            |none=>rfl
            |some v=>
             cases v with
             |bM=>rfl
             |v v=>
              cases v with
              |agg=>rfl
              |c c=>simp only[si (st':=st') (F x ch c h)]
           |_=>rfl
          |_=>rfl
    have ae:qw P st' d t s x=qw P st d t s x:=by
     unfold qw;rw[key,ad]
    rw[ae,ab,ac]
   .rename_i x y t _ B _;rw[B]at D F;have key :rF P st' t x y=rF P st t x y:=by
     simp only[rF,<-D x ch,<-D y ch]
     cases f_ P t with
     |none=>rfl
     |some e=>
      cases N:st.arg x with
      |none=>rfl
      |some vs=>
       cases vs with
       |bM=>rfl
       |v vs=>
        cases vs with
        |agg=>rfl
        |c cs=>
         cases h:st.arg y with
         |none=>rfl
         |some v=>
          cases v with
          |bM=>rfl
          |v v=>
           cases v with
           |agg=>rfl
           |c c=>
            have K:=F x ch cs N;simp only[si (st':=st') (F y ch c h),si (st':=st') K]
            cases cs with
            |own n=>first|rfl|simp only[(K n (by simp[C.names])).1]
            |sub n lo len=>first|rfl|simp only[(K n (by simp[C.names])).1]
            |_=>rfl
    rw[key]
   .simp_all
   .simp_all
   .simp_all
   .rename_i m k t tl B _;rw[B]at D F;simp only[yz,<-D m ch,<-D k ch]
    cases h:st.arg m with
    |none=>rfl
    |some v=>
     cases v with
     |bM=>rfl
     |v v=>
      cases v with
      |agg=>rfl
      |c c=>
       cases c with
       |mp n=>simp only[(F m ch _ h n (by simp[C.names])).1]
       |_=>rfl
   .simp_all
   .simp_all
   .simp_all
   .rfl
 |_=>rfl
end
def gF{X:Type}(g:Nat->X->X)(S:Nat->Bool)(x:X):Nat->X
 |0=>x
 |n+1=>if S n then g n (gF g S x n)else gF g S x n
theorem sL{X:Type}{g:Nat->X->X}{S c:Nat->Bool}{x:X}:∀{n:Nat},(∀k,k<n->S k=c k\/∀x,g k x=x)->gF g S x n=gF g c x n
 |0,_=>rfl
 |n+1,h=>by
  have ih:=sL (x:=x) (n:=n) (λk e=>h k om);simp only[gF,ih];grind
def zT{X Y g g' S x}(f:X->Y)(h:∀k x,f (g k x)=g' k (f x)):∀n,f (gF g S x n)=gF g' S (f x) n
 |0=>rfl
 |n+1=>by
  have ih:=zT (S:=S) (x:=x) f h n;grind[gF]
def AR{X g S e}{x:X}{i}(j:S i=false)(c:e i=true)(l:∀k,k≠i->e k=S k):∀{n},i<n->
 ((∀k,i<k->k<n->S k=true->∀x,g k x=x)\/∀x,g i x=x)->gF g e x n=g i (gF g S x n)
 |0,h,_=>om
 |n+1,p,h=>by
  by_cases f:i=n
  .subst f;simp only[gF,j,c,if_true,pW,if_false];congr 1;grind[sL]
  .have ih:=AR (x:=x) (g:=g) j c l (n:=n) om (h.imp (λh k m q=>h k m om) id);simp only[gF,ih,l n om];grind
def valOf:Option b_->V
 |none=>.bM []
 |some r=>r.v
def rV:Option b_->iI
 |none=>QN
 |some r=>r.e
def iS(st:bC)(o:Oper)(r:Option b_):bC:=(st.ez (rV r)).put o.dst (valOf r)
def bC.raw(st:bC):cL->List Nat
 |.tmp t=>match st.tmps[t]? with
  |some v=>v.names
  |none=>[]
 |.const v=>(ofValue v).names
 |_=>[]
def bC.oz(st:bC):Op->List Nat
 |.extract _ _=>[]
 |.move (.tmp _)=>[]
 |.assign (.tmp _)=>[]
 |op=>op.operands.toList.flatMap st.raw
def vS(st:bC)(o:Oper):Option b_->List Nat
 |none=>[]
 |some r=>st.oz o.op++r.rd
def jK(r:Option b_):List Nat:=(rV r).cq.map (·.1)++(rV r).bx
def tg(ops:Array Oper)(st:bC)(o:Oper):Option Bool:=match o.guard with
 |none=>some true
 |some (j,want)=>match(ops[j]?).bind (·.dst)with
  |some d=>match st.tmps[d]? with
   |some (.v (.c (.p (.sc (.bool b)))))=>some (b==want)
   |some (.bM [])=>some false
   |_=>none
  |none=>none
def SF{X E st a w}(h:Rel X E st a w){ops o b}(c:tg ops st o=some b):
 Region.wanted o (yielded ops a.tmps)=b:=by
 unfold tg at c;unfold Region.wanted
 cases e:o.guard with
 |none=>simp_all
 |some x=>
  rw[e]at c;simp only at c⊢;split at c
  .rename_i d j;unfold yielded;split at c
   .rename_i k f;obtain⟨u,i,g⟩:=h.tmps d _ f;have:=RP.eM g;simp_all
   .rename_i f;obtain⟨u,i,us,g,l,_⟩:=h.tmps d _ f;simp_all
   .cases c
  .cases c
def UY(M)(E)(w):RV M E w (.bM []) undef:=⟨#[],rfl,rfl,λi x h=>by simp at h⟩
def ni(P:cJ)(Sp:Spec)(b:Nat)(ops:Array Oper)(st:bC)(k:Nat)(o:Oper):Option (Option b_):=match tg ops st o with
 |some true=>(cr P Sp st (b+8*k) o.op).map some
 |some false=>some none
 |none=>none
def VS{X Sp E st a w b k}(h:Rel X E st a w){ops o}(i:tp X E st (b+8*k))
 {r} (c:ni X.P Sp b ops st k o=some r) {next} {Q}
 (g:∀v w' E',(∀n,¬(b+8*k<=n/\n<b+8*k+8)->E.N n=none->E'.N n=none)->Rel X E' (iS st o r) (a.put o.dst v) w'->next (a.put o.dst v) w'):
 if Region.wanted o (yielded ops a.tmps)then o.wp X.P a w next Q else next (a.put o.dst undef) w:=by
 unfold ni at c;split at c
 .rename_i e;rw[SF h e];simp only[b9]at c;obtain⟨r',f,rfl⟩:=c;exact snd h i f (λu w' E' k1 k2 j=>g u w' E' k1 (k2.put o.dst j))
 .rename_i e;rw[SF h e];cases c;exact g undef w E (λ_ _ h=>h) (h.put o.dst (UY X.M E w))
 .cases c
def Z6(st)(o)(r)(t:Nat):(iS st o r).tmps[t]?=if o.dst=some t then(st.tmps[t]?).map (λ_=>valOf r)else st.tmps[t]?:=by
 unfold iS
 cases c:o.dst with
 |none=>rfl
 |some d=>
  simp only[bC.put,bC.ez,Ir,ko];grind
def NB(st:bC)(d)(v):(st.put d v).heap=st.heap/\(st.put d v).bx=st.bx/\(st.put d v).next=st.next:=by cases d<;>exact⟨rfl,rfl,rfl⟩
def VC(st)(o)(r)(α):List.lookup α (iS st o r).heap=((rV r).cq.lookup α).or (st.heap.lookup α):=by
 simp_all[iS,NB,bC.ez,TP]
def AD(st)(o)(r)(τ):(τ∈(iS st o r).bx)=(τ∈(rV r).bx\/τ∈st.bx):=by
 simp_all[iS,NB,bC.ez]
def Nr(st)(o)(r):(iS st o r).next=st.next:=by
 unfold iS;rw[(NB _ _ _).2.2];rfl
def Rel.congr{X E st st' a w}(h:Rel X E st a w)(H:∀t:Nat,st'.tmps[t]?=st.tmps[t]?)(I:∀α,List.lookup α st'.heap=List.lookup α st.heap)
 (B:∀τ,τ∈st'.bx↔τ∈st.bx) (q:st'.next=st.next):Rel X ⟨E.N,st'.bx⟩ st' a w:=by
 have y:st'.tmps=st.tmps:=sE H;have D:iX X.M E ⟨E.N,st'.bx⟩ w w:={
  cell:=λ_ _ _ m z=>⟨m,z⟩
  name:=λn x q=>.inr q
  bx:=λn k=>(B n).2 (by rw[<-h.bx];exact k)}
 exact{
  defers:=h.defers
  bx:=rfl
  frame:=h.frame
  jJ:=h.jJ
  fj:=λn x k=>by rw[q];exact h.fj n x k
  names:=h.names
  inj:=h.inj
  gl:=h.gl
  kb:=by rw[q];exact h.kb
  lH:=λn k=>by rw[q];exact h.lH n ((B n).1 k)
  size:=by rw[y];exact h.size
  tmps:=λi v F=>by
   rw[y]at F;obtain⟨u,m,z⟩:=h.tmps i v F;exact⟨u,m,z.goes D⟩
  heap:=λn b G=>by
   rw[I]at G;by_cases k:n∈st'.bx
   .exact .inl k
   .rcases h.heap n b G with m|m
    .simp_all
    .exact .inr (m.goes D k (λ_ _ _ _=>rfl))}
def tM(a b:List Nat):Bool:=a.all λx=> !b.contains x
theorem aaa{a b}(h:tM a b=true){x}(c:x∈a):x∉b:=by
 simp_all[tM]
def direct(ops:Array Oper)(j i:Nat):Bool:=match ops[j]? with
 |some o=>o.after.any λe=>Region.binds .any e&&e.on==i
 |none=>false
abbrev lh:=List (List Nat×List Nat)
def yI(ops:Array Oper)(ts:lh)(i j:Nat):Bool:=
 match ops[i]?,ops[j]?,ts[i]?,ts[j]? with
 |some x,some y,some (f,c),some (g,e)=>x.apart ops y&&tM c g&&tM e f&&tM c e
 |_,_,_,_=>false
def before(ops:Array Oper):Nat->Nat->Nat->Bool
 |0,j,i=>direct ops j i
 |n+1,j,i=>direct ops j i||match ops[j]? with
  |some o=>o.after.toList.any λe=>Region.binds .any e&&before ops n e.on i
  |none=>false
def rz(ops:Array Oper)(ts:lh):Bool:=
 (List.range ops.size).all λj=>(List.range j).all λi=>yI ops ts i j||before ops 6 j i
def xo(b:Nat)(ops:Array Oper)(ts:lh):Bool:=
 (List.range ops.size).all λi=>(List.range ops.size).all λj=>i==j||direct ops i j|| (match ts[i]? with
  |some (_,c)=>c.all λn=> !(decide (b+8*j<=n)&&decide (n<b+8*j+8))
  |none=>false)||before ops 6 i j
def HO(ops:Array Oper):Bool:=(List.range ops.size).all λj=>match ops[j]? with
 |some o=>o.after.all λe=> !Region.binds .any e||decide (e.on<j)
 |none=>true
structure Lex(P:cJ)(Sp:Spec)(b:Nat)(ops:Array Oper)(st0:bC)(rs:Nat->Option b_)(ts:lh):Prop where
 step:∀(k:Nat)(o:Oper),ops[k]?=some o->ni P Sp b ops (gF (λk st=>iS st (ops[k]?.getD default) (rs k)) (λj=>decide (j<k)) st0 ops.size) k o=some (rs k)
 name:∀(k:Nat)(o:Oper),ops[k]?=some o->ts[k]?=some (vS (gF (λk st=>iS st (ops[k]?.getD default) (rs k)) (λj=>decide (j<k)) st0 ops.size) o (rs k),jK (rs k))
def arS{st st':bC}{x}(c:∀t,x=.tmp t->st.tmps[t]?=st'.tmps[t]?)(e:∀n∈st.raw x,(n∈st.bx↔n∈st'.bx)):st.arg x=st'.arg x:=by
 have f:∀v:V,(∀n∈v.names,(n∈st.bx↔n∈st'.bx))->v.live st.bx=v.live st'.bx:=by
  intro v g;unfold V.live;grind
 cases x with
 |tmp t=>
  have h:=c t rfl;simp only[bC.arg,<-h]
  cases g:st.tmps[t]? with
  |none=>rfl
  |some v=>
   grind[bC.raw]
 |const v=>
  simp only[bC.arg];rw[f (.v (ofValue v)) (λn i=>e n (by exact i))]
 |_=>rfl
theorem axH{st:bC}{x v}(h:st.arg x=some v)(c:∀f,x≠ .func f):st.raw x=v.names:=by
 cases x with
 |tmp t=>
  grind[bC.arg,bC.raw]
 |const u=>
  simp only[bC.arg]at h;split at h
  .cases h;rfl
  .cases h
 |func f=>simp_all
 |global=>cases h
def amL{st:bC}{op n}(h:n∈st.th op):n∈st.oz op:=by
 cases c:wI op with
 |false=>
  have e:st.th op=(op.operands.toList.filterMap st.arg).flatMap V.names:=by unfold bC.th;split<;>first|rfl|cases c
  have f:st.oz op=op.operands.toList.flatMap st.raw:=by unfold bC.oz;split<;>first|rfl|cases c
  rw[e]at h;rw[f];obtain⟨v,g,i⟩:=ug.1 h;grind[axH,bC.arg,Option.some.injEq,V.names,V1.names,C.names]
 |true=>
  have e:st.th op=[]:=by
   unfold wI at c;split at c
   .rfl
   .rfl
   .rfl
   .cases c
  simp_all
section
variable{P:cJ}{Sp:Spec}{b:Nat}{ops:Array Oper}{st0:bC}{rs:Nat->Option b_}{ts:lh}
abbrev AS(ops:Array Oper)(rs:Nat->Option b_)(st0:bC)(L:Nat->Bool):bC:=gF (λk st=>iS st (ops[k]?.getD default) (rs k)) L st0 ops.size
def gT(ops:Array Oper)(rs:Nat->Option b_)(t:Nat)(k:Nat)(x:Option V):Option V:=if(ops[k]?.getD default).dst=some t then x.map (λ_=>valOf (rs k))else x
def gB(rs:Nat->Option b_)(α:Nat)(k:Nat)(x:Option fv):Option fv:=((rV (rs k)).cq.lookup α).or x
def gU(rs:Nat->Option b_)(τ:Nat)(k:Nat)(x:Prop):Prop:=τ∈(rV (rs k)).bx\/x
def DL(L)(t):(AS ops rs st0 L).tmps[t]?=gF (gT ops rs t) L (st0.tmps[t]?) ops.size:=
 zT (λst:bC=>st.tmps[t]?) (λk st=>Z6 st _ _ t) ops.size
def G7(L)(α):List.lookup α (AS ops rs st0 L).heap=gF (gB rs α) L (List.lookup α st0.heap) ops.size:=
 zT (g':=gB rs α) (λst:bC=>List.lookup α st.heap) (λk st=>VC st (ops[k]?.getD default) (rs k) α) ops.size
def zb(L)(τ):(τ∈(AS ops rs st0 L).bx)=gF (gU rs τ) L (τ∈st0.bx) ops.size:=
 zT (g':=gU rs τ) (λst:bC=>τ∈st.bx) (λk st=>AD st (ops[k]?.getD default) (rs k) τ) ops.size
def Ki(L):(AS ops rs st0 L).next=st0.next:=by
 have:(AS ops rs st0 L).next=gF (λ_ x=>x) L st0.next ops.size:=zT (λst:bC=>st.next) (λk st=>Nr st _ _) ops.size;rw[this]
 induction ops.size with
 |zero=>rfl
 |succ n ih=>simp only[gF,ih];split<;>rfl
def aoS{l:Hp}{α}(h:α∉l.map (·.1)):l.lookup α=none:=by
 grind
theorem Um{α k}(h:α∉jK (rs k)):∀x,gB rs α k x=x:=by
 intro x;unfold gB;rw[aoS (λc=>h (zE _ c))];rfl
theorem LA{τ k}(h:τ∉jK (rs k)):∀x,gU rs τ k x=x:=by
 intro x;unfold gU;have:τ∉(rV (rs k)).bx:=λc=>h (wX _ c)
 simp[this]
theorem QM{t k:Nat}{o}(c:ops[k]?=some o)(h:o.dst≠some t):∀x,gT ops rs t k x=x:=by
 simp_all[gT,ik]
theorem FM(c:Lex P Sp b ops st0 rs ts){i j x y}(g:ops[i]?=some x)(k:ops[j]?=some y)(h:yI ops ts i j=true):
 ∃e f,ts[i]?=some (e,jK (rs i))/\ts[j]?=some (f,jK (rs j))/\x.apart ops y=true/\tM (jK (rs i)) f=true/\tM (jK (rs j)) e=true/\tM (jK (rs i)) (jK (rs j))=true:=by
 have l:=c.name i x g;have m:=c.name j y k;simp_all[yI,cF]
def Shut(ops:Array Oper)(L:Nat->Bool):Prop:=∀j i,L j=true->direct ops j i=true->L i=true
def ND(hp:rz ops ts=true){i j}(c:i<j)(e:j<ops.size):before ops 6 j i=true\/yI ops ts i j=true:=by
 unfold rz at hp;simp only[cI,ku,pZ]at hp;grind
theorem R8:∀{n j i:Nat},before ops n j i=true->direct ops j i=true\/∃m c,direct ops j m=true/\before ops c m i=true/\c<n
 |0,j,i,h=>.inl h
 |n+1,j,i,h=>by
  simp only[before,pZ]at h;rcases h with h|h
  .exact .inl h
  .split at h
   .rename_i o f;simp only[Qu,cF]at h;obtain⟨e,k,l,g⟩:=h;refine .inr ⟨e.on,n,?_,g,p0 n⟩;unfold direct;rw[f];simp only[Array.any_eq_true',cF,beq_iff_eq];grind
   .cases h
theorem Pn{L}(c:Shut ops L)(n):∀{j i},before ops n j i=true->L j=true->L i=true:=by
 induction n using Nat.strongRecOn with
 |_ n ih=>
  intro j i h e;rcases R8 h with h| ⟨m,f,g,k,l⟩
  .exact c j i e h
  .exact ih f l k (c j m e g)
theorem Np{L}(c:Shut ops L){n j i}(h:before ops n j i=true)(e:∀m,direct ops j m=true->L m=true):L i=true:=by
 grind[R8,Pn]
theorem TL(hp:rz ops ts=true){L}(m:Shut ops L){i k}(n:L i=false)(c:i<ops.size)(e:k<ops.size)(p:∀j,direct ops i j=true->L j=true)(q:L k≠decide (k<i)):
 (k<i/\yI ops ts k i=true)\/(i<k/\yI ops ts i k=true):=by
 by_cases f:k<i
 .have l:L k=false:=by simp_all
  rcases ND hp f c with h|h
  .grind[Np]
  simp_all
 .have l:L k=true:=by simp_all
  have g:i<k:=by
   grind
  rcases ND hp g e with h|h
  .grind[Pn]
  simp_all
def avE(v:Lex P Sp b ops st0 rs ts)(hp:rz ops ts=true){L}(F:Shut ops L){i o}(l:ops[i]?=some o)(G:L i=false)(H:∀j,direct ops i j=true->L j=true):
 ni P Sp b ops (AS ops rs st0 L) i o=some (rs i):=by
 have A:i<ops.size:=(kq.1 l).1;have hstep:ni P Sp b ops (AS ops rs st0 λj=>decide (j<i)) i o=some (rs i):=v.step i o l;have hname:ts[i]?=some (vS (AS ops rs st0 λj=>decide (j<i)) o (rs i),jK (rs i)):=v.name i o l;have key:∀k,k<ops.size->L k=decide (k<i)\/∃x,ops[k]?=some x/\(∀t,t∈o.looksAt ops->x.dst≠some t)/\∀α,α∈vS (AS ops rs st0 λj=>decide (j<i)) o (rs i)->α∉jK (rs k):=by
  intro k B;by_cases z:L k=decide (k<i)
  .exact .inl z
  .right;have m:ops[k]?=some ops[k]:=sD B;refine⟨ops[k],m,?_,?_⟩
   .intro t p q;rcases TL hp F G A B H z with⟨_,h⟩| ⟨_,h⟩
    .obtain⟨_,_,_,_,s,_⟩:=FM v m l h;exact(Oper.apart_spec s).1 t q p
    .obtain⟨_,_,_,_,s,_⟩:=FM v l m h;exact(Oper.apart_spec s).2.2 t q p
   grind[TL,hp,FM,aaa]
 have e:∀t,t∈o.looksAt ops->(AS ops rs st0 L).tmps[t]?=(AS ops rs st0 λj=>decide (j<i)).tmps[t]?:=by
  intro t p;rw[DL,DL];grind[sL,QM]
 have C:∀α,α∈vS (AS ops rs st0 λj=>decide (j<i)) o (rs i)->jw (AS ops rs st0 λj=>decide (j<i)) (AS ops rs st0 L) α:=by
  intro α I;refine⟨?_,?_⟩
  .rw[G7,G7];grind[sL,Um]
  .rw[zb,zb];refine(Iff.of_eq (sL λk B=>?_)).symm;grind[LA]
 have c:tg ops (AS ops rs st0 L) o=tg ops (AS ops rs st0 λj=>decide (j<i)) o:=by
  unfold tg
  cases J:o.guard with
  |none=>rfl
  |some y=>
   obtain⟨j,want⟩:=y;simp only
   cases z:(ops[j]?).bind (·.dst)with
   |none=>rfl
   |some d=>
    simp only;rw[e d (by
     refine iP.2 (.inr ?_);rw[J];simp only;rw[z];simp)]
 unfold ni at hstep⊢;rw[c];split at hstep
 .simp only[b9]at hstep⊢;obtain⟨r,s,D⟩:=hstep;refine⟨r,?_,D⟩;have f:∀n,n∈(AS ops rs st0 λj=>decide (j<i)).oz o.op++r.rd->jw (AS ops rs st0 λj=>decide (j<i)) (AS ops rs st0 L) n:=by
   intro n g;refine C n ?_;rw[<-D];exact g
  refine aDN (st:=AS ops rs st0 λj=>decide (j<i)) (λu x m=>?_) (λ_ t K=>?_) (λn g=>f n (zE _ (amL g))) (λn g=>f n (wX _ g)) s
  .refine arS (λt p=>(e t ?_).symm) (λn g=>(f n (zE _ ?_)).2)
   .subst p;exact iP.2 (.inl (uj.2 ⟨.tmp t,m,rfl⟩))
   .have:(AS ops rs st0 λj=>decide (j<i)).oz o.op=o.op.operands.toList.flatMap (AS ops rs st0 λj=>decide (j<i)).raw:=by
     unfold bC.oz;split<;>first|rfl| (rename_i h;rw[h]at u;cases u)
    grind
  .refine(e t ?_).symm;exact iP.2 (.inl (uj.2 ⟨.tmp t,K,rfl⟩))
 .exact hstep
 .cases hstep
def amX(v:Lex P Sp b ops st0 rs ts)(hp:rz ops ts=true){L g}(C:Shut ops L){i o}(p:ops[i]?=some o)(j:L i=false)
 (c:g i=true) (e:∀k,k≠i->g k=L k) {X} {E} {a} {w} (h:Rel X E (iS (AS ops rs st0 L) o (rs i)) a w):
 Rel X ⟨E.N,(AS ops rs st0 g).bx⟩ (AS ops rs st0 g) a w:=by
 have f:i<ops.size:=(kq.1 p).1;have l:∀k,i<k->k<ops.size->L k=true->∃x,ops[k]?=some x/\(∀t,o.dst=some t->x.dst≠some t)/\∀α,α∈jK (rs i)->α∉jK (rs k):=by
  intro k m q y;have s:ops[k]?=some ops[k]:=sD q;rcases ND hp m q with u|u
  .grind[Pn]
  .obtain⟨D,F,_,_,z,_,_,A⟩:=FM v p s u;exact⟨ops[k],s,λt B=>(Oper.apart_spec z).2.1 t B,λα n=>aaa A n⟩
 refine h.congr ?_ ?_ ?_ ?_
 .intro t;rw[DL,AR j c e f,Z6,DL]
  .grind[gT]
  grind[QM]
 .intro α;rw[G7,AR j c e f,VC,G7]
  .rfl
  grind[jK,Um]
 .intro τ;rw[zb,AR j c e f,AD,zb]
  .rfl
  grind[jK,LA]
 .rw[Ki,Nr,Ki]
end
def C.clear(g:List Nat)(c:C):C:=if c.names.any (g.contains ·)then .dead else c
def bC.settle(st:bC):bC:=match st.bx with
 |[]=>st
 |g=>⟨st.tmps.map (V.on (C.clear g)),(st.heap.filter λx=> !g.contains x.1).map λx=>(x.1,x.2.on (C.clear g)),[],st.next⟩
def Env.settle(E:Env):Env:=⟨λn=>if n∈E.bx then none else E.N n,[]⟩
def Vu{M E g}(h:bad M E.settle g):bad M E g:=by
 rcases h with h| ⟨n,x,c,e⟩
 .exact .inl h
 .simp only[Env.settle]at c;split at c
  .cases c
  .exact .inr ⟨n,x,c,e⟩
def RC.clear{M E w c v}(h:RC M E w c v):RC M E.settle w (c.clear E.bx) v:=by
 unfold C.clear;split
 .trivial
 .rename_i t;have m:∀n∈c.names,n∉E.bx:=λn k q=>t (Qu.2 ⟨n,k,by simpa using q⟩)
  have y:jo (bad M E) (bad M E.settle) w w:=λg o u k q=>⟨k,λh=>q (Vu h)⟩
  have:RC M E.settle w (c.eh id) v:=RC.eh (.inl y) (λn k=>⟨m n k,λx z=>by simp only[Env.settle,id,bG (m n k)];exact z⟩) h;have e:c.eh id=c:=by cases c<;>simp[C.eh]
  simp_all
def amC{l:Hp}{p:Nat->Bool}{n}:List.lookup n (l.filter λx=>p x.1)=if p n then List.lookup n l else none:=by
 induction l with
 |nil=>simp
 |cons x l ih=>
  grind
def agj{l:Hp}{f:fv->fv}{n}:List.lookup n (l.map λx=>(x.1,f x.2))=(List.lookup n l).map f:=by
 induction l with
 |nil=>simp
 |cons x l ih=>
  grind
def Rel.settle{X E st a w}(h:Rel X E st a w):∃E',Rel X E' st.settle a w/\st.settle.bx=[]:=by
 cases H:st.bx with
 |nil=>exact⟨E,by simp only[bC.settle,H];exact h,by simp[bC.settle,H]⟩
 |cons t U=>
  have hs:st.settle=⟨st.tmps.map (V.on (C.clear E.bx)),(st.heap.filter λx=> !E.bx.contains x.1).map λx=>(x.1,x.2.on (C.clear E.bx)),[],st.next⟩:=by simp only[bC.settle,H,h.bx]
  have M:∀n x,E.settle.N n=some x->n∉E.bx/\E.N n=some x:=λn x q=>by
   simp only[Env.settle]at q;simp_all
  have I:jo (bad X.M E) (bad X.M E.settle) w w:=λg o u z B=>⟨z,λh=>B (Vu h)⟩
  refine⟨E.settle,?_,by rw[hs]⟩;rw[hs];exact{
   defers:=h.defers
   bx:=rfl
   frame:=h.frame
   jJ:=h.jJ
   fj:=λn x q=>h.fj n x (M n x q).2
   names:=λn x g q H=>h.names n x g (M n x q).2 H
   inj:=λn m x y g q hy=>h.inj n m x y g (M n x q).2 (M m y hy).2
   gl:=λm hm=>by
    simp only[Env.settle];split
    .exact .inl rfl
    .exact h.gl m hm
   kb:=h.kb
   lH:=λn N=>by cases N
   size:=by simp[h.size]
   tmps:=λi v D=>by
    simp only[cY,b9]at D;obtain⟨v',hv,rfl⟩:=D;obtain⟨u,z,B⟩:=h.tmps i v' hv;exact⟨u,z,RV.on (λc v hc=>RC.clear hc) B⟩
   heap:=λn b G=>by
    simp only[agj]at G;rw[amC (p:=λk=> !E.bx.contains k)]at G;split at G
    .rename_i N;simp only[b9]at G;obtain⟨b',O,rfl⟩:=G;have J:n∉E.bx:=by simpa using N
     have R:=h.row (by rw[<-h.bx];exact J) O;have F:∀x,E.N n=some x->E.settle.N n=some x:=λx q=>by simp only[Env.settle,bG J];exact q
     right
     cases b' with
     |box cs=>
      obtain⟨x,g,cur,e,z,S,B,K,T⟩:=R;refine⟨x,g,cur,e,F x z,S,B,by simp[K],λi c D=>?_⟩;simp only[cY,b9]at D;obtain⟨c',W,rfl⟩:=D;obtain⟨u,Y,h6,h7⟩:=T i c' W;exact⟨u,Y,RC.clear h6,h7⟩
     |row e rows=>
      obtain⟨x,cur,fz,z,aa,B,K,T,Y,h6,ab,h7,h8,ac,h9⟩:=R;exact⟨x,cur,fz,F x z,aa,B,K,T,Y,h6,ab,h7,h8,ac,λi r j p D hj=>let⟨u,k1,k2⟩:=h9 i r j p D hj; ⟨u,k1,k2.trans I⟩⟩
     |map es=>
      obtain⟨x,g,en,clock,z,S,B,K⟩:=R;exact⟨x,g,en,clock,F x z,S,B,K.trans I⟩
    .cases G}
def bC.bump(st:bC)(k:Nat):bC:={st with next:=st.next+8*k}
def Rel.bump{X E st a w}(h:Rel X E st a w)(k):Rel X E (st.bump k) a w:=
 {h with fj:=λn x m=>nt (h.fj n x m) (acx _ _),kb:=n_ h.kb (acx _ _),lH:=λn q=>nt (h.lH n q) (acx _ _),size:=h.size,tmps:=h.tmps,heap:=h.heap,defers:=h.defers,bx:=h.bx}
def Rel.free{X E st a w}(h:Rel X E st a w)(m:st.bx=[]){k j}(t:j<k):tp X E (st.bump k) (st.next+8*j):=λn u y=>by
 refine⟨?_,?_,?_,?_⟩
 .cases q:E.N n with
  |none=>rfl
  |some x=>have:=h.fj n x q;omega
 .show n∉st.bx;rw[m];simp
 .show n<st.next+8*k;omega
 .have:=h.kb;omega
def nR(P:cJ)(Sp:Spec)(b:Nat)(ops:Array Oper):List Oper->Nat->bC->Option (List (Option b_)×lh×bC)
 |[],_,st=>some ([],[],st)
 |o::l,k,st=>match ni P Sp b ops st k o with
  |some r=>match nR P Sp b ops l (k+1) (iS st o r)with
   |some (rs,ts,st')=>some (r::rs,(vS st o r,jK r)::ts,st')
   |none=>none
  |none=>none
def xz(b:Nat):Nat->lh->Bool
 |_,[]=>true
 |k,(_,m)::ts=>m.all (λn=>decide (n<b+8*k+8))&&xz b (k+1) ts
def UC{X:Fx}{Sp:Spec}{b:Nat}{ops:Array Oper}{Q:Exit->Act->bW->Prop}:∀(l:List Oper)(k:Nat){E:Env}{st st':bC}{rs:List (Option b_)}{ts:lh}{a:Act}{w:bW},
 (∀j,l[j]?=ops[k+j]?)->Rel X E st a w->(∀j,k<=j->j<ops.size->tp X E st (b+8*j))->nR X.P Sp b ops l k st=some (rs,ts,st')->xz b k ts=true->
 (∀a' w' E',Rel X E' st' a' w'->Q .normal a' w')->wpOps X.P ops Q (List.range' k l.length) a w
 |[],k,E,st,st',rs,ts,a,w,_,h,_,c,_,f=>by
  cases c;exact f a w E h
 |o::l,k,E,st,st',rs,ts,a,w,p,h,q,c,e,f=>by
  have s:ops[k]?=some o:=by simpa using(p 0).symm
  have t:k<ops.size:=(kq.1 s).1;simp only[nR]at c;split at c
  .rename_i r u;split at c
   .rename_i x y z g;cases c;simp only[xz,cF,cI,e_]at e;simp only[h_,List.range'_succ,wpOps,s];have:=VS h (q k (dz _) t) (ops:=ops) u (next:=wpOps X.P ops Q (List.range' (k+1) l.length)) (Q:=Q) (λv w' E' k1 k2=>by
     refine UC l (k+1) (λj=>by have:=p (j+1);grind) k2 ?_ g e.2 f;intro j H i n A B;obtain⟨C,D,F,G⟩:=q j om i n A B;refine⟨k1 n om C,?_,by rw[Nr];exact F,G⟩;rw[AD];rintro(m|m)
     .have:=e.1 n (wX _ m);omega
     .exact D m)
    grind
   .cases c
  .cases c
def dm(p:Nat->Bool):Nat->Nat
 |0=>0
 |n+1=>dm p n+if p n then 1 else 0
def Ya{p q:Nat->Bool}:∀{n:Nat},(∀k,k<n->p k=q k)->dm p n=dm q n
 |0,_=>rfl
 |n+1,h=>by simp only[dm,Ya (n:=n) (λk c=>h k om),h n om]
def Vo{p q i}(f:p i=true)(c:q i=false)(h:∀k,k≠i->q k=p k):∀{n},i<n->dm q n+1=dm p n
 |0,g=>om
 |n+1,g=>by
  by_cases e:i=n
  .subst e;simp only[dm,f,c,if_true,pW,if_false,Ya (n:=i) (p:=q) (q:=p) (λk j=>h k om)]
  .have ih:=Vo f c h (n:=n) om;grind[dm]
theorem Xf{p}:∀{n},dm p n=0->∀k,k<n->p k=false
 |0,_,k,c=>om
 |n+1,h,k,c=>by
  simp only[dm]at h;by_cases e:k=n
  .simp_all
  .exact Xf (n:=n) om k om
def gC(listed:Array Bool)(k:Nat):Bool:=listed.getD k false
section
variable{X:Fx}{Sp:Spec}{b:Nat}{ops:Array Oper}{st0:bC}{rs:Nat->Option b_}{ts:lh}
def Xt(e:Lex X.P Sp b ops st0 rs ts)(c:xo b ops ts=true){i j}(f:i<ops.size)(l:j<ops.size)(g:i≠j)(k:before ops 6 i j=false):∀n∈jK (rs i),¬(b+8*j<=n/\n<b+8*j+8):=by
 unfold xo at c;simp only[cI,ku,pZ,beq_iff_eq]at c;have m:=e.name i ops[i] (sD f);have p:direct ops i j=false:=by
  cases h:direct ops i j with
  |false=>rfl
  |true=>simp[before,h]at k
 grind
def axm(G:Lex X.P Sp b ops st0 rs ts)(hp:rz ops ts=true)(C:xo b ops ts=true)(H:HO ops=true){Q}
 (U:∀a' w' E',Rel X E' (AS ops rs st0 λk=>decide (k<ops.size)) a' w'->Q .normal a' w'):
 ∀(fuel)(listed)(E)(a)(w),listed.size=ops.size->dm (λk=> !gC listed k) ops.size=fuel->Shut ops (gC listed)->Rel X E (AS ops rs st0 (gC listed)) a w->
  (∀k,k<ops.size->gC listed k=false->tp X E (AS ops rs st0 (gC listed)) (b+8*k))->wpAny X.P .any ops Q fuel listed a w:=by
 have hend:∀(listed:Array Bool)(E:Env)(a:Act)(w:bW),(∀k,k<ops.size->gC listed k=true)->Rel X E (AS ops rs st0 (gC listed)) a w->Q .normal a w:=by
  intro listed E a w hall hR;refine U a w E ?_;have:AS ops rs st0 (gC listed)=AS ops rs st0 λk=>decide (k<ops.size):=sL λk g=>.inl gL
  simp_all
 have hnone:∀(listed:Array Bool),listed.size=ops.size->Region.ready .any ops listed=[]->∀k,k<ops.size->gC listed k=true:=by
  intro listed u S k
  induction k using Nat.strongRecOn with
  |_ k ih=>
   intro g
   cases T:gC listed k with
   |true=>rfl
   |false=>
    have:k∈Region.ready .any ops listed:=mem_ready.2 ⟨by
     simp_all[gC,ik],ops[k],sD g,λe I J=>by
     unfold HO at H;simp only[cI,ku]at H;have:=H k g;rw[sD g]at this;simp only[Array.all_eq_true_iff_forall_mem]at this;have:=this e I;rw[J]at this;simp at this;exact ih e.on this om⟩
    simp_all
 intro fuel
 induction fuel with
 |zero=>
  intro listed E a w u V f hR K;have hall:∀k,k<ops.size->gC listed k=true:=λk g=>by grind[Xf]
  refine⟨?_,hend listed E a w hall hR⟩;refine List.eq_nil_iff_forall_not_mem.2 λi L=>?_
  obtain⟨W,o,A,_⟩:=mem_ready.1 L;grind[gC]
 |succ fuel ih=>
  intro listed E a w u V f hR K;refine⟨λS=>hend listed E a w (hnone listed u S) hR,λi L=>?_⟩;obtain⟨W,o,A,D⟩:=mem_ready.1 L;have h:i<ops.size:=(kq.1 A).1;have l:gC listed i=false:=by
   simp_all[gC,ik]
  have y:∀j,direct ops i j=true->gC listed j=true:=by
   intro j z;unfold direct at z;rw[A]at z;simp only[Array.any_eq_true',cF,beq_iff_eq]at z;obtain⟨e,I,J,rfl⟩:=z;exact D e I J
  have m:gC (listed.setIfInBounds i true) i=true:=by
   simp_all[gC]
  have c:∀k,k≠i->gC (listed.setIfInBounds i true) k=gC listed k:=λk g=>by
   simp_all[gC,Ne.symm]
  have M:=avE G hp f A l y;unfold wpOp;rw[A];simp only;have :=VS hR (K i h l) (ops:=ops) (o:=o) M (next:=wpAny X.P .any ops Q fuel (listed.setIfInBounds i true)) (Q:=Q) (λv w' E' k1 k2=>by
   have Y:=amX G hp f A l m c k2;refine ih (listed.setIfInBounds i true) _ _ w' (by simpa using u) ?_ ?_ Y ?_
   .have:=Vo (p:=λk=> !gC listed k) (q:=λk=> !gC (listed.setIfInBounds i true) k) (i:=i) (by simp[l]) (by simp[m]) (λk g=>by simp[c k g]) h;omega
   .intro j k z T;by_cases s:k=i
    .simp_all
    .rw[c k s];by_cases N:j=i
     .simp_all
     .rw[c j N]at z;exact f j k z T
   .intro k g x n O R;have s:k≠i:=by grind
    rw[c k s]at x;obtain⟨f1,f2,f3,f4⟩:=K k g x n O R;refine⟨k1 n om f1,?_,by simp_all[Ki],f4⟩;have F:(n∈(AS ops rs st0 (gC (listed.setIfInBounds i true))).bx)↔n∈(iS (AS ops rs st0 (gC listed)) o (rs i)).bx:=by
     have hg:n∉jK (rs i):=by
      intro hm
      cases t:before ops 6 i k with
      |true=>exact absurd (Np f t y) (by simp[x])
      |false=>exact Xt G C h g (Ne.symm s) t n hm ⟨O,R⟩
     rw[zb,AR l m c h (.inr (LA hg)),AD,zb];rfl
    intro h7;have B:=F.1 h7;rw[AD]at B;rcases B with B|B
    .cases t:before ops 6 i k with
     |true=>exact absurd (Np f t y) (by simp[x])
     |false=>exact Xt G C h g (Ne.symm s) t n (wX _ B) ⟨O,R⟩
    .exact f2 B)
  grind
def Xj{rsF:Nat->Option b_}:∀(l)(k){st st'}{ts}{rs},
 (∀j,l[j]?=ops[k+j]?)->nR X.P Sp b ops l k st=some (rs,ts,st')->(∀j,j<rs.length->rsF (k+j)=(rs[j]?).getD none)->
 st=gF (λk st=>iS st (ops[k]?.getD default) (rsF k)) (λ_=>true) st0 k->
 rs.length=l.length/\ts.length=l.length/\
 st'=gF (λk st=>iS st (ops[k]?.getD default) (rsF k)) (λ_=>true) st0 (k+l.length)/\
 ∀(j)(o),l[j]?=some o->ni X.P Sp b ops (gF (λk st=>iS st (ops[k]?.getD default) (rsF k)) (λ_=>true) st0 (k+j)) (k+j) o=some (rsF (k+j))/\
  ts[j]?=some (vS (gF (λk st=>iS st (ops[k]?.getD default) (rsF k)) (λ_=>true) st0 (k+j)) o (rsF (k+j)),jK (rsF (k+j)))
 |[],k,st,st',ts,rs,_,c,_,g=>by
  cases c;simp_all
 |o::l,k,st,st',ts,rs,i,c,e,g=>by
  have v:ops[k]?=some o:=by simpa using(i 0).symm
  simp only[nR]at c;split at c
  .rename_i r y;split at c
   .rename_i n p q h;cases c;have s:rsF k=r:=by have:=e 0 ch;simpa using this
    have f:iS st o r=gF (λk st=>iS st (ops[k]?.getD default) (rsF k)) (λ_=>true) st0 (k+1):=by
     simp_all[gF,ik]
    obtain⟨t,u,z,A⟩:=Xj l (k+1) (λj=>by have:=i (j+1);grind) h
     (λj m=>by have:=e (j+1) (by simpa using m);grind) f
    refine⟨by simp[t],by simp[u],by grind,λj x m=>?_⟩;grind
   .cases c
  .cases c
end
theorem G8{X g}{x:X}{k n}(h:k<=n):gF g (λj=>decide (j<k)) x n=gF g (λ_=>true) x k:=by
 induction n with
 |zero =>
           have:k=0:=om;subst this;rfl
 |succ n ih=>
  by_cases c:k=n+1
  .grind[sL]
  .simp only[gF];grind
def Told(X:Fx)(st:bC)(a:Act)(w:bW):Prop:=∃E,Rel X E st a w/\st.bx=[]
def Aw(X:Fx)(c:Code)(Q:Exit->bC->Prop)(st:bC):Prop:=
 ∀a w,Told X st a w->c.wp X.P (λe a' w'=>∃st',Q e st'/\Told X st' a' w') a w
section
variable{X:Fx}{Sp:Spec}{Q:Exit->bC->Prop}{st:bC}
def lj{id ops rs ts st'}(he:nR X.P Sp st.next ops.toArray ops 0 (st.bump ops.length)=some (rs,ts,st'))(hs:xz st.next 0 ts=true)(h:Q .normal st'.settle):
 Aw X (.region id ops.toArray false) Q st:=λa w ht=>by
 obtain⟨E,hR,hg⟩:=ht;refine wp_region ?_;have:=UC (X:=X) (ops:=ops.toArray) (Q:=λe a' w'=>∃st',Q e st'/\Told X st' a' w') ops 0 (λj=>by simp) (hR.bump ops.length) (λj _ hj=>hR.free hg (by simpa using hj)) he hs (λa' w' E' k1=>by
  obtain⟨E2,k3,k4⟩:=k1.settle;exact⟨_,h,E2,k3,k4⟩)
 rw[<-List.range_eq_range']at this;simpa using this
def alB(hm:X.P.follows .mixedOrders=true){id ops}(hf:HO ops.toArray=true){rs ts st'}
 (he:nR X.P Sp st.next ops.toArray ops 0 (st.bump ops.length)=some (rs,ts,st')) (hp:rz ops.toArray ts=true) (hfo:xo st.next ops.toArray ts=true) (h:Q .normal st'.settle):
 Aw X (.region id ops.toArray true) Q st:=λa w ht=>by
 obtain⟨E,hR,hg⟩:=ht;obtain⟨g1,g2,g4,g5⟩:=Xj (X:=X) (st0:=st.bump ops.length) (rsF:=λk=>(rs[k]?).getD none) ops 0 (λj=>by simp) he (λj _=>by simp) rfl;have aDX:Lex X.P Sp st.next ops.toArray (st.bump ops.length) (λk=>(rs[k]?).getD none) ts:={
  step:=λk o ho=>by
   grind[G8]
  name:=λk o ho=>by
   grind[G8]}
 refine wp_region_any hm ?_;have PL:Rel X E (st.bump ops.length) a {w with drawn:=w.drawn+1}:=(hR.bump ops.length).drew;have e1:AS ops.toArray (λk=>(rs[k]?).getD none) (st.bump ops.length) (gC (Array.replicate ops.toArray.size false))=st.bump ops.length:=by
  have:AS ops.toArray (λk=>(rs[k]?).getD none) (st.bump ops.length) (gC (Array.replicate ops.toArray.size false))=AS ops.toArray (λk=>(rs[k]?).getD none) (st.bump ops.length) (λj=>decide (j<0)):=
   sL λk hk=>.inl (by simp_all[gC])
  rw[this];show gF _ _ _ _=_;rw[G8 (fu _)];rfl
 refine axm (X:=X) (Q:=λe a' w'=>∃st',Q e st'/\Told X st' a' w') aDX hp hfo hf ?_ _ _ E a _ ch ?_ ?_ ?_ ?_
 .intro a' w' E' k2;have e1:AS ops.toArray (λk=>(rs[k]?).getD none) (st.bump ops.length) (λk=>decide (k<ops.toArray.size))=st':=by
   simp_all[G8]
  rw[e1]at k2;obtain⟨E2,k3,k4⟩:=k2.settle;exact⟨_,h,E2,k3,k4⟩
 .have:∀n,n<=ops.length->dm (λk=> !gC (Array.replicate ops.toArray.size false) k) n=n:=by
   intro n hn
   induction n with
   |zero=>rfl
   |succ n ih=>
    simp only[dm,ih om];simp[gC,sB,show n<ops.length by omega]
  simp_all
 .intro j i hj _;simp[gC,sB,acy]at hj;grind
 .rw[e1];exact PL
 .intro k hk _;rw[e1];exact hR.free hg (by simpa using hk)
def lW{c Q'}(h:Aw X c Q st)(hq:∀e st,Q e st->Q' e st):Aw X c Q' st:=
 λa w ht=>wp_mono (h a w ht) λe _ _⟨st',h1,h2⟩=>⟨st',hq e st' h1,h2⟩
def Le(X:Fx)(st st':bC):Prop:=∀a w,Told X st a w->Told X st' a w
def WI{c st'}(e:Le X st st')(h:Aw X c Q st'):Aw X c Q st:=λa w f=>h a w (e a w f)
def rn(h:Q .normal st):Aw X .skip Q st:=λ_ _ ht=>wp_skip ⟨st,h,ht⟩
def arO{id}(h:Q (.exit id) st):Aw X (.exit id) Q st:=λ_ _ ht=>wp_exit ⟨st,h,ht⟩
def o7(h:Q .ret st):Aw X .ret Q st:=λ_ _ ht=>wp_ret ⟨st,h,ht⟩
def EM(next:bC->Prop)(Q:Exit->bC->Prop):Exit->bC->Prop
 |.normal,st=>next st
 |e,st=>Q e st
def eT{x y}(h:Aw X x (EM (Aw X y Q) Q) st):Aw X (.seq x y) Q st:=λa w ht=>by
 refine wp_seq (wp_mono (h a w ht) ?_);rintro e a' w' ⟨st',h1,h2⟩
 cases e with
 |normal=>exact h1 a' w' h2
 |_=>exact⟨st',h1,h2⟩
def oI{c x y t}(hc:st.arg c=some (.sc (.bool t)))(h1:t=true->Aw X x Q st)(h2:t=false->Aw X y Q st):Aw X (.cond c x y) Q st:=λa w ht=>by
 have n4:=ht;obtain⟨E,hR,_⟩:=n4;have k1:=RP.eM (hR.cX hc).1;refine wp_cond k1 ?_;cases t
 .exact h2 rfl a w ht
 .exact h1 rfl a w ht
def OI(id:Nat)(Q:Exit->bC->Prop):Exit->bC->Prop
 |.exit c,st=>if c=id then Q .normal st else Q (.exit c) st
 |e,st=>Q e st
def XS{id c}(h:Aw X c (OI id Q) st):Aw X (.block id c) Q st:=λa w ht=>by
 refine wp_block (wp_mono (h a w ht) ?_);rintro e a' w' ⟨st',h1,h2⟩
 cases e with
 |exit id'=>
  simp only[OI]at h1;by_cases hid:id'=id
  .rw[bB hid]at h1;simp only[Exit.inBlock,hid,if_true];grind
  .rw[bG hid]at h1;simp only[Exit.inBlock];grind
 |_=>exact⟨st',h1,h2⟩
def aCf(Q:Exit->bC->Prop):Exit->bC->Prop
 |.goto _,_=>False
 |e,st=>Q e st
def atp{c}(h:Aw X c (aCf Q) st):Aw X (.scope c) Q st:=λa w ht=>by
 refine wp_scope_straight (wp_mono (h a w ht) ?_);rintro e a' w' ⟨st',h1,h2⟩
 cases e with
 |goto l=>exact h1.elim
 |_=>exact⟨st',h1,h2⟩
def aoW{l}(h:Q .normal st):Aw X (.label l) Q st:=λ_ _ ht=>wp_label ⟨st,h,ht⟩
def tf(X:Fx)(c:Code):Nat->(Exit->bC->Prop)->bC->Prop
 |0,_,_=>False
 |n+1,Q,st=>Aw X c (EM (tf X c n Q) Q) st
def Q2{c st'}:∀{n},Le X st st'->tf X c n Q st'->tf X c n Q st
 |0,_,h=>h.elim
 |_+1,e,h=>WI e h
def Xw{c}:∀{n}{st},tf X c n Q st->∀a w,Told X st a w->Code.rounds X.P c (λe a' w'=>∃st',Q e st'/\Told X st' a' w') n a w
 |0,_,h=>h.elim
 |n+1,st,h=>λa w ht=>by
  refine wp_mono (h a w ht) ?_;rintro e a' w' ⟨st',h1,h2⟩
  cases e with
  |normal=>exact Xw (n:=n) h1 a' w' h2
  |_=>exact⟨st',h1,h2⟩
def Sh{c n}(h:tf X c n Q st):Aw X (.loop c) Q st:=λa w ht=>wp_loop_rounds n (Xw h a w ht)
def ajr{c}{α:Type}(I:α->bC->Prop)(y:α->Nat){x0}(G:∃i,Le X st i/\I x0 i)
 (round:∀x st,I x st->Aw X c (EM (λst'=>∃s i,Le X st' i/\I s i/\y s<y x) Q) st):Aw X (.loop c) Q st:=λa w z=>by
 obtain⟨i,H,A⟩:=G;intro b k cs;have key:∀n x st,y x=n->I x st->∀a w,Told X st a w->
  ∃e a' w',(∃st',Q e st'/\Told X st' a' w')/\Arrives X.P (lone (b.at a (.code c:: .inLoop c::k)) cs w) b k cs e a' w':=by
  intro n
  induction n using Nat.strongRecOn with
  |_ n ih=>
   intro x st J A a w z;obtain⟨e,g,h,⟨st',p,j⟩,f⟩:=round x st A a w z b (.inLoop c::k) cs
   cases e with
   |normal=>
    obtain⟨s,B,C,D,F⟩:=p;obtain⟨t,u,v,q,m⟩:=ih (y s) (J▸F) s B rfl D g h (C _ _ j);exact⟨t,u,v,q,.of_steps (Steps.trans f (.one step_inLoop)) m⟩
   |exit id=>exact⟨_,g,h,⟨st',p,j⟩,.pass (x:=.inLoop c) rfl (λ_ _=>.inl ch) f⟩
   |goto l=>exact⟨_,g,h,⟨st',p,j⟩,.pass (x:=.inLoop c) rfl (λ_ _=>.inl ch) f⟩
   |ret=>exact⟨_,g,h,⟨st',p,j⟩,.pass (x:=.inLoop c) rfl (λ_ _=>.inl ch) f⟩
   |panic K=>exact⟨_,g,h,⟨st',p,j⟩,.pass (x:=.inLoop c) rfl (λ_ _=>.inl ch) f⟩
   |outgrown=>exact⟨_,g,h,⟨st',p,j⟩,.pass (x:=.inLoop c) rfl (λ_ _=>.inl ch) f⟩
 obtain⟨e,a',w',p,f⟩:=key _ x0 i rfl A a w (H _ _ z);exact⟨e,a',w',p,.of_steps (.one step_loop) f⟩
end
abbrev Ren:=List (Nat×Nat)
def Ren.to(ι:Ren)(n:Nat):Nat:=(List.lookup n ι).getD 0
def Ren.old(ι:Ren):List Nat:=ι.map (·.1)
def Ren.new(ι:Ren):List Nat:=ι.map (·.2)
def Cs(st:bC)(ι:Ren)(Z:List Nat):C->C->Prop
 |_,.dead=>True
 |c,.p q=>c=.p q\/∃rows,q=.sl rows/\st.view c=some rows/\∀n∈c.names,n∉ι.old
 |.nil,.own e=>e∈Z
 |.nil,.sub e lo len=>e∈Z/\lo=0/\len=0
 |c,f=>f=c.eh ι.to/\∀n∈c.names,n∈ι.old
def B_(st:bC)(ι:Ren)(Z:List Nat):List C->List C->Prop
 |[],[]=>True
 |c::cs,f::e=>Cs st ι Z c f/\B_ st ι Z cs e
 |_,_=>False
def vn(st:bC)(ι:Ren)(Z:List Nat):V1->V1->Prop
 |_,.c .dead=>True
 |.c c,.c f=>Cs st ι Z c f
 |.agg cs,.agg e=>B_ st ι Z cs e
 |_,_=>False
def Gt(st:bC)(ι:Ren)(Z:List Nat):List V1->List V1->Prop
 |[],[]=>True
 |c::cs,f::e=>vn st ι Z c f/\Gt st ι Z cs e
 |_,_=>False
def xu(st:bC)(ι:Ren)(Z:List Nat):V->V->Prop
 |_,.v (.c .dead)=>True
 |.v x,.v e=>vn st ι Z x e
 |.bM xs,.bM c=>Gt st ι Z xs c
 |_,_=>False
def qc(st:bC)(ι:Ren)(Z:List Nat):List V->List V->Prop
 |[],[]=>True
 |v::l,c::e=>xu st ι Z v c/\qc st ι Z l e
 |_,_=>False
def leB(st:bC)(ι:Ren)(Z:List Nat):fv->fv->Prop
 |.box cs,.box f=>B_ st ι Z cs f
 |.row e rows,.row h c=>e=h/\rows=c
 |.map i,.map g=>i=g
 |_,_=>False
structure lX(P:cJ)(k0:Nat)(st st':bC)(ι:Ren)(Z:List Nat):Prop where
 bx:st'.bx=[]
 old:ι.old.Nodup
 new:ι.new.Nodup
 zs:∀n∈Z,n∉ι.new/\k0<=n/\n<st'.next/\∃e,st'.heap.lookup n=some (.row e [])/\0<P.cellsOf e
 lt:∀x∈ι,x.2<st'.next/\(x.2<k0->x.1=x.2)
 k0:k0<=st'.next
 tmps:qc st ι Z st.tmps st'.tmps
 heap:∀n' b',st'.heap.lookup n'=some b'->n'∈Z\/∃n b,(n,n')∈ι/\st.heap.lookup n=some b/\leB st ι Z b b'
def ama{ι:Ren}{n}(h:n∈ι.old):∃c,List.lookup n ι=some c/\(n,c)∈ι:=by
 induction ι with
 |nil=>simp[Ren.old]at h
 |cons x ι ih=>
  grind[Ren.old]
def ayW{ι:Ren}(c:ι.old.Nodup){n a b}(e:(n,a)∈ι)(f:(n,b)∈ι):a=b:=by
 induction ι with
 |nil=>cases e
 |cons x ι ih=>
  simp only[Ren.old,dE,List.nodup_cons]at c;rcases fh.1 e with k1|k1<;>rcases fh.1 f with k2|k2
  .grind
  .grind
  .grind
  .exact ih c.2 k1 k2
def ayV{ι:Ren}(c:ι.new.Nodup){n a b}(e:(a,n)∈ι)(f:(b,n)∈ι):a=b:=by
 induction ι with
 |nil=>cases e
 |cons x ι ih=>
  simp only[Ren.new,dE,List.nodup_cons]at c;rcases fh.1 e with k1|k1<;>rcases fh.1 f with k2|k2
  .grind
  .grind
  .grind
  .exact ih c.2 k1 k2
def Env.le(P:cJ)(E:Env)(st':bC)(ι:Ren)(Z:List Nat):Env:=
 ⟨λh=>if h∈Z then some ⟨none,0,0,match st'.heap.lookup h with|some (.row e _)=>P.cellsOf e|_=>0⟩else match ι.find? (λx=>x.2==h)with|some x=>E.N x.1|none=>none,[]⟩
section
variable{X:Fx}{E:Env}{st st':bC}{a:Act}{w:bW}{ι:Ren}{Z:List Nat}
def uA{c x}(h:(E.le X.P st' ι Z).N c=some x):(c∈Z/\x.g=none)\/(c∉Z/\∃n,(n,c)∈ι/\E.N n=some x):=by
 simp only[Env.le]at h;grind
def Q7(e:lX X.P X.k0 st st' ι Z){n c}(f:(n,c)∈ι){x}(h:E.N n=some x):(E.le X.P st' ι Z).N c=some x:=by
 simp only[Env.le];rw[bG (λj=>(e.zs c j).1 (gg.2 ⟨_,f,rfl⟩))]
 cases g:ι.find? (λx=>x.2==c)with
 |none=>
  grind
 |some y=>
  have i:=acz g;have k:=acA g;simp at i;subst i;have:=ayV e.new f k;subst this;exact h
def SY{g}(h:bad X.M (E.le X.P st' ι Z) g):bad X.M E g:=by
 rcases h with h| ⟨i,x,e,f⟩
 .exact .inl h
 .rcases uA e with⟨_,c⟩| ⟨_,n,_,c⟩
  .simp_all
  .exact .inr ⟨n,x,c,f⟩
def RC.le(h:Rel X E st a w)(R:st.bx=[])(G:lX X.P X.k0 st st' ι Z){c t v}(m:Cs st ι Z c t)(y:RC X.M E w c v):RC X.M (E.le X.P st' ι Z) w t v:=by
 have z:jo (bad X.M E) (bad X.M (E.le X.P st' ι Z)) w w:=λg o u B D=>⟨B,λh=>D (SY h)⟩
 have H:∀n,n∉E.bx:=λn=>by rw[h.bx,R];simp
 have key:t=c.eh ι.to/\(∀n∈c.names,n∈ι.old)->RC X.M (E.le X.P st' ι Z) w t v:=by
  rintro⟨rfl,I⟩;refine RC.eh (.inl z) (λn B=>⟨H n,λx T=>?_⟩) y;obtain⟨k,D,J⟩:=ama (I n B);have:ι.to n=k:=by simp[Ren.to,D]
  rw[this];exact Q7 G J T
 cases t with
 |dead=>trivial
 |p q=>
  have K:c=.p q\/∃rows,q=.sl rows/\st.view c=some rows/\∀n∈c.names,n∉ι.old:=by cases c<;>exact m
  rcases K with rfl| ⟨rows,rfl,U,I⟩
  .exact RP.trans y z
  .obtain⟨W,B,D⟩:=X_ U;obtain⟨_,_,J⟩:=h.sink y (λn _=>by rw[R];simp) B;refine RP.trans (J W (λ_ h=>h)) (λg o u k1 k2=>⟨k1,λM=>k2 ?_⟩);rcases M with M| ⟨k,x,Y,k5⟩
   .exact .inl M
   .rcases uA Y with⟨_,S⟩| ⟨_,n,S,k7⟩
    .simp_all
    .refine .inr ⟨n,x,?_,k5⟩;simp only[Env.drop];rw[bG λN=>I n (D n N) (gg.2 ⟨_,S,rfl⟩)];exact k7
 |own k=>
  cases c with
  |nil=>
   have F:k∈Z:=m;obtain⟨_,_,_,e,O,h5⟩:=G.zs k F;refine .inr ⟨⟨none,0,0,X.P.cellsOf e⟩,by simp[Env.le,F,O],?_⟩;exact y
  |_=>exact key m
 |sub k lo len=>
  cases c with
  |nil=>
   obtain⟨F,rfl,rfl⟩:k∈Z/\lo=0/\len=0:=m;obtain⟨_,_,_,e,O,h5⟩:=G.zs k F;exact .inr ⟨⟨none,0,0,X.P.cellsOf e⟩,by simp[Env.le,F,O],dz _,none,y,λ_=>rfl⟩
  |_=>exact key m
 |_=>cases c<;>exact key m
def I1:∀{cs e},B_ st ι Z cs e->cs.length=e.length/\∀(i:Nat)(f),e[i]?=some f->∃c,cs[i]?=some c/\Cs st ι Z c f
 |[],[],_=>⟨rfl,λi f h=>by simp at h⟩
 |c::cs,f::e,h=>by
  obtain⟨j,k⟩:=I1 h.2;refine⟨by simp[j],λi x g=>?_⟩
  cases i with
  |zero=>simp at g;subst g;exact⟨c,rfl,h.1⟩
  |succ i=>simp_all
 |[],_::_,h=>h.elim
 |_::_,[],h=>h.elim
def QP:∀{cs e},Gt st ι Z cs e->cs.length=e.length/\∀(i:Nat)(f),e[i]?=some f->∃c,cs[i]?=some c/\vn st ι Z c f
 |[],[],_=>⟨rfl,λi f h=>by simp at h⟩
 |c::cs,f::e,h=>by
  obtain⟨j,k⟩:=QP h.2;refine⟨by simp[j],λi x g=>?_⟩
  cases i with
  |zero=>simp at g;subst g;exact⟨c,rfl,h.1⟩
  |succ i=>simp_all
 |[],_::_,h=>h.elim
 |_::_,[],h=>h.elim
def MP:∀{cs e},qc st ι Z cs e->cs.length=e.length/\∀(i:Nat)(f),e[i]?=some f->∃c,cs[i]?=some c/\xu st ι Z c f
 |[],[],_=>⟨rfl,λi f h=>by simp at h⟩
 |c::cs,f::e,h=>by
  obtain⟨j,k⟩:=MP h.2;refine⟨by simp[j],λi x g=>?_⟩
  cases i with
  |zero=>simp at g;subst g;exact⟨c,rfl,h.1⟩
  |succ i=>simp_all
 |[],_::_,h=>h.elim
 |_::_,[],h=>h.elim
def e7.le(h:Rel X E st a w)(q:st.bx=[])(t:lX X.P X.k0 st st' ι Z){x y v}(k:vn st ι Z x y)(z:e7 X.M E w x v):e7 X.M (E.le X.P st' ι Z) w y v:=by
 unfold vn at k;split at k
 .trivial
 .exact RC.le h q t k z
 .obtain⟨us,B,D,F⟩:=z;obtain⟨G,H⟩:=I1 k;refine⟨us,B,by rw[D,G],λi c I=>?_⟩;obtain⟨c0,J,K⟩:=H i c I;obtain⟨u,M,N,m⟩:=F i c0 J;exact⟨u,M,RC.le h q t K N,m⟩
 .exact k.elim
def RV.le(h:Rel X E st a w)(m:st.bx=[])(q:lX X.P X.k0 st st' ι Z){x t v}(k:xu st ι Z x t)(y:RV X.M E w x v):RV X.M (E.le X.P st' ι Z) w t v:=by
 unfold xu at k;split at k
 .trivial
 .exact e7.le h m q k y
 .obtain⟨us,z,B,D⟩:=y;obtain⟨F,G⟩:=QP k;refine⟨us,z,by rw[B,F],λi c H=>?_⟩;obtain⟨c0,I,J⟩:=G i c H;obtain⟨u,K,M⟩:=D i c0 I;exact⟨u,K,e7.le h m q J M⟩
 .exact k.elim
def Rel.le(h:Rel X E st a w)(J:st.bx=[])(q:lX X.P X.k0 st st' ι Z):Rel X (E.le X.P st' ι Z) st' a w:=by
 have K:jo (bad X.M E) (bad X.M (E.le X.P st' ι Z)) w w:=λg o u k t=>⟨k,λh=>t (SY h)⟩
 exact {
  defers:=h.defers
  bx:=by rw[q.bx];rfl
  frame:=h.frame
  jJ:=h.jJ
  fj:=λD x B=>by
   rcases uA B with⟨k,_⟩| ⟨_,n,k,_⟩
   .exact(q.zs D k).2.2.1
   .exact(q.lt _ k).1
  names:=λD x g B F=>by
   rcases uA B with⟨_,k⟩| ⟨_,n,_,k⟩
   .simp_all
   .exact h.names n x g k F
  inj:=λD m' x y g B hy F Y=>by
   rcases uA B with⟨_,k⟩| ⟨_,n,M,k⟩
   .simp_all
   .rcases uA hy with⟨_,t⟩| ⟨_,m,z,t⟩
    .simp_all
    .have:=h.inj n m x y g k t F Y;subst this;exact ayW q.old M z
  gl :=λm hm=>by
   cases B:(E.le X.P st' ι Z).N m with
   |none=>exact .inl rfl
   |some x=>
    right;rcases uA B with⟨k,_⟩| ⟨_,n,M,k⟩
    .have:=(q.zs m k).2.1;omega
    .have:=(q.lt _ M).2 hm;simp at this;subst this;rcases h.gl n hm with t|t
     .simp_all
     .rw[<-t,k]
  kb:=q.k0
  lH:=λn hn=>by rw[q.bx]at hn;cases hn
  size:=by rw[h.size,(MP q.tmps).1]
  tmps:=λi v' G=>by
   obtain⟨v,N,O⟩:=(MP q.tmps).2 i v' G;obtain⟨u,R,S⟩:=h.tmps i v N;exact⟨u,R,S.le h J q O⟩
  heap :=λD W hl=>by
   right;rcases q.heap D W hl with hz| ⟨n,b,k,t,z⟩
   .obtain⟨_,_,_,e,I,T⟩:=q.zs D hz;rw[I]at hl;cases hl;exact⟨⟨none,0,0,X.P.cellsOf e⟩,#[],(0,0),by simp[Env.le,hz,I],.inl rfl,λg J=>(by cases J),rfl,dz _,by simp[maxLen],T,rfl,by simp,λr U=>by simp at U,λ_=>rfl,λi r j p G=>by simp at G⟩
   .have U:=h.row (by rw[J];simp) t;have hN:∀x,E.N n=some x->(E.le X.P st' ι Z).N D=some x:=λx B=>Q7 q k B
    cases b with
    |box cs=>
     cases W with
     |box ad=>
      obtain⟨x,g,cur,e,k1,k0,k2,k3,k4⟩:=U;obtain⟨I,T⟩:=I1 z;refine⟨x,g,cur,e,hN x k1,k0,k2,by rw[k3,I],λi c' G=>?_⟩;obtain⟨c,N,O⟩:=T i c' G;obtain⟨u,R,S,H⟩:=k4 i c N;exact⟨u,R,RC.le h J q O S,H⟩
     |_=>exact z.elim
    |row e rows=>
     cases W with
     |row e' aa=>
      obtain⟨rfl,rfl⟩:=z;obtain⟨x,cur,fz,k,ab,t,z,I,T,N,ac,O,R,H,S⟩:=U;exact⟨x,cur,fz,hN x k,ab,t,z,I,T,N,ac,O,R,H,λi r j p G hj=>let⟨u,k1,k2⟩:=S i r j p G hj; ⟨u,k1,k2.trans K⟩⟩
     |_=>exact z.elim
    |map es=>
     cases W with
     |map ae=>
      cases z;obtain⟨x,g,en,clock,k,M,t,z⟩:=U;exact⟨x,g,en,clock,hN x k,M,t,z.trans K⟩
     |_=>exact z.elim}
def lX.le(m:st.bx=[])(k:lX X.P X.k0 st st' ι Z):Le X st st':=λ_ _⟨E,h,_⟩=>⟨E.le X.P st' ι Z,h.le m k,k.bx⟩
end
def uY(n L:Nat)(c e:C):Prop:=e=.dead\/(e=c/\n∉c.names)\/(c=.sub n 0 L/\e=.own n)
def Al(n L:Nat):V1->V1->Prop
 |_,.c .dead=>True
 |.c c,.c f=>uY n L c f
 |.agg cs,.agg e=>cs.length=e.length/\∀(i:Nat)(f:C),e[i]?=some f->∃c,cs[i]?=some c/\uY n L c f
 |_,_=>False
def Y7(n L:Nat):V->V->Prop
 |_,.v (.c .dead)=>True
 |.v x,.v g=>Al n L x g
 |.bM xs,.bM e=>xs.length=e.length/\∀(i:Nat)(f:V1),e[i]?=some f->∃c,xs[i]?=some c/\Al n L c f
 |_,_=>False
def Sc(n L:Nat):fv->fv->Prop
 |.box cs,.box g=>cs.length=g.length/\∀(i:Nat)(j:C),g[i]?=some j->∃c,cs[i]?=some c/\uY n L c j
 |.row e rows,.row k f=>k=e/\f=rows
 |.map l,.map h=>h=l
 |_,_=>False
structure LF(k0:Nat)(st st':bC)(n L:Nat)(e:cf)(rows:List (List PV)):Prop where
 k0:k0<=n
 bx:st'.bx=[]
 next:st'.next=st.next
 row:st.heap.lookup n=some (.row e rows)
 told:∃i:Nat,st.tmps[i]?=some (.v (.c (.sub n 0 L)))
 len:st.tmps.length=st'.tmps.length
 tmps:∀(i:Nat)(v':V),st'.tmps[i]?=some v'->∃v,st.tmps[i]?=some v/\Y7 n L v v'
 heap:∀m b',st'.heap.lookup m=some b'->(m=n/\b'=.row e (rows.take L))\/(m≠n/\∃b,st.heap.lookup m=some b/\Sc n L b b')
def LF.le{X st st' n L e rows}(hg:st.bx=[])(N:LF X.k0 st st' n L e rows):Le X st st':=by
 rintro a w ⟨E,h,_⟩;have U:∀m,m∉E.bx:=λm=>by rw[h.bx,hg];simp
 obtain⟨x,cur,fz,k1,ab,k2,k3,k4,k5,k6,k7,k8,k9,ac,ad⟩:=h.row (by rw[hg];simp) N.row;obtain⟨i0,ae⟩:=N.told;obtain⟨u0,_,af⟩:=h.tmps i0 _ ae;obtain⟨x',aa,hL,_⟩:=dj.get (show RC X.M E w (.sub n 0 L) u0 from af) (U n);rw[k1]at aa;cases aa
 let E':Env:=⟨λm=>if m=n then some {x with len:=L}else E.N m,[]⟩
 have hN:∀m y,m≠n->E.N m=some y->E'.N m=some y:=λm y F D=>by grind
 have O:∀m y,E'.N m=some y->∃z,E.N m=some z/\z.g=y.g:=λm y D=>by
  grind
 have T:∀g,bad X.M E' g->bad X.M E g:=by
  rintro g (t| ⟨m,y,t,k⟩)
  .exact .inl t
  .obtain⟨z,G,H⟩:=O m y t;exact .inr ⟨m,z,G,H.trans k⟩
 have R:jo (bad X.M E) (bad X.M E') w w:=λg o u t k=>⟨t,λh=>k (T g h)⟩
 have I:∀m(Q:Nm->Prop),m≠n->dj E m Q->dj E' m Q:=λm Q F hq=>by
  obtain⟨y,t,k⟩:=dj.get hq (U m);exact .inr ⟨y,hN m y F t,k⟩
 have hc:∀c B v,uY n L c B->RC X.M E w c v->RC X.M E' w B v:=by
  rintro c B v (rfl| ⟨rfl,Y⟩| ⟨rfl,rfl⟩) J
  .trivial
  .cases B with
   |p q=>exact RP.trans J R
   |nil=>exact J
   |own m=>exact I m _ (by simpa[C.names]usingλh:m=n=>Y (by simp[C.names,h])) J
   |sub m lo len=>exact I m _ (by simpa[C.names]usingλh:m=n=>Y (by simp[C.names,h])) J
   |ptr m off=>exact I m _ (by simpa[C.names]usingλh:m=n=>Y (by simp[C.names,h])) J
   |d' m i j=>exact I m _ (by simpa[C.names]usingλh:m=n=>Y (by simp[C.names,h])) J
   |ref cells=>
    obtain⟨g,o,t,k⟩:=J;refine⟨g,o,t,λj p W=>?_⟩;obtain⟨u,G,H,h5⟩:=k j p W;exact⟨u,G,λh=>H (T g h),RP.trans h5 R⟩
   |fn f eS=>
    obtain⟨us,t,k,G⟩:=J;refine⟨us,t,k,λi m K=>?_⟩;obtain⟨u,H,h5⟩:=G i m K;exact⟨u,H,I m _ (λF=>Y (by subst F;exact eN K)) h5⟩
   |mp m=>exact I m _ (by simpa[C.names]usingλh:m=n=>Y (by simp[C.names,h])) J
   |dead=>trivial
  .obtain⟨y,t,_,A,G,H⟩:=dj.get (show RC X.M E w (.sub n 0 L) v from J) (U n);rw[k1]at t;cases t;have hA:=H (.inr rfl);simp only[C2,Qr]at hA G;exact .inr ⟨{x with len:=L},by simp[E'],by rw[G,hA]⟩
 have ag:∀y M v,Al n L y M->e7 X.M E w y v->e7 X.M E' w M v:=by
  intro y M v D J
  cases M with
  |c B=>
   cases y with
   |c c=>
    have:B=.dead\/uY n L c B:=by cases B<;>first|exact .inl rfl|exact .inr D
    rcases this with rfl|D
    .trivial
    .exact hc c B v D J
   |agg=>cases B<;>first|trivial|exact D.elim
  |agg ah=>
   cases y with
   |c=>exact D.elim
   |agg cs=>
    obtain⟨us,rfl,k,G⟩:=J;refine⟨us,rfl,k.trans D.1,λi B K=>?_⟩;obtain⟨c,H,h5⟩:=D.2 i B K;grind
 refine⟨E',?_,N.bx⟩;exact{
  defers:=h.defers
  bx:=by rw[N.bx]
  frame:=h.frame
  jJ:=h.jJ
  fj:=λm y D=>by
   obtain⟨z,t,_⟩:=O m y D;rw[N.next];exact h.fj m z t
  names:=λm y g D ai=>by
   obtain⟨z,t,k⟩:=O m y D;exact h.names m z g t (k.trans ai)
  inj:=λm m' y M g D aj hg ak=>by
   obtain⟨z,t,k⟩:=O m y D;obtain⟨z',G,H⟩:=O m' M aj;exact h.inj m m' z z' g t G (k.trans hg) (H.trans ak)
  gl:=λm F=>by
   have:m≠n:=by have:=N.k0;omega
   simp only[E',bG this];exact h.gl m F
  kb:=by rw[N.next];exact h.kb
  lH:=λm F=>by rw[N.bx]at F;cases F
  size:=by rw[h.size,N.len]
  tmps :=λi v' K=>by
   obtain⟨v,t,k⟩:=N.tmps i v' K;obtain⟨u,G,H⟩:=h.tmps i v t;refine⟨u,G,?_⟩
   cases v' with
   |v M=>
    cases v with
    |v y=>
     have:M=.c .dead\/Al n L y M:=by
      cases M with
      |c B=>cases B<;>first|exact .inl rfl|exact .inr k
      |agg=>exact .inr k
     rcases this with rfl|k
     .trivial
     .exact ag y M u k H
    |bM=>
     cases M with
     |c B=>cases B<;>first|trivial|exact k.elim
     |agg=>exact k.elim
   |bM aq=>
    cases v with
    |v=>exact k.elim
    |bM xs=>
     obtain⟨us,rfl,h5,h6⟩:=H;refine⟨us,rfl,h5.trans k.1,λj B W=>?_⟩;obtain⟨c,h7,h8⟩:=k.2 j B W;grind
  heap :=λm b' hb=>by
   right;rcases N.heap m b' hb with⟨rfl,rfl⟩| ⟨F,b,t,k⟩
   .exact⟨{x with len:=L},cur,fz,by simp[E'],ab,k2,by simp;omega,by simp only;omega,k5,k6,k7,k8,λr hr=>k9 r (ob hr),ac,λi r j p K W=>by
     obtain⟨u,q1,q2⟩:=ad i r j p (DT K).1 W;exact⟨u,q1,q2.trans R⟩⟩
   .have hr:=h.row (by rw[hg];simp) t
    cases b with
    |box cs=>
     cases b' with
     |box ah=>
      obtain⟨y,g,S,e',j1,j2,j3,j4,j5⟩:=hr;refine⟨y,g,S,e',hN m y F j1,j2,j3,j4.trans k.1,λi B K=>?_⟩;obtain⟨c,q1,q2⟩:=k.2 i B K;grind
     |_=>exact k.elim
    |row e0 al=>
     cases b' with
     |row e' am=>
      obtain⟨rfl,rfl⟩:=k;obtain⟨y,S,an,j1,jf,j2,j3,j4,j5,j6,j7,j8,j9,ao,ap⟩:=hr;exact⟨y,S,an,hN m y F j1,jf,j2,j3,j4,j5,j6,j7,j8,j9,ao,λi r j p K W=>let⟨u,q1,q2⟩:=ap i r j p K W; ⟨u,q1,q2.trans R⟩⟩
     |_=>exact k.elim
    |map es=>
     cases b' with
     |map ar=>
      obtain⟨y,g,en,clock,j1,j2,j3,j4⟩:=hr;exact⟨y,g,en,clock,hN m y F j1,j2,j3,k▸j4.trans R⟩
     |_=>exact k.elim}
def V.one:V->Option V1
 |.v x=>some x
 |.bM _=>none
def ph(P:cJ)(st:bC):ResultVar->Option V1
 |.tmp t=>(st.tmps[t]?).bind V.one
 |.cell t ty=>match st.tmps[t]? with
  |some (.v (.c (.ptr n off)))=>match st.heap.lookup n with
   |some (.box cs)=>(mf P ty (cs.drop off)).bind V.one
   |_=>none
  |_=>none
def asv:List V1->V
 |[x]=>.v x
 |xs=>.bM xs
def vA(P:cJ)(rs:List ResultVar)(st:bC):Option V:=(rs.mapM (ph P st)).map asv
def aaZ{v:V}{x}(h:v.one=some x):v=.v x:=by cases v<;>simp[V.one]at h;subst h;rfl
def zV(tmps:Array b8):ResultVar->Sem b8
 |.tmp t=>Pure.pure (tmps.getD t undef)
 |.cell t ty=>do loadVar ty (<-asAddr (tmps.getD t undef))
def amr(fn)(tmps):results fn tmps=(do let vs<-fn.results.mapM (zV tmps);Pure.pure (if h:vs.size=1 then vs[0]else .tuple vs)):=by
 rfl
section
variable{X:Fx}{E:Env}{st:bC}{a:Act}{w:bW}
def ayX(h:Rel X E st a w)(p:st.bx=[]){i x}(f:ph X.P st i=some x):
 ∃u,(zV a.tmps i).run X.P w=.ok u w/\e7 X.M E w x u:=by
 cases i with
 |tmp t=>
  simp only[ph,jq]at f;obtain⟨v,z,A⟩:=f;have:=aaZ A;subst this;obtain⟨u,q,k⟩:=h.tmps t _ z;exact⟨u,by simp_all[zV],k⟩
 |cell t ty=>
  simp only[ph]at f;split at f
  .rename_i n off B;obtain⟨u,q,l⟩:=h.tmps t _ B;obtain⟨O,k,g,C,m⟩:=dj.get l (by rw[h.bx,p];simp);subst m;split at f
   .rename_i cs D;simp only[jq]at f;obtain⟨v,m,F⟩:=f;have:=aaZ F;subst this;obtain⟨R,g',cur,e,s,k0,G,S,H⟩:=h.row (by rw[p];simp) D;rw[k]at s;cases s;rw[C]at k0;cases k0;obtain⟨u,I,J⟩:=DI (P:=X.P) (M:=X.M) (E:=E) (w:=w) (g:=g) (o:=off) m (λj c y=>by
     rw[kU]at y;obtain⟨u,K,L,N⟩:=H _ c y;exact⟨u,by rw[cell_of_row w g _ cur e (0,0) G];exact K,L,N⟩)
    refine⟨u,?_,J⟩;simp[zV,sB,q,asAddr,I]
   .cases f
  .cases f
def Uw(h:Rel X E st a w)(g:st.bx=[]):∀(l:List ResultVar){xs},l.mapM (ph X.P st)=some xs->
 ∃us,(l.mapM (zV a.tmps)).run X.P w=.ok us w/\
  us.length=xs.length/\∀(i:Nat)(x),xs[i]?=some x->∃u,us[i]?=some u/\e7 X.M E w x u
 |[],xs,c=>by simp_all
 |rv::l,xs,c=>by
  cases e:ph X.P st rv with
  |none=>simp[e]at c
  |some x=>
   cases f:l.mapM (ph X.P st)with
   |none=>simp[e,f]at c
   |some ys=>
    simp[e,f]at c;subst c;obtain⟨u,k,m⟩:=ayX h g e;obtain⟨us,n,j,p⟩:=Uw h g l f;refine⟨u::us,?_,by simp[j],λi y q=>?_⟩
    .simp_all
    grind
def apw(h:Rel X E st a w)(j:st.bx=[]){fn r}(e:vA X.P fn.results.toList st=some r):∃u,(results fn a.tmps).run X.P w=.ok u w/\RV X.M E w r u:=by
 unfold vA at e;simp only[b9]at e;obtain⟨xs,k,rfl⟩:=e;obtain⟨us,n,c,l⟩:=Uw h j _ k;refine⟨if p:us.toArray.size=1 then us.toArray[0]else .tuple us.toArray,?_,?_⟩
 .simp_all[amr,Array.mapM_eq_mapM_toList]
 .cases xs with
  |nil=>
   have:us=[]:=nu (by simpa using c);subst this;exact⟨#[],by simp,rfl,by simp⟩
  |cons x ys=>
   cases ys with
   |nil=>
    obtain⟨u,g,m⟩:=l 0 x rfl
    cases us with
    |nil=>simp at c
    |cons q f=>
     have:f=[]:=nu (by simpa using c);subst this;simp at g;subst g;show e7 X.M E w x _;simpa using m
   |cons y s=>
    have:us.length≠1:=by rw[c];simp
    refine⟨us.toArray,by simp[this],by simp[c],λi z t=>?_⟩;simp_all
end
def oJ(P:cJ)(rs:List ResultVar)(r:V)(c:Hp)(e:Exit)(st:bC):Prop:=
 (match e with| .normal=>True| .ret=>True|_=>False)/\vA P rs st=some r/\∀n b,c.lookup n=some b->st.heap.lookup n=some b
def jz(n:Nat)(args:List V1)(H:List fv):bC:=⟨args.map V.v++List.replicate (n-args.length) (.bM []),hp H,[],H.length⟩
def eX.intro{P f fn c}(hf:P.funcs[f]?=some fn) (hname:(fn.name== "runtime.NumGoroutine")=false) (hb:fn.body=some c) {n} (hn:fn.ntmps=n) {rs} (hrs:fn.results=rs.toArray) {args} {H} {r} {H'}
 (h:∀X:Fx,X.P=P->X.k0=H.length->Aw X c (oJ P rs r H') (jz n args H)):eX P f args H r H' where
 own:=⟨fn,hf,hname,by rw[hb];rfl⟩
 call :=λw M N vals hM hNl hNn hNi hH hsz hv=>by
  subst hn;have aEc:rs=fn.results.toList:=by rw[hrs]
  subst aEc
  let X:Fx:=⟨P,M,λg=>∃n x,N n=some x/\x.g=some g,w,N,H.length,[]⟩
  refine calls_of_wp hf hb (wp_mono (h X rfl rfl _ w ?_) ?_)
  .refine⟨⟨N,[]⟩,?_,rfl⟩;exact {
    defers:=rfl
    bx:=rfl
    frame:=Frame.refl _ _
    jJ:=hM
    fj:=hNl
    names:=λn x g h1 h2=>⟨(hNn n x g h1 h2).1,.inl ⟨n,x,h1,h2⟩,(hNn n x g h1 h2).2⟩
    inj:=hNi
    gl:=λ_ _=>.inr rfl
    kb:=dz _
    lH:=λn hn=>by cases hn
    size:=by simp[jz,hsz]
    tmps :=λi v hi=>by
     simp only[jz]at hi;rw[mm]at hi;simp only[bA]at hi;split at hi
     .rename_i hlt;simp only[cY,b9]at hi;obtain⟨x,hx,rfl⟩:=hi;obtain⟨u,h1,h2⟩:=hv i x hx;exact⟨u,by grind,h2⟩
     .rename_i hlt;rw[Qv]at hi;split at hi
      .rename_i PM;simp at hi;subst hi;exact⟨undef,by grind,UY _ _ _⟩
      .cases hi
    heap:=λn b hl=>by
     simp only[jz,aqZ]at hl;grind}
  .rintro e a' w' ⟨st',⟨he,hr,hHl⟩,E,hR,hg⟩;obtain⟨u,h1,h2⟩:=apw (X:=X) hR hg hr;have hback:LZ N H.length w w' E:={
    bx:=hR.bx.trans hg
    names:=λn x g k1 k2=>by
     obtain⟨k3,k4,_⟩:=hR.names n x g k1 k2;grind
    inj:=hR.inj
    gl:=hR.gl}
   have H0:∀n b,H'.lookup n=some b->RB P M E w' n b:=λn b hl=>hR.row (by rw[hg];simp) (hHl n b hl)
   cases e with
   |normal=>exact⟨hR.defers,u,h1,u,E,rfl,hR.frame,hback,H0,h2⟩
   |ret=>exact⟨hR.defers,u,h1,u,E,rfl,hR.frame,hback,H0,h2⟩
   |exit=>exact he.elim
   |goto=>exact he.elim
   |panic=>exact he.elim
   |outgrown=>exact he.elim
end
section
open Ieee
def Pg(c:Toward)(s:Bool){m:Nat}(e:0<m)(d:Nat):c.cut s (m*2^d) d=m:=by
 have hp:0<2^d:=Qw d;have f:d<=(m*2^d).log2:=(Nat.le_log2 (by have:=zI e hp;omega)).2 (Nat.le_mul_of_pos_left _ e);unfold Toward.cut;rw[o0 (by omega),Nat.one_shiftLeft];simp only[Nat.mul_div_cancel _ hp,Nat.mul_mod_left];cases c<;>simp<;>omega
def asi(c:Toward)(s:Bool)(d:Nat):c.cut s 0 d=0:=by
 unfold Toward.cut;have hp:0<1<<<min d ((0:Nat).log2+2):=by rw[Nat.one_shiftLeft];exact Qw _
 simp only[Nat.zero_div,Nat.zero_mod];cases c<;>simp
def Jp(s:Bool){n k:Nat}(v:0<n)(h:n<2^53)(A:k<=1074):
 double.nearest s (n*2^k) (-(k:Int))=double.word s ((n.log2+1022)*4503599627370496+n*2^ (52-n.log2))/\n.log2<=52/\4503599627370496<=n*2^ (52-n.log2)/\n*2^ (52-n.log2)<9007199254740992:=by
 obtain⟨L,x⟩:∃L,n.log2=L:=⟨_,rfl⟩
 obtain⟨i,y⟩:=(Nat.log2_eq_iff (by omega)).1 x;have e:L<=52:=by
  have:=acB i h;have:=(Nat.pow_lt_pow_iff_right (by decide)).1 this;omega
 have hp:0<2^k:=Qw k;have f:(n*2^k).log2=L+k:=by
  refine(Nat.log2_eq_iff (by have:=zI v hp;omega)).2 ⟨?_,?_⟩
  .rw[zJ];exact gV _ i
  .rw[show L+k+1=(L+1)+k by omega,zJ];exact aGe y hp
 have j:2^L*2^ (52-L)=4503599627370496:=by rw[<-zJ,show L+(52-L)=52 by omega]
 have l:2^ (L+1)*2^ (52-L)=9007199254740992:=by rw[<-zJ,show L+1+(52-L)=53 by omega]
 have b1:4503599627370496<=n*2^ (52-L):=by rw[<-j];exact gV _ i
 have z:n*2^ (52-L)<9007199254740992:=by rw[<-l];exact aGe y (Qw _)
 rw[x];refine⟨?_,e,b1,z⟩;have g:n*2^k≠0:=by have:=zI v hp;omega
 have p:(double.fractionBits:Int)=52:=rfl;have q:double.leastPlace= -1074:=by decide
 have t:double.binade=4503599627370496:=by decide
 have u:double.infRung=2047*4503599627370496:=by decide
 have c:max (-(k:Int)+((L+k:Nat):Int) -52) (-1074)=(L:Int) -52:=by omega
 unfold Format.nearest;rw[bG g,f,p,q,t,u];simp only[c];have hcut:Toward.even.cut s ((n*2^k)<<< (-(k:Int) - ((L:Int) -52)).toNat) ((L:Int) -52- -(k:Int)).toNat=n*2^ (52-L):=by
  by_cases B:k+L<=52
  .rw[show(-(k:Int) - ((L:Int) -52)).toNat=52-L-k by omega,show((L:Int) -52- -(k:Int)).toNat=0 by omega,C3,Nat.mul_assoc,<-zJ,show k+(52-L-k)=52-L by omega];have:=Pg .even s (m:=n*2^ (52-L)) (by omega) 0
   rwa [Nat.pow_zero,sF]at this
  .rw[show(-(k:Int) - ((L:Int) -52)).toNat=0 by omega,show((L:Int) -52- -(k:Int)).toNat=k+L-52 by omega,Nat.shiftLeft_zero];have:=Pg .even s (m:=n*2^ (52-L)) (by omega) (k+L-52)
   rwa [Nat.mul_assoc,<-zJ,show 52-L+(k+L-52)=k by omega]at this
 rw[hcut,show((L:Int) -52- -1074).toNat=L+1022 by omega,o0 (by omega)]
def aBa(s:Bool){L M:Nat}(u:L<=52)(v:4503599627370496<=M)(x:M<9007199254740992):
 double.read (double.word s ((L+1022)*4503599627370496+M))=.number s M ((L:Int) -52):=by
 obtain⟨g,j⟩:∃g,(L+1022)*4503599627370496+M=g:=⟨_,rfl⟩
 have c:double.signWeight=9223372036854775808:=by decide
 have e:double.leastPlace= -1074:=by decide
 have f:double.binade=4503599627370496:=by decide
 have h:double.infRung=2047*4503599627370496:=by decide
 have i:double.word s g/double.signWeight%2=s.toNat/\double.word s g%double.signWeight=g:=by
  unfold Format.word;rw[c];cases s
  .simp only[pW,if_false,Bool.toNat_false];omega
  .simp only[if_true,Bool.toNat_true];omega
 rw[j];have k:g%4503599627370496=M-4503599627370496:=by omega
 have l:g/4503599627370496=L+1023:=by omega
 have m:¬g<4503599627370496:=by omega
 have n:g<2047*4503599627370496:=by omega
 have p:4503599627370496+(M-4503599627370496)=M:=by omega
 have q:(-1074:Int)+((L+1023-1:Nat):Int)=(L:Int) -52:=by omega
 have t:(s.toNat==1)=s:=by cases s<;>rfl
 unfold Format.read;simp only[i.1,i.2,f,h,e];rw[bG m,bB n,k,l,p,q,t]
def gA(a:Int):Nat:=FloatKind.f64.nearest a
def Ui:gA 0=0:=by decide
def Rn{a:Int}(h:a.natAbs<2^53){k:Nat}(c:k<=1074):double.nearest (decide (a<0)) (a.natAbs*2^k) (-(k:Int))=gA a:=by
 by_cases g:a.natAbs=0
 .obtain rfl:a=0:=by omega
  show double.nearest (decide ((0:Int)<0)) (0*2^k) _=_;rw[C2,Ui];rfl
 .have e:=(Jp (decide (a<0)) (n:=a.natAbs) (by omega) h c).1;have f:=(Jp (decide (a<0)) (n:=a.natAbs) (by omega) h (k:=0) (by omega)).1;rw[e,<-f];show _=double.nearest (decide (a<0)) a.natAbs 0;rw[Nat.pow_zero,sF];rfl
def LX{a:Int}(h:a.natAbs<2^53):∃k:Nat,k<=1074/\double.read (gA a)=.number (decide (a<0)) (a.natAbs*2^k) (-(k:Int)):=by
 by_cases j:a.natAbs=0
 .obtain rfl:a=0:=by omega
  obtain⟨k,c⟩:∃k:Nat,k=1074:=⟨_,rfl⟩
  refine⟨k,by omega,?_⟩;rw[Ui,show((0:Int).natAbs*2^k)=0 from C2 _];subst c;rfl
 .obtain⟨e,f,g,i⟩:=Jp (decide (a<0)) (n:=a.natAbs) (by omega) h (k:=0) (by omega);refine⟨52-a.natAbs.log2,by omega,?_⟩;rw[<-Rn h (k:=0) (by omega),e,aBa _ f g i];congr 1;omega
def Mx(a:Int)(k u:Nat):signed (decide (a<0)) (a.natAbs*2^k) u=a*2^ (k+u):=by
 unfold signed;rw[C3,Nat.mul_assoc,<-zJ];by_cases h:a<0
 .rw[decide_eq_true h,bB rfl,Qo,Int.natCast_pow,show((a.natAbs:Nat):Int)= -a by omega,Int.neg_mul,Int.neg_neg];rfl
 .rw[decide_eq_false h,bG (by decide),Qo,Int.natCast_pow,show((a.natAbs:Nat):Int)=a by omega];rfl
def WS{a b:Int}(n:a.natAbs<2^53)(p:b.natAbs<2^53)(e:(a+b).natAbs<2^53):floatBits .add .f64 (gA a) (gA b)=some (gA (a+b)):=by
 obtain⟨i,x,q⟩:=LX n;obtain⟨j,y,s⟩:=LX p;show((double.read (gA a)).sum (double.read (gA b))).map double.write=_;rw[q,s];unfold Datum.sum;simp only[cg];have f:min (-(i:Int)) (-(j:Int))= -((max i j:Nat):Int):=by omega
 rw[f];have g:(-(i:Int) - -((max i j:Nat):Int)).toNat=max i j-i:=by omega
 have l:(-(j:Int) - -((max i j:Nat):Int)).toNat=max i j-j:=by omega
 rw[g,l,Mx,Mx,show i+(max i j-i)=max i j by omega,show j+(max i j-j)=max i j by omega,<-Int.add_mul];obtain⟨K,t⟩:∃K,max i j=K:=⟨_,rfl⟩
 rw[t];have hp:(0:Int)<2^K:=Int.pow_pos (by decide);have c:(if(a+b)*2^K=0 then decide (a<0)&&decide (b<0)else decide ((a+b)*2^K<0))=decide (a+b<0):=by
  by_cases m:a+b=0
  .rw[m,Int.zero_mul,bB rfl];by_cases u:a<0
   .rw[decide_eq_false (show¬b<0 by omega)];simp
   .rw[decide_eq_false u];simp
  .rw[bG (λh=>(Int.mul_eq_zero.1 h).elim m (by omega))];refine decide_eq_decide.2 ⟨λh=>?_,λh=>Int.mul_neg_of_neg_of_pos h hp⟩;apply Int.not_le.1;intro v;have:=Int.mul_nonneg v (Int.le_of_lt hp);omega
 rw[c,Int.natAbs_mul,Int.natAbs_pow];exact cW some (Rn e (k:=K) (by omega))
def alx{a:Int}(h:a.natAbs<2^53):(FloatKind.f64.decode (gA a)).toInt .zero=some a:=by
 obtain⟨k,g,c⟩:=LX h;show(double.read (gA a)).toInt .zero=_;rw[c];unfold Datum.toInt Datum.integral;simp only;have e:Toward.zero.cut (decide (a<0)) ((a.natAbs*2^k)<<< (-(k:Int)).toNat) (- -(k:Int)).toNat=a.natAbs:=by
  rw[show(-(k:Int)).toNat=0 by omega,show(- -(k:Int)).toNat=k by omega,Nat.shiftLeft_zero];by_cases f:a.natAbs=0
  .rw[f,C2];exact asi _ _ _
  .exact Pg _ _ (by omega) _
 rw[e];have:=Mx a 0 0;rw[Nat.pow_zero,sF]at this;rw[this,Int.pow_zero,Int.mul_one]
def aej{a:Int}(h:a.natAbs<9007199254740992):floatToIntVal .f64 (gA a) .i64=some a:=by
 unfold floatToIntVal;rw[alx h];dsimp only;rw[bB];simp[IntKind.min,IntKind.max,IntKind.signed,IntKind.bits];omega
end
end
end Go.Proofs.YtiikkkhcolcebaaGreatDoor
