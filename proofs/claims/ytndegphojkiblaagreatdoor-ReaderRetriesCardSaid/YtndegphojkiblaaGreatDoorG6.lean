/- A part of the proof. -/
import Derived.Test.YtndegphojkiblaaGreatDoorG4
import Derived.Test.YtndegphojkiblaaGreatDoorG5
set_option linter.all false
set_option maxHeartbeats 4000000
set_option maxRecDepth 100000
namespace Go.Proofs.YtndegphojkiblaaGreatDoor
noncomputable section
section
open Go.RowKit
open Classical
abbrev Spec:=Nat→Option (V×g_×List Nat)
structure aW where
 v:V
 e:g_
 rd:List Nat
def PR:g_:=⟨[],[]⟩
def aW.pure (v:V):aW:=⟨v,PR,[]⟩
def aW.of (x:V×g_):aW:=⟨x.1,x.2,[]⟩
def JF:bh→bh→Option bh
 | .int k x,.int _ y=>some (.int k (if y<x then y else x))
 |_,_=>none
def Nj:bh→bh→Option bh
 | .int k x,.int _ y=>some (.int k (if y>x then y else x))
 |_,_=>none
noncomputable def lZ (P:bB) (Sp:Spec) (st:av) (d:Nat) (b:Builtin) (args:List bD) (ts:List a6):Option aW:=
 match b,args,ts with
 | .len,[x],[t]=> (oX P st t x).map aW.pure
 | .append,[s,x],[t,t']=>if t=t' then match Sp d with
   |some (.v (.c (.sub _ _ _)),_,_)=> (sS P st t s x).map aW.of
   |_=> (rZ P st d t s x).map aW.of
  else(p7 P st d t t' s x).map aW.of
 | .copy,[x,y],[t,_]=> (qa P st t x y).map aW.of
 | .min,[x,y],_=>match st.arg x,st.arg y with
  |some (.v (.c (.p (.sc u)))),some (.v (.c (.p (.sc v))))=> (JF u v).map fun r=>aW.pure (.sc r)
  |_,_=>none
 | .max,[x,y],_=>match st.arg x,st.arg y with
  |some (.v (.c (.p (.sc u)))),some (.v (.c (.p (.sc v))))=> (Nj u v).map fun r=>aW.pure (.sc r)
  |_,_=>none
 | .cap,[x],[t]=>match st.arg x,P.underlying t with
  |some (.v (.c .nil)),some (.slice _)=>some (aW.pure (.sc (.int .i64 0)))
  |_,_=>none
 | .delete,[m,k],t::_=> (ye P st t m k).map fun e=> ⟨.aj [],e,[]⟩
 |_,_,_=>none
def av.callee (st:av):bD→Option (FuncId×List Nat)
 | .func f=>some (f,[])
 |x=>match st.arg x with
  |some (.v (.c (.fn f cN)))=>some (f,cN)
  |_=>none
noncomputable def uB (P:bB) (Sp:Spec) (st:av) (d:Nat) (x:bD) (args:List bD):Option aW:=
 match st.callee x,args.mapM st.eG,Sp d with
 |some (f,cN),some xs,some (v,ef,rd)=>if AF P st d f (xs++cN.map fun n=> .c (.ptr n 0)) v ef rd then some ⟨v,ef,rd⟩else none
 |_,_,_=>none
def av.cap (st:av) (x:bD):Option Nat:=match st.arg x with
 |some (.v (.c (.ptr n 0)))=>some n
 |_=>none
noncomputable def a_ (P:bB) (Sp:Spec) (st:av) (d:Nat) (op:Op):Option aW:=
 match op with
 | .move (.tmp t)=> (st.tmps[t]?).map aW.pure
 | .move x=> (st.arg x).map aW.pure
 | .assign (.tmp t)=> (st.tmps[t]?).map aW.pure
 | .assign x=> (st.arg x).map aW.pure
 | .pick c a b=>match st.arg c with
  |some (.v (.c (.p (.sc (.bool t)))))=> (if t then st.arg a else st.arg b).map aW.pure
  |_=>none
 | .alloc e=> (pz P e).map fun cs=> ⟨.c (.ptr d 0),⟨[(d,.box cs)],[]⟩,[]⟩
 | .box _ x=> (st.eG x).map fun x=> ⟨.c (.ptr d 0),⟨[(d,.box x.cells)],[]⟩,[]⟩
 | .build t parts=> (yc P st t parts).map aW.pure
 | .buildSlice t len parts=> (xW P st d t len parts.toList).map aW.of
 | .load t x=> (qA P st t x).map aW.pure
 | .store t x y=> (vj P st t x y).map fun e=> ⟨.c .dead,e,[]⟩
 | .nilCheck x=>match st.arg x with
  |some (.v (.c (.ptr n o)))=>some (.pure (.c (.ptr n o)))
  |some (.v (.c (.cE n i j)))=>some (.pure (.c (.cE n i j)))
  |some (.v (.c (.ref cells)))=>some (.pure (.c (.ref cells)))
  |some (.v (.c (.fn f cN)))=>some (.pure (.c (.fn f cN)))
  |_=>none
 | .binOp op t x y _=>match st.arg x,st.arg y with
  |some (.v (.c (.p (.sc u)))),some (.v (.c (.p (.sc v))))=> (jN (qe P t) op u v).map fun r=> .pure (.sc r)
  |some (.v (.agg cs)),some (.v (.agg ds))=> (DW P op t cs ds).map fun b=> .pure (.sc (.bool b))
  |_,_=>none
 | .unOp op _ x=>match st.arg x with
  |some (.v (.c (.p (.sc u))))=> (yD op u).map fun r=> .pure (.sc r)
  |_=>none
 | .convert s t x=>match lq P st s t x with
  |some v=>some (.pure v)
  |none=> (sv P st s t x).map aW.of
 | .makeSlice t l c=> (yz P st d t l c).map aW.of
 | .slice t x lo hi none=>match lj P st t x lo hi with
  |some v=>some (.pure v)
  |none=>match lo,hi with
   |none,none=> (sI P st t x).map aW.of
   |_,_=>none
 | .slice t x lo (some hi) (some mx)=> (yg P st t x lo hi mx).map aW.pure
 | .sliceToArrayPointer t x=> (yI P st t x).map aW.pure
 | .makeMap _ none=>some ⟨.c (.mp d),⟨[(d,.map [])],[]⟩,[]⟩
 | .mapUpdate t m k x=> (xP P st t m k x).map fun e=> ⟨.c .dead,e,[]⟩
 | .lookup t m k ok=> (yQ P st t m k ok).map aW.pure
 | .fieldAddr t x f=> (p6 P st t x f).map aW.pure
 | .indexAddr t x i=> (mJ P st t x i).map aW.pure
 | .index t x i=>match st.arg x,st.arg i,P.underlying t with
  |some (.v (.c (.p (.sc (.string s))))),some (.v (.c (.p (.sc (.int _ i))))),some .string=>ib (0≤i) (match s[i.toNat]? with
   |some b=>some (.pure (.sc (.int .u8 b.toNat)))
   |none=>none)
  |some (.v (.agg cs)),some (.v (.c (.p (.sc (.int _ i))))),some (.array n e)=>ib (0≤i∧i<n∧mH P e=true) ((kO P e (cs.drop (i.toNat*da P e))).map aW.pure)
  |_,_,_=>none
 | .extract (.tmp t) i=>match st.tmps[t]? with
  |some (.aj xs)=>match xs[i]? with
   |some x=>some (.pure (.v x))
   |none=>none
  |_=>none
 | .makeFunc (.func f) first captured=>if first.size=0 then(captured.toList.mapM st.cap).map fun ns=> .pure (.c (.fn f ns))else none
 | .call c=>match c.callee with
  | .value x=>uB P Sp st d x c.args.toList
  | .builtin b=>lZ P Sp st d b c.args.toList c.argTypes.toList
  |_=>none
 |_=>none
theorem apW {P} {f} (h:Own P f) (args) (w):(callFunc f args).run P w= .ok (.enter f args) w:=by
 obtain⟨fn,h1,h2,h3⟩:=h.fn;simp only[callFunc,Sem.run_bind,run_program,Result.andThen_ok,h1,h2,h3,pO,if_false,Sem.run_pure]
def vl (X:Fx) (E:Env) (st:av) (d:Nat) (a:Act) (o:Oper) (r:aW) (next:Act→a7→Prop):Prop:=
 ∀u w' E',(∀n,¬(d≤n∧n<d+8)→E.N n=none→E'.N n=none)→Rel X E' (st.df r.e) a w'→RV X.M E' w' r.v u→next (a.put o.dst u) w'
theorem jZ {P} {o} {a} {w w'} {next} {Q} {u}
  (hr:(execOp a.eval o).run P w= .ok (.value u) w') (h:next (a.put o.dst u) w'):o.wp P a w next Q:=by
 unfold Oper.wp;rw[hr];exact h
section
variable {X:Fx} {Sp:Spec} {E:Env} {st:av} {a:Act} {w:a7} {d:Nat} {o:Oper} {r:aW} {next:Act→a7→Prop} {Q:Exit→Act→a7→Prop}
theorem vl.pure (hn:vl X E st d a o r next) (h:Rel X E st a w) {v} (hr:r= .pure v) {u} (hv:RV X.M E w v u) {s} (h1:execOp a.eval o=(do let x←s;Pure.pure (Next.value x))) (h2:s.run X.P w= .ok u w):o.wp X.P a w next Q:=by
 subst hr;exact jZ (u:=u) (w':=w) (by rw[h1];simp[h2]) (hn u w E (fun _ _ h=>h) h hv)
theorem vl.pure' (hn:vl X E st d a o r next) (h:Rel X E st a w) {v} (hr:r= .pure v) {u} (hv:RV X.M E w v u) (h1:(execOp a.eval o).run X.P w= .ok (.value u) w):o.wp X.P a w next Q:=by
 subst hr;exact jZ (u:=u) (w':=w) h1 (hn u w E (fun _ _ h=>h) h hv)
theorem awJ (h:Rel X E st a w) (hF:qm X E st d) {b} {args} {ts} (ho:o.op= .call ⟨.builtin b,args,ts⟩)
   (he:lZ X.P Sp st d b args.toList ts.toList=some r) (hn:vl X E st d a o r next):o.wp X.P a w next Q:=by
 have hex:(execOp a.eval o)=(builtin b ts o.type (args.map fun| .const _=>true|_=>false) (args.map a.eval)):=by
   unfold execOp;rw[ho];rfl
 have e_:=hF d (cn _) om;unfold lZ at he;split at he
 · rename_i x t ha ht;have ha':args= #[x]:=ou.1 (by simpa using ha);have fk:ts= #[t]:=ou.1 (by simpa using ht);subst ha' fk;simp only[aT]at he;obtain⟨v,hv,rfl⟩:=he;obtain⟨u,h1,h2⟩:=aeL h hv (ty:=o.type);exact hn.pure' h rfl h2 (by rw[hex];simp[builtin,h1])
 · rename_i s x t t' ha ht;have ha':args= #[s,x]:=ou.1 (by simpa using ha);have fk:ts= #[t,t']:=ou.1 (by simpa using ht);subst ha' fk;split at he
   · rename_i Cu;subst Cu;split at he
     · simp only[aT]at he;obtain⟨⟨v,ef⟩,hv,rfl⟩:=he;obtain⟨u,w',h1,h3,h4⟩:=als h hv (ty:=o.type);exact jZ (u:=u) (w':=w') (by rw[hex];simp[builtin,h1]) (hn u w' E (fun _ _ h=>h) h3 h4)
     simp only[aT]at he;obtain⟨⟨v,ef⟩,hv,rfl⟩:=he;obtain⟨u,w',E',h1,h2,h3,h4⟩:=ajx h e_.1 e_.2.2.2 e_.2.2.1 e_.2.1 hv (ty:=o.type);exact jZ (u:=u) (w':=w') (by rw[hex];simp[builtin,h1]) (hn u w' E' (fun n cQ=>h2 n om) h3 h4)
   · simp only[aT]at he;obtain⟨⟨v,ef⟩,hv,rfl⟩:=he;obtain⟨u,w',E',h1,h2,h3,h4⟩:=ahI h e_.1 e_.2.2.2 e_.2.2.1 e_.2.1 hv (ty:=o.type);exact jZ (u:=u) (w':=w') (by rw[hex];simp[builtin,h1]) (hn u w' E' (fun n cQ=>h2 n om) h3 h4)
 · rename_i x y t t' ha ht;have ha':args= #[x,y]:=ou.1 (by simpa using ha);have fk:ts= #[t,t']:=ou.1 (by simpa using ht);subst ha' fk;simp only[aT]at he;obtain⟨⟨v,ef⟩,hv,rfl⟩:=he;obtain⟨u,w',h1,h3,h4⟩:=anO h hv (ty:=o.type) (t2:=t');exact jZ (u:=u) (w':=w') (by rw[hex];simp[builtin,h1]) (hn u w' E (fun _ _ h=>h) h3 h4)
 · rename_i _ x y ha;have ha':args= #[x,y]:=ou.1 (by simpa using ha);subst ha';split at he
   · rename_i u v hx hy;have k1:=RP.dy (h.bR hx).1;have k2:=RP.dy (h.bR hy).1;simp only[aT]at he;obtain⟨q,hq,rfl⟩:=he;unfold JF at hq;split at hq
     · simp at hq;subst hq;refine hn.pure' h rfl (.sc rfl) ?_;rw[hex];simp[builtin,k1,k2,Builtin.min_,Builtin.min2]
     · cases hq
   · cases he
 · rename_i _ x y ha;have ha':args= #[x,y]:=ou.1 (by simpa using ha);subst ha';split at he
   · rename_i u v hx hy;have k1:=RP.dy (h.bR hx).1;have k2:=RP.dy (h.bR hy).1;simp only[aT]at he;obtain⟨q,hq,rfl⟩:=he;unfold Nj at hq;split at hq
     · simp at hq;subst hq;refine hn.pure' h rfl (.sc rfl) ?_;rw[hex];simp[builtin,k1,k2,Builtin.max_,Builtin.max2]
     · cases hq
   · cases he
 · rename_i x t ha ht;have ha':args= #[x]:=ou.1 (by simpa using ha);have fk:ts= #[t]:=ou.1 (by simpa using ht);subst ha' fk;split at he
   · rename_i e hx hu;cases he;have k1:=(h.bR hx).1;refine hn.pure' h rfl (.sc rfl) ?_;rw[hex];simp only[RC]at k1;simp[builtin,k1,Builtin.cap_,run_underlying hu,goInt]
   · cases he
 · rename_i m k t tl ha ht;have ha':args= #[m,k]:=ou.1 (by simpa using ha);have fk:ts=(t::tl).toArray:=ou.1 (by simpa using ht);subst ha' fk;simp only[aT]at he;obtain⟨ef,hv,rfl⟩:=he;obtain⟨w',h1,h3⟩:=axk h hv (ts:=tl) (ty:=o.type);exact jZ (u:= .tuple #[]) (w':=w') (by rw[hex];simp[builtin,h1]) (hn _ w' E (fun _ _ h=>h) h3 ⟨#[],rfl,rfl,by simp⟩)
 · cases he
theorem aoJ (h:Rel X E st a w) {args:List bD} {xs} (hx:args.mapM st.eG=some xs):args.length=xs.length∧∀(i:Nat) (x),xs[i]? =some x→∃u,(args.map a.eval)[i]? =some u∧db X.M E w x u:=by
 obtain⟨h1,h2⟩:=nX hx;refine⟨h1.symm,fun i x hi=> ?_⟩;obtain⟨o,h3,h4⟩:=h2 i x hi;exact⟨a.eval o,by simp_all,(h.eG h4).1⟩
theorem anv (h:Rel X E st a w) (hF:qm X E st d) {x} {args} {ts} (ho:o.op= .call ⟨.value x,args,ts⟩)
   (he:uB X.P Sp st d x args.toList=some r) (hn:vl X E st d a o r next):o.wp X.P a w next Q:=by
 unfold uB at he;split at he
 · rename_i f cN xs v ef rd hf qT hsp;split at he
   · rename_i hc;cases he;obtain⟨hl,hxv⟩:=aoJ h qT;have qU:∃us:Array bh,a.eval x= .func (.func f) #[] us∧us.size=cN.length∧∀(i n:Nat),cN[i]? =some n→∃u,us[i]? =some u∧bO E n fun x=>∃g,x.g=some g∧u= .pointer (some ⟨g,0,none⟩):=by
      unfold av.callee at hf;split at hf
      · cases hf;exact⟨#[],by simp[Act.eval],rfl,fun i n hi=>by simp at hi⟩
      · split at hf
        · rename_i hx;cases hf;exact(h.bR hx).1
        · cases hf
     obtain⟨us,oc,hf2,hf3⟩:=qU;have qR:(args.map a.eval++us).size=(xs++cN.map fun n=>V1.c (.ptr n 0)).length:=by simp[hf2,←hl]
     have pH:=apz h hF (vals:=args.map a.eval++us) qR (fun i y hi=>by
      rw[mg]at hi;rw[CU];simp only[Array.size_map];have e1:args.size=xs.length:=by rw[←hl];simp
      split at hi
      · grind
      · rw[aC om];simp only[bV,aT]at hi;obtain⟨n,cQ,rfl⟩:=hi;obtain⟨u,h1,h2⟩:=hf3 _ n cQ;refine⟨u,by rw[e1];exact h1,h2⟩) hc
     have hex:(execOp a.eval o).run X.P w= .ok (.enter f (args.map a.eval++us)) w:=by
      unfold execOp;rw[ho];simp[resolve,Deferred.ofValue,oc,invoke,apW pH.1]
     unfold Oper.wp;rw[hex,Oper.upon_enter];refine pH.2.mono ?_;rintro _ w' ⟨u,E',rfl,k1,k2,k3⟩;exact hn u w' E' k1 k2 k3
   · cases he
 · cases he
set_option maxHeartbeats 4000000 in
theorem snd (h:Rel X E st a w) (hF:qm X E st d)
  (he:a_ X.P Sp st d o.op=some r) (hn:vl X E st d a o r next):o.wp X.P a w next Q:=by
 have e_:=hF d (cn _) om;have ec:∀n,¬(d≤n∧n<d+8)→n≠d:=fun n cQ=>om
 cases hop:o.op with
 |move x=>
  rw[hop]at he
  cases x with
  | tmp t=>
    simp only[a_,aT]at he;obtain⟨v,hv,rfl⟩:=he;obtain⟨u,h1,h2⟩:=h.tmps t _ hv;have e1:a.eval (.tmp t)=u:=by simp[Act.eval,h1]
    exact hn.pure' h rfl (u:=a.eval (.tmp t)) (by rw[e1];exact h2) (by unfold execOp;rw[hop];rfl)
  | _=>
    simp only[a_,aT]at he;obtain⟨v,hv,rfl⟩:=he;exact hn.pure' h rfl (h.arg hv).1 (by unfold execOp;rw[hop];rfl)
 |assign x=>
  rw[hop]at he
  cases x with
  | tmp t=>
    simp only[a_,aT]at he;obtain⟨v,hv,rfl⟩:=he;obtain⟨u,h1,h2⟩:=h.tmps t _ hv;have e1:a.eval (.tmp t)=u:=by simp[Act.eval,h1]
    exact hn.pure' h rfl (u:=a.eval (.tmp t)) (by rw[e1];exact h2) (by unfold execOp;rw[hop];rfl)
  | _=>
    simp only[a_,aT]at he;obtain⟨v,hv,rfl⟩:=he;exact hn.pure' h rfl (h.arg hv).1 (by unfold execOp;rw[hop];rfl)
 |pick c x y=>
  rw[hop]at he;simp only[a_]at he;split at he
  · rename_i t hc;have k1:=RP.dy (h.bR hc).1;simp only[aT]at he;obtain⟨v,hv,rfl⟩:=he;refine hn.pure' h rfl (u:=if t then a.eval x else a.eval y) ?_ (by unfold execOp;rw[hop];simp[k1,asBool]);cases t
    · simpa using(h.arg hv).1
    · simpa using(h.arg hv).1
  · cases he
 |alloc e=>
  rw[hop]at he;simp only[a_,aT]at he;obtain⟨cs,hcs,rfl⟩:=he;obtain⟨i,z,hi,hz,jm⟩:=xu (M:=X.M) (E:=E) (w:=w) hcs;have hb:=h.fresh (w':=w.alloc (.cells z.cells e)) d e_.1 e_.2.2.2 e_.2.2.1 ((Below.refl _ _).alloc (cn _) _) (x:=⟨some w.heap.size,0,0,0⟩) (.inr ⟨rfl,by simp⟩) (.box cs) (fun hG=>
    ⟨⟨some w.heap.size,0,0,0⟩,w.heap.size,z.cells,e,by simp[Env.add],rfl,heap_alloc_new w _,jm.1,fun i c hi=>let⟨u,h1,h2,h3⟩:=jm.2 i c hi; ⟨u,h1,h2.goes hG,h3⟩⟩)
  refine jZ (u:= .pointer (some ⟨w.heap.size,0,none⟩)) (w':=w.alloc (.cells z.cells e)) ?_ (hn _ _ _ (fun n cQ hE=>by grind[Env.kX]) hb.2 (.inr ⟨⟨some w.heap.size,0,0,0⟩,by simp[Env.add],_,rfl,rfl⟩));unfold execOp;rw[hop];simp[Instr.alloc,zeroValue,typeInfo,hi,hz,newVar,newRow]
 |box e x=>
  rw[hop]at he;simp only[a_,aT]at he;obtain⟨y,hy,rfl⟩:=he;obtain⟨k1,k2⟩:=h.eG hy;obtain⟨k3,k4⟩:=db.cells k1 (by rw[h.ar];exact k2);have hb:=h.fresh (w':=w.alloc (.cells (a.eval x).cells e)) d e_.1 e_.2.2.2 e_.2.2.1 ((Below.refl _ _).alloc (cn _) _) (x:=⟨some w.heap.size,0,0,0⟩) (.inr ⟨rfl,by simp⟩) (.box y.cells) (fun hG=>
    ⟨⟨some w.heap.size,0,0,0⟩,w.heap.size,(a.eval x).cells,e,by simp[Env.add],rfl,heap_alloc_new w _,k3,fun i c hi=>let⟨u,h1,h2,h3⟩:=k4 i c hi; ⟨u,h1,h2.goes hG,h3⟩⟩)
  refine jZ (u:= .pointer (some ⟨w.heap.size,0,none⟩)) (w':=w.alloc (.cells (a.eval x).cells e)) ?_ (hn _ _ _ (fun n cQ hE=>by grind[Env.kX]) hb.2 (.inr ⟨⟨some w.heap.size,0,0,0⟩,by simp[Env.add],_,rfl,rfl⟩));unfold execOp;rw[hop];rfl
 |build t parts=>
  rw[hop]at he;simp only[a_,aT]at he;obtain⟨v,hv,rfl⟩:=he;obtain⟨u,h1,h2⟩:=azv h hv;exact hn.pure h rfl h2 (s:=Instr.build t (parts.map fun x=> (x.1,a.eval x.2))) (by unfold execOp;rw[hop]) h1
 |buildSlice t len parts=>
  rw[hop]at he;simp only[a_,aT]at he;obtain⟨⟨v,ef⟩,hv,rfl⟩:=he;obtain⟨u,w',E',h1,h2,h3,h4⟩:=aiO h e_.1 e_.2.2.2 e_.2.2.1 hv;exact jZ (u:=u) (w':=w') (by unfold execOp;simp_all) (hn u w' E' (fun n cQ=>h2 n (ec n cQ)) h3 h4)
 |load t x=>
  rw[hop]at he;simp only[a_,aT]at he;obtain⟨v,hv,rfl⟩:=he;obtain⟨u,h1,h2⟩:=aAi h hv;exact hn.pure h rfl h2 (s:=Instr.loadAt t (a.eval x)) (by unfold execOp;rw[hop]) h1
 |store t x y=>
  rw[hop]at he;simp only[a_,aT]at he;obtain⟨ef,hv,rfl⟩:=he;obtain⟨w',E',h1,h2,h3⟩:=amb h hv;have hex:(execOp a.eval o).run X.P w= .ok .skip w':=by unfold execOp;simp_all
  unfold Oper.wp;rw[hex];exact hn undef w' E' (fun n _=>h2 n) h3 trivial
 |nilCheck x=>
  rw[hop]at he;simp only[a_]at he;split at he
  · rename_i n off hx;cases he;have hh:=(h.bR hx).1;obtain⟨y,k1,g,k2,k3⟩:=bO.get hh (h.gL hx (n:=n) (by simp[C.names]));exact hn.pure' h rfl (u:=a.eval x) hh (by unfold execOp;simp_all)
  · rename_i n i j hx;cases he;have hh:=(h.bR hx).1;obtain⟨y,k1,k4,g,k2,k3⟩:=bO.get hh (h.gL hx (n:=n) (by simp[C.names]));exact hn.pure' h rfl (u:=a.eval x) hh (by unfold execOp;simp_all)
  · rename_i cells hx;cases he;have hh:=(h.bR hx).1;obtain⟨g,o',k1,k2⟩:=hh;exact hn.pure' h rfl (u:=a.eval x) (h.bR hx).1 (by unfold execOp;simp_all)
  · rename_i f cN hx;cases he;have hh:=(h.bR hx).1;obtain⟨us,k1,k2⟩:=hh;exact hn.pure' h rfl (u:=a.eval x) (h.bR hx).1 (by unfold execOp;simp_all)
  · cases he
 |binOp op t x y yt=>
  rw[hop]at he;simp only[a_]at he;split at he
  · rename_i u v hx hy;simp only[aT]at he;obtain⟨q,hq,rfl⟩:=he;have k1:=RP.dy (h.bR hx).1;have k2:=RP.dy (h.bR hy).1;exact hn.pure h rfl (v:= .sc q) (RP.sc (avR hq)) (s:=do eqGuard op t x y u v;binOp op t u v) (by unfold execOp;simp_all) (aty t x y hq w)
  · rename_i cs ds hx hy;simp only[aT]at he;obtain⟨b,hb,rfl⟩:=he;obtain⟨us,k1,k2,k3⟩:=(h.arg hx).1;obtain⟨vs,j1,j2,j3⟩:=(h.arg hy).1;unfold DW at hb;split at hb
    · rename_i i0 a0 xs j0 b0 ys hcs Hu;split at hb
      · rename_i hc;obtain⟨ht,hk⟩:=hc;simp only[List.cons.injEq]at hk;obtain⟨rfl,hk⟩:=hk;have hl:xs.length=ys.length:=by simpa using bJ List.length hk
        have kk:∀i,(nI ((i0,b0)::ys) i).1=(nI ((i0,a0)::xs) i).1:=fun i=>by
          cases i with
          |zero=>rfl
          |succ i=>
           have:=bJ (fun l:List dZ=>l[i]?) hk;grind[nI]
        have hu:pt us 0 (xs.length+1) (fun i=> (nI ((i0,a0)::xs) i).1) (fun i=> (nI ((i0,a0)::xs) i).2):=fun i hi=>by
          obtain⟨u,q1,q2,_⟩:=k3 i _ (Nt hcs i hi);rw[pP,q1,RP.dy q2]
        have hv:pt vs 0 (xs.length+1) (fun i=> (nI ((i0,a0)::xs) i).1) (fun i=> (nI ((i0,b0)::ys) i).2):=fun i hi=>by
          obtain⟨u,q1,q2,_⟩:=j3 i _ (Nt Hu i (by simp_all));rw[pP,q1,RP.dy q2,kk]
        obtain⟨r1,r2⟩:=akD ht om w x y hu hv (r:=oD (a0==b0) xs ys) (by
          rw[VP hl,beq_iff_eq];refine⟨fun ⟨g1,g2⟩ i hi=> ?_,fun g=> ⟨g 0 om,fun i hi=>g (i+1) om⟩⟩
          cases i with
          |zero=>exact g1
          |succ i=>exact g2 i om)
        split at hb
        · cases hb;exact hn.pure h rfl (v:= .sc (.bool _)) (RP.sc rfl) (s:=do eqGuard .eql t x y (a.eval x) (a.eval y);binOp .eql t (a.eval x) (a.eval y)) (by unfold execOp;rw[hop]) (by simp_all)
        · cases hb;exact hn.pure h rfl (v:= .sc (.bool _)) (RP.sc rfl) (s:=do eqGuard .neq t x y (a.eval x) (a.eval y);binOp .neq t (a.eval x) (a.eval y)) (by unfold execOp;rw[hop]) (by simp_all)
        · cases hb
      · cases hb
    · cases hb
  · cases he
 |unOp op t x=>
  rw[hop]at he;simp only[a_]at he;split at he
  · rename_i u hx;simp only[aT]at he;obtain⟨q,hq,rfl⟩:=he;have k1:=RP.dy (h.bR hx).1;have k2:=agq (P:=X.P) hq w;exact hn.pure h rfl (v:= .sc q) (RP.sc k2.2) (s:=Op.unary op (a.eval x)) (by unfold execOp;rw[hop]) (by simp_all)
  · cases he
 |convert s t x=>
  rw[hop]at he;simp only[a_]at he;split at he
  · rename_i v hv;cases he;obtain⟨u,h1,h2⟩:=aip h hv;exact hn.pure h rfl h2 (s:=convert s t (a.eval x)) (by unfold execOp;rw[hop]) h1
  · simp only[aT]at he;obtain⟨⟨v,ef⟩,hv,rfl⟩:=he;obtain⟨u,w',h1,h2,h3⟩:=awN h hv;exact jZ (u:=u) (w':=w') (by unfold execOp;simp_all) (hn u w' E (fun _ _ h=>h) h2 h3)
 |makeSlice t l c=>
  rw[hop]at he;simp only[a_,aT]at he;obtain⟨⟨v,ef⟩,hv,rfl⟩:=he;obtain⟨u,w',E',h1,h2,h3,h4⟩:=ajV h e_.1 e_.2.2.2 e_.2.2.1 hv;exact jZ (u:=u) (w':=w') (by unfold execOp;simp_all) (hn u w' E' (fun n cQ=>h2 n (ec n cQ)) h3 h4)
 |sliceToArrayPointer t x=>
  rw[hop]at he;simp only[a_,aT]at he;obtain⟨v,hv,rfl⟩:=he;obtain⟨u,h1,h2⟩:=aeo h hv;exact hn.pure h rfl h2 (s:=Instr.arrayAt t (a.eval x)) (by unfold execOp;rw[hop]) h1
 |slice t x lo hi mx=>
  rw[hop]at he
  cases mx with
  | some mx=>
    cases hi with
    |none=>simp[a_]at he
    | some hi=>
      simp only[a_,aT]at he;obtain⟨v,hv,rfl⟩:=he;obtain⟨u,h1,h2⟩:=axg h hv;exact hn.pure h rfl h2 (s:=Instr.sliceAt t (a.eval x) (lo.map a.eval) (some (a.eval hi)) (some (a.eval mx))) (by unfold execOp;rw[hop];rfl) h1
  | none=>
    simp only[a_]at he;split at he
    · rename_i v hv;cases he;obtain⟨u,h1,h2⟩:=arn h hv;exact hn.pure h rfl h2 (s:=Instr.sliceAt t (a.eval x) (lo.map a.eval) (hi.map a.eval) none) (by unfold execOp;rw[hop];rfl) h1
    · split at he
      · simp only[aT]at he;obtain⟨⟨v,ef⟩,hv,rfl⟩:=he;obtain⟨u,E',h1,h2,h3,h4⟩:=aoc h hv;exact jZ (u:=u) (w':=w) (by unfold execOp;simp_all) (hn u w E' (fun n _=>h2 n) h3 h4)
      · cases he
 |makeMap t r=>
  rw[hop]at he
  cases r with
  |some _=>simp[a_]at he
  | none=>
    simp only[a_,jd]at he;subst he;have hb:=h.fresh (w':=w.alloc (.map #[] 0)) d e_.1 e_.2.2.2 e_.2.2.1 ((Below.refl _ _).alloc (cn _) _) (x:=⟨some w.heap.size,0,0,0⟩) (.inr ⟨rfl,by simp⟩) (.map []) (fun hG=>
      ⟨⟨some w.heap.size,0,0,0⟩,w.heap.size,#[],0,by simp[Env.add],rfl,heap_alloc_new w _,trivial⟩)
    refine jZ (u:= .map (some w.heap.size)) (w':=w.alloc (.map #[] 0)) ?_ (hn _ _ _ (fun n cQ hE=>by grind[Env.kX]) hb.2 (.inr ⟨⟨some w.heap.size,0,0,0⟩,by simp[Env.add],_,rfl,rfl⟩));unfold execOp;rw[hop];rfl
 |mapUpdate t m k x=>
  rw[hop]at he;simp only[a_,aT]at he;obtain⟨ef,hv,rfl⟩:=he;obtain⟨w',h1,h2⟩:=amH h hv;have hex:(execOp a.eval o).run X.P w= .ok .skip w':=by unfold execOp;simp_all
  unfold Oper.wp;rw[hex];exact hn undef w' E (fun _ _ h=>h) h2 trivial
 |lookup t m k ok=>
  rw[hop]at he;simp only[a_,aT]at he;obtain⟨v,hv,rfl⟩:=he;obtain⟨u,h1,h2⟩:=axi h hv;exact hn.pure h rfl h2 (s:=Instr.lookup t (a.eval m) (a.eval k) ok) (by unfold execOp;rw[hop]) h1
 |fieldAddr t x f=>
  rw[hop]at he;simp only[a_,aT]at he;obtain⟨v,hv,rfl⟩:=he;obtain⟨u,h1,h2⟩:=atx h hv;exact hn.pure h rfl h2 (s:=Instr.fieldAt t (a.eval x) f) (by unfold execOp;rw[hop]) h1
 |indexAddr t x i=>
  rw[hop]at he;simp only[a_,aT]at he;obtain⟨v,hv,rfl⟩:=he;obtain⟨u,h1,h2⟩:=aqA h hv;exact hn.pure h rfl h2 (s:=Instr.indexAt t (a.eval x) (a.eval i)) (by unfold execOp;rw[hop]) h1
 |index t x i=>
  rw[hop]at he;simp only[a_]at he;split at he
  · rename_i s k i' hx hi hu;unfold ib at he;have k1:=RP.dy (h.bR hx).1;have k2:=RP.dy (h.bR hi).1;split at he
    · rename_i h0;split at he
      · rename_i b hb;cases he;refine hn.pure h rfl (v:= .sc (.int .u8 b.toNat)) (u:= .int .u8 b.toNat) (RP.sc rfl) (s:=Instr.index t (a.eval x) (a.eval i)) (by unfold execOp;rw[hop]) ?_;rw[k1,k2];simp[Instr.index,asIntOf,run_underlying hu,h0,hb]
      · cases he
    · cases he
  · rename_i cs k i' n e hx hi hu;unfold ib at he;have k2:=RP.dy (h.bR hi).1;obtain⟨us,k1,k3,k4⟩:=(h.arg hx).1;split at he
    · rename_i h0;obtain⟨h1,h2,h3⟩:=h0;simp only[aT]at he;obtain⟨v,hv,rfl⟩:=he;obtain⟨u,h4,h5⟩:=agL (w:=w) hv k3 k4;refine hn.pure h rfl h5 (s:=Instr.index t (a.eval x) (a.eval i)) (by unfold execOp;rw[hop]) ?_;rw[k1,k2];simp only[Instr.index,asIntOf,Sem.run_bind,Sem.run_pure,Result.andThen_ok,run_underlying hu,ay (And.intro h1 h2),run_sizeOf w h3];exact h4
    · cases he
  · cases he
 |extract t i=>
  rw[hop]at he
  cases t with
  | tmp t=>
    simp only[a_]at he;split at he
    · rename_i xs hx;split at he
      · rename_i x Oo;cases he;obtain⟨u,h1,us,h2,h3,h4⟩:=h.tmps t _ hx;subst h2;obtain⟨u',h5,h6⟩:=h4 i x Oo;refine hn.pure h rfl (v:= .v x) (u:=u') h6 (s:=Instr.extract (a.eval (.tmp t)) i) (by unfold execOp;rw[hop]) ?_;simp[Act.eval,wg,h1,Instr.extract,h5]
      · cases he
    · cases he
  |const=>simp[a_]at he
  |global=>simp[a_]at he
  |func=>simp[a_]at he
 |makeFunc fn first captured=>
  rw[hop]at he
  cases fn with
  | func f=>
    simp only[a_]at he;split at he
    · rename_i hz;simp only[aT]at he;obtain⟨ns,gQ,rfl⟩:=he;have qU:first= #[]:=Pj hz
      obtain⟨h1,h2⟩:=nX gQ;refine hn.pure' h rfl (v:= .c (.fn f ns)) (u:= .func (.func f) #[] (captured.map a.eval)) ⟨_,rfl,by simp[h1],fun i n hi=> ?_⟩ (by unfold execOp;rw[hop];simp[Instr.makeFunc,qU]);obtain⟨x,h3,h4⟩:=h2 i n hi;refine⟨a.eval x,by simp_all,?_⟩;unfold av.cap at h4;split at h4
      · rename_i hx;cases h4;exact(h.bR hx).1
      · cases h4
    · cases he
  |_=>simp[a_]at he
 |call c=>
  obtain⟨callee,args,ts⟩:=c;grind[awJ,a_,anv]
 |_=>rw[hop]at he;simp[a_]at he
end
def vE:Op→Bool
 | .extract _ _=>true
 | .move (.tmp _)=>true
 | .assign (.tmp _)=>true
 |_=>false
def av.r9 (st:av):Op→List Nat
 | .extract _ _=> []
 | .move (.tmp _)=> []
 | .assign (.tmp _)=> []
 |op=> (op.operands.toList.filterMap st.arg).flatMap V.names
def hU (st st':av) (n:Nat):Prop:=st.heap.lookup n=st'.heap.lookup n∧(n∈st.ar ↔ n∈st'.ar)
section
variable {st st':av}
theorem sR {c} (h:∀n∈c.names,hU st st' n):st.view c=st'.view c:=by
 cases c with
 |own n=>simp only[av.view,(h n (by simp[C.names])).1]
 |sub n lo len=>simp only[av.view,(h n (by simp[C.names])).1]
 |p q=>cases q<;>rfl
 |_=>rfl
theorem agN {c} {size i} (h:∀n∈c.names,hU st st' n):st.elem size i c=st'.elem size i c:=by
 cases c with
 |own n=>simp only[av.elem,(h n (by simp[C.names])).1]
 |sub n lo len=>simp only[av.elem,(h n (by simp[C.names])).1]
 |p q=>cases q<;>rfl
 |_=>rfl
theorem adt {c} {size l k} (h:∀n∈c.names,hU st st' n):st.part size l k c=st'.part size l k c:=by
 cases c with
 |own n=>simp only[av.part,(h n (by simp[C.names])).1]
 |sub n lo len=>simp only[av.part,(h n (by simp[C.names])).1]
 |p q=>cases q<;>rfl
 |_=>rfl
theorem adZ {c} (h:∀n∈c.names,hU st st' n):st.mY c=st'.mY c:=by
 cases c with
 |sub n lo len=>rfl
 |_=>simp only[av.mY];rw[sR h]
theorem atl {c} (h:∀n∈c.names,hU st st' n):st.sink c=st'.sink c:=by
 cases c with
 |own n=>simp only[av.sink,(h n (by simp[C.names])).1]
 |sub n lo len=>simp only[av.sink,(h n (by simp[C.names])).1]
 |_=>rfl
theorem M6:∀{cs},(∀c∈cs,∀n∈c.names,hU st st' n)→st.sinks cs=st'.sinks cs
 |[],_=>rfl
 |c::cs,h=>by
  have h1:=atl (h c (by simp));have h2:=M6 (cs:=cs) (fun c' hc'=>h c' (by simp[hc']));simp only[av.sinks,h1,h2]
theorem VS {e} {c} (h:∀n∈c.names,hU st st' n):st.gw e c=st'.gw e c:=by
 cases c with
 |own n=>simp only[av.gw,(h n (by simp[C.names])).1]
 |sub n lo len=>cases lo<;>simp only[av.gw,(h n (by simp[C.names])).1]
 |_=>rfl
theorem FA {x} (h:st.arg x=st'.arg x):st.eG x=st'.eG x:=by unfold av.eG;rw[h]
theorem SG (y:V1):∀c∈y.cells,∀n∈c.names,n∈y.names:=by
 cases y with
 |c c=>intro c' hc' n hn;simp[V1.cells]at hc';subst hc';exact hn
 |agg cs=>intro c hc n hn;exact th.2 ⟨c,hc,hn⟩
theorem Xv:∀{xs},(∀x∈xs,st.arg x=st'.arg x∧∀v,st.arg x=some v→∀n∈v.names,hU st st' n)→st.lits xs=st'.lits xs
 |[],_=>rfl
 | x::xs,h=>by
  simp only[av.lits];rw[Xv (xs:=xs) (fun y hy=>h y (by simp[hy])),←FA (h x (by simp)).1]
  cases hx:st.eG x with
  |none=>rfl
  | some y=>
   have:st.arg x=some (.v y):=by
    unfold av.eG at hx;split at hx
    · simp_all
    · cases hx
   simp only[M6 (fun c hc n hn=> (h x (by simp)).2 _ this n (SG y c hc n hn))]
theorem GU {α β:Type} {f g:α→Option β}:∀{l:List α},(∀x∈l,f x=g x)→l.mapM f=l.mapM g
 |[],_=>rfl
 |x::l,h=>by
  simp only[rE,h x (by simp),GU (l:=l) (fun y hy=>h y (by simp[hy]))]
theorem Nn {o} {k} (h:∀x,o=some x→st.arg x=st'.arg x):st.num o k=st'.num o k:=by
 cases o with
 |none=>rfl
 |some x=>simp only[av.num,h x rfl]
theorem Mn {ι L} {c' c} (hL:∀n∈L,hU st st' n) (h:rW st ι L c' c):rW st' ι L c' c:=by
 cases c' with
 |p q=>
  rcases h with h| ⟨rows,h1,h2,h3⟩
  · exact .inl h
  · exact .inr ⟨rows,h1,by rw[←sR (fun n hn=>hL n (h3 n hn))];exact h2,h3⟩
 |dead=>trivial
 |_=>exact h
theorem aeW {ι L} {x' x} (hL:∀n∈L,hU st st' n) (h:yO st ι L x' x):yO st' ι L x' x:=by
 cases x' with
 |c c'=>
  cases x with
  |c c=>exact Mn hL h
  |agg=>exact h.elim
 |agg cs'=>
  cases x with
  |c=>exact h.elim
  |agg cs=>exact⟨h.1,fun i c' hi=>let⟨c,h1,h2⟩:=h.2 i c' hi; ⟨c,h1,Mn hL h2⟩⟩
theorem asA {ι L} {b' b} (hL:∀n∈L,hU st st' n) (h:yr st ι L b' b):yr st' ι L b' b:=by
 cases b' with
 |box cs'=>
  cases b with
  |box cs=>exact⟨h.1,fun i c' hi=>let⟨c,h1,h2⟩:=h.2 i c' hi; ⟨c,h1,Mn hL h2⟩⟩
  |_=>exact h.elim
 |row=>cases b<;>exact h
 |map=>cases b<;>exact h
theorem apC {P} {d} {f} {xs} {v} {ef} {rd} (ha:∀n∈rd,hU st st' n) (h:AF P st d f xs v ef rd):AF P st' d f xs v ef rd:=by
 obtain⟨cargs,H,r,H',ι,L,hA,hlen,sX,kf,gS,Hl,hι,hL,Cr,Od,Oe,Of,vM,hgι,sY,hgd,hv,Hn,rfl⟩:=h;have Oq:∀n∈L,hU st st' n:=fun n hn=>ha n (wk _ hn)
 have hιa:∀n∈ι,hU st st' n:=fun n hn=>ha n (zf _ hn)
 refine⟨cargs,H,r,H',ι,L,hA,hlen,sX,kf,fun i x' hi=> ?_,fun i b' hi=> ?_,fun n hn=> ⟨fun hg=> (hι n hn).1 ((hιa n hn).2.2 hg),(hι n hn).2⟩,fun n hn hg=>hL n hn ((Oq n hn).2.2 hg),Cr,Od,Oe,Of,vM,hgι,sY,hgd,hv,Hn,rfl⟩
 · obtain⟨x,h1,h2⟩:=gS i x' hi;exact⟨x,h1,aeW Oq h2⟩
 · obtain⟨n,b,h1,h2,h3⟩:=Hl i b' hi;exact⟨n,b,h1,by rw[←(hιa n (dn h1)).1];exact h2,asA Oq h3⟩
theorem amV {op} {x} {v} (hop:vE op=false) (hx:x∈op.operands.toList) (hv:st.arg x=some v) {n} (hn:n∈v.names):n∈st.r9 op:=by
 have:st.r9 op=(op.operands.toList.filterMap st.arg).flatMap V.names:=by unfold av.r9;split<;>first|rfl|cases hop
 rw[this];exact th.2 ⟨v,tj.2 ⟨x,hx,hv⟩,hn⟩
theorem aBe {P} {Sp} {d} {op} {r} (ha':vE op=false→∀x∈op.operands.toList,st.arg x=st'.arg x) (hx:vE op=true→∀t,Operand.tmp t∈op.operands.toList→st.tmps[t]? =st'.tmps[t]?)
  (ht:∀n∈st.r9 op,hU st st' n) (hr:∀n∈r.rd,hU st st' n) (he:a_ P Sp st d op=some r):a_ P Sp st' d op=some r:=by
 have hn:vE op=false→∀x∈op.operands.toList,∀v,st.arg x=some v→∀n∈v.names,hU st st' n:=fun hop x hx v hv n hn=>ht n (amV hop hx hv hn)
 have hc:vE op=false→∀x∈op.operands.toList,∀c,st.arg x=some (.v (.c c))→∀n∈c.names,hU st st' n:=fun hop x hx c hv n cQ=>hn hop x hx _ hv n cQ
 rw[←he];symm
 cases op with
 |move x=>
  cases x with
  |tmp t=>simp only[a_,hx rfl t (by simp[Op.operands])]
  |const v=>have e:=ha' rfl (.const v) (by simp[Op.operands]);simp only[a_,e]
  |global v=>rfl
  |func v=>rfl
 |assign x=>
  cases x with
  |tmp t=>simp only[a_,hx rfl t (by simp[Op.operands])]
  |const v=>have e:=ha' rfl (.const v) (by simp[Op.operands]);simp only[a_,e]
  |global v=>rfl
  |func v=>rfl
 |pick c x y=>
  have ha:=ha' rfl;simp only[a_,←ha c (by simp[Op.operands]),←ha x (by simp[Op.operands]),←ha y (by simp[Op.operands])]
 |alloc e=>rfl
 |box e x=>
  have ha:=ha' rfl;simp only[a_,←FA (ha x (by simp[Op.operands]))]
 |build t parts=>
  have ha:=ha' rfl;simp only[a_,yc];rw[GU (g:=fun x=> (st'.eG x.2).map fun y=> (x.1,y.cells)) (fun x hx=>by rw[FA (ha x.2 (by simp[Op.operands];exact⟨x.1,by simpa using hx⟩))])]
 | buildSlice t len parts=>
  have ha:=ha' rfl;simp only[a_,xW];rw[Xv (st':=st') (fun x hx=>by
   simp only[fe]at hx;obtain⟨y,hy,rfl⟩:=hx;have hm:y.2∈(Op.buildSlice t len parts).operands.toList:=by simp[Op.operands];exact⟨y.1,by simpa using hy⟩
   exact⟨ha _ hm,fun v hv=>hn rfl _ hm v hv⟩)]
 | load t x=>
  have ha:=ha' rfl;have h1:=ha x (by simp[Op.operands]);have h2:=hc rfl x (by simp[Op.operands]);simp only[a_,qA,←h1]
  cases eE:st.arg x with
  |none=>rfl
  |some v=>
   cases v with
   |aj=>rfl
   | v v=>
     cases v with
     |agg=>rfl
     | c c=>
       have h3:=h2 c eE
       cases c with
       |ptr n off=>simp only[(h3 n (by simp[C.names])).1]
       |cE n i j=>simp only[(h3 n (by simp[C.names])).1]
       |_=>rfl
 | store t x y=>
  have ha:=ha' rfl;have h1:=ha x (by simp[Op.operands]);have h2:=ha y (by simp[Op.operands]);have h3:=hc rfl x (by simp[Op.operands]);have h4:=hn rfl y (by simp[Op.operands]);simp only[a_,vj,←h1,←h2]
  cases eE:st.arg x with
  |none=>rfl
  | some v=>
   cases v with
   |aj=>rfl
   | v v =>
     cases v with
     |agg=>rfl
     | c c=>
       have h5:=h3 c eE
       cases hyy:st.arg y with
       |none=>cases c<;>rfl
       | some vy=>
        have h6:=h4 vy hyy
        cases vy with
        |aj=>cases c<;>rfl
        |v vy=>
         cases c with
         |ptr n off=>simp only[(h5 n (by simp[C.names])).1]
         |cE n i j=>simp only[(h5 n (by simp[C.names])).1,M6 (st':=st') (fun c hc n hn=>h6 n (SG vy c hc n hn))]
         |_=>rfl
 |nilCheck x=>
  have ha:=ha' rfl;simp only[a_,←ha x (by simp[Op.operands])]
 |binOp op t x y yt=>
  have ha:=ha' rfl;simp only[a_,←ha x (by simp[Op.operands]),←ha y (by simp[Op.operands])]
 |unOp op t x=>
  have ha:=ha' rfl;simp only[a_,←ha x (by simp[Op.operands])]
 | convert s t x=>
  have ha:=ha' rfl;have h1:=ha x (by simp[Op.operands]);have h2:=hc rfl x (by simp[Op.operands]);have k1:lq P st' s t x=lq P st s t x:=by
   simp only[lq,←h1]
   cases eE:st.arg x with
   |none=>rfl
   | some v=>
     cases v with
     |aj=>rfl
     | v v=>
       cases v with
       |agg=>rfl
       | c c=>
        have e0:=sR (st:=st) (st':=st') (h2 c eE)
        cases c with
        |p q=>
         cases q with
         |sc v=>cases v<;>first|rfl|simp only[e0]
         |sl=>first|rfl|simp only[e0]
        |_=>first|rfl|simp only[e0]
  have k2:sv P st' s t x=sv P st s t x:=by
   simp only[sv,←h1]
   cases eE:st.arg x with
   |none=>rfl
   | some v=>
     cases v with
     |aj=>rfl
     | v v=>
       cases v with
       |agg=>rfl
       |c c=>
        cases c with
        |own n=>simp only[(h2 _ eE n (by simp[C.names])).1]
        |_=>rfl
  simp_all[a_]
 |makeSlice t l c=>
  have ha:=ha' rfl;simp only[a_,yz,←ha l (by simp[Op.operands]),←ha c (by simp[Op.operands])]
 |sliceToArrayPointer t x=>
  have ha:=ha' rfl;simp only[a_,yI,←ha x (by simp[Op.operands])]
 | slice t x lo hi mx=>
  have ha:=ha' rfl
  cases mx with
  |some mx=>
   cases hi with
   |none=>rfl
   | some hi=>
     have h3:st.num lo 0=st'.num lo 0:=Nn (fun o ho=>ha o (by simp[Op.operands,ho]));simp only[a_,yg,←ha x (by simp[Op.operands]),←ha hi (by simp[Op.operands]),←ha mx (by simp[Op.operands]),←h3]
  | none =>
   have h1:=ha x (by simp[Op.operands]);have h2:=hc rfl x (by simp[Op.operands]);have h3:∀k,st.num lo k=st'.num lo k:=fun k=>Nn (fun o ho=>ha o (by simp[Op.operands,ho]))
   have h4:∀k,st.num hi k=st'.num hi k:=fun k=>Nn (fun o ho=>ha o (by simp[Op.operands,ho]))
   have k1:lj P st' t x lo hi=lj P st t x lo hi:=by
     simp only[lj,←h1,←h3,←h4]
     cases eE:st.arg x with
     |none=>rfl
     | some v=>
       cases v with
       |aj=>rfl
       | v v=>
        cases v with
        |agg=>rfl
        | c c=>
         have h5:=h2 c eE;have e0:=adZ (st:=st) (st':=st') h5;have e1:=fun a b k=>adt (st:=st) (st':=st') (size:=a) (l:=b) (k:=k) h5
         cases c with
         |p q=>
          cases q with
          |sc v=>cases v<;>first|rfl|simp only[e0,e1]
          |sl=>first|rfl|simp only[e0,e1]
         |_=>first|rfl|simp only[e0,e1]
   have k2:sI P st' t x=sI P st t x:=by
     simp only[sI,←h1]
     cases eE:st.arg x with
     |none=>rfl
     | some v=>
       cases v with
       |aj=>rfl
       | v v=>
        cases v with
        |agg=>rfl
        |c c=>
         cases c with
         |ptr n off=>simp only[(h2 _ eE n (by simp[C.names])).1]
         |_=>rfl
   simp_all[a_]
 |makeMap t r=>
  cases r<;>rfl
 | mapUpdate t m k x=>
  have ha:=ha' rfl;have h1:=ha m (by simp[Op.operands]);have h2:=ha k (by simp[Op.operands]);have h3:=ha x (by simp[Op.operands]);have h4:=hc rfl m (by simp[Op.operands]);simp only[a_,xP,←h1,←h2,←h3]
  cases eE:st.arg m with
  |none=>rfl
  |some v=>
   cases v with
   |aj=>rfl
   | v v=>
     cases v with
     |agg=>rfl
     | c c=>
       cases c with
       |mp n=>simp only[(h4 _ eE n (by simp[C.names])).1]
       |_=>rfl
 | lookup t m k ok=>
  have ha:=ha' rfl;have h1:=ha m (by simp[Op.operands]);have h2:=ha k (by simp[Op.operands]);have h4:=hc rfl m (by simp[Op.operands]);simp only[a_,yQ,←h1,←h2]
  cases eE:st.arg m with
  |none=>rfl
  |some v=>
   cases v with
   |aj=>rfl
   | v v=>
     cases v with
     |agg=>rfl
     | c c=>
       cases c with
       |mp n=>simp only[(h4 _ eE n (by simp[C.names])).1]
       |_=>rfl
 |fieldAddr t x f=>
  have ha:=ha' rfl;simp only[a_,p6,←ha x (by simp[Op.operands])]
 | indexAddr t x i=>
  have ha:=ha' rfl;have h1:=ha x (by simp[Op.operands]);have h2:=ha i (by simp[Op.operands]);have h3:=hc rfl x (by simp[Op.operands]);simp only[a_,mJ,←h1,←h2]
  cases eE:st.arg x with
  |none=>rfl
  |some v=>
   cases v with
   |aj=>rfl
   | v v=>
     cases v with
     |agg=>rfl
     | c c=>
       have e0:=fun a b=>agN (st:=st) (st':=st') (size:=a) (i:=b) (h3 c eE)
       cases c with
       |p q=>
        simp_all
       |_=>first|rfl|simp only[e0]
 |index t x i=>
  have ha:=ha' rfl;simp only[a_,←ha x (by simp[Op.operands]),←ha i (by simp[Op.operands])]
 |extract t i=>
  cases t with
  |tmp t=>simp only[a_,hx rfl t (by simp[Op.operands])]
  |_=>rfl
 | makeFunc fn first captured=>
  have ha:=ha' rfl
  cases fn with
  |func f=>
   simp only[a_];rw[GU (g:=st'.cap) (fun x hx=>by
     unfold av.cap;rw[ha x (by simp[Op.operands];exact .inr (by simpa using hx))])]
  |_=>rfl
 | call c =>
  have ha:=ha' rfl;obtain⟨callee,args,ts⟩:=c
  cases callee with
  |value f=>
   simp only[a_]at he⊢;have hf:=ha f (by simp[Op.operands,Call.operands]);have aam:st.callee f=st'.callee f:=by
     unfold av.callee
     cases f with
     |func=>rfl
     |_=>simp only[hf]
   have od:args.toList.mapM st.eG=args.toList.mapM st'.eG:=GU (fun x hx=>FA (ha x (by simp[Op.operands,Call.operands];simp_all)));unfold uB at he⊢;rw[aam,od]at he;split at he
   · split at he
     · rename_i aBT aBU hsp aO;cases he;simp only[aam,aBT,od,aBU,hsp];rw[ay (apC hr aO),ay aO]
     · cases he
   · cases he
  |invoke=>rfl
  | builtin b =>
   simp only[a_];have h1:∀x∈args.toList,st.arg x=st'.arg x:=fun x hx=>ha x (by simp[Op.operands,Call.operands];simpa using hx)
   have h2:∀x∈args.toList,∀c,st.arg x=some (.v (.c c))→∀n∈c.names,hU st st' n:=fun x hx=>hc rfl x (by simp[Op.operands,Call.operands];simpa using hx)
   unfold lZ;split
   · rename_i x t od _;rw[od]at h1 h2;simp only[oX,←h1 x (by simp)]
     cases eE:st.arg x with
     |none=>rfl
     | some v=>
       cases v with
       |aj=>rfl
       | v v=>
        cases v with
        |agg=>rfl
        | c c=>
         have e0:=sR (st:=st) (st':=st') (h2 x (by simp) c eE)
         cases c with
         |p q=>
          cases q with
          |sc v=>cases v<;>first|rfl|simp only[e0]
          |sl=>first|rfl|simp only[e0]
         |_=>first|rfl|simp only[e0]
   · rename_i s x t t' od _;rw[od]at h1 h2;have key :rZ P st' d t s x=rZ P st d t s x:=by
       simp only[rZ,←h1 s (by simp),←h1 x (by simp)]
       cases eO P t with
       |none=>rfl
       | some e=>
        simp only
        cases jP P e with
        |none=>rfl
        | some nb=>
         cases hs:st.arg s with
         |none=>rfl
         | some vs=>
          cases vs with
          |aj=>rfl
          | v vs=>
           cases vs with
           |agg=>rfl
           | c cs=>
            cases eE:st.arg x with
            |none=>rfl
            | some v=>
             cases v with
             |aj=>rfl
             |v v=>
              cases v with
              |agg=>rfl
              |c c=>simp only[sR (st':=st') (h2 x (by simp) c eE),VS (st':=st') (h2 s (by simp) cs hs)]
     have aBV : p7 P st' d t t' s x=p7 P st d t t' s x:=by
       have q1:oB P st' d t t' s x=oB P st d t t' s x:=by
        simp_all[oB]
       have q2 : vq P st' d t t' s x=vq P st d t t' s x:=by
        simp only[vq,←h1 s (by simp),←h1 x (by simp)]
        cases eO P t with
        |none=>rfl
        | some e =>
         cases hs:st.arg s with
         |none=>rfl
         | some vs =>
          cases vs with
          |aj=>rfl
          | v vs =>
           cases vs with
           |agg=>rfl
           | c cs =>
            have hc:=fun e=>VS (st:=st) (st':=st') (e:=e) (h2 s (by simp) cs hs)
            cases st.arg x with
            |none=>rfl
            | some v=>
             cases v with
             |aj=>rfl
             | v v =>
              cases v with
              |agg=>rfl
              | c c =>
               cases c with
               | p q=>
                cases q with
                | sc u=>
                 cases u with
                 | int k n=>
                  cases k<;>first
                   |rfl
                   | (cases P.underlying t' with
                    |none=>rfl
                    |some dd=>cases dd<;>first|rfl|simp only[hc])
                 |_=>rfl
                |sl=>rfl
               |_=>rfl
       simp_all[p7]
     have aBW:sS P st' t s x=sS P st t s x:=by
       simp only[sS,←h1 s (by simp),←h1 x (by simp)]
       cases hs:st.arg s with
       |none=>rfl
       | some vs=>
        cases vs with
        |aj=>rfl
        | v vs=>
         cases vs with
         |agg=>rfl
         | c cs=>
          cases cs with
          | sub m lo len=>
           cases lo with
           |succ lo=>rfl
           | zero=>
            cases eE:st.arg x with
            |none=>rfl
            | some v=>
             cases v with
             |aj=>rfl
             |v v=>
              cases v with
              |agg=>rfl
              |c c=>simp only[sR (st':=st') (h2 x (by simp) c eE),(h2 s (by simp) _ hs m (by simp[C.names])).1]
          |_=>rfl
     rw[key,aBV,aBW]
   · rename_i x y t _ od _;rw[od]at h1 h2;have key :qa P st' t x y=qa P st t x y:=by
       simp only[qa,←h1 x (by simp),←h1 y (by simp)]
       cases eO P t with
       |none=>rfl
       | some e=>
        cases hs:st.arg x with
        |none=>rfl
        | some vs=>
         cases vs with
         |aj=>rfl
         | v vs=>
          cases vs with
          |agg=>rfl
          | c cs=>
           cases eE:st.arg y with
           |none=>rfl
           | some v=>
            cases v with
            |aj=>rfl
            | v v=>
             cases v with
             |agg=>rfl
             |c c=>
              have h5:=h2 x (by simp) cs hs;simp only[sR (st':=st') (h2 y (by simp) c eE),sR (st':=st') h5]
              cases cs with
              |own n=>first|rfl|simp only[(h5 n (by simp[C.names])).1]
              |sub n lo len=>first|rfl|simp only[(h5 n (by simp[C.names])).1]
              |_=>rfl
     rw[key]
   · simp_all
   · simp_all
   · simp_all
   · rename_i m k t tl od _;rw[od]at h1 h2;simp only[ye,←h1 m (by simp),←h1 k (by simp)]
     cases eE:st.arg m with
     |none=>rfl
     | some v=>
       cases v with
       |aj=>rfl
       | v v=>
        cases v with
        |agg=>rfl
        |c c=>
         cases c with
         |mp n=>simp only[(h2 m (by simp) _ eE n (by simp[C.names])).1]
         |_=>rfl
   · rfl
 |_=>rfl
end
end
end
end Go.Proofs.YtndegphojkiblaaGreatDoor
