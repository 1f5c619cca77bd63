/- Towards the last file's theorem: part 5. -/
import Derived.Test.YtndegphojkiblaaGreatDoorG4
import Derived.BigQuiet
set_option linter.all false
set_option maxHeartbeats 4000000
set_option maxRecDepth 100000
namespace Go.Proofs.YtndegphojkiblaaGreatDoor
noncomputable section
section
open Go.RowKit
open Classical
abbrev Spec:=Nat→Option (V×dB×List Nat)
structure bc where
 v:V
 e:dB
 rd:List Nat
def Tz:dB:=⟨[],[]⟩
def bc.pure (v:V):bc:=⟨v,Tz,[]⟩
def bc.of (x:V×dB):bc:=⟨x.1,x.2,[]⟩
def QM:aD→aD→Option aD
 | .int k x,.int _ y=>some (.int k (if y<x then y else x))
 |_,_=>none
def Pu:aD→aD→Option aD
 | .int k x,.int _ y=>some (.int k (if y>x then y else x))
 |_,_=>none
noncomputable def lp (P:aQ) (Sp:Spec) (st:ak) (d:Nat) (b:Builtin) (args:List aM) (ts:List aw):Option bc:=
 match b,args,ts with
 | .len,[x],[t]=> (o_ P st t x).map bc.pure
 | .append,[s,x],[t,t']=>if t=t' then match Sp d with
   |some (.v (.c (.sub _ _ _)),_,_)=> (r7 P st t s x).map bc.of
   |_=> (r_ P st d t s x).map bc.of
  else(qM P st d t t' s x).map bc.of
 | .copy,[x,y],[t,_]=> (qf P st t x y).map bc.of
 | .min,[x,y],_=>match st.arg x,st.arg y with
  |some (.v (.c (.p (.sc u)))),some (.v (.c (.p (.sc v))))=> (QM u v).map fun r=>bc.pure (.sc r)
  |_,_=>none
 | .max,[x,y],_=>match st.arg x,st.arg y with
  |some (.v (.c (.p (.sc u)))),some (.v (.c (.p (.sc v))))=> (Pu u v).map fun r=>bc.pure (.sc r)
  |_,_=>none
 | .cap,[x],[t]=>match st.arg x,P.underlying t with
  |some (.v (.c .nil)),some (.slice _)=>some (bc.pure (.sc (.int .i64 0)))
  |_,_=>none
 | .delete,[m,k],t::_=> (x7 P st t m k).map fun e=> ⟨.aj [],e,[]⟩
 |_,_,_=>none
def ak.callee (st:ak):aM→Option (FuncId×List Nat)
 | .func f=>some (f,[])
 |x=>match st.arg x with
  |some (.v (.c (.fn f cQ)))=>some (f,cQ)
  |_=>none
noncomputable def u6 (P:aQ) (Sp:Spec) (st:ak) (d:Nat) (x:aM) (args:List aM):Option bc:=
 match st.callee x,args.mapM st.eu,Sp d with
 |some (f,cQ),some xs,some (v,ef,rd)=>if B2 P st d f (xs++cQ.map fun n=> .c (.ptr n 0)) v ef rd then some ⟨v,ef,rd⟩else none
 |_,_,_=>none
def ak.cap (st:ak) (x:aM):Option Nat:=match st.arg x with
 |some (.v (.c (.ptr n 0)))=>some n
 |_=>none
theorem YH {M:bY} {E:Env} {w:av} {us:Array aD} {k0 k1 k2 k3:bS} {a0 a1 a2 a3:Int}
  (hs:us.size=[C.p (.sc (.int k0 a0)),.p (.sc (.int k1 a1)),.p (.sc (.int k2 a2)),.p (.sc (.int k3 a3))].length)
  (h:∀(i:Nat) (c:C),[C.p (.sc (.int k0 a0)),.p (.sc (.int k1 a1)),.p (.sc (.int k2 a2)),.p (.sc (.int k3 a3))][i]? =some c→∃u,us[i]? =some u∧RC M E w c u):us= #[.int k0 a0,.int k1 a1,.int k2 a2,.int k3 a3]:=by
 obtain⟨l⟩:=us
 match l,hs with
 |[u0,u1,u2,u3],_=>
  obtain⟨v0,e0,r0⟩:=h 0 _ rfl;obtain⟨v1,e1,r1⟩:=h 1 _ rfl;obtain⟨v2,e2,r2⟩:=h 2 _ rfl;obtain⟨v3,e3,r3⟩:=h 3 _ rfl;have e0:u0=v0:=by simpa using e0
  have e1:u1=v1:=by simpa using e1
  have e2:u2=v2:=by simpa using e2
  have e3:u3=v3:=by simpa using e3
  rw[e0,e1,e2,e3,RP.dv r0,RP.dv r1,RP.dv r2,RP.dv r3]
noncomputable def bu (P:aQ) (Sp:Spec) (st:ak) (d:Nat) (op:Op):Option bc:=
 match op with
 | .move (.tmp t)=> (st.tmps[t]?).map bc.pure
 | .move x=> (st.arg x).map bc.pure
 | .assign (.tmp t)=> (st.tmps[t]?).map bc.pure
 | .assign x=> (st.arg x).map bc.pure
 | .pick c a b=>match st.arg c with
  |some (.v (.c (.p (.sc (.bool t)))))=> (if t then st.arg a else st.arg b).map bc.pure
  |_=>none
 | .alloc e=> (qg P e).map fun cs=> ⟨.c (.ptr d 0),⟨[(d,.box cs)],[]⟩,[]⟩
 | .box _ x=> (st.eu x).map fun x=> ⟨.c (.ptr d 0),⟨[(d,.box x.cells)],[]⟩,[]⟩
 | .build t parts=> (yF P st t parts).map bc.pure
 | .buildSlice t len parts=> (yH P st d t len parts.toList).map bc.of
 | .load t x=> (qF P st t x).map bc.pure
 | .store t x y=> (uo P st t x y).map fun e=> ⟨.c .dead,e,[]⟩
 | .nilCheck x=>match st.arg x with
  |some (.v (.c (.ptr n o)))=>some (.pure (.c (.ptr n o)))
  |some (.v (.c (.cB n i j)))=>some (.pure (.c (.cB n i j)))
  |some (.v (.c (.ref cells)))=>some (.pure (.c (.ref cells)))
  |some (.v (.c (.fn f cQ)))=>some (.pure (.c (.fn f cQ)))
  |_=>none
 | .binOp op t x y _=>match st.arg x,st.arg y with
  |some (.v (.c (.p (.sc u)))),some (.v (.c (.p (.sc v))))=> (jM (rb P t) op u v).map fun r=> .pure (.sc r)
  |some (.v (.agg cs)),some (.v (.agg ds))=> (FM P op t cs ds).map fun b=> .pure (.sc (.bool b))
  |_,_=>none
 | .unOp op _ x=>match st.arg x with
  |some (.v (.c (.p (.sc u))))=> (x8 op u).map fun r=> .pure (.sc r)
  |_=>none
 | .convert s t x=>match lD P st s t x with
  |some v=>some (.pure v)
  |none=> (sr P st s t x).map bc.of
 | .makeSlice t l c=> (yv P st d t l c).map bc.of
 | .slice t x lo hi none=>match lq P st t x lo hi with
  |some v=>some (.pure v)
  |none=>match lo,hi with
   |none,none=> (sZ P st t x).map bc.of
   |_,_=>none
 | .slice t x lo (some hi) (some mx)=> (xz P st t x lo hi mx).map bc.pure
 | .sliceToArrayPointer t x=> (yQ P st t x).map bc.pure
 | .makeMap _ none=>some ⟨.c (.mp d),⟨[(d,.map [])],[]⟩,[]⟩
 | .mapUpdate t m k x=> (yD P st t m k x).map fun e=> ⟨.c .dead,e,[]⟩
 | .fieldAddr t x f=> (qS P st t x f).map bc.pure
 | .indexAddr t x i=> (nF P st t x i).map bc.pure
 | .index t x i=>match st.arg x,st.arg i,P.underlying t with
  |some (.v (.c (.p (.sc (.string s))))),some (.v (.c (.p (.sc (.int _ i))))),some .string=>gK (0≤i) (match s[i.toNat]? with
   |some b=>some (.pure (.sc (.int .u8 b.toNat)))
   |none=>none)
  |some (.v (.agg cs)),some (.v (.c (.p (.sc (.int _ i))))),some (.array n e)=>gK (0≤i∧i<n∧mU P e=true) ((kq P e (cs.drop (i.toNat*db P e))).map bc.pure)
  |_,_,_=>none
 | .extract (.tmp t) i=>match st.tmps[t]? with
  |some (.aj xs)=>match xs[i]? with
   |some x=>some (.pure (.v x))
   |none=>none
  |_=>none
 | .makeFunc (.func f) first captured=>if first.size=0 then(captured.toList.mapM st.cap).map fun ns=> .pure (.c (.fn f ns))else none
 | .call c=>match c.callee with
  | .value x=>u6 P Sp st d x c.args.toList
  | .builtin b=>lp P Sp st d b c.args.toList c.argTypes.toList
  |_=>none
 |_=>none
theorem aDu {P:aQ} {f:FuncId} (h:Own P f) (args:Array aD) (w:av):(callFunc f args).run P w= .ok (.enter f args) w:=by
 obtain⟨fn,h1,h2,h3⟩:=h.fn;simp only[callFunc,Sem.run_bind,run_program,Result.andThen_ok,h1,h2,h3,lP,if_false,Sem.run_pure]
def vr (X:Fx) (E:Env) (st:ak) (d:Nat) (a:Act) (o:Oper) (r:bc) (next:Act→av→Prop):Prop:=
 ∀u w' E',(∀n,¬(d≤n∧n<d+8)→E.N n=none→E'.N n=none)→Rel X E' (st.cq r.e) a w'→RV X.M E' w' r.v u→next (a.put o.dst u) w'
theorem jY {P:aQ} {o:Oper} {a:Act} {w w':av} {next:Act→av→Prop} {Q:Exit→Act→av→Prop} {u:aD}
  (hr:(execOp a.eval o).run P w= .ok (.value u) w') (h:next (a.put o.dst u) w'):o.wp P a w next Q:=by
 unfold Oper.wp;rw[hr];exact h
section
variable {X:Fx} {Sp:Spec} {E:Env} {st:ak} {a:Act} {w:av} {d:Nat} {o:Oper} {r:bc} {next:Act→av→Prop} {Q:Exit→Act→av→Prop}
theorem vr.pure (hn:vr X E st d a o r next) (h:Rel X E st a w) {v:V} (hr:r= .pure v) {u:aD} (hv:RV X.M E w v u) {s:Sem aD} (h1:execOp a.eval o=(do let x←s;Pure.pure (Next.value x))) (h2:s.run X.P w= .ok u w):o.wp X.P a w next Q:=by
 subst hr;exact jY (u:=u) (w':=w) (by rw[h1];simp[h2]) (hn u w E (fun _ _ h=>h) h hv)
theorem vr.pure' (hn:vr X E st d a o r next) (h:Rel X E st a w) {v:V} (hr:r= .pure v) {u:aD} (hv:RV X.M E w v u) (h1:(execOp a.eval o).run X.P w= .ok (.value u) w):o.wp X.P a w next Q:=by
 subst hr;exact jY (u:=u) (w':=w) h1 (hn u w E (fun _ _ h=>h) h hv)
theorem ant (h:Rel X E st a w) (hF:qj X E st d) {b:Builtin} {args:Array aM} {ts:Array aw} (ho:o.op= .call ⟨.builtin b,args,ts⟩)
   (he:lp X.P Sp st d b args.toList ts.toList=some r) (hn:vr X E st d a o r next):o.wp X.P a w next Q:=by
 have hex:(execOp a.eval o)=(builtin b ts o.type (args.map fun| .const _=>true|_=>false) (args.map a.eval)):=by
   unfold execOp;rw[ho];rfl
 have dR:=hF d (cT _) om;unfold lp at he;split at he
 · rename_i x t ha ht;have ha':args= #[x]:=nQ.1 (by simpa using ha);have gM:ts= #[t]:=nQ.1 (by simpa using ht);subst ha' gM;simp only[aW]at he;obtain⟨v,hv,rfl⟩:=he;obtain⟨u,h1,h2⟩:=awT h hv (ty:=o.type);exact hn.pure' h rfl h2 (by rw[hex];simp[builtin,h1])
 · rename_i s x t t' ha ht;have ha':args= #[s,x]:=nQ.1 (by simpa using ha);have gM:ts= #[t,t']:=nQ.1 (by simpa using ht);subst ha' gM;split at he
   · rename_i CH;subst CH;split at he
     · simp only[aW]at he;obtain⟨⟨v,ef⟩,hv,rfl⟩:=he;obtain⟨u,w',h1,h3,h4⟩:=anc h hv (ty:=o.type);exact jY (u:=u) (w':=w') (by rw[hex];simp[builtin,h1]) (hn u w' E (fun _ _ h=>h) h3 h4)
     simp only[aW]at he;obtain⟨⟨v,ef⟩,hv,rfl⟩:=he;obtain⟨u,w',E',h1,h2,h3,h4⟩:=akL h dR.1 dR.2.2.2 dR.2.2.1 dR.2.1 hv (ty:=o.type);exact jY (u:=u) (w':=w') (by rw[hex];simp[builtin,h1]) (hn u w' E' (fun n cZ=>h2 n om) h3 h4)
   · simp only[aW]at he;obtain⟨⟨v,ef⟩,hv,rfl⟩:=he;obtain⟨u,w',E',h1,h2,h3,h4⟩:=ard h dR.1 dR.2.2.2 dR.2.2.1 dR.2.1 hv (ty:=o.type);exact jY (u:=u) (w':=w') (by rw[hex];simp[builtin,h1]) (hn u w' E' (fun n cZ=>h2 n om) h3 h4)
 · rename_i x y t t' ha ht;have ha':args= #[x,y]:=nQ.1 (by simpa using ha);have gM:ts= #[t,t']:=nQ.1 (by simpa using ht);subst ha' gM;simp only[aW]at he;obtain⟨⟨v,ef⟩,hv,rfl⟩:=he;obtain⟨u,w',h1,h3,h4⟩:=aoC h hv (ty:=o.type) (t2:=t');exact jY (u:=u) (w':=w') (by rw[hex];simp[builtin,h1]) (hn u w' E (fun _ _ h=>h) h3 h4)
 · rename_i _ x y ha;have ha':args= #[x,y]:=nQ.1 (by simpa using ha);subst ha';split at he
   · rename_i u v hx hy;have k1:=RP.dv (h.bU hx).1;have k2:=RP.dv (h.bU hy).1;simp only[aW]at he;obtain⟨q,hq,rfl⟩:=he;unfold QM at hq;split at hq
     · simp at hq;subst hq;refine hn.pure' h rfl (.sc rfl) ?_;rw[hex];simp[builtin,k1,k2,Builtin.min_,Builtin.min2]
     · cases hq
   · cases he
 · rename_i _ x y ha;have ha':args= #[x,y]:=nQ.1 (by simpa using ha);subst ha';split at he
   · rename_i u v hx hy;have k1:=RP.dv (h.bU hx).1;have k2:=RP.dv (h.bU hy).1;simp only[aW]at he;obtain⟨q,hq,rfl⟩:=he;unfold Pu at hq;split at hq
     · simp at hq;subst hq;refine hn.pure' h rfl (.sc rfl) ?_;rw[hex];simp[builtin,k1,k2,Builtin.max_,Builtin.max2]
     · cases hq
   · cases he
 · rename_i x t ha ht;have ha':args= #[x]:=nQ.1 (by simpa using ha);have gM:ts= #[t]:=nQ.1 (by simpa using ht);subst ha' gM;split at he
   · rename_i e hx hu;cases he;have k1:=(h.bU hx).1;refine hn.pure' h rfl (.sc rfl) ?_;rw[hex];simp only[RC]at k1;simp[builtin,k1,Builtin.cap_,run_underlying hu,goInt]
   · cases he
 · rename_i m k t tl ha ht;have ha':args= #[m,k]:=nQ.1 (by simpa using ha);have gM:ts=(t::tl).toArray:=nQ.1 (by simpa using ht);subst ha' gM;simp only[aW]at he;obtain⟨ef,hv,rfl⟩:=he;obtain⟨w',h1,h3⟩:=aFl h hv (ts:=tl) (ty:=o.type);exact jY (u:= .tuple #[]) (w':=w') (by rw[hex];simp[builtin,h1]) (hn _ w' E (fun _ _ h=>h) h3 ⟨#[],rfl,rfl,by simp⟩)
 · cases he
theorem asn (h:Rel X E st a w) {args:List aM} {xs:List V1} (hx:args.mapM st.eu=some xs):args.length=xs.length∧∀(i:Nat) (x:V1),xs[i]? =some x→∃u,(args.map a.eval)[i]? =some u∧dq X.M E w x u:=by
 obtain⟨h1,h2⟩:=qB hx;refine⟨h1.symm,fun i x hi=> ?_⟩;obtain⟨o,h3,h4⟩:=h2 i x hi;exact⟨a.eval o,by simp_all,(h.eu h4).1⟩
theorem azC (h:Rel X E st a w) (hF:qj X E st d) {x:aM} {args:Array aM} {ts:Array aw} (ho:o.op= .call ⟨.value x,args,ts⟩)
   (he:u6 X.P Sp st d x args.toList=some r) (hn:vr X E st d a o r next):o.wp X.P a w next Q:=by
 unfold u6 at he;split at he
 · rename_i f cQ xs v ef rd hf pO hsp;split at he
   · rename_i hc;cases he;obtain⟨hl,hxv⟩:=asn h pO;have y9:∃us:Array aD,a.eval x= .func (.func f) #[] us∧us.size=cQ.length∧∀(i n:Nat),cQ[i]? =some n→∃u,us[i]? =some u∧bT E n fun x=>∃g,x.g=some g∧u= .pointer (some ⟨g,0,none⟩):=by
      unfold ak.callee at hf;split at hf
      · cases hf;exact⟨#[],by simp[Act.eval],rfl,fun i n hi=>by simp at hi⟩
      · split at hf
        · rename_i hx;cases hf;exact(h.bU hx).1
        · cases hf
     obtain⟨us,y_,hf2,hf3⟩:=y9;have rz:(args.map a.eval++us).size=(xs++cQ.map fun n=>V1.c (.ptr n 0)).length:=by simp[hf2,←hl]
     have pL:=ayi h hF (vals:=args.map a.eval++us) rz (fun i y hi=>by
      rw[ki]at hi;rw[oU];simp only[Array.size_map];have e1:args.size=xs.length:=by rw[←hl];simp
      split at hi
      · rename_i hlt;rw[au om];obtain⟨u,h1,h2⟩:=hxv i y hi;exact⟨u,by rw[←IH];simpa using h1,h2⟩
      · rename_i hlt;rw[aE om];simp only[bO,aW]at hi;obtain⟨n,cZ,rfl⟩:=hi;obtain⟨u,h1,h2⟩:=hf3 _ n cZ;refine⟨u,by rw[e1];exact h1,h2⟩) hc
     have hex:(execOp a.eval o).run X.P w= .ok (.enter f (args.map a.eval++us)) w:=by
      unfold execOp;rw[ho];simp[resolve,Deferred.ofValue,y_,invoke,aDu pL.1]
     unfold Oper.wp;rw[hex,Oper.upon_enter];refine pL.2.mono ?_;rintro _ w' ⟨u,E',rfl,k1,k2,k3⟩;exact hn u w' E' k1 k2 k3
   · cases he
 · cases he
set_option maxHeartbeats 4000000 in
theorem snd (h:Rel X E st a w) (hF:qj X E st d)
  (he:bu X.P Sp st d o.op=some r) (hn:vr X E st d a o r next):o.wp X.P a w next Q:=by
 have dR:=hF d (cT _) om;have dJ:∀n,¬(d≤n∧n<d+8)→n≠d:=fun n cZ=>om
 cases hop:o.op with
 |move x=>
  rw[hop]at he
  cases x with
  | tmp t=>
    simp only[bu,aW]at he;obtain⟨v,hv,rfl⟩:=he;obtain⟨u,h1,h2⟩:=h.tmps t _ hv;have e1:a.eval (.tmp t)=u:=by simp[Act.eval,h1]
    exact hn.pure' h rfl (u:=a.eval (.tmp t)) (by rw[e1];exact h2) (by unfold execOp;rw[hop];rfl)
  | _=>
    simp only[bu,aW]at he;obtain⟨v,hv,rfl⟩:=he;exact hn.pure' h rfl (h.arg hv).1 (by unfold execOp;rw[hop];rfl)
 |assign x=>
  rw[hop]at he
  cases x with
  | tmp t=>
    simp only[bu,aW]at he;obtain⟨v,hv,rfl⟩:=he;obtain⟨u,h1,h2⟩:=h.tmps t _ hv;have e1:a.eval (.tmp t)=u:=by simp[Act.eval,h1]
    exact hn.pure' h rfl (u:=a.eval (.tmp t)) (by rw[e1];exact h2) (by unfold execOp;rw[hop];rfl)
  | _=>
    simp only[bu,aW]at he;obtain⟨v,hv,rfl⟩:=he;exact hn.pure' h rfl (h.arg hv).1 (by unfold execOp;rw[hop];rfl)
 |pick c x y=>
  rw[hop]at he;simp only[bu]at he;split at he
  · rename_i t hc;have k1:=RP.dv (h.bU hc).1;simp only[aW]at he;obtain⟨v,hv,rfl⟩:=he;refine hn.pure' h rfl (u:=if t then a.eval x else a.eval y) ?_ (by unfold execOp;rw[hop];simp[k1,asBool]);cases t
    · simp at hv;simpa using(h.arg hv).1
    · simp at hv;simpa using(h.arg hv).1
  · cases he
 |alloc e=>
  rw[hop]at he;simp only[bu,aW]at he;obtain⟨cs,hcs,rfl⟩:=he;obtain⟨i,z,hi,hz,kJ⟩:=Bd (M:=X.M) (E:=E) (w:=w) hcs;have hb:=h.fresh (w':=w.alloc (.cells z.cells e)) d dR.1 dR.2.2.2 dR.2.2.1 ((Below.refl _ _).alloc (cT _) _) (x:=⟨some w.heap.size,0,0,0⟩) (.inr ⟨rfl,by simp⟩) (.box cs) (fun hG=>
    ⟨⟨some w.heap.size,0,0,0⟩,w.heap.size,z.cells,e,by simp[Env.add],rfl,heap_alloc_new w _,kJ.1,fun i c hi=>let⟨u,h1,h2,h3⟩:=kJ.2 i c hi; ⟨u,h1,h2.goes hG,h3⟩⟩)
  refine jY (u:= .pointer (some ⟨w.heap.size,0,none⟩)) (w':=w.alloc (.cells z.cells e)) ?_ (hn _ _ _ (fun n cZ hE=>by rw[Env.lb (dJ n cZ)];exact hE) hb.2 (.inr ⟨⟨some w.heap.size,0,0,0⟩,by simp[Env.add],_,rfl,rfl⟩));unfold execOp;rw[hop];simp[Instr.alloc,zeroValue,typeInfo,hi,hz,newVar,newRow]
 |box e x=>
  rw[hop]at he;simp only[bu,aW]at he;obtain⟨y,hy,rfl⟩:=he;obtain⟨k1,k2⟩:=h.eu hy;obtain⟨k3,k4⟩:=dq.cells k1 (by rw[h.ao];exact k2);have hb:=h.fresh (w':=w.alloc (.cells (a.eval x).cells e)) d dR.1 dR.2.2.2 dR.2.2.1 ((Below.refl _ _).alloc (cT _) _) (x:=⟨some w.heap.size,0,0,0⟩) (.inr ⟨rfl,by simp⟩) (.box y.cells) (fun hG=>
    ⟨⟨some w.heap.size,0,0,0⟩,w.heap.size,(a.eval x).cells,e,by simp[Env.add],rfl,heap_alloc_new w _,k3,fun i c hi=>let⟨u,h1,h2,h3⟩:=k4 i c hi; ⟨u,h1,h2.goes hG,h3⟩⟩)
  refine jY (u:= .pointer (some ⟨w.heap.size,0,none⟩)) (w':=w.alloc (.cells (a.eval x).cells e)) ?_ (hn _ _ _ (fun n cZ hE=>by rw[Env.lb (dJ n cZ)];exact hE) hb.2 (.inr ⟨⟨some w.heap.size,0,0,0⟩,by simp[Env.add],_,rfl,rfl⟩));unfold execOp;rw[hop];rfl
 |build t parts=>
  rw[hop]at he;simp only[bu,aW]at he;obtain⟨v,hv,rfl⟩:=he;obtain⟨u,h1,h2⟩:=axm h hv;exact hn.pure h rfl h2 (s:=Instr.build t (parts.map fun x=> (x.1,a.eval x.2))) (by unfold execOp;rw[hop]) h1
 |buildSlice t len parts=>
  rw[hop]at he;simp only[bu,aW]at he;obtain⟨⟨v,ef⟩,hv,rfl⟩:=he;obtain⟨u,w',E',h1,h2,h3,h4⟩:=aqa h dR.1 dR.2.2.2 dR.2.2.1 hv;exact jY (u:=u) (w':=w') (by unfold execOp;simp_all) (hn u w' E' (fun n cZ=>h2 n (dJ n cZ)) h3 h4)
 |load t x=>
  rw[hop]at he;simp only[bu,aW]at he;obtain⟨v,hv,rfl⟩:=he;obtain⟨u,h1,h2⟩:=avE h hv;exact hn.pure h rfl h2 (s:=Instr.loadAt t (a.eval x)) (by unfold execOp;rw[hop]) h1
 |store t x y=>
  rw[hop]at he;simp only[bu,aW]at he;obtain⟨ef,hv,rfl⟩:=he;obtain⟨w',E',h1,h2,h3⟩:=apN h hv;have hex:(execOp a.eval o).run X.P w= .ok .skip w':=by unfold execOp;simp_all
  unfold Oper.wp;rw[hex];exact hn undef w' E' (fun n _=>h2 n) h3 trivial
 |nilCheck x=>
  rw[hop]at he;simp only[bu]at he;split at he
  · rename_i n off hx;cases he;have hh:=(h.bU hx).1;obtain⟨y,k1,g,k2,k3⟩:=bT.get hh (h.gQ hx (n:=n) (by simp[C.names]));exact hn.pure' h rfl (u:=a.eval x) hh (by unfold execOp;simp_all)
  · rename_i n i j hx;cases he;have hh:=(h.bU hx).1;obtain⟨y,k1,k4,g,k2,k3⟩:=bT.get hh (h.gQ hx (n:=n) (by simp[C.names]));exact hn.pure' h rfl (u:=a.eval x) hh (by unfold execOp;simp_all)
  · rename_i cells hx;cases he;have hh:=(h.bU hx).1;obtain⟨g,o',k1,k2⟩:=hh;exact hn.pure' h rfl (u:=a.eval x) (h.bU hx).1 (by unfold execOp;simp_all)
  · rename_i f cQ hx;cases he;have hh:=(h.bU hx).1;obtain⟨us,k1,k2⟩:=hh;exact hn.pure' h rfl (u:=a.eval x) (h.bU hx).1 (by unfold execOp;simp_all)
  · cases he
 |binOp op t x y yt=>
  rw[hop]at he;simp only[bu]at he;split at he
  · rename_i u v hx hy;simp only[aW]at he;obtain⟨q,hq,rfl⟩:=he;have k1:=RP.dv (h.bU hx).1;have k2:=RP.dv (h.bU hy).1;exact hn.pure h rfl (v:= .sc q) (RP.sc (aDi hq)) (s:=do eqGuard op t x y u v;binOp op t u v) (by unfold execOp;simp_all) (aBh t x y hq w)
  · rename_i cs ds hx hy;simp only[aW]at he;obtain⟨b,hb,rfl⟩:=he;obtain⟨us,k1,k2,k3⟩:=(h.arg hx).1;obtain⟨vs,j1,j2,j3⟩:=(h.arg hy).1;unfold FM at hb;split at hb
    · rename_i i0 a0 i1 a1 i2 a2 i3 a3 l0 b0 l1 b1 l2 b2 l3 b3;split at hb
      · rename_i hc;obtain⟨ht,rfl,rfl,rfl,rfl⟩:=hc;have e1:us= #[.int i0 a0,.int i1 a1,.int i2 a2,.int i3 a3]:=YH k2 (fun i c hi=>by
          obtain⟨u,q1,q2,_⟩:=k3 i c hi;exact⟨u,q1,q2⟩)
        have e2:vs= #[.int i0 b0,.int i1 b1,.int i2 b2,.int i3 b3]:=YH j2 (fun i c hi=>by
          obtain⟨u,q1,q2,_⟩:=j3 i c hi;exact⟨u,q1,q2⟩)
        rw[e1]at k1;rw[e2]at j1;obtain⟨r1,r2⟩:=aqz ht w x y a0 a1 a2 a3 b0 b1 b2 b3 (k0:=i0) (k1:=i1) (k2:=i2) (k3:=i3);split at hb
        · cases hb;exact hn.pure h rfl (v:= .sc (.bool _)) (RP.sc rfl) (s:=do eqGuard .eql t x y (a.eval x) (a.eval y);binOp .eql t (a.eval x) (a.eval y)) (by unfold execOp;rw[hop]) (by simp_all)
        · cases hb;exact hn.pure h rfl (v:= .sc (.bool _)) (RP.sc rfl) (s:=do eqGuard .neq t x y (a.eval x) (a.eval y);binOp .neq t (a.eval x) (a.eval y)) (by unfold execOp;rw[hop]) (by simp_all)
        · cases hb
      · cases hb
    · cases hb
  · cases he
 |unOp op t x=>
  rw[hop]at he;simp only[bu]at he;split at he
  · rename_i u hx;simp only[aW]at he;obtain⟨q,hq,rfl⟩:=he;have k1:=RP.dv (h.bU hx).1;have k2:=avV (P:=X.P) hq w;exact hn.pure h rfl (v:= .sc q) (RP.sc k2.2) (s:=Op.unary op (a.eval x)) (by unfold execOp;rw[hop]) (by simp_all)
  · cases he
 |convert s t x=>
  rw[hop]at he;simp only[bu]at he;split at he
  · rename_i v hv;cases he;obtain⟨u,h1,h2⟩:=aAg h hv;exact hn.pure h rfl h2 (s:=convert s t (a.eval x)) (by unfold execOp;rw[hop]) h1
  · simp only[aW]at he;obtain⟨⟨v,ef⟩,hv,rfl⟩:=he;obtain⟨u,w',h1,h2,h3⟩:=ass h hv;exact jY (u:=u) (w':=w') (by unfold execOp;simp_all) (hn u w' E (fun _ _ h=>h) h2 h3)
 |makeSlice t l c=>
  rw[hop]at he;simp only[bu,aW]at he;obtain⟨⟨v,ef⟩,hv,rfl⟩:=he;obtain⟨u,w',E',h1,h2,h3,h4⟩:=avF h dR.1 dR.2.2.2 dR.2.2.1 hv;exact jY (u:=u) (w':=w') (by unfold execOp;simp_all) (hn u w' E' (fun n cZ=>h2 n (dJ n cZ)) h3 h4)
 |sliceToArrayPointer t x=>
  rw[hop]at he;simp only[bu,aW]at he;obtain⟨v,hv,rfl⟩:=he;obtain⟨u,h1,h2⟩:=alE h hv;exact hn.pure h rfl h2 (s:=Instr.arrayAt t (a.eval x)) (by unfold execOp;rw[hop]) h1
 |slice t x lo hi mx=>
  rw[hop]at he
  cases mx with
  | some mx=>
    cases hi with
    |none=>simp[bu]at he
    | some hi=>
      simp only[bu,aW]at he;obtain⟨v,hv,rfl⟩:=he;obtain⟨u,h1,h2⟩:=asl h hv;exact hn.pure h rfl h2 (s:=Instr.sliceAt t (a.eval x) (lo.map a.eval) (some (a.eval hi)) (some (a.eval mx))) (by unfold execOp;rw[hop];rfl) h1
  | none=>
    simp only[bu]at he;split at he
    · rename_i v hv;cases he;obtain⟨u,h1,h2⟩:=akl h hv;exact hn.pure h rfl h2 (s:=Instr.sliceAt t (a.eval x) (lo.map a.eval) (hi.map a.eval) none) (by unfold execOp;rw[hop];rfl) h1
    · split at he
      · simp only[aW]at he;obtain⟨⟨v,ef⟩,hv,rfl⟩:=he;obtain⟨u,E',h1,h2,h3,h4⟩:=anO h hv;exact jY (u:=u) (w':=w) (by unfold execOp;simp_all) (hn u w E' (fun n _=>h2 n) h3 h4)
      · cases he
 |makeMap t r=>
  rw[hop]at he
  cases r with
  |some _=>simp[bu]at he
  | none=>
    simp only[bu,im]at he;subst he;have hb:=h.fresh (w':=w.alloc (.map #[] 0)) d dR.1 dR.2.2.2 dR.2.2.1 ((Below.refl _ _).alloc (cT _) _) (x:=⟨some w.heap.size,0,0,0⟩) (.inr ⟨rfl,by simp⟩) (.map []) (fun hG=>
      ⟨⟨some w.heap.size,0,0,0⟩,w.heap.size,#[],0,by simp[Env.add],rfl,heap_alloc_new w _,by simp⟩)
    refine jY (u:= .map (some w.heap.size)) (w':=w.alloc (.map #[] 0)) ?_ (hn _ _ _ (fun n cZ hE=>by rw[Env.lb (dJ n cZ)];exact hE) hb.2 (.inr ⟨⟨some w.heap.size,0,0,0⟩,by simp[Env.add],_,rfl,rfl⟩));unfold execOp;rw[hop];rfl
 |mapUpdate t m k x=>
  rw[hop]at he;simp only[bu,aW]at he;obtain⟨ef,hv,rfl⟩:=he;obtain⟨w',h1,h2⟩:=ajJ h hv;have hex:(execOp a.eval o).run X.P w= .ok .skip w':=by unfold execOp;simp_all
  unfold Oper.wp;rw[hex];exact hn undef w' E (fun _ _ h=>h) h2 trivial
 |fieldAddr t x f=>
  rw[hop]at he;simp only[bu,aW]at he;obtain⟨v,hv,rfl⟩:=he;obtain⟨u,h1,h2⟩:=avc h hv;exact hn.pure h rfl h2 (s:=Instr.fieldAt t (a.eval x) f) (by unfold execOp;rw[hop]) h1
 |indexAddr t x i=>
  rw[hop]at he;simp only[bu,aW]at he;obtain⟨v,hv,rfl⟩:=he;obtain⟨u,h1,h2⟩:=aEB h hv;exact hn.pure h rfl h2 (s:=Instr.indexAt t (a.eval x) (a.eval i)) (by unfold execOp;rw[hop]) h1
 |index t x i=>
  rw[hop]at he;simp only[bu]at he;split at he
  · rename_i s k i' hx hi hu;unfold gK at he;have k1:=RP.dv (h.bU hx).1;have k2:=RP.dv (h.bU hi).1;split at he
    · rename_i h0;split at he
      · rename_i b hb;cases he;refine hn.pure h rfl (v:= .sc (.int .u8 b.toNat)) (u:= .int .u8 b.toNat) (RP.sc rfl) (s:=Instr.index t (a.eval x) (a.eval i)) (by unfold execOp;rw[hop]) ?_;rw[k1,k2];simp[Instr.index,asIntOf,run_underlying hu,h0,hb]
      · cases he
    · cases he
  · rename_i cs k i' n e hx hi hu;unfold gK at he;have k2:=RP.dv (h.bU hi).1;obtain⟨us,k1,k3,k4⟩:=(h.arg hx).1;split at he
    · rename_i h0;obtain⟨h1,h2,h3⟩:=h0;simp only[aW]at he;obtain⟨v,hv,rfl⟩:=he;obtain⟨u,h4,h5⟩:=awB (w:=w) hv k3 k4;refine hn.pure h rfl h5 (s:=Instr.index t (a.eval x) (a.eval i)) (by unfold execOp;rw[hop]) ?_;rw[k1,k2];simp only[Instr.index,asIntOf,Sem.run_bind,Sem.run_pure,Result.andThen_ok,run_underlying hu,au (And.intro h1 h2),run_sizeOf w h3];exact h4
    · cases he
  · cases he
 |extract t i=>
  rw[hop]at he
  cases t with
  | tmp t=>
    simp only[bu]at he;split at he
    · rename_i xs hx;split at he
      · rename_i x CI;cases he;obtain⟨u,h1,us,h2,h3,h4⟩:=h.tmps t _ hx;subst h2;obtain⟨u',h5,h6⟩:=h4 i x CI;refine hn.pure h rfl (v:= .v x) (u:=u') h6 (s:=Instr.extract (a.eval (.tmp t)) i) (by unfold execOp;rw[hop]) ?_;simp[Act.eval,ug,h1,Instr.extract,h5]
      · cases he
    · cases he
  |const=>simp[bu]at he
  |global=>simp[bu]at he
  |func=>simp[bu]at he
 |makeFunc fn first captured=>
  rw[hop]at he
  cases fn with
  | func f=>
    simp only[bu]at he;split at he
    · rename_i hz;simp only[aW]at he;obtain⟨ns,fp,rfl⟩:=he;have y9:first= #[]:=aiw hz
      obtain⟨h1,h2⟩:=qB fp;refine hn.pure' h rfl (v:= .c (.fn f ns)) (u:= .func (.func f) #[] (captured.map a.eval)) ⟨_,rfl,by simp[h1],fun i n hi=> ?_⟩ (by unfold execOp;rw[hop];simp[Instr.makeFunc,y9]);obtain⟨x,h3,h4⟩:=h2 i n hi;rw[IH]at h3;refine⟨a.eval x,by simp_all,?_⟩;unfold ak.cap at h4;split at h4
      · rename_i hx;cases h4;exact(h.bU hx).1
      · cases h4
    · cases he
  |_=>simp[bu]at he
 |call c=>
  obtain⟨callee,args,ts⟩:=c;rw[hop]at he
  cases callee with
  |builtin b=>exact ant h hF hop (by simpa[bu]using he) hn
  |invoke=>simp[bu]at he
  |value f=>exact azC h hF hop (by simpa[bu]using he) hn
 |_=>rw[hop]at he;simp[bu]at he
end
def vn:Op→Bool
 | .extract _ _=>true
 | .move (.tmp _)=>true
 | .assign (.tmp _)=>true
 |_=>false
def ak.sy (st:ak):Op→List Nat
 | .extract _ _=> []
 | .move (.tmp _)=> []
 | .assign (.tmp _)=> []
 |op=> (op.operands.toList.filterMap st.arg).flatMap V.names
def gS (st st':ak) (n:Nat):Prop:=st.heap.lookup n=st'.heap.lookup n∧(n∈st.ao ↔ n∈st'.ao)
section
variable {st st':ak}
theorem tp {c:C} (h:∀n∈c.names,gS st st' n):st.view c=st'.view c:=by
 cases c with
 |own n=>simp only[ak.view,(h n (by simp[C.names])).1]
 |sub n lo len=>simp only[ak.view,(h n (by simp[C.names])).1]
 |p q=>cases q<;>rfl
 |_=>rfl
theorem ajp {c:C} {size i:Nat} (h:∀n∈c.names,gS st st' n):st.elem size i c=st'.elem size i c:=by
 cases c with
 |own n=>simp only[ak.elem,(h n (by simp[C.names])).1]
 |sub n lo len=>simp only[ak.elem,(h n (by simp[C.names])).1]
 |p q=>cases q<;>rfl
 |_=>rfl
theorem aCf {c:C} {size l k:Nat} (h:∀n∈c.names,gS st st' n):st.part size l k c=st'.part size l k c:=by
 cases c with
 |own n=>simp only[ak.part,(h n (by simp[C.names])).1]
 |sub n lo len=>simp only[ak.part,(h n (by simp[C.names])).1]
 |p q=>cases q<;>rfl
 |_=>rfl
theorem alh {c:C} (h:∀n∈c.names,gS st st' n):st.nw c=st'.nw c:=by
 cases c with
 |sub n lo len=>rfl
 |_=>simp only[ak.nw];rw[tp h]
theorem akr {c:C} (h:∀n∈c.names,gS st st' n):st.sink c=st'.sink c:=by
 cases c with
 |own n=>simp only[ak.sink,(h n (by simp[C.names])).1]
 |sub n lo len=>simp only[ak.sink,(h n (by simp[C.names])).1]
 |_=>rfl
theorem N2:∀{cs:List C},(∀c∈cs,∀n∈c.names,gS st st' n)→st.sinks cs=st'.sinks cs
 |[],_=>rfl
 |c::cs,h=>by
  have h1:=akr (h c (by simp));have h2:=N2 (cs:=cs) (fun c' hc'=>h c' (by simp[hc']));simp only[ak.sinks,h1,h2]
theorem abQ {e:aw} {c:C} (h:∀n∈c.names,gS st st' n):st.fy e c=st'.fy e c:=by
 cases c with
 |own n=>simp only[ak.fy,(h n (by simp[C.names])).1]
 |sub n lo len=>cases lo<;>simp only[ak.fy,(h n (by simp[C.names])).1]
 |_=>rfl
theorem Hf {x:aM} (h:st.arg x=st'.arg x):st.eu x=st'.eu x:=by unfold ak.eu;rw[h]
theorem XE (y:V1):∀c∈y.cells,∀n∈c.names,n∈y.names:=by
 cases y with
 |c c=>intro c' hc' n hn;simp[V1.cells]at hc';subst hc';exact hn
 |agg cs=>intro c hc n hn;exact uh.2 ⟨c,hc,hn⟩
theorem Vm:∀{xs:List aM},(∀x∈xs,st.arg x=st'.arg x∧∀v,st.arg x=some v→∀n∈v.names,gS st st' n)→st.lits xs=st'.lits xs
 |[],_=>rfl
 | x::xs,h=>by
  simp only[ak.lits];rw[Vm (xs:=xs) (fun y hy=>h y (by simp[hy])),←Hf (h x (by simp)).1]
  cases hx:st.eu x with
  |none=>rfl
  | some y=>
   have:st.arg x=some (.v y):=by
    unfold ak.eu at hx;split at hx
    · simp_all
    · cases hx
   simp only[N2 (fun c hc n hn=> (h x (by simp)).2 _ this n (XE y c hc n hn))]
theorem HU {α β:Type} {f g:α→Option β}:∀{l:List α},(∀x∈l,f x=g x)→l.mapM f=l.mapM g
 |[],_=>rfl
 |x::l,h=>by
  simp only[je,h x (by simp),HU (l:=l) (fun y hy=>h y (by simp[hy]))]
theorem K9 {o:Option aM} {k:Int} (h:∀x,o=some x→st.arg x=st'.arg x):st.num o k=st'.num o k:=by
 cases o with
 |none=>rfl
 |some x=>simp only[ak.num,h x rfl]
theorem PA {ι L:List Nat} {c' c:C} (hL:∀n∈L,gS st st' n) (h:sD st ι L c' c):sD st' ι L c' c:=by
 cases c' with
 |p q=>
  rcases h with h| ⟨rows,h1,h2,h3⟩
  · exact .inl h
  · exact .inr ⟨rows,h1,by rw[←tp (fun n hn=>hL n (h3 n hn))];exact h2,h3⟩
 |dead=>trivial
 |_=>exact h
theorem ajK {ι L:List Nat} {x' x:V1} (hL:∀n∈L,gS st st' n) (h:yy st ι L x' x):yy st' ι L x' x:=by
 cases x' with
 |c c'=>
  cases x with
  |c c=>exact PA hL h
  |agg=>exact h.elim
 |agg cs'=>
  cases x with
  |c=>exact h.elim
  |agg cs=>exact⟨h.1,fun i c' hi=>let⟨c,h1,h2⟩:=h.2 i c' hi; ⟨c,h1,PA hL h2⟩⟩
theorem awf {ι L:List Nat} {b' b:cO} (hL:∀n∈L,gS st st' n) (h:xI st ι L b' b):xI st' ι L b' b:=by
 cases b' with
 |box cs'=>
  cases b with
  |box cs=>exact⟨h.1,fun i c' hi=>let⟨c,h1,h2⟩:=h.2 i c' hi; ⟨c,h1,PA hL h2⟩⟩
  |_=>exact h.elim
 |row=>cases b<;>exact h
 |map=>cases b<;>exact h
theorem ato {P:aQ} {d:Nat} {f:FuncId} {xs:List V1} {v:V} {ef:dB} {rd:List Nat} (ha:∀n∈rd,gS st st' n) (h:B2 P st d f xs v ef rd):B2 P st' d f xs v ef rd:=by
 obtain⟨cargs,H,r,H',ι,L,hA,hlen,tT,gz,gx,H0,hι,hL,Rq,Rr,Rs,Rt,H2,hgι,nI,hgd,hv,H3,rfl⟩:=h;have RD:∀n∈L,gS st st' n:=fun n hn=>ha n (rR _ hn)
 have hιa:∀n∈ι,gS st st' n:=fun n hn=>ha n (ui _ hn)
 refine⟨cargs,H,r,H',ι,L,hA,hlen,tT,gz,fun i x' hi=> ?_,fun i b' hi=> ?_,fun n hn=> ⟨fun hg=> (hι n hn).1 ((hιa n hn).2.2 hg),(hι n hn).2⟩,fun n hn hg=>hL n hn ((RD n hn).2.2 hg),Rq,Rr,Rs,Rt,H2,hgι,nI,hgd,hv,H3,rfl⟩
 · obtain⟨x,h1,h2⟩:=gx i x' hi;exact⟨x,h1,ajK RD h2⟩
 · obtain⟨n,b,h1,h2,h3⟩:=H0 i b' hi;exact⟨n,b,h1,by rw[←(hιa n (cH h1)).1];exact h2,awf RD h3⟩
theorem aod {op:Op} {x:aM} {v:V} (hop:vn op=false) (hx:x∈op.operands.toList) (hv:st.arg x=some v) {n:Nat} (hn:n∈v.names):n∈st.sy op:=by
 have:st.sy op=(op.operands.toList.filterMap st.arg).flatMap V.names:=by unfold ak.sy;split<;>first|rfl|cases hop
 rw[this];exact uh.2 ⟨v,rU.2 ⟨x,hx,hv⟩,hn⟩
theorem axa {P:aQ} {Sp:Spec} {d:Nat} {op:Op} {r:bc} (ha':vn op=false→∀x∈op.operands.toList,st.arg x=st'.arg x) (hx:vn op=true→∀t,Operand.tmp t∈op.operands.toList→st.tmps[t]? =st'.tmps[t]?)
  (ht:∀n∈st.sy op,gS st st' n) (hr:∀n∈r.rd,gS st st' n) (he:bu P Sp st d op=some r):bu P Sp st' d op=some r:=by
 have hn:vn op=false→∀x∈op.operands.toList,∀v,st.arg x=some v→∀n∈v.names,gS st st' n:=fun hop x hx v hv n hn=>ht n (aod hop hx hv hn)
 have hc:vn op=false→∀x∈op.operands.toList,∀c,st.arg x=some (.v (.c c))→∀n∈c.names,gS st st' n:=fun hop x hx c hv n cZ=>hn hop x hx _ hv n cZ
 rw[←he];symm
 cases op with
 |move x=>
  cases x with
  |tmp t=>simp only[bu,hx rfl t (by simp[Op.operands])]
  |const v=>have e:=ha' rfl (.const v) (by simp[Op.operands]);simp only[bu,e]
  |global v=>rfl
  |func v=>rfl
 |assign x=>
  cases x with
  |tmp t=>simp only[bu,hx rfl t (by simp[Op.operands])]
  |const v=>have e:=ha' rfl (.const v) (by simp[Op.operands]);simp only[bu,e]
  |global v=>rfl
  |func v=>rfl
 |pick c x y=>
  have ha:=ha' rfl;simp only[bu,←ha c (by simp[Op.operands]),←ha x (by simp[Op.operands]),←ha y (by simp[Op.operands])]
 |alloc e=>rfl
 |box e x=>
  have ha:=ha' rfl;simp only[bu,←Hf (ha x (by simp[Op.operands]))]
 |build t parts=>
  have ha:=ha' rfl;simp only[bu,yF];rw[HU (g:=fun x=> (st'.eu x.2).map fun y=> (x.1,y.cells)) (fun x hx=>by rw[Hf (ha x.2 (by simp[Op.operands];exact⟨x.1,by simpa using hx⟩))])]
 | buildSlice t len parts=>
  have ha:=ha' rfl;simp only[bu,yH];rw[Vm (st':=st') (fun x hx=>by
   simp only[dy]at hx;obtain⟨y,hy,rfl⟩:=hx;have hm:y.2∈(Op.buildSlice t len parts).operands.toList:=by simp[Op.operands];exact⟨y.1,by simpa using hy⟩
   exact⟨ha _ hm,fun v hv=>hn rfl _ hm v hv⟩)]
 | load t x=>
  have ha:=ha' rfl;have h1:=ha x (by simp[Op.operands]);have h2:=hc rfl x (by simp[Op.operands]);simp only[bu,qF,←h1]
  cases fg:st.arg x with
  |none=>rfl
  |some v=>
   cases v with
   |aj=>rfl
   | v v=>
     cases v with
     |agg=>rfl
     | c c=>
       have h3:=h2 c fg
       cases c with
       |ptr n off=>simp only[(h3 n (by simp[C.names])).1]
       |cB n i j=>simp only[(h3 n (by simp[C.names])).1]
       |_=>rfl
 | store t x y=>
  have ha:=ha' rfl;have h1:=ha x (by simp[Op.operands]);have h2:=ha y (by simp[Op.operands]);have h3:=hc rfl x (by simp[Op.operands]);have h4:=hn rfl y (by simp[Op.operands]);simp only[bu,uo,←h1,←h2];congr 1
  cases fg:st.arg x with
  |none=>rfl
  | some v=>
   cases v with
   |aj=>rfl
   | v v =>
     cases v with
     |agg=>rfl
     | c c=>
       have h5:=h3 c fg
       cases hyy:st.arg y with
       |none=>cases c<;>rfl
       | some vy=>
        have h6:=h4 vy hyy
        cases vy with
        |aj=>cases c<;>rfl
        |v vy=>
         cases c with
         |ptr n off=>simp only[(h5 n (by simp[C.names])).1]
         |cB n i j=>simp only[(h5 n (by simp[C.names])).1,N2 (st':=st') (fun c hc n hn=>h6 n (XE vy c hc n hn))]
         |_=>rfl
 |nilCheck x=>
  have ha:=ha' rfl;simp only[bu,←ha x (by simp[Op.operands])]
 |binOp op t x y yt=>
  have ha:=ha' rfl;simp only[bu,←ha x (by simp[Op.operands]),←ha y (by simp[Op.operands])]
 |unOp op t x=>
  have ha:=ha' rfl;simp only[bu,←ha x (by simp[Op.operands])]
 | convert s t x=>
  have ha:=ha' rfl;have h1:=ha x (by simp[Op.operands]);have h2:=hc rfl x (by simp[Op.operands]);have k1:lD P st' s t x=lD P st s t x:=by
   simp only[lD,←h1]
   cases fg:st.arg x with
   |none=>rfl
   | some v=>
     cases v with
     |aj=>rfl
     | v v=>
       cases v with
       |agg=>rfl
       | c c=>
        have e0:=tp (st:=st) (st':=st') (h2 c fg)
        cases c with
        |p q=>
         cases q with
         |sc v=>cases v<;>first|rfl|simp only[e0]
         |sl=>first|rfl|simp only[e0]
        |_=>first|rfl|simp only[e0]
  have k2:sr P st' s t x=sr P st s t x:=by
   simp only[sr,←h1]
   cases fg:st.arg x with
   |none=>rfl
   | some v=>
     cases v with
     |aj=>rfl
     | v v=>
       cases v with
       |agg=>rfl
       |c c=>
        cases c with
        |own n=>simp only[(h2 _ fg n (by simp[C.names])).1]
        |_=>rfl
  simp_all[bu]
 |makeSlice t l c=>
  have ha:=ha' rfl;simp only[bu,yv,←ha l (by simp[Op.operands]),←ha c (by simp[Op.operands])]
 |sliceToArrayPointer t x=>
  have ha:=ha' rfl;simp only[bu,yQ,←ha x (by simp[Op.operands])]
 | slice t x lo hi mx=>
  have ha:=ha' rfl
  cases mx with
  |some mx=>
   cases hi with
   |none=>rfl
   | some hi=>
     have h3:st.num lo 0=st'.num lo 0:=K9 (fun o ho=>ha o (by simp[Op.operands,ho]));simp only[bu,xz,←ha x (by simp[Op.operands]),←ha hi (by simp[Op.operands]),←ha mx (by simp[Op.operands]),←h3]
  | none =>
   have h1:=ha x (by simp[Op.operands]);have h2:=hc rfl x (by simp[Op.operands]);have h3:∀k,st.num lo k=st'.num lo k:=fun k=>K9 (fun o ho=>ha o (by simp[Op.operands,ho]))
   have h4:∀k,st.num hi k=st'.num hi k:=fun k=>K9 (fun o ho=>ha o (by simp[Op.operands,ho]))
   have k1:lq P st' t x lo hi=lq P st t x lo hi:=by
     simp only[lq,←h1,←h3,←h4]
     cases fg:st.arg x with
     |none=>rfl
     | some v=>
       cases v with
       |aj=>rfl
       | v v=>
        cases v with
        |agg=>rfl
        | c c=>
         have h5:=h2 c fg
         skip
         have e0:=alh (st:=st) (st':=st') h5;have e1:=fun a b k=>aCf (st:=st) (st':=st') (size:=a) (l:=b) (k:=k) h5
         cases c with
         |p q=>
          cases q with
          |sc v=>cases v<;>first|rfl|simp only[e0,e1]
          |sl=>first|rfl|simp only[e0,e1]
         |_=>first|rfl|simp only[e0,e1]
   have k2:sZ P st' t x=sZ P st t x:=by
     simp only[sZ,←h1]
     cases fg:st.arg x with
     |none=>rfl
     | some v=>
       cases v with
       |aj=>rfl
       | v v=>
        cases v with
        |agg=>rfl
        |c c=>
         cases c with
         |ptr n off=>simp only[(h2 _ fg n (by simp[C.names])).1]
         |_=>rfl
   simp_all[bu]
 |makeMap t r=>
  cases r<;>rfl
 | mapUpdate t m k x=>
  have ha:=ha' rfl;have h1:=ha m (by simp[Op.operands]);have h2:=ha k (by simp[Op.operands]);have h3:=ha x (by simp[Op.operands]);have h4:=hc rfl m (by simp[Op.operands]);simp only[bu,yD,←h1,←h2,←h3];congr 1
  cases fg:st.arg m with
  |none=>rfl
  |some v=>
   cases v with
   |aj=>rfl
   | v v=>
     cases v with
     |agg=>rfl
     | c c=>
       cases c with
       |mp n=>simp only[(h4 _ fg n (by simp[C.names])).1]
       |_=>rfl
 |fieldAddr t x f=>
  have ha:=ha' rfl;simp only[bu,qS,←ha x (by simp[Op.operands])]
 | indexAddr t x i=>
  have ha:=ha' rfl;have h1:=ha x (by simp[Op.operands]);have h2:=ha i (by simp[Op.operands]);have h3:=hc rfl x (by simp[Op.operands]);simp only[bu,nF,←h1,←h2];congr 1
  cases fg:st.arg x with
  |none=>rfl
  |some v=>
   cases v with
   |aj=>rfl
   | v v=>
     cases v with
     |agg=>rfl
     | c c=>
       have e0:=fun a b=>ajp (st:=st) (st':=st') (size:=a) (i:=b) (h3 c fg)
       cases c with
       |p q=>
        simp_all
       |_=>first|rfl|simp only[e0]
 |index t x i=>
  have ha:=ha' rfl;simp only[bu,←ha x (by simp[Op.operands]),←ha i (by simp[Op.operands])]
 |extract t i=>
  cases t with
  |tmp t=>simp only[bu,hx rfl t (by simp[Op.operands])]
  |_=>rfl
 | makeFunc fn first captured=>
  have ha:=ha' rfl
  cases fn with
  |func f=>
   simp only[bu];rw[HU (g:=st'.cap) (fun x hx=>by
     unfold ak.cap;rw[ha x (by simp[Op.operands];exact .inr (by simpa using hx))])]
  |_=>rfl
 | call c =>
  have ha:=ha' rfl;obtain⟨callee,args,ts⟩:=c
  cases callee with
  |value f=>
   simp only[bu]at he⊢;have hf:=ha f (by simp[Op.operands,Call.operands]);have aho:st.callee f=st'.callee f:=by
     unfold ak.callee
     cases f with
     |func=>rfl
     |_=>simp only[hf]
   have oF:args.toList.mapM st.eu=args.toList.mapM st'.eu:=HU (fun x hx=>Hf (ha x (by simp[Op.operands,Call.operands];simp_all)));unfold u6 at he⊢;rw[aho,oF]at he;split at he
   · split at he
     · rename_i aGU aGV hsp aX;cases he;simp only[aho,aGU,oF,aGV,hsp];rw[au (ato hr aX),au aX]
     · cases he
   · cases he
  |invoke=>rfl
  | builtin b =>
   simp only[bu];have h1:∀x∈args.toList,st.arg x=st'.arg x:=fun x hx=>ha x (by simp[Op.operands,Call.operands];simpa using hx)
   have h2:∀x∈args.toList,∀c,st.arg x=some (.v (.c c))→∀n∈c.names,gS st st' n:=fun x hx=>hc rfl x (by simp[Op.operands,Call.operands];simpa using hx)
   unfold lp;split
   · rename_i x t oF _;rw[oF]at h1 h2;simp only[o_,←h1 x (by simp)];congr 1
     cases fg:st.arg x with
     |none=>rfl
     | some v=>
       cases v with
       |aj=>rfl
       | v v=>
        cases v with
        |agg=>rfl
        | c c=>
         have e0:=tp (st:=st) (st':=st') (h2 x (by simp) c fg)
         cases c with
         |p q=>
          cases q with
          |sc v=>cases v<;>first|rfl|simp only[e0]
          |sl=>first|rfl|simp only[e0]
         |_=>first|rfl|simp only[e0]
   · rename_i s x t t' oF _;rw[oF]at h1 h2;have key :r_ P st' d t s x=r_ P st d t s x:=by
       simp only[r_,←h1 s (by simp),←h1 x (by simp)]
       cases eL P t with
       |none=>rfl
       | some e=>
        simp only
        cases jH P e with
        |none=>rfl
        | some nb=>
         obtain⟨n,b⟩:=nb
         cases hs:st.arg s with
         |none=>rfl
         | some vs=>
          cases vs with
          |aj=>rfl
          | v vs=>
           cases vs with
           |agg=>rfl
           | c cs=>
            cases fg:st.arg x with
            |none=>rfl
            | some v=>
             cases v with
             |aj=>rfl
             |v v=>
              cases v with
              |agg=>rfl
              |c c=>simp only[tp (st':=st') (h2 x (by simp) c fg),abQ (st':=st') (h2 s (by simp) cs hs)]
     have aGW : qM P st' d t t' s x=qM P st d t t' s x:=by
       have q1:pq P st' d t t' s x=pq P st d t t' s x:=by
        simp_all[pq]
       have q2 : uX P st' d t t' s x=uX P st d t t' s x:=by
        simp only[uX,←h1 s (by simp),←h1 x (by simp)]
        cases eL P t with
        |none=>rfl
        | some e =>
         cases hs:st.arg s with
         |none=>rfl
         | some vs =>
          cases vs with
          |aj=>rfl
          | v vs =>
           cases vs with
           |agg=>rfl
           | c cs =>
            have hc:=fun e=>abQ (st:=st) (st':=st') (e:=e) (h2 s (by simp) cs hs)
            cases st.arg x with
            |none=>rfl
            | some v=>
             cases v with
             |aj=>rfl
             | v v =>
              cases v with
              |agg=>rfl
              | c c =>
               cases c with
               | p q=>
                cases q with
                | sc u=>
                 cases u with
                 | int k n=>
                  cases k<;>first
                   |rfl
                   | (cases P.underlying t' with
                    |none=>rfl
                    |some dd=>cases dd<;>first|rfl|simp only[hc])
                 |_=>rfl
                |sl=>rfl
               |_=>rfl
       simp_all[qM]
     have aGX:r7 P st' t s x=r7 P st t s x:=by
       simp only[r7,←h1 s (by simp),←h1 x (by simp)]
       cases hs:st.arg s with
       |none=>rfl
       | some vs=>
        cases vs with
        |aj=>rfl
        | v vs=>
         cases vs with
         |agg=>rfl
         | c cs=>
          cases cs with
          | sub m lo len=>
           cases lo with
           |succ lo=>rfl
           | zero=>
            cases fg:st.arg x with
            |none=>rfl
            | some v=>
             cases v with
             |aj=>rfl
             |v v=>
              cases v with
              |agg=>rfl
              |c c=>simp only[tp (st':=st') (h2 x (by simp) c fg),(h2 s (by simp) _ hs m (by simp[C.names])).1]
          |_=>rfl
     rw[key,aGW,aGX]
   · rename_i x y t _ oF _;rw[oF]at h1 h2;have key :qf P st' t x y=qf P st t x y:=by
       simp only[qf,←h1 x (by simp),←h1 y (by simp)]
       cases eL P t with
       |none=>rfl
       | some e=>
        cases hs:st.arg x with
        |none=>rfl
        | some vs=>
         cases vs with
         |aj=>rfl
         | v vs=>
          cases vs with
          |agg=>rfl
          | c cs=>
           cases fg:st.arg y with
           |none=>rfl
           | some v=>
            cases v with
            |aj=>rfl
            | v v=>
             cases v with
             |agg=>rfl
             |c c=>
              have h5:=h2 x (by simp) cs hs;simp only[tp (st':=st') (h2 y (by simp) c fg),tp (st':=st') h5]
              cases cs with
              |own n=>first|rfl|simp only[(h5 n (by simp[C.names])).1]
              |sub n lo len=>first|rfl|simp only[(h5 n (by simp[C.names])).1]
              |_=>rfl
     rw[key]
   · simp_all
   · simp_all
   · simp_all
   · rename_i m k t tl oF _;rw[oF]at h1 h2;simp only[x7,←h1 m (by simp),←h1 k (by simp)];congr 1
     cases fg:st.arg m with
     |none=>rfl
     | some v=>
       cases v with
       |aj=>rfl
       | v v=>
        cases v with
        |agg=>rfl
        |c c=>
         cases c with
         |mp n=>simp only[(h2 m (by simp) _ fg n (by simp[C.names])).1]
         |_=>rfl
   · rfl
 |_=>rfl
end
def ey {X:Type} (g:Nat→X→X) (S:Nat→Bool) (x:X):Nat→X
 |0=>x
 |n+1=>if S n then g n (ey g S x n)else ey g S x n
theorem tc {X:Type} {g:Nat→X→X} {S S':Nat→Bool} {x:X}:∀{n:Nat},(∀k,k<n→S k=S' k∨∀x,g k x=x)→ey g S x n=ey g S' x n
 |0,_=>rfl
 |n+1,h=>by
  have ih:=tc (x:=x) (n:=n) (fun k hk=>h k om);simp only[ey,ih];rcases h n om with h1|h1
  · rw[h1]
  · simp only[h1];split<;>split<;>rfl
theorem B7 {X Y:Type} {g:Nat→X→X} {g':Nat→Y→Y} {S:Nat→Bool} {x:X} (f:X→Y) (h:∀k x,f (g k x)=g' k (f x)):∀n,f (ey g S x n)=ey g' S (f x) n
 |0=>rfl
 |n+1=>by
  have ih:=B7 (S:=S) (x:=x) f h n;simp only[ey];split
  · rw[h,ih]
  · exact ih
theorem AZ {X:Type} {g:Nat→X→X} {S S':Nat→Bool} {x:X} {i:Nat} (hi:S i=false) (hi':S' i=true) (hS:∀k,k≠i→S' k=S k):∀{n:Nat},i<n→
  ((∀k,i<k→k<n→S k=true→∀x,g k x=x)∨∀x,g i x=x)→ey g S' x n=g i (ey g S x n)
 |0,h,_=>om
 |n+1,hn,h=>by
  by_cases bW:i=n
  · subst bW;simp only[ey,hi,hi',if_true,lP,if_false];congr 1;exact tc fun k hk=> .inl (hS k om)
  · have ih:=AZ (x:=x) (g:=g) hi hi' hS (n:=n) om (h.imp (fun h k h1 h2=>h k h1 om) id);simp only[ey,ih,hS n om];split
    · rename_i hSn;rcases h with h|h
      · rw[h n om om hSn,h n om om hSn]
      · rw[h,h]
    · rfl
def valOf:Option bc→V
 |none=> .aj []
 |some r=>r.v
def rm:Option bc→dB
 |none=>Tz
 |some r=>r.e
def gv (st:ak) (o:Oper) (r:Option bc):ak:=(st.cq (rm r)).put o.dst (valOf r)
def ak.raw (st:ak):aM→List Nat
 | .tmp t=>match st.tmps[t]? with
  |some v=>v.names
  |none=> []
 | .const v=> (ofValue v).names
 |_=> []
def ak.na (st:ak):Op→List Nat
 | .extract _ _=> []
 | .move (.tmp _)=> []
 | .assign (.tmp _)=> []
 |op=>op.operands.toList.flatMap st.raw
def vf (st:ak) (o:Oper):Option bc→List Nat
 |none=> []
 |some r=>st.na o.op++r.rd
def h_ (r:Option bc):List Nat:=(rm r).jk.map (·.1)++(rm r).ao
def tD (ops:Array Oper) (st:ak) (o:Oper):Option Bool:=match o.guard with
 |none=>some true
 | some (j,want)=>match(ops[j]?).bind (·.dst)with
  |some d=>match st.tmps[d]? with
   |some (.v (.c (.p (.sc (.bool b)))))=>some (b==want)
   |some (.aj [])=>some false
   |_=>none
  |none=>none
theorem agr {X:Fx} {E:Env} {st:ak} {a:Act} {w:av} (h:Rel X E st a w) {ops:Array Oper} {o:Oper} {b:Bool} (hg:tD ops st o=some b):
  Region.wanted o (yielded ops a.tmps)=b:=by
 unfold tD at hg;unfold Region.wanted
 cases hgd:o.guard with
 |none=>simp_all
 |some x=>
  obtain⟨j,want⟩:=x;rw[hgd]at hg;simp only at hg⊢;split at hg
  · rename_i d hd;unfold yielded;rw[hd];split at hg
    · rename_i b' hb;obtain⟨u,h1,h2⟩:=h.tmps d _ hb;have:=RP.dv h2;simp_all
    · rename_i hb;obtain⟨u,h1,us,h2,h3,_⟩:=h.tmps d _ hb;simp_all
    · cases hg
  · cases hg
theorem OB (M:bY) (E:Env) (w:av):RV M E w (.aj []) undef:=⟨#[],rfl,rfl,fun i x h=>by simp at h⟩
noncomputable def kQ (P:aQ) (Sp:Spec) (b:Nat) (ops:Array Oper) (st:ak) (k:Nat) (o:Oper):Option (Option bc):=match tD ops st o with
 |some true=> (bu P Sp st (b+8*k) o.op).map some
 |some false=>some none
 |none=>none
theorem I7 {X:Fx} {Sp:Spec} {E:Env} {st:ak} {a:Act} {w:av} {b k:Nat} (h:Rel X E st a w) {ops:Array Oper} {o:Oper} (hF:qj X E st (b+8*k))
   {r:Option bc} (hr:kQ X.P Sp b ops st k o=some r) {next:Act→av→Prop} {Q:Exit→Act→av→Prop}
   (hn:∀v w' E',(∀n,¬(b+8*k≤n∧n<b+8*k+8)→E.N n=none→E'.N n=none)→Rel X E' (gv st o r) (a.put o.dst v) w'→next (a.put o.dst v) w'):
   if Region.wanted o (yielded ops a.tmps)then o.wp X.P a w next Q else next (a.put o.dst undef) w:=by
 unfold kQ at hr;split at hr
 · rename_i hg;rw[agr h hg];simp only[if_true];simp only[aW]at hr;obtain⟨r',gC,rfl⟩:=hr;exact snd h hF gC (fun u w' E' k1 k2 k3=>hn u w' E' k1 (k2.put o.dst k3))
 · rename_i hg;rw[agr h hg];cases hr;simp only[lP,if_false];exact hn undef w E (fun _ _ h=>h) (h.put o.dst (OB X.M E w))
 · cases hr
theorem acB (st:ak) (o:Oper) (r:Option bc) (t:Nat):(gv st o r).tmps[t]? =if o.dst=some t then(st.tmps[t]?).map (fun _=>valOf r)else st.tmps[t]?:=by
 unfold gv
 cases hd:o.dst with
 |none=>rfl
 |some d=>
  simp only[ak.put,ak.cq,IG,im];by_cases za:d=t
  · subst za;simp only[if_true];by_cases hl:d<st.tmps.length
    · simp[hl]
    · simp[hl,zC (Nat.le_of_not_lt hl)]
  · rw[aE za,aE za]
theorem Jr (st:ak) (d:Option Nat) (v:V):(st.put d v).heap=st.heap∧(st.put d v).ao=st.ao∧(st.put d v).next=st.next:=by cases d<;>exact⟨rfl,rfl,rfl⟩
theorem Uh (st:ak) (o:Oper) (r:Option bc) (α:Nat):List.lookup α (gv st o r).heap=((rm r).jk.lookup α).or (st.heap.lookup α):=by
 simp_all[gv,Jr,ak.cq,Xu]
theorem xW (st:ak) (o:Oper) (r:Option bc) (τ:Nat):(τ∈(gv st o r).ao)=(τ∈(rm r).ao∨τ∈st.ao):=by
 simp_all[gv,Jr,ak.cq]
theorem DQ (st:ak) (o:Oper) (r:Option bc):(gv st o r).next=st.next:=by
 unfold gv;rw[(Jr _ _ _).2.2];rfl
theorem Rel.congr {X:Fx} {E:Env} {st st':ak} {a:Act} {w:av} (h:Rel X E st a w) (ht:∀t:Nat,st'.tmps[t]? =st.tmps[t]?) (hb:∀α,List.lookup α st'.heap=List.lookup α st.heap)
  (hu:∀τ,τ∈st'.ao ↔ τ∈st.ao) (hx:st'.next=st.next):Rel X ⟨E.N,st'.ao⟩ st' a w:=by
 have zb:st'.tmps=st.tmps:=uj ht;have hG:gk X.M E ⟨E.N,st'.ao⟩ w w:={
  cell:=fun _ _ _ h1 h2=> ⟨h1,h2⟩
  name:=fun n x hx=> .inr hx
  ao:=fun n hn=> (hu n).2 (by rw[←h.ao];exact hn)}
 exact{
  defers:=h.defers
  ao:=rfl
  frame:=h.frame
  mlt:=h.mlt
  cR:=fun n x hn=>by rw[hx];exact h.cR n x hn
  names:=h.names
  inj:=h.inj
  dw:=h.dw
  fh:=by rw[hx];exact h.fh
  fe:=fun n hn=>by rw[hx];exact h.fe n ((hu n).1 hn)
  size:=by rw[zb];exact h.size
  tmps:=fun i v hi=>by
   rw[zb]at hi;obtain⟨u,h1,h2⟩:=h.tmps i v hi;exact⟨u,h1,h2.goes hG⟩
  heap:=fun n b hl=>by
   rw[hb]at hl;by_cases hn:n∈st'.ao
   · exact .inl hn
   · rcases h.heap n b hl with h1|h1
     · simp_all
     · exact .inr (h1.goes hG hn (fun _ _ _ _=>rfl))}
def su (a b:List Nat):Bool:=a.all fun x=> !b.contains x
theorem Pf {a b:List Nat} (h:su a b=true) {x:Nat} (ha:x∈a):x∉b:=by
 simp_all[su]
def direct (ops:Array Oper) (j i:Nat):Bool:=match ops[j]? with
 |some o=>o.after.any fun e=>Region.binds .any e&&e.on==i
 |none=>false
abbrev gW:=List (List Nat×List Nat)
def yf (ops:Array Oper) (ts:gW) (i j:Nat):Bool:=
 match ops[i]?,ops[j]?,ts[i]?,ts[j]? with
 |some x,some y,some (ri,mi),some (rj,mj)=>x.apart ops y&&su mi rj&&su mj ri&&su mi mj
 |_,_,_,_=>false
def before (ops:Array Oper):Nat→Nat→Nat→Bool
 |0,j,i=>direct ops j i
 |n+1,j,i=>direct ops j i||match ops[j]? with
  |some o=>o.after.toList.any fun e=>Region.binds .any e&&before ops n e.on i
  |none=>false
def nD (ops:Array Oper) (ts:gW):Bool:=
 (List.range ops.size).all fun j=> (List.range j).all fun i=>yf ops ts i j||before ops 6 j i
def qN (b:Nat) (ops:Array Oper) (ts:gW):Bool:=
 (List.range ops.size).all fun i=> (List.range ops.size).all fun j=>i==j||direct ops i j||match ts[i]? with
  |some (_,mi)=>mi.all fun n=> !(decide (b+8*j≤n)&&decide (n<b+8*j+8))
  |none=>false
def FO (ops:Array Oper):Bool:=(List.range ops.size).all fun j=>match ops[j]? with
 |some o=>o.after.all fun e=> !Region.binds .any e||decide (e.on<j)
 |none=>true
structure Lex (P:aQ) (Sp:Spec) (b:Nat) (ops:Array Oper) (st0:ak) (rs:Nat→Option bc) (ts:gW):Prop where
 step:∀(k:Nat) (o:Oper),ops[k]? =some o→kQ P Sp b ops (ey (fun k st=>gv st (ops[k]?.getD default) (rs k)) (fun j=>decide (j<k)) st0 ops.size) k o=some (rs k)
 name:∀(k:Nat) (o:Oper),ops[k]? =some o→ts[k]? =some (vf (ey (fun k st=>gv st (ops[k]?.getD default) (rs k)) (fun j=>decide (j<k)) st0 ops.size) o (rs k),h_ (rs k))
theorem aDV {st st':ak} {x:aM} (ht:∀t,x= .tmp t→st.tmps[t]? =st'.tmps[t]?) (hg:∀n∈st.raw x,(n∈st.ao ↔ n∈st'.ao)):st.arg x=st'.arg x:=by
 have hl:∀v:V,(∀n∈v.names,(n∈st.ao ↔ n∈st'.ao))→v.live st.ao=v.live st'.ao:=by
  intro v hv;unfold V.live;congr 1;rw[iN];simp only[bk,lO,zD,rS];exact forall_congr' fun n=>forall_congr' fun hn=>not_congr (hv n hn)
 cases x with
 | tmp t=>
  have h1:=ht t rfl;simp only[ak.arg,←h1]
  cases hv:st.tmps[t]? with
  |none=>rfl
  |some v=>
   simp only;rw[hl v (fun n hn=>hg n (by simp only[ak.raw,hv];exact hn))]
 |const v=>
  simp only[ak.arg];rw[hl (.v (ofValue v)) (fun n hn=>hg n (by simp only[ak.raw];exact hn))]
 |_=>rfl
theorem apc {st:ak} {x:aM} {v:V} (h:st.arg x=some v) (hf:∀f,x≠ .func f):st.raw x=v.names:=by
 cases x with
 |tmp t=>
  simp only[ak.arg]at h;split at h
  · rename_i y hy;split at h
    · cases h;simp only[ak.raw,hy]
    · cases h
  · cases h
 |const u=>
  simp only[ak.arg]at h;split at h
  · cases h;rfl
  · cases h
 |func f=>simp_all
 |global=>cases h
theorem axd {st:ak} {op:Op} {n:Nat} (h:n∈st.sy op):n∈st.na op:=by
 cases hop:vn op with
 |false=>
  have e1:st.sy op=(op.operands.toList.filterMap st.arg).flatMap V.names:=by unfold ak.sy;split<;>first|rfl|cases hop
  have e2:st.na op=op.operands.toList.flatMap st.raw:=by unfold ak.na;split<;>first|rfl|cases hop
  rw[e1]at h;rw[e2];obtain⟨v,h1,h2⟩:=uh.1 h;obtain⟨x,h3,h4⟩:=rU.1 h1;refine uh.2 ⟨x,h3,?_⟩;rw[apc h4 (fun f hf=>by subst hf;simp only[ak.arg,im]at h4;subst h4;simp[V.names,V1.names,C.names]at h2)];exact h2
 | true=>
  have e1:st.sy op=[]:=by
   unfold vn at hop;split at hop
   · rfl
   · rfl
   · rfl
   · cases hop
  simp_all
section
variable {P:aQ} {Sp:Spec} {b:Nat} {ops:Array Oper} {st0:ak} {rs:Nat→Option bc} {ts:gW}
abbrev AS (ops:Array Oper) (rs:Nat→Option bc) (st0:ak) (L:Nat→Bool):ak:=ey (fun k st=>gv st (ops[k]?.getD default) (rs k)) L st0 ops.size
def gT (ops:Array Oper) (rs:Nat→Option bc) (t:Nat) (k:Nat) (x:Option V):Option V:=if(ops[k]?.getD default).dst=some t then x.map (fun _=>valOf (rs k))else x
def gB (rs:Nat→Option bc) (α:Nat) (k:Nat) (x:Option cO):Option cO:=((rm (rs k)).jk.lookup α).or x
def gU (rs:Nat→Option bc) (τ:Nat) (k:Nat) (x:Prop):Prop:=τ∈(rm (rs k)).ao∨x
theorem GG (L:Nat→Bool) (t:Nat):(AS ops rs st0 L).tmps[t]? =ey (gT ops rs t) L (st0.tmps[t]?) ops.size:=
 B7 (fun st:ak=>st.tmps[t]?) (fun k st=>acB st _ _ t) ops.size
theorem DO (L:Nat→Bool) (α:Nat):List.lookup α (AS ops rs st0 L).heap=ey (gB rs α) L (List.lookup α st0.heap) ops.size:=
 B7 (g':=gB rs α) (fun st:ak=>List.lookup α st.heap) (fun k st=>Uh st (ops[k]?.getD default) (rs k) α) ops.size
theorem xG (L:Nat→Bool) (τ:Nat):(τ∈(AS ops rs st0 L).ao)=ey (gU rs τ) L (τ∈st0.ao) ops.size:=
 B7 (g':=gU rs τ) (fun st:ak=>τ∈st.ao) (fun k st=>xW st (ops[k]?.getD default) (rs k) τ) ops.size
theorem Nz (L:Nat→Bool):(AS ops rs st0 L).next=st0.next:=by
 have:(AS ops rs st0 L).next=ey (fun _ x=>x) L st0.next ops.size:=B7 (fun st:ak=>st.next) (fun k st=>DQ st _ _) ops.size;rw[this]
 induction ops.size with
 |zero=>rfl
 |succ n ih=>simp only[ey,ih];split<;>rfl
theorem aoM {l:Hp} {α:Nat} (h:α∉l.map (·.1)):l.lookup α=none:=by
 induction l with
 |nil=>rfl
 |cons x l ih=>
  obtain⟨k,c⟩:=x;simp only[bC,cU,not_or]at h;rw[eR,beq_eq_false_iff_ne.2 h.1];exact ih h.2
theorem Ni {α k:Nat} (h:α∉h_ (rs k)):∀x,gB rs α k x=x:=by
 intro x;unfold gB;rw[aoM (fun h'=>h (ui _ h'))];rfl
theorem Eg {τ k:Nat} (h:τ∉h_ (rs k)):∀x,gU rs τ k x=x:=by
 intro x;unfold gU;have:τ∉(rm (rs k)).ao:=fun h'=>h (rR _ h')
 simp[this]
theorem O' {t k:Nat} {o:Oper} (ho:ops[k]? =some o) (h:o.dst≠some t):∀x,gT ops rs t k x=x:=by
 simp_all[gT,eN,aE]
theorem Cd (hL:Lex P Sp b ops st0 rs ts) {i j:Nat} {x y:Oper} (hx:ops[i]? =some x) (hy:ops[j]? =some y) (h:yf ops ts i j=true):
  ∃ri rj,ts[i]? =some (ri,h_ (rs i))∧ts[j]? =some (rj,h_ (rs j))∧x.apart ops y=true∧su (h_ (rs i)) rj=true∧su (h_ (rs j)) ri=true∧su (h_ (rs i)) (h_ (rs j))=true:=by
 have h1:=hL.name i x hx;have h2:=hL.name j y hy;simp_all[yf,bt]
def Shut (ops:Array Oper) (L:Nat→Bool):Prop:=∀j i,L j=true→direct ops j i=true→L i=true
theorem Q4 (hp:nD ops ts=true) {i j:Nat} (CJ:i<j) (hj:j<ops.size):before ops 6 j i=true∨yf ops ts i j=true:=by
 unfold nD at hp;simp only[bk,ko,rV]at hp;exact(hp j hj i CJ).symm
theorem Y3:∀{n j i:Nat},before ops n j i=true→direct ops j i=true∨∃m n',direct ops j m=true∧before ops n' m i=true∧n'<n
 |0,j,i,h=> .inl h
 |n+1,j,i,h=>by
  simp only[before,rV]at h;rcases h with h|h
  · exact .inl h
  · split at h
    · rename_i o ho;simp only[Dh,bt]at h;obtain⟨e,h1,h2,h3⟩:=h;refine .inr ⟨e.on,n,?_,h3,zE n⟩;unfold direct;rw[ho];simp only[Array.any_eq_true',bt,beq_iff_eq];exact⟨e,by simpa using h1,h2,rfl⟩
    · cases h
theorem J' {L:Nat→Bool} (hS:Shut ops L) (n:Nat):∀{j i:Nat},before ops n j i=true→L j=true→L i=true:=by
 induction n using Nat.strongRecOn with
 |_ n ih=>
  intro j i h hj;rcases Y3 h with h| ⟨m,n',h1,h2,h3⟩
  · exact hS j i hj h
  · exact ih n' h3 h2 (hS j m hj h1)
theorem anP {L:Nat→Bool} (hS:Shut ops L) {n j i:Nat} (h:before ops n j i=true) (hr:∀m,direct ops j m=true→L m=true):L i=true:=by
 rcases Y3 h with h| ⟨m,n',h1,h2,h3⟩
 · exact hr i h
 · exact J' hS n' h2 (hr m h1)
theorem aef (hp:nD ops ts=true) {L:Nat→Bool} (hS:Shut ops L) {i k:Nat} (hi:L i=false) (bW:i<ops.size) (fJ:k<ops.size) (hr:∀j,direct ops i j=true→L j=true) (hd:L k≠decide (k<i)):
   (k<i∧yf ops ts k i=true)∨(i<k∧yf ops ts i k=true):=by
 by_cases we:k<i
 · have hk:L k=false:=by simp_all
   rcases Q4 hp we bW with h|h
   · have:=anP hS h hr;rw[hk]at this;cases this
   simp_all
 · have hk:L k=true:=by simp_all
   have hik:i<k:=by
     rcases pX i k with h|h
     · exact h
     · have:k=i:=om;subst this;rw[hi]at hk;cases hk
   rcases Q4 hp hik fJ with h|h
   · have:=J' hS _ h hk;rw[hi]at this;cases this
   simp_all
theorem asG (hL:Lex P Sp b ops st0 rs ts) (hp:nD ops ts=true) {L:Nat→Bool} (hS:Shut ops L) {i:Nat} {o:Oper} (ho:ops[i]? =some o) (hi:L i=false) (hr:∀j,direct ops i j=true→L j=true):
   kQ P Sp b ops (AS ops rs st0 L) i o=some (rs i):=by
 have bW:i<ops.size:=(dY.1 ho).1;have hstep:kQ P Sp b ops (AS ops rs st0 fun j=>decide (j<i)) i o=some (rs i):=hL.step i o ho;have hname:ts[i]? =some (vf (AS ops rs st0 fun j=>decide (j<i)) o (rs i),h_ (rs i)):=hL.name i o ho;have key:∀k,k<ops.size→L k=decide (k<i)∨∃x,ops[k]? =some x∧(∀t,t∈o.looksAt ops→x.dst≠some t)∧∀α,α∈vf (AS ops rs st0 fun j=>decide (j<i)) o (rs i)→α∉h_ (rs k):=by
   intro k hk;by_cases hd:L k=decide (k<i)
   · exact .inl hd
   · right;have hx:ops[k]? =some ops[k]:=pW hk;refine⟨ops[k],hx,?_,?_⟩
     · intro t ht za;rcases aef hp hS hi bW hk hr hd with⟨_,h⟩| ⟨_,h⟩
       · obtain⟨_,_,_,_,h1,_⟩:=Cd hL hx ho h;exact(Oper.apart_spec h1).1 t za ht
       · obtain⟨_,_,_,_,h1,_⟩:=Cd hL ho hx h;exact(Oper.apart_spec h1).2.2 t za ht
     · intro α hα hm;rcases aef hp hS hi bW hk hr hd with⟨_,h⟩| ⟨_,h⟩
       · obtain⟨_,rj,_,h2,_,h3,_⟩:=Cd hL hx ho h;rw[hname]at h2;cases h2;exact Pf h3 hm hα
       · obtain⟨ri,_,h1,_,_,_,h3,_⟩:=Cd hL ho hx h;rw[hname]at h1;cases h1;exact Pf h3 hm hα
 have zb:∀t,t∈o.looksAt ops→(AS ops rs st0 L).tmps[t]? =(AS ops rs st0 fun j=>decide (j<i)).tmps[t]?:=by
   intro t ht;rw[GG,GG];refine tc fun k hk=> ?_
   rcases key k hk with h| ⟨x,hx,h,_⟩
   · exact .inl h
   · simp_all[O']
 have RE:∀α,α∈vf (AS ops rs st0 fun j=>decide (j<i)) o (rs i)→gS (AS ops rs st0 fun j=>decide (j<i)) (AS ops rs st0 L) α:=by
   intro α hα;refine⟨?_,?_⟩
   · rw[DO,DO];refine(tc fun k hk=> ?_).symm;rcases key k hk with h| ⟨x,hx,_,h⟩
     · exact .inl h
     · exact .inr (Ni (h α hα))
   · rw[xG,xG];refine(Iff.of_eq (tc fun k hk=> ?_)).symm;rcases key k hk with h| ⟨x,hx,_,h⟩
     · exact .inl h
     · exact .inr (Eg (h α hα))
 have aGY:tD ops (AS ops rs st0 L) o=tD ops (AS ops rs st0 fun j=>decide (j<i)) o:=by
   unfold tD
   cases hg:o.guard with
   |none=>rfl
   | some y=>
     obtain⟨j,want⟩:=y;simp only
     cases hd:(ops[j]?).bind (·.dst)with
     |none=>rfl
     | some d=>
       simp only;rw[zb d (by
         unfold Oper.looksAt;refine ei.2 (.inr ?_);rw[hg];simp only;rw[hd];simp)]
 unfold kQ at hstep⊢;rw[aGY];split at hstep
 · rename_i hg;simp only[aW]at hstep⊢;obtain⟨r,h1,h2⟩:=hstep;refine⟨r,?_,h2⟩;have gN:∀n,n∈(AS ops rs st0 fun j=>decide (j<i)).na o.op++r.rd→gS (AS ops rs st0 fun j=>decide (j<i)) (AS ops rs st0 L) n:=by
     intro n hn;refine RE n ?_;rw[←h2];exact hn
   refine axa (st:=AS ops rs st0 fun j=>decide (j<i)) (fun hop x hx=> ?_) (fun _ t h3=> ?_) (fun n hn=>gN n (ui _ (axd hn))) (fun n hn=>gN n (rR _ hn)) h1
   · refine aDV (fun t ht=> (zb t ?_).symm) (fun n hn=> (gN n (ui _ ?_)).2)
     · subst ht;unfold Oper.looksAt;exact ei.2 (.inl (rU.2 ⟨.tmp t,hx,rfl⟩))
     · have:(AS ops rs st0 fun j=>decide (j<i)).na o.op=o.op.operands.toList.flatMap (AS ops rs st0 fun j=>decide (j<i)).raw:=by
         unfold ak.na;split<;>first|rfl| (rename_i h;rw[h]at hop;cases hop)
       rw[this];exact uh.2 ⟨x,hx,hn⟩
   · refine(zb t ?_).symm;unfold Oper.looksAt;exact ei.2 (.inl (rU.2 ⟨.tmp t,h3,rfl⟩))
 · exact hstep
 · cases hstep
theorem amb (hL:Lex P Sp b ops st0 rs ts) (hp:nD ops ts=true) {L L':Nat→Bool} (hS:Shut ops L) {i:Nat} {o:Oper} (ho:ops[i]? =some o) (hi:L i=false)
   (hi':L' i=true) (RF:∀k,k≠i→L' k=L k) {X:Fx} {E:Env} {a:Act} {w:av} (h:Rel X E (gv (AS ops rs st0 L) o (rs i)) a w):
   Rel X ⟨E.N,(AS ops rs st0 L').ao⟩ (AS ops rs st0 L') a w:=by
 have bW:i<ops.size:=(dY.1 ho).1;have RG:∀k,i<k→k<ops.size→L k=true→∃x,ops[k]? =some x∧(∀t,o.dst=some t→x.dst≠some t)∧∀α,α∈h_ (rs i)→α∉h_ (rs k):=by
   intro k hik hk hLk;have hx:ops[k]? =some ops[k]:=pW hk;rcases Q4 hp hik hk with hd|hd
   · have:=J' hS _ hd hLk;rw[hi]at this;cases this
   · obtain⟨ri,rj,_,_,h1,_,_,h4⟩:=Cd hL ho hx hd;exact⟨ops[k],hx,fun t ht=> (Oper.apart_spec h1).2.1 t ht,fun α hα=>Pf h4 hα⟩
 refine h.congr ?_ ?_ ?_ ?_
 · intro t;rw[GG,AZ hi hi' RF bW,acB,GG]
   · simp only[gT,ho,eN]
   · by_cases ht:o.dst=some t
     · refine .inl fun k h1 h2 h3=> ?_
       obtain⟨x,hx,h4,_⟩:=RG k h1 h2 h3;exact O' hx (h4 t ht)
     · exact .inr (O' ho ht)
 · intro α;rw[DO,AZ hi hi' RF bW,Uh,DO]
   · rfl
   · by_cases ht:α∈h_ (rs i)
     · refine .inl fun k h1 h2 h3=> ?_
       obtain⟨x,hx,_,h4⟩:=RG k h1 h2 h3;exact Ni (h4 α ht)
     · exact .inr (Ni ht)
 · intro τ;rw[xG,AZ hi hi' RF bW,xW,xG]
   · rfl
   · by_cases ht:τ∈h_ (rs i)
     · refine .inl fun k h1 h2 h3=> ?_
       obtain⟨x,hx,_,h4⟩:=RG k h1 h2 h3;exact Eg (h4 τ ht)
     · exact .inr (Eg ht)
 · rw[Nz,DQ,Nz]
end
end
end
end Go.Proofs.YtndegphojkiblaaGreatDoor
