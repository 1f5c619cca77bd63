/- Towards the last file's theorem: part 7. -/
import Derived.Test.YtndegphojkiblaaGreatDoorG6
set_option linter.unusedSimpArgs false
set_option linter.unusedVariables false
namespace Go.Proofs.YtndegphojkiblaaGreatDoor
section
open Go.RowKit
open Classical
abbrev Spec := Nat → Option (V × Eff × List Nat)
structure Res where
 v : V
 e : Eff
 rd : List Nat
def noE : Eff := ⟨[],[]⟩
def Res.pure (v : V) : Res := ⟨v,noE,[]⟩
def Res.of (x : V × Eff) : Res := ⟨x.1,x.2,[]⟩
def scMin : Value → Value → Option Value
 | .int k x,.int _ y => some (.int k (if y < x then y else x))
 | _,_ => none
def scMax : Value → Value → Option Value
 | .int k x,.int _ y => some (.int k (if y > x then y else x))
 | _,_ => none
noncomputable def evBuiltin (P : Program) (Sp : Spec) (st : ASt) (d : Nat) (b : Builtin) (args : List Operand) (ts : List TypeId) : Option Res :=
 match b,args,ts with
 | .len,[x],[t] => (evLen P st t x).map Res.pure
 | .append,[s,x],[t,t'] => if t = t' then match Sp d with
   | some (.v (.c (.sub _ _ _)),_,_) => (evAppIn P st t s x).map Res.of
   | _ => (evAppend P st d t s x).map Res.of
  else (evAppMake P st d t t' s x).map Res.of
 | .copy,[x,y],[t,_] => (evCopy P st t x y).map Res.of
 | .min,[x,y],_ => match st.arg x,st.arg y with
  | some (.v (.c (.p (.sc u)))),some (.v (.c (.p (.sc v)))) => (scMin u v).map fun r => Res.pure (.sc r)
  | _,_ => none
 | .max,[x,y],_ => match st.arg x,st.arg y with
  | some (.v (.c (.p (.sc u)))),some (.v (.c (.p (.sc v)))) => (scMax u v).map fun r => Res.pure (.sc r)
  | _,_ => none
 | .cap,[x],[t] => match st.arg x,P.underlying t with
  | some (.v (.c .nil)),some (.slice _) => some (Res.pure (.sc (.int .i64 0)))
  | _,_ => none
 | .delete,[m,k],t :: _ => (evMapDel P st t m k).map fun e => ⟨.tup [],e,[]⟩
 | _,_,_ => none
def ASt.callee (st : ASt) : Operand → Option (FuncId × List Nat)
 | .func f => some (f,[])
 | x => match st.arg x with
  | some (.v (.c (.fn f caps))) => some (f,caps)
  | _ => none
noncomputable def evCall (P : Program) (Sp : Spec) (st : ASt) (d : Nat) (x : Operand) (args : List Operand) : Option Res :=
 match st.callee x,args.mapM st.arg1,Sp d with
 | some (f,caps),some xs,some (v,ef,rd) => if CallOK P st d f (xs ++ caps.map fun n => .c (.ptr n 0)) v ef rd then some ⟨v,ef,rd⟩ else none
 | _,_,_ => none
def ASt.cap (st : ASt) (x : Operand) : Option Nat := match st.arg x with
 | some (.v (.c (.ptr n 0))) => some n
 | _ => none
noncomputable def evRes (P : Program) (Sp : Spec) (st : ASt) (d : Nat) (op : Op) : Option Res :=
 match op with
 | .move (.tmp t) => (st.tmps[t]?).map Res.pure
 | .move x => (st.arg x).map Res.pure
 | .assign (.tmp t) => (st.tmps[t]?).map Res.pure
 | .assign x => (st.arg x).map Res.pure
 | .pick c a b => match st.arg c with
  | some (.v (.c (.p (.sc (.bool t))))) => (if t then st.arg a else st.arg b).map Res.pure
  | _ => none
 | .alloc e => (tyZero P e).map fun cs => ⟨.c (.ptr d 0),⟨[(d,.box cs)],[]⟩,[]⟩
 | .box _ x => (st.arg1 x).map fun x => ⟨.c (.ptr d 0),⟨[(d,.box x.cells)],[]⟩,[]⟩
 | .build t parts => (evBuild P st t parts).map Res.pure
 | .buildSlice t len parts => (evLit P st d t len parts.toList).map Res.of
 | .load t x => (evLoad P st t x).map Res.pure
 | .store t x y => (evStore P st t x y).map fun e => ⟨.c .dead,e,[]⟩
 | .nilCheck x => match st.arg x with
  | some (.v (.c (.ptr n o))) => some (.pure (.c (.ptr n o)))
  | some (.v (.c (.eptr n i j))) => some (.pure (.c (.eptr n i j)))
  | some (.v (.c (.ref cells))) => some (.pure (.c (.ref cells)))
  | some (.v (.c (.fn f caps))) => some (.pure (.c (.fn f caps)))
  | _ => none
 | .binOp op t x y _ => match st.arg x,st.arg y with
  | some (.v (.c (.p (.sc u)))),some (.v (.c (.p (.sc v)))) => (scBin (tyB P t) op u v).map fun r => .pure (.sc r)
  | _,_ => none
 | .unOp op _ x => match st.arg x with
  | some (.v (.c (.p (.sc u)))) => (scUn op u).map fun r => .pure (.sc r)
  | _ => none
 | .convert s t x => match evConv P st s t x with
  | some v => some (.pure v)
  | none => (evConvB P st s t x).map Res.of
 | .makeSlice t l c => (evMake P st d t l c).map Res.of
 | .slice t x lo hi none => match evSlice P st t x lo hi with
  | some v => some (.pure v)
  | none => match lo,hi with
   | none,none => (evBoxSl P st t x).map Res.of
   | _,_ => none
 | .makeMap _ none => some ⟨.c (.mp d),⟨[(d,.map [])],[]⟩,[]⟩
 | .mapUpdate t m k x => (evMapSet P st t m k x).map fun e => ⟨.c .dead,e,[]⟩
 | .fieldAddr t x f => (evField P st t x f).map Res.pure
 | .indexAddr t x i => (evIndex P st t x i).map Res.pure
 | .index t x i => match st.arg x,st.arg i,P.underlying t with
  | some (.v (.c (.p (.sc (.string s))))),some (.v (.c (.p (.sc (.int _ i))))),some .string => need (0 ≤ i) (match s[i.toNat]? with
   | some b => some (.pure (.sc (.int .u8 b.toNat)))
   | none => none)
  | some (.v (.agg cs)),some (.v (.c (.p (.sc (.int _ i))))),some (.array n e) => need (0 ≤ i ∧ i < n ∧ tyInfo P e = true) ((readC P e (cs.drop (i.toNat * tySize P e))).map Res.pure)
  | _,_,_ => none
 | .extract (.tmp t) i => match st.tmps[t]? with
  | some (.tup xs) => match xs[i]? with
   | some x => some (.pure (.v x))
   | none => none
  | _ => none
 | .makeFunc (.func f) first captured => if first.size = 0 then (captured.toList.mapM st.cap).map fun ns => .pure (.c (.fn f ns)) else none
 | .call c => match c.callee with
  | .value x => evCall P Sp st d x c.args.toList
  | .builtin b => evBuiltin P Sp st d b c.args.toList c.argTypes.toList
  | _ => none
 | _ => none
theorem run_callFunc {P : Program} {f : FuncId} (h : Own P f) (args : Array Value) (w : World) : (callFunc f args).run P w = .ok (.enter f args) w := by
 obtain ⟨fn,h1,h2,h3⟩ := h.fn
 simp only [callFunc,Sem.run_bind,run_program,Result.andThen_ok,h1,h2,h3,Bool.false_eq_true,if_false,Sem.run_pure]
def After (X : Fx) (E : Env) (st : ASt) (d : Nat) (a : Act) (o : Oper) (r : Res) (next : Act → World → Prop) : Prop :=
 ∀ u w' E',(∀ n,¬ (d ≤ n ∧ n < d + 8) → E.N n = none → E'.N n = none) → Rel X E' (st.eff r.e) a w' → RV X.M E' w' r.v u → next (a.put o.dst u) w'
theorem wp_value {P : Program} {o : Oper} {a : Act} {w w' : World} {next : Act → World → Prop} {Q : Exit → Act → World → Prop} {u : Value}
  (hr : (execOp a.eval o).run P w = .ok (.value u) w') (h : next (a.put o.dst u) w') : o.wp P a w next Q := by
 unfold Oper.wp
 rw [hr]
 exact h
section
variable {X : Fx} {Sp : Spec} {E : Env} {st : ASt} {a : Act} {w : World} {d : Nat} {o : Oper} {r : Res} {next : Act → World → Prop} {Q : Exit → Act → World → Prop}
theorem After.pure (hn : After X E st d a o r next) (h : Rel X E st a w) {v : V} (hr : r = .pure v) {u : Value} (hv : RV X.M E w v u) {s : Sem Value} (h1 : execOp a.eval o = (do let x ← s; Pure.pure (Next.value x))) (h2 : s.run X.P w = .ok u w) : o.wp X.P a w next Q := by
 subst hr
 exact wp_value (u := u) (w' := w) (by rw [h1]; simp [h2]) (hn u w E (fun _ _ h => h) h hv)
theorem After.pure' (hn : After X E st d a o r next) (h : Rel X E st a w) {v : V} (hr : r = .pure v) {u : Value} (hv : RV X.M E w v u) (h1 : (execOp a.eval o).run X.P w = .ok (.value u) w) : o.wp X.P a w next Q := by
 subst hr
 exact wp_value (u := u) (w' := w) h1 (hn u w E (fun _ _ h => h) h hv)
theorem snd_builtin (h : Rel X E st a w) (hF : Free X E st d) {b : Builtin} {args : Array Operand} {ts : Array TypeId} (ho : o.op = .call ⟨.builtin b,args,ts⟩)
   (he : evBuiltin X.P Sp st d b args.toList ts.toList = some r) (hn : After X E st d a o r next) : o.wp X.P a w next Q := by
 have hex : (execOp a.eval o) = (builtin b ts o.type (args.map fun | .const _ => true | _ => false) (args.map a.eval)) := by
   unfold execOp
   rw [ho]
   rfl
 have hd0 := hF d (Nat.le_refl _) (by omega)
 unfold evBuiltin at he
 split at he
 · rename_i x t ha ht
   have ha' : args = #[x] := Array.toList_inj.1 (by simpa using ha)
   have ht' : ts = #[t] := Array.toList_inj.1 (by simpa using ht)
   subst ha' ht'
   simp only [Option.map_eq_some_iff] at he
   obtain ⟨v,hv,rfl⟩ := he
   obtain ⟨u,h1,h2⟩ := snd_len h hv (ty := o.type)
   exact hn.pure' h rfl h2 (by rw [hex]; simp [builtin,h1])
 · rename_i s x t t' ha ht
   have ha' : args = #[s,x] := Array.toList_inj.1 (by simpa using ha)
   have ht' : ts = #[t,t'] := Array.toList_inj.1 (by simpa using ht)
   subst ha' ht'
   split at he
   · rename_i htt
     subst htt
     split at he
     · simp only [Option.map_eq_some_iff] at he
       obtain ⟨⟨v,ef⟩,hv,rfl⟩ := he
       obtain ⟨u,w',h1,h3,h4⟩ := snd_appIn h hv (ty := o.type)
       exact wp_value (u := u) (w' := w') (by rw [hex]; simp [builtin,h1]) (hn u w' E (fun _ _ h => h) h3 h4)
     simp only [Option.map_eq_some_iff] at he
     obtain ⟨⟨v,ef⟩,hv,rfl⟩ := he
     obtain ⟨u,w',E',h1,h2,h3,h4⟩ := snd_append h hd0.1 hd0.2.2.2 hd0.2.2.1 hd0.2.1 hv (ty := o.type)
     exact wp_value (u := u) (w' := w') (by rw [hex]; simp [builtin,h1]) (hn u w' E' (fun n hn' => h2 n (by rintro rfl; exact hn' ⟨Nat.le_refl _,by omega⟩)) h3 h4)
   · simp only [Option.map_eq_some_iff] at he
     obtain ⟨⟨v,ef⟩,hv,rfl⟩ := he
     obtain ⟨u,w',E',h1,h2,h3,h4⟩ := snd_appMake h hd0.1 hd0.2.2.2 hd0.2.2.1 hv (ty := o.type)
     exact wp_value (u := u) (w' := w') (by rw [hex]; simp [builtin,h1]) (hn u w' E' (fun n hn' => h2 n (by rintro rfl; exact hn' ⟨Nat.le_refl _,by omega⟩)) h3 h4)
 · rename_i x y t t' ha ht
   have ha' : args = #[x,y] := Array.toList_inj.1 (by simpa using ha)
   have ht' : ts = #[t,t'] := Array.toList_inj.1 (by simpa using ht)
   subst ha' ht'
   simp only [Option.map_eq_some_iff] at he
   obtain ⟨⟨v,ef⟩,hv,rfl⟩ := he
   obtain ⟨u,w',h1,h3,h4⟩ := snd_copy h hv (ty := o.type) (t2 := t')
   exact wp_value (u := u) (w' := w') (by rw [hex]; simp [builtin,h1]) (hn u w' E (fun _ _ h => h) h3 h4)
 · rename_i _ x y ha
   have ha' : args = #[x,y] := Array.toList_inj.1 (by simpa using ha)
   subst ha'
   split at he
   · rename_i u v hx hy
     have k1 := RP.sc_eq (h.argc hx).1
     have k2 := RP.sc_eq (h.argc hy).1
     simp only [Option.map_eq_some_iff] at he
     obtain ⟨q,hq,rfl⟩ := he
     unfold scMin at hq
     split at hq
     · simp at hq; subst hq
       refine hn.pure' h rfl (.sc rfl) ?_
       rw [hex]
       simp [builtin,k1,k2,Builtin.min_,Builtin.min2]
     · cases hq
   · cases he
 · rename_i _ x y ha
   have ha' : args = #[x,y] := Array.toList_inj.1 (by simpa using ha)
   subst ha'
   split at he
   · rename_i u v hx hy
     have k1 := RP.sc_eq (h.argc hx).1
     have k2 := RP.sc_eq (h.argc hy).1
     simp only [Option.map_eq_some_iff] at he
     obtain ⟨q,hq,rfl⟩ := he
     unfold scMax at hq
     split at hq
     · simp at hq; subst hq
       refine hn.pure' h rfl (.sc rfl) ?_
       rw [hex]
       simp [builtin,k1,k2,Builtin.max_,Builtin.max2]
     · cases hq
   · cases he
 · rename_i x t ha ht
   have ha' : args = #[x] := Array.toList_inj.1 (by simpa using ha)
   have ht' : ts = #[t] := Array.toList_inj.1 (by simpa using ht)
   subst ha' ht'
   split at he
   · rename_i e hx hu
     cases he
     have k1 := (h.argc hx).1
     refine hn.pure' h rfl (.sc rfl) ?_
     rw [hex]
     simp only [RC] at k1
     simp [builtin,k1,Builtin.cap_,run_underlying hu,goInt]
   · cases he
 · rename_i m k t tl ha ht
   have ha' : args = #[m,k] := Array.toList_inj.1 (by simpa using ha)
   have ht' : ts = (t :: tl).toArray := Array.toList_inj.1 (by simpa using ht)
   subst ha' ht'
   simp only [Option.map_eq_some_iff] at he
   obtain ⟨ef,hv,rfl⟩ := he
   obtain ⟨w',h1,h3⟩ := snd_mapDel h hv (ts := tl) (ty := o.type)
   exact wp_value (u := .tuple #[]) (w' := w') (by rw [hex]; simp [builtin,h1]) (hn _ w' E (fun _ _ h => h) h3 ⟨#[],rfl,rfl,by simp⟩)
 · cases he
theorem mapM_arg1 (h : Rel X E st a w) {args : List Operand} {xs : List V1} (hx : args.mapM st.arg1 = some xs) : args.length = xs.length ∧ ∀ (i : Nat) (x : V1),xs[i]? = some x → ∃ u,(args.map a.eval)[i]? = some u ∧ RV1 X.M E w x u := by
 obtain ⟨h1,h2⟩ := mapM_get hx
 refine ⟨h1.symm,fun i x hi => ?_⟩
 obtain ⟨o,h3,h4⟩ := h2 i x hi
 exact ⟨a.eval o,by rw [List.getElem?_map,h3]; rfl,(h.arg1 h4).1⟩
theorem snd_callop (h : Rel X E st a w) (hF : Free X E st d) {x : Operand} {args : Array Operand} {ts : Array TypeId} (ho : o.op = .call ⟨.value x,args,ts⟩)
   (he : evCall X.P Sp st d x args.toList = some r) (hn : After X E st d a o r next) : o.wp X.P a w next Q := by
 unfold evCall at he
 split at he
 · rename_i f caps xs v ef rd hf hxs hsp
   split at he
   · rename_i hc
     cases he
     obtain ⟨hl,hxv⟩ := mapM_arg1 h hxs
     have hfe : ∃ us : Array Value,a.eval x = .func (.func f) #[] us ∧ us.size = caps.length ∧ ∀ (i n : Nat),caps[i]? = some n → ∃ u,us[i]? = some u ∧ Nmd E n fun x => ∃ g,x.g = some g ∧ u = .pointer (some ⟨g,0,none⟩) := by
      unfold ASt.callee at hf
      split at hf
      · cases hf
        exact ⟨#[],by simp [Act.eval],rfl,fun i n hi => by simp at hi⟩
      · split at hf
        · rename_i hx
          cases hf
          exact (h.argc hx).1
        · cases hf
     obtain ⟨us,hf1,hf2,hf3⟩ := hfe
     have hvals : (args.map a.eval ++ us).size = (xs ++ caps.map fun n => V1.c (.ptr n 0)).length := by simp [hf2,← hl]
     have hcall := snd_call h hF (vals := args.map a.eval ++ us) hvals (fun i y hi => by
      rw [List.getElem?_append] at hi
      rw [Array.getElem?_append]
      simp only [Array.size_map]
      have e1 : args.size = xs.length := by rw [← hl]; simp
      split at hi
      · rename_i hlt
        rw [if_pos (by omega)]
        obtain ⟨u,h1,h2⟩ := hxv i y hi
        exact ⟨u,by rw [← Array.getElem?_toList]; simpa using h1,h2⟩
      · rename_i hlt
        rw [if_neg (by omega)]
        simp only [List.getElem?_map,Option.map_eq_some_iff] at hi
        obtain ⟨n,hn',rfl⟩ := hi
        obtain ⟨u,h1,h2⟩ := hf3 _ n hn'
        refine ⟨u,by rw [e1]; exact h1,h2⟩) hc
     have hex : (execOp a.eval o).run X.P w = .ok (.enter f (args.map a.eval ++ us)) w := by
      unfold execOp; rw [ho]
      simp [resolve,Deferred.ofValue,hf1,invoke,run_callFunc hcall.1]
     unfold Oper.wp
     rw [hex,Oper.upon_enter]
     refine hcall.2.mono ?_
     rintro _ w' ⟨u,E',rfl,k1,k2,k3⟩
     exact hn u w' E' k1 k2 k3
   · cases he
 · cases he
set_option maxHeartbeats 4000000 in
theorem snd (h : Rel X E st a w) (hF : Free X E st d)
  (he : evRes X.P Sp st d o.op = some r) (hn : After X E st d a o r next) : o.wp X.P a w next Q := by
 have hd0 := hF d (Nat.le_refl _) (by omega)
 have hdn : ∀ n,¬ (d ≤ n ∧ n < d + 8) → n ≠ d := fun n hn' => by rintro rfl; exact hn' ⟨Nat.le_refl _,by omega⟩
 cases hop : o.op with
 | move x =>
  rw [hop] at he
  cases x with
  | tmp t =>
    simp only [evRes,Option.map_eq_some_iff] at he
    obtain ⟨v,hv,rfl⟩ := he
    obtain ⟨u,h1,h2⟩ := h.tmps t _ hv
    have e1 : a.eval (.tmp t) = u := by simp [Act.eval,h1]
    exact hn.pure' h rfl (u := a.eval (.tmp t)) (by rw [e1]; exact h2) (by unfold execOp; rw [hop]; rfl)
  | _ =>
    simp only [evRes,Option.map_eq_some_iff] at he
    obtain ⟨v,hv,rfl⟩ := he
    exact hn.pure' h rfl (h.arg hv).1 (by unfold execOp; rw [hop]; rfl)
 | assign x =>
  rw [hop] at he
  cases x with
  | tmp t =>
    simp only [evRes,Option.map_eq_some_iff] at he
    obtain ⟨v,hv,rfl⟩ := he
    obtain ⟨u,h1,h2⟩ := h.tmps t _ hv
    have e1 : a.eval (.tmp t) = u := by simp [Act.eval,h1]
    exact hn.pure' h rfl (u := a.eval (.tmp t)) (by rw [e1]; exact h2) (by unfold execOp; rw [hop]; rfl)
  | _ =>
    simp only [evRes,Option.map_eq_some_iff] at he
    obtain ⟨v,hv,rfl⟩ := he
    exact hn.pure' h rfl (h.arg hv).1 (by unfold execOp; rw [hop]; rfl)
 | pick c x y =>
  rw [hop] at he
  simp only [evRes] at he
  split at he
  · rename_i t hc
    have k1 := RP.sc_eq (h.argc hc).1
    simp only [Option.map_eq_some_iff] at he
    obtain ⟨v,hv,rfl⟩ := he
    refine hn.pure' h rfl (u := if t then a.eval x else a.eval y) ?_ (by unfold execOp; rw [hop]; simp [k1,asBool])
    cases t
    · simp at hv; simpa using (h.arg hv).1
    · simp at hv; simpa using (h.arg hv).1
  · cases he
 | alloc e =>
  rw [hop] at he
  simp only [evRes,Option.map_eq_some_iff] at he
  obtain ⟨cs,hcs,rfl⟩ := he
  obtain ⟨i,z,hi,hz,hzr⟩ := tyZero_told (M := X.M) (E := E) (w := w) hcs
  have hb := h.fresh (w' := w.alloc (.cells z.cells e)) d hd0.1 hd0.2.2.2 hd0.2.2.1 ((Below.refl _ _).alloc (Nat.le_refl _) _) (x := ⟨some w.heap.size,0,0,0⟩) (.inr ⟨rfl,by simp⟩) (.box cs) (fun hG =>
    ⟨⟨some w.heap.size,0,0,0⟩,w.heap.size,z.cells,e,by simp [Env.add],rfl,heap_alloc_new w _,hzr.1,fun i c hi => let ⟨u,h1,h2,h3⟩ := hzr.2 i c hi; ⟨u,h1,h2.goes hG,h3⟩⟩)
  refine wp_value (u := .pointer (some ⟨w.heap.size,0,none⟩)) (w' := w.alloc (.cells z.cells e)) ?_ (hn _ _ _ (fun n hn' hE => by rw [Env.add_other (hdn n hn')]; exact hE) hb.2 (.inr ⟨⟨some w.heap.size,0,0,0⟩,by simp [Env.add],_,rfl,rfl⟩))
  unfold execOp; rw [hop]
  simp [Instr.alloc,zeroValue,typeInfo,hi,hz,newVar,newRow]
 | box e x =>
  rw [hop] at he
  simp only [evRes,Option.map_eq_some_iff] at he
  obtain ⟨y,hy,rfl⟩ := he
  obtain ⟨k1,k2⟩ := h.arg1 hy
  obtain ⟨k3,k4⟩ := RV1.cells k1 (by rw [h.gone]; exact k2)
  have hb := h.fresh (w' := w.alloc (.cells (a.eval x).cells e)) d hd0.1 hd0.2.2.2 hd0.2.2.1 ((Below.refl _ _).alloc (Nat.le_refl _) _) (x := ⟨some w.heap.size,0,0,0⟩) (.inr ⟨rfl,by simp⟩) (.box y.cells) (fun hG =>
    ⟨⟨some w.heap.size,0,0,0⟩,w.heap.size,(a.eval x).cells,e,by simp [Env.add],rfl,heap_alloc_new w _,k3,fun i c hi => let ⟨u,h1,h2,h3⟩ := k4 i c hi; ⟨u,h1,h2.goes hG,h3⟩⟩)
  refine wp_value (u := .pointer (some ⟨w.heap.size,0,none⟩)) (w' := w.alloc (.cells (a.eval x).cells e)) ?_ (hn _ _ _ (fun n hn' hE => by rw [Env.add_other (hdn n hn')]; exact hE) hb.2 (.inr ⟨⟨some w.heap.size,0,0,0⟩,by simp [Env.add],_,rfl,rfl⟩))
  unfold execOp; rw [hop]
  simp [Instr.box,newVar,newRow]
 | build t parts =>
  rw [hop] at he
  simp only [evRes,Option.map_eq_some_iff] at he
  obtain ⟨v,hv,rfl⟩ := he
  obtain ⟨u,h1,h2⟩ := snd_build h hv
  exact hn.pure h rfl h2 (s := Instr.build t (parts.map fun x => (x.1,a.eval x.2))) (by unfold execOp; rw [hop]) h1
 | buildSlice t len parts =>
  rw [hop] at he
  simp only [evRes,Option.map_eq_some_iff] at he
  obtain ⟨⟨v,ef⟩,hv,rfl⟩ := he
  obtain ⟨u,w',E',h1,h2,h3,h4⟩ := snd_lit h hd0.1 hd0.2.2.2 hd0.2.2.1 hv
  exact wp_value (u := u) (w' := w') (by unfold execOp; rw [hop]; simp [h1]) (hn u w' E' (fun n hn' => h2 n (hdn n hn')) h3 h4)
 | load t x =>
  rw [hop] at he
  simp only [evRes,Option.map_eq_some_iff] at he
  obtain ⟨v,hv,rfl⟩ := he
  obtain ⟨u,h1,h2⟩ := snd_load h hv
  exact hn.pure h rfl h2 (s := Instr.loadAt t (a.eval x)) (by unfold execOp; rw [hop]) h1
 | store t x y =>
  rw [hop] at he
  simp only [evRes,Option.map_eq_some_iff] at he
  obtain ⟨ef,hv,rfl⟩ := he
  obtain ⟨w',E',h1,h2,h3⟩ := snd_store h hv
  have hex : (execOp a.eval o).run X.P w = .ok .skip w' := by unfold execOp; rw [hop]; simp [h1]
  unfold Oper.wp
  rw [hex]
  exact hn undef w' E' (fun n _ => h2 n) h3 trivial
 | nilCheck x =>
  rw [hop] at he
  simp only [evRes] at he
  split at he
  · rename_i n off hx
    cases he
    have hh := (h.argc hx).1
    obtain ⟨y,k1,g,k2,k3⟩ := Nmd.get hh (h.argn hx (n := n) (by simp [C.names]))
    exact hn.pure' h rfl (u := a.eval x) hh (by unfold execOp; rw [hop]; simp [k3])
  · rename_i n i j hx
    cases he
    have hh := (h.argc hx).1
    obtain ⟨y,k1,k4,g,k2,k3⟩ := Nmd.get hh (h.argn hx (n := n) (by simp [C.names]))
    exact hn.pure' h rfl (u := a.eval x) hh (by unfold execOp; rw [hop]; simp [k3])
  · rename_i cells hx
    cases he
    have hh := (h.argc hx).1
    obtain ⟨g,o',k1,k2⟩ := hh
    exact hn.pure' h rfl (u := a.eval x) (h.argc hx).1 (by unfold execOp; rw [hop]; simp [k1])
  · rename_i f caps hx
    cases he
    have hh := (h.argc hx).1
    obtain ⟨us,k1,k2⟩ := hh
    exact hn.pure' h rfl (u := a.eval x) (h.argc hx).1 (by unfold execOp; rw [hop]; simp [k1])
  · cases he
 | binOp op t x y yt =>
  rw [hop] at he
  simp only [evRes] at he
  split at he
  · rename_i u v hx hy
    simp only [Option.map_eq_some_iff] at he
    obtain ⟨q,hq,rfl⟩ := he
    have k1 := RP.sc_eq (h.argc hx).1
    have k2 := RP.sc_eq (h.argc hy).1
    exact hn.pure h rfl (v := .sc q) (RP.sc (flat_scBin hq)) (s := do eqGuard op t x y u v; binOp op t u v) (by unfold execOp; rw [hop]; simp [k1,k2]) (run_scBin t x y hq w)
  · cases he
 | unOp op t x =>
  rw [hop] at he
  simp only [evRes] at he
  split at he
  · rename_i u hx
    simp only [Option.map_eq_some_iff] at he
    obtain ⟨q,hq,rfl⟩ := he
    have k1 := RP.sc_eq (h.argc hx).1
    have k2 := snd_un (P := X.P) hq w
    exact hn.pure h rfl (v := .sc q) (RP.sc k2.2) (s := Op.unary op (a.eval x)) (by unfold execOp; rw [hop]) (by rw [k1]; exact k2.1)
  · cases he
 | convert s t x =>
  rw [hop] at he
  simp only [evRes] at he
  split at he
  · rename_i v hv
    cases he
    obtain ⟨u,h1,h2⟩ := snd_conv h hv
    exact hn.pure h rfl h2 (s := convert s t (a.eval x)) (by unfold execOp; rw [hop]) h1
  · simp only [Option.map_eq_some_iff] at he
    obtain ⟨⟨v,ef⟩,hv,rfl⟩ := he
    obtain ⟨u,w',h1,h2,h3⟩ := snd_convB h hv
    exact wp_value (u := u) (w' := w') (by unfold execOp; rw [hop]; simp [h1]) (hn u w' E (fun _ _ h => h) h2 h3)
 | makeSlice t l c =>
  rw [hop] at he
  simp only [evRes,Option.map_eq_some_iff] at he
  obtain ⟨⟨v,ef⟩,hv,rfl⟩ := he
  obtain ⟨u,w',E',h1,h2,h3,h4⟩ := snd_make h hd0.1 hd0.2.2.2 hd0.2.2.1 hv
  exact wp_value (u := u) (w' := w') (by unfold execOp; rw [hop]; simp [h1]) (hn u w' E' (fun n hn' => h2 n (hdn n hn')) h3 h4)
 | slice t x lo hi mx =>
  rw [hop] at he
  cases mx with
  | some _ => simp [evRes] at he
  | none =>
    simp only [evRes] at he
    split at he
    · rename_i v hv
      cases he
      obtain ⟨u,h1,h2⟩ := snd_slice h hv
      exact hn.pure h rfl h2 (s := Instr.sliceAt t (a.eval x) (lo.map a.eval) (hi.map a.eval) none) (by unfold execOp; rw [hop]; rfl) h1
    · split at he
      · simp only [Option.map_eq_some_iff] at he
        obtain ⟨⟨v,ef⟩,hv,rfl⟩ := he
        obtain ⟨u,E',h1,h2,h3,h4⟩ := snd_boxSl h hv
        exact wp_value (u := u) (w' := w) (by unfold execOp; rw [hop]; simp [h1]) (hn u w E' (fun n _ => h2 n) h3 h4)
      · cases he
 | makeMap t r =>
  rw [hop] at he
  cases r with
  | some _ => simp [evRes] at he
  | none =>
    simp only [evRes,Option.some.injEq] at he
    subst he
    have hb := h.fresh (w' := w.alloc (.map #[] 0)) d hd0.1 hd0.2.2.2 hd0.2.2.1 ((Below.refl _ _).alloc (Nat.le_refl _) _) (x := ⟨some w.heap.size,0,0,0⟩) (.inr ⟨rfl,by simp⟩) (.map []) (fun hG =>
      ⟨⟨some w.heap.size,0,0,0⟩,w.heap.size,#[],0,by simp [Env.add],rfl,heap_alloc_new w _,by simp⟩)
    refine wp_value (u := .map (some w.heap.size)) (w' := w.alloc (.map #[] 0)) ?_ (hn _ _ _ (fun n hn' hE => by rw [Env.add_other (hdn n hn')]; exact hE) hb.2 (.inr ⟨⟨some w.heap.size,0,0,0⟩,by simp [Env.add],_,rfl,rfl⟩))
    unfold execOp; rw [hop]
    simp [Instr.makeMap]
 | mapUpdate t m k x =>
  rw [hop] at he
  simp only [evRes,Option.map_eq_some_iff] at he
  obtain ⟨ef,hv,rfl⟩ := he
  obtain ⟨w',h1,h2⟩ := snd_mapSet h hv
  have hex : (execOp a.eval o).run X.P w = .ok .skip w' := by unfold execOp; rw [hop]; simp [h1]
  unfold Oper.wp
  rw [hex]
  exact hn undef w' E (fun _ _ h => h) h2 trivial
 | fieldAddr t x f =>
  rw [hop] at he
  simp only [evRes,Option.map_eq_some_iff] at he
  obtain ⟨v,hv,rfl⟩ := he
  obtain ⟨u,h1,h2⟩ := snd_field h hv
  exact hn.pure h rfl h2 (s := Instr.fieldAt t (a.eval x) f) (by unfold execOp; rw [hop]) h1
 | indexAddr t x i =>
  rw [hop] at he
  simp only [evRes,Option.map_eq_some_iff] at he
  obtain ⟨v,hv,rfl⟩ := he
  obtain ⟨u,h1,h2⟩ := snd_index h hv
  exact hn.pure h rfl h2 (s := Instr.indexAt t (a.eval x) (a.eval i)) (by unfold execOp; rw [hop]) h1
 | index t x i =>
  rw [hop] at he
  simp only [evRes] at he
  split at he
  · rename_i s k i' hx hi hu
    unfold need at he
    have k1 := RP.sc_eq (h.argc hx).1
    have k2 := RP.sc_eq (h.argc hi).1
    split at he
    · rename_i h0
      split at he
      · rename_i b hb
        cases he
        refine hn.pure h rfl (v := .sc (.int .u8 b.toNat)) (u := .int .u8 b.toNat) (RP.sc rfl) (s := Instr.index t (a.eval x) (a.eval i)) (by unfold execOp; rw [hop]) ?_
        rw [k1,k2]
        simp [Instr.index,asIntOf,run_underlying hu,h0,hb]
      · cases he
    · cases he
  · rename_i cs k i' n e hx hi hu
    unfold need at he
    have k2 := RP.sc_eq (h.argc hi).1
    obtain ⟨us,k1,k3,k4⟩ := (h.arg hx).1
    split at he
    · rename_i h0
      obtain ⟨h1,h2,h3⟩ := h0
      simp only [Option.map_eq_some_iff] at he
      obtain ⟨v,hv,rfl⟩ := he
      obtain ⟨u,h4,h5⟩ := run_part_told (w := w) hv k3 k4
      refine hn.pure h rfl h5 (s := Instr.index t (a.eval x) (a.eval i)) (by unfold execOp; rw [hop]) ?_
      rw [k1,k2]
      simp only [Instr.index,asIntOf,Sem.run_bind,Sem.run_pure,Result.andThen_ok,run_underlying hu,if_pos (And.intro h1 h2),run_sizeOf w h3]
      exact h4
    · cases he
  · cases he
 | extract t i =>
  rw [hop] at he
  cases t with
  | tmp t =>
    simp only [evRes] at he
    split at he
    · rename_i xs hx
      split at he
      · rename_i x hxi
        cases he
        obtain ⟨u,h1,us,h2,h3,h4⟩ := h.tmps t _ hx
        subst h2
        obtain ⟨u',h5,h6⟩ := h4 i x hxi
        refine hn.pure h rfl (v := .v x) (u := u') h6 (s := Instr.extract (a.eval (.tmp t)) i) (by unfold execOp; rw [hop]) ?_
        simp [Act.eval,Array.getD_eq_getD_getElem?,h1,Instr.extract,h5]
      · cases he
    · cases he
  | const => simp [evRes] at he
  | global => simp [evRes] at he
  | func => simp [evRes] at he
 | makeFunc fn first captured =>
  rw [hop] at he
  cases fn with
  | func f =>
    simp only [evRes] at he
    split at he
    · rename_i hz
      simp only [Option.map_eq_some_iff] at he
      obtain ⟨ns,hns,rfl⟩ := he
      have hfe : first = #[] := Array.eq_empty_of_size_eq_zero hz
      obtain ⟨h1,h2⟩ := mapM_get hns
      refine hn.pure' h rfl (v := .c (.fn f ns)) (u := .func (.func f) #[] (captured.map a.eval)) ⟨_,rfl,by simp [h1],fun i n hi => ?_⟩ (by unfold execOp; rw [hop]; simp [Instr.makeFunc,hfe])
      obtain ⟨x,h3,h4⟩ := h2 i n hi
      rw [Array.getElem?_toList] at h3
      refine ⟨a.eval x,by rw [Array.getElem?_map,h3]; rfl,?_⟩
      unfold ASt.cap at h4
      split at h4
      · rename_i hx
        cases h4
        exact (h.argc hx).1
      · cases h4
    · cases he
  | _ => simp [evRes] at he
 | call c =>
  obtain ⟨callee,args,ts⟩ := c
  rw [hop] at he
  cases callee with
  | builtin b => exact snd_builtin h hF hop (by simpa [evRes] using he) hn
  | invoke => simp [evRes] at he
  | value f => exact snd_callop h hF hop (by simpa [evRes] using he) hn
 | _ => rw [hop] at he; simp [evRes] at he
end
end
section
open Go.RowKit
open Classical
def looseOp : Op → Bool
 | .extract _ _ => true
 | .move (.tmp _) => true
 | .assign (.tmp _) => true
 | _ => false
def ASt.touch (st : ASt) : Op → List Nat
 | .extract _ _ => []
 | .move (.tmp _) => []
 | .assign (.tmp _) => []
 | op => (op.operands.toList.filterMap st.arg).flatMap V.names
def Agree (st st' : ASt) (n : Nat) : Prop := st.heap.lookup n = st'.heap.lookup n ∧ (n ∈ st.gone ↔ n ∈ st'.gone)
section
variable {st st' : ASt}
theorem view_congr {c : C} (h : ∀ n ∈ c.names,Agree st st' n) : st.view c = st'.view c := by
 cases c with
 | own n => simp only [ASt.view,(h n (by simp [C.names])).1]
 | sub n lo len => simp only [ASt.view,(h n (by simp [C.names])).1]
 | p q => cases q <;> rfl
 | _ => rfl
theorem elem_congr {c : C} {size i : Nat} (h : ∀ n ∈ c.names,Agree st st' n) : st.elem size i c = st'.elem size i c := by
 cases c with
 | own n => simp only [ASt.elem,(h n (by simp [C.names])).1]
 | sub n lo len => simp only [ASt.elem,(h n (by simp [C.names])).1]
 | p q => cases q <;> rfl
 | _ => rfl
theorem part_congr {c : C} {size l k : Nat} (h : ∀ n ∈ c.names,Agree st st' n) : st.part size l k c = st'.part size l k c := by
 cases c with
 | own n => simp only [ASt.part,(h n (by simp [C.names])).1]
 | sub n lo len => simp only [ASt.part,(h n (by simp [C.names])).1]
 | p q => cases q <;> rfl
 | _ => rfl
theorem clen_congr {c : C} (h : ∀ n ∈ c.names,Agree st st' n) : st.clen c = st'.clen c := by
 cases c with
 | sub n lo len => rfl
 | _ => simp only [ASt.clen]; rw [view_congr h]
theorem sink_congr {c : C} (h : ∀ n ∈ c.names,Agree st st' n) : st.sink c = st'.sink c := by
 cases c with
 | own n => simp only [ASt.sink,(h n (by simp [C.names])).1]
 | sub n lo len => simp only [ASt.sink,(h n (by simp [C.names])).1]
 | _ => rfl
theorem sinks_congr : ∀ {cs : List C},(∀ c ∈ cs,∀ n ∈ c.names,Agree st st' n) → st.sinks cs = st'.sinks cs
 | [],_ => rfl
 | c :: cs,h => by
  have h1 := sink_congr (h c (by simp))
  have h2 := sinks_congr (cs := cs) (fun c' hc' => h c' (by simp [hc']))
  simp only [ASt.sinks,h1,h2]
theorem appSrc_congr {e : TypeId} {c : C} (h : ∀ n ∈ c.names,Agree st st' n) : st.appSrc e c = st'.appSrc e c := by
 cases c with
 | own n => simp only [ASt.appSrc,(h n (by simp [C.names])).1]
 | sub n lo len => cases lo <;> simp only [ASt.appSrc,(h n (by simp [C.names])).1]
 | _ => rfl
theorem arg1_congr {x : Operand} (h : st.arg x = st'.arg x) : st.arg1 x = st'.arg1 x := by unfold ASt.arg1; rw [h]
theorem cells_names (y : V1) : ∀ c ∈ y.cells,∀ n ∈ c.names,n ∈ y.names := by
 cases y with
 | c c => intro c' hc' n hn; simp [V1.cells] at hc'; subst hc'; exact hn
 | agg cs => intro c hc n hn; exact List.mem_flatMap.2 ⟨c,hc,hn⟩
theorem lits_congr : ∀ {xs : List Operand},(∀ x ∈ xs,st.arg x = st'.arg x ∧ ∀ v,st.arg x = some v → ∀ n ∈ v.names,Agree st st' n) → st.lits xs = st'.lits xs
 | [],_ => rfl
 | x :: xs,h => by
  simp only [ASt.lits]
  rw [lits_congr (xs := xs) (fun y hy => h y (by simp [hy])),← arg1_congr (h x (by simp)).1]
  cases hx : st.arg1 x with
  | none => rfl
  | some y =>
   have : st.arg x = some (.v y) := by
    unfold ASt.arg1 at hx
    split at hx
    · rename_i hh; rw [hh]; cases hx; rfl
    · cases hx
   simp only [sinks_congr (fun c hc n hn => (h x (by simp)).2 _ this n (cells_names y c hc n hn))]
theorem mapM_congr' {α β : Type} {f g : α → Option β} : ∀ {l : List α},(∀ x ∈ l,f x = g x) → l.mapM f = l.mapM g
 | [],_ => rfl
 | x :: l,h => by
  simp only [List.mapM_cons,h x (by simp),mapM_congr' (l := l) (fun y hy => h y (by simp [hy]))]
theorem num_congr {o : Option Operand} {k : Int} (h : ∀ x,o = some x → st.arg x = st'.arg x) : st.num o k = st'.num o k := by
 cases o with
 | none => rfl
 | some x => simp only [ASt.num,h x rfl]
theorem fitC_congr {ι L : List Nat} {c' c : C} (hL : ∀ n ∈ L,Agree st st' n) (h : fitC st ι L c' c) : fitC st' ι L c' c := by
 cases c' with
 | p q =>
  rcases h with h | ⟨rows,h1,h2,h3⟩
  · exact .inl h
  · exact .inr ⟨rows,h1,by rw [← view_congr (fun n hn => hL n (h3 n hn))]; exact h2,h3⟩
 | dead => trivial
 | _ => exact h
theorem fitV_congr {ι L : List Nat} {x' x : V1} (hL : ∀ n ∈ L,Agree st st' n) (h : fitV st ι L x' x) : fitV st' ι L x' x := by
 cases x' with
 | c c' =>
  cases x with
  | c c => exact fitC_congr hL h
  | agg => exact h.elim
 | agg cs' =>
  cases x with
  | c => exact h.elim
  | agg cs => exact ⟨h.1,fun i c' hi => let ⟨c,h1,h2⟩ := h.2 i c' hi; ⟨c,h1,fitC_congr hL h2⟩⟩
theorem fitB_congr {ι L : List Nat} {b' b : Blk} (hL : ∀ n ∈ L,Agree st st' n) (h : fitB st ι L b' b) : fitB st' ι L b' b := by
 cases b' with
 | box cs' =>
  cases b with
  | box cs => exact ⟨h.1,fun i c' hi => let ⟨c,h1,h2⟩ := h.2 i c' hi; ⟨c,h1,fitC_congr hL h2⟩⟩
  | _ => exact h.elim
 | row => cases b <;> exact h
 | map => cases b <;> exact h
theorem callOK_congr {P : Program} {d : Nat} {f : FuncId} {xs : List V1} {v : V} {ef : Eff} {rd : List Nat} (ha : ∀ n ∈ rd,Agree st st' n) (h : CallOK P st d f xs v ef rd) : CallOK P st' d f xs v ef rd := by
 obtain ⟨cargs,H,r,H',ι,L,hA,hlen,hnd,hxl,hfit,hfitb,hι,hL,hr8,hH8,hrH,hHH,hmode,hgι,hgs,hgd,hv,hupd,rfl⟩ := h
 have hLa : ∀ n ∈ L,Agree st st' n := fun n hn => ha n (List.mem_append_right _ hn)
 have hιa : ∀ n ∈ ι,Agree st st' n := fun n hn => ha n (List.mem_append_left _ hn)
 refine ⟨cargs,H,r,H',ι,L,hA,hlen,hnd,hxl,fun i x' hi => ?_,fun i b' hi => ?_,fun n hn => ⟨fun hg => (hι n hn).1 ((hιa n hn).2.2 hg),(hι n hn).2⟩,fun n hn hg => hL n hn ((hLa n hn).2.2 hg),hr8,hH8,hrH,hHH,hmode,hgι,hgs,hgd,hv,hupd,rfl⟩
 · obtain ⟨x,h1,h2⟩ := hfit i x' hi
   exact ⟨x,h1,fitV_congr hLa h2⟩
 · obtain ⟨n,b,h1,h2,h3⟩ := hfitb i b' hi
   exact ⟨n,b,h1,by rw [← (hιa n (List.mem_of_getElem? h1)).1]; exact h2,fitB_congr hLa h3⟩
theorem touch_mem {op : Op} {x : Operand} {v : V} (hop : looseOp op = false) (hx : x ∈ op.operands.toList) (hv : st.arg x = some v) {n : Nat} (hn : n ∈ v.names) : n ∈ st.touch op := by
 have : st.touch op = (op.operands.toList.filterMap st.arg).flatMap V.names := by unfold ASt.touch; split <;> first | rfl | cases hop
 rw [this]
 exact List.mem_flatMap.2 ⟨v,List.mem_filterMap.2 ⟨x,hx,hv⟩,hn⟩
theorem evRes_congr {P : Program} {Sp : Spec} {d : Nat} {op : Op} {r : Res} (ha' : looseOp op = false → ∀ x ∈ op.operands.toList,st.arg x = st'.arg x) (hx : looseOp op = true → ∀ t,Operand.tmp t ∈ op.operands.toList → st.tmps[t]? = st'.tmps[t]?)
  (ht : ∀ n ∈ st.touch op,Agree st st' n) (hr : ∀ n ∈ r.rd,Agree st st' n) (he : evRes P Sp st d op = some r) : evRes P Sp st' d op = some r := by
 have hn : looseOp op = false → ∀ x ∈ op.operands.toList,∀ v,st.arg x = some v → ∀ n ∈ v.names,Agree st st' n := fun hop x hx v hv n hn => ht n (touch_mem hop hx hv hn)
 have hc : looseOp op = false → ∀ x ∈ op.operands.toList,∀ c,st.arg x = some (.v (.c c)) → ∀ n ∈ c.names,Agree st st' n := fun hop x hx c hv n hn' => hn hop x hx _ hv n hn'
 rw [← he]
 symm
 cases op with
 | move x =>
  cases x with
  | tmp t => simp only [evRes,hx rfl t (by simp [Op.operands])]
  | const v => have e := ha' rfl (.const v) (by simp [Op.operands]); simp only [evRes,e]
  | global v => have e := ha' rfl (.global v) (by simp [Op.operands]); simp only [evRes,e]
  | func v => have e := ha' rfl (.func v) (by simp [Op.operands]); simp only [evRes,e]
 | assign x =>
  cases x with
  | tmp t => simp only [evRes,hx rfl t (by simp [Op.operands])]
  | const v => have e := ha' rfl (.const v) (by simp [Op.operands]); simp only [evRes,e]
  | global v => have e := ha' rfl (.global v) (by simp [Op.operands]); simp only [evRes,e]
  | func v => have e := ha' rfl (.func v) (by simp [Op.operands]); simp only [evRes,e]
 | pick c x y =>
  have ha := ha' rfl
  simp only [evRes,← ha c (by simp [Op.operands]),← ha x (by simp [Op.operands]),← ha y (by simp [Op.operands])]
 | alloc e => rfl
 | box e x =>
  have ha := ha' rfl
  simp only [evRes,← arg1_congr (ha x (by simp [Op.operands]))]
 | build t parts =>
  have ha := ha' rfl
  simp only [evRes,evBuild]
  rw [mapM_congr' (g := fun x => (st'.arg1 x.2).map fun y => (x.1,y.cells)) (fun x hx => by rw [arg1_congr (ha x.2 (by simp [Op.operands]; exact ⟨x.1,by simpa using hx⟩))])]
 | buildSlice t len parts =>
  have ha := ha' rfl
  simp only [evRes,evLit]
  rw [lits_congr (st' := st') (fun x hx => by
   simp only [List.mem_map] at hx
   obtain ⟨y,hy,rfl⟩ := hx
   have hm : y.2 ∈ (Op.buildSlice t len parts).operands.toList := by simp [Op.operands]; exact ⟨y.1,by simpa using hy⟩
   exact ⟨ha _ hm,fun v hv => hn rfl _ hm v hv⟩)]
 | load t x =>
  have ha := ha' rfl
  have h1 := ha x (by simp [Op.operands])
  have h2 := hc rfl x (by simp [Op.operands])
  simp only [evRes,evLoad,← h1]
  cases hxx : st.arg x with
  | none => rfl
  | some v =>
   cases v with
   | tup => rfl
   | v v =>
     cases v with
     | agg => rfl
     | c c =>
       have h3 := h2 c hxx
       cases c with
       | ptr n off => simp only [(h3 n (by simp [C.names])).1]
       | eptr n i j => simp only [(h3 n (by simp [C.names])).1]
       | _ => rfl
 | store t x y =>
  have ha := ha' rfl
  have h1 := ha x (by simp [Op.operands]); have h2 := ha y (by simp [Op.operands])
  have h3 := hc rfl x (by simp [Op.operands])
  have h4 := hn rfl y (by simp [Op.operands])
  simp only [evRes,evStore,← h1,← h2]
  congr 1
  cases hxx : st.arg x with
  | none => rfl
  | some v =>
   cases v with
   | tup => rfl
   | v v =>
     cases v with
     | agg => rfl
     | c c =>
       have h5 := h3 c hxx
       cases hyy : st.arg y with
       | none => cases c <;> rfl
       | some vy =>
        have h6 := h4 vy hyy
        cases vy with
        | tup => cases c <;> rfl
        | v vy =>
         cases c with
         | ptr n off => simp only [(h5 n (by simp [C.names])).1]
         | eptr n i j => simp only [(h5 n (by simp [C.names])).1,sinks_congr (st' := st') (fun c hc n hn => h6 n (cells_names vy c hc n hn))]
         | _ => rfl
 | nilCheck x =>
  have ha := ha' rfl
  simp only [evRes,← ha x (by simp [Op.operands])]
 | binOp op t x y yt =>
  have ha := ha' rfl
  simp only [evRes,← ha x (by simp [Op.operands]),← ha y (by simp [Op.operands])]
 | unOp op t x =>
  have ha := ha' rfl
  simp only [evRes,← ha x (by simp [Op.operands])]
 | convert s t x =>
  have ha := ha' rfl
  have h1 := ha x (by simp [Op.operands])
  have h2 := hc rfl x (by simp [Op.operands])
  have k1 : evConv P st' s t x = evConv P st s t x := by
   simp only [evConv,← h1]
   cases hxx : st.arg x with
   | none => rfl
   | some v =>
     cases v with
     | tup => rfl
     | v v =>
       cases v with
       | agg => rfl
       | c c =>
        have e0 := view_congr (st := st) (st' := st') (h2 c hxx)
        cases c with
        | p q =>
         cases q with
         | sc v => cases v <;> first | rfl | simp only [e0]
         | sl => first | rfl | simp only [e0]
        | _ => first | rfl | simp only [e0]
  have k2 : evConvB P st' s t x = evConvB P st s t x := by
   simp only [evConvB,← h1]
   cases hxx : st.arg x with
   | none => rfl
   | some v =>
     cases v with
     | tup => rfl
     | v v =>
       cases v with
       | agg => rfl
       | c c =>
        cases c with
        | own n => simp only [(h2 _ hxx n (by simp [C.names])).1]
        | _ => rfl
  simp only [evRes,k1,k2]
 | makeSlice t l c =>
  have ha := ha' rfl
  simp only [evRes,evMake,← ha l (by simp [Op.operands]),← ha c (by simp [Op.operands])]
 | slice t x lo hi mx =>
  have ha := ha' rfl
  cases mx with
  | some _ => rfl
  | none =>
   have h1 := ha x (by simp [Op.operands])
   have h2 := hc rfl x (by simp [Op.operands])
   have h3 : ∀ k,st.num lo k = st'.num lo k := fun k => num_congr (fun o ho => ha o (by simp [Op.operands,ho]))
   have h4 : ∀ k,st.num hi k = st'.num hi k := fun k => num_congr (fun o ho => ha o (by simp [Op.operands,ho]))
   have k1 : evSlice P st' t x lo hi = evSlice P st t x lo hi := by
     simp only [evSlice,← h1,← h3,← h4]
     cases hxx : st.arg x with
     | none => rfl
     | some v =>
       cases v with
       | tup => rfl
       | v v =>
        cases v with
        | agg => rfl
        | c c =>
         have h5 := h2 c hxx
         skip
         have e0 := clen_congr (st := st) (st' := st') h5
         have e1 := fun a b k => part_congr (st := st) (st' := st') (size := a) (l := b) (k := k) h5
         cases c with
         | p q =>
          cases q with
          | sc v => cases v <;> first | rfl | simp only [e0,e1]
          | sl => first | rfl | simp only [e0,e1]
         | _ => first | rfl | simp only [e0,e1]
   have k2 : evBoxSl P st' t x = evBoxSl P st t x := by
     simp only [evBoxSl,← h1]
     cases hxx : st.arg x with
     | none => rfl
     | some v =>
       cases v with
       | tup => rfl
       | v v =>
        cases v with
        | agg => rfl
        | c c =>
         cases c with
         | ptr n off => simp only [(h2 _ hxx n (by simp [C.names])).1]
         | _ => rfl
   simp only [evRes,k1,k2]
 | makeMap t r =>
  cases r <;> rfl
 | mapUpdate t m k x =>
  have ha := ha' rfl
  have h1 := ha m (by simp [Op.operands]); have h2 := ha k (by simp [Op.operands]); have h3 := ha x (by simp [Op.operands])
  have h4 := hc rfl m (by simp [Op.operands])
  simp only [evRes,evMapSet,← h1,← h2,← h3]
  congr 1
  cases hxx : st.arg m with
  | none => rfl
  | some v =>
   cases v with
   | tup => rfl
   | v v =>
     cases v with
     | agg => rfl
     | c c =>
       cases c with
       | mp n => simp only [(h4 _ hxx n (by simp [C.names])).1]
       | _ => rfl
 | fieldAddr t x f =>
  have ha := ha' rfl
  simp only [evRes,evField,← ha x (by simp [Op.operands])]
 | indexAddr t x i =>
  have ha := ha' rfl
  have h1 := ha x (by simp [Op.operands]); have h2 := ha i (by simp [Op.operands])
  have h3 := hc rfl x (by simp [Op.operands])
  simp only [evRes,evIndex,← h1,← h2]
  congr 1
  cases hxx : st.arg x with
  | none => rfl
  | some v =>
   cases v with
   | tup => rfl
   | v v =>
     cases v with
     | agg => rfl
     | c c =>
       have e0 := fun a b => elem_congr (st := st) (st' := st') (size := a) (i := b) (h3 c hxx)
       cases c with
       | p q =>
        cases q with
        | sc v => cases v <;> first | rfl | simp only [e0]
        | sl => first | rfl | simp only [e0]
       | _ => first | rfl | simp only [e0]
 | index t x i =>
  have ha := ha' rfl
  simp only [evRes,← ha x (by simp [Op.operands]),← ha i (by simp [Op.operands])]
 | extract t i =>
  cases t with
  | tmp t => simp only [evRes,hx rfl t (by simp [Op.operands])]
  | _ => rfl
 | makeFunc fn first captured =>
  have ha := ha' rfl
  cases fn with
  | func f =>
   simp only [evRes]
   rw [mapM_congr' (g := st'.cap) (fun x hx => by
     unfold ASt.cap
     rw [ha x (by simp [Op.operands]; exact .inr (by simpa using hx))])]
  | _ => rfl
 | call c =>
  have ha := ha' rfl
  obtain ⟨callee,args,ts⟩ := c
  cases callee with
  | value f =>
   simp only [evRes] at he ⊢
   have hf := ha f (by simp [Op.operands,Call.operands])
   have hcal : st.callee f = st'.callee f := by
     unfold ASt.callee
     cases f with
     | func => rfl
     | _ => simp only [hf]
   have hargs : args.toList.mapM st.arg1 = args.toList.mapM st'.arg1 := mapM_congr' (fun x hx => arg1_congr (ha x (by simp [Op.operands,Call.operands]; exact .inr (by simpa using hx))))
   unfold evCall at he ⊢
   rw [hcal,hargs] at he
   split at he
   · split at he
     · rename_i hcal' hargs' hsp hok
       cases he
       simp only [hcal,hcal',hargs,hargs',hsp]
       rw [if_pos (callOK_congr hr hok),if_pos hok]
     · cases he
   · cases he
  | invoke => rfl
  | builtin b =>
   simp only [evRes]
   have h1 : ∀ x ∈ args.toList,st.arg x = st'.arg x := fun x hx => ha x (by simp [Op.operands,Call.operands]; simpa using hx)
   have h2 : ∀ x ∈ args.toList,∀ c,st.arg x = some (.v (.c c)) → ∀ n ∈ c.names,Agree st st' n := fun x hx => hc rfl x (by simp [Op.operands,Call.operands]; simpa using hx)
   unfold evBuiltin
   split
   · rename_i x t hargs _
     rw [hargs] at h1 h2
     simp only [evLen,← h1 x (by simp)]
     congr 1
     cases hxx : st.arg x with
     | none => rfl
     | some v =>
       cases v with
       | tup => rfl
       | v v =>
        cases v with
        | agg => rfl
        | c c =>
         have e0 := view_congr (st := st) (st' := st') (h2 x (by simp) c hxx)
         cases c with
         | p q =>
          cases q with
          | sc v => cases v <;> first | rfl | simp only [e0]
          | sl => first | rfl | simp only [e0]
         | _ => first | rfl | simp only [e0]
   · rename_i s x t t' hargs _
     rw [hargs] at h1 h2
     have key : evAppend P st' d t s x = evAppend P st d t s x := by
       simp only [evAppend,← h1 s (by simp),← h1 x (by simp)]
       cases tyElem P t with
       | none => rfl
       | some e =>
        simp only
        cases tyApp P e with
        | none => rfl
        | some nb =>
         obtain ⟨n,b⟩ := nb
         cases hs : st.arg s with
         | none => rfl
         | some vs =>
          cases vs with
          | tup => rfl
          | v vs =>
           cases vs with
           | agg => rfl
           | c cs =>
            cases hxx : st.arg x with
            | none => rfl
            | some v =>
             cases v with
             | tup => rfl
             | v v =>
              cases v with
              | agg => rfl
              | c c => simp only [view_congr (st' := st') (h2 x (by simp) c hxx),appSrc_congr (st' := st') (h2 s (by simp) cs hs)]
     have key2 : evAppMake P st' d t t' s x = evAppMake P st d t t' s x := by
       simp only [evAppMake,← h1 s (by simp),← h1 x (by simp)]
     have key3 : evAppIn P st' t s x = evAppIn P st t s x := by
       simp only [evAppIn,← h1 s (by simp),← h1 x (by simp)]
       cases hs : st.arg s with
       | none => rfl
       | some vs =>
        cases vs with
        | tup => rfl
        | v vs =>
         cases vs with
         | agg => rfl
         | c cs =>
          cases cs with
          | sub m lo len =>
           cases lo with
           | succ lo => rfl
           | zero =>
            cases hxx : st.arg x with
            | none => rfl
            | some v =>
             cases v with
             | tup => rfl
             | v v =>
              cases v with
              | agg => rfl
              | c c => simp only [view_congr (st' := st') (h2 x (by simp) c hxx),(h2 s (by simp) _ hs m (by simp [C.names])).1]
          | _ => rfl
     rw [key,key2,key3]
   · rename_i x y t _ hargs _
     rw [hargs] at h1 h2
     have key : evCopy P st' t x y = evCopy P st t x y := by
       simp only [evCopy,← h1 x (by simp),← h1 y (by simp)]
       cases tyElem P t with
       | none => rfl
       | some e =>
        cases hs : st.arg x with
        | none => rfl
        | some vs =>
         cases vs with
         | tup => rfl
         | v vs =>
          cases vs with
          | agg => rfl
          | c cs =>
           cases hxx : st.arg y with
           | none => rfl
           | some v =>
            cases v with
            | tup => rfl
            | v v =>
             cases v with
             | agg => rfl
             | c c =>
              have h5 := h2 x (by simp) cs hs
              simp only [view_congr (st' := st') (h2 y (by simp) c hxx),view_congr (st' := st') h5]
              cases cs with
              | own n => first | rfl | simp only [(h5 n (by simp [C.names])).1]
              | sub n lo len => first | rfl | simp only [(h5 n (by simp [C.names])).1]
              | _ => rfl
     rw [key]
   · rename_i x y hargs; rw [hargs] at h1; simp only [h1 x (by simp),h1 y (by simp)]
   · rename_i x y hargs; rw [hargs] at h1; simp only [h1 x (by simp),h1 y (by simp)]
   · rename_i x t hargs _; rw [hargs] at h1; simp only [h1 x (by simp)]
   · rename_i m k t tl hargs _
     rw [hargs] at h1 h2
     simp only [evMapDel,← h1 m (by simp),← h1 k (by simp)]
     congr 1
     cases hxx : st.arg m with
     | none => rfl
     | some v =>
       cases v with
       | tup => rfl
       | v v =>
        cases v with
        | agg => rfl
        | c c =>
         cases c with
         | mp n => simp only [(h2 m (by simp) _ hxx n (by simp [C.names])).1]
         | _ => rfl
   · rfl
 | _ => rfl
end
end
end Go.Proofs.YtndegphojkiblaaGreatDoor
