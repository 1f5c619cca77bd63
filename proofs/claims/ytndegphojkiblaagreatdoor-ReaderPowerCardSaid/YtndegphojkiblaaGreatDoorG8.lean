/- Towards the last file's theorem: part 8. -/
import Derived.Test.YtndegphojkiblaaGreatDoorG7
import Derived.BigQuiet
set_option linter.unusedSimpArgs false
set_option linter.unusedVariables false
namespace Go.Proofs.YtndegphojkiblaaGreatDoor
section
open Go.RowKit
open Classical
def foldS {X : Type} (g : Nat → X → X) (S : Nat → Bool) (x : X) : Nat → X
 | 0 => x
 | n + 1 => if S n then g n (foldS g S x n) else foldS g S x n
theorem foldS_congr {X : Type} {g : Nat → X → X} {S S' : Nat → Bool} {x : X} : ∀ {n : Nat},(∀ k,k < n → S k = S' k ∨ ∀ x,g k x = x) → foldS g S x n = foldS g S' x n
 | 0,_ => rfl
 | n + 1,h => by
  have ih := foldS_congr (x := x) (n := n) (fun k hk => h k (by omega))
  simp only [foldS,ih]
  rcases h n (by omega) with h1 | h1
  · rw [h1]
  · simp only [h1]; split <;> split <;> rfl
theorem foldS_obs {X Y : Type} {g : Nat → X → X} {g' : Nat → Y → Y} {S : Nat → Bool} {x : X} (f : X → Y) (h : ∀ k x,f (g k x) = g' k (f x)) : ∀ n,f (foldS g S x n) = foldS g' S (f x) n
 | 0 => rfl
 | n + 1 => by
  have ih := foldS_obs (S := S) (x := x) f h n
  simp only [foldS]
  split
  · rw [h,ih]
  · exact ih
theorem foldS_insert {X : Type} {g : Nat → X → X} {S S' : Nat → Bool} {x : X} {i : Nat} (hi : S i = false) (hi' : S' i = true) (hS : ∀ k,k ≠ i → S' k = S k) : ∀ {n : Nat},i < n →
  ((∀ k,i < k → k < n → S k = true → ∀ x,g k x = x) ∨ ∀ x,g i x = x) → foldS g S' x n = g i (foldS g S x n)
 | 0,h,_ => by omega
 | n + 1,hn,h => by
  by_cases hin : i = n
  · subst hin
    simp only [foldS,hi,hi',if_true,Bool.false_eq_true,if_false]
    congr 1
    exact foldS_congr fun k hk => .inl (hS k (by omega))
  · have ih := foldS_insert (x := x) (g := g) hi hi' hS (n := n) (by omega) (h.imp (fun h k h1 h2 => h k h1 (by omega)) id)
    simp only [foldS,ih,hS n (by omega)]
    split
    · rename_i hSn
      rcases h with h | h
      · rw [h n (by omega) (by omega) hSn,h n (by omega) (by omega) hSn]
      · rw [h,h]
    · rfl
def valOf : Option Res → V
 | none => .tup []
 | some r => r.v
def effOf : Option Res → Eff
 | none => noE
 | some r => r.e
def apply1 (st : ASt) (o : Oper) (r : Option Res) : ASt := (st.eff (effOf r)).put o.dst (valOf r)
def ASt.raw (st : ASt) : Operand → List Nat
 | .tmp t => match st.tmps[t]? with
  | some v => v.names
  | none => []
 | .const v => (ofValue v).names
 | _ => []
def ASt.foot (st : ASt) : Op → List Nat
 | .extract _ _ => []
 | .move (.tmp _) => []
 | .assign (.tmp _) => []
 | op => op.operands.toList.flatMap st.raw
def readsOf (st : ASt) (o : Oper) : Option Res → List Nat
 | none => []
 | some r => st.foot o.op ++ r.rd
def modsOf (r : Option Res) : List Nat := (effOf r).upd.map (·.1) ++ (effOf r).gone
def guardA (ops : Array Oper) (st : ASt) (o : Oper) : Option Bool := match o.guard with
 | none => some true
 | some (j,want) => match (ops[j]?).bind (·.dst) with
  | some d => match st.tmps[d]? with
   | some (.v (.c (.p (.sc (.bool b))))) => some (b == want)
   | some (.tup []) => some false
   | _ => none
  | none => none
theorem guard_told {X : Fx} {E : Env} {st : ASt} {a : Act} {w : World} (h : Rel X E st a w) {ops : Array Oper} {o : Oper} {b : Bool} (hg : guardA ops st o = some b) :
  Region.wanted o (yielded ops a.tmps) = b := by
 unfold guardA at hg
 unfold Region.wanted
 cases hgd : o.guard with
 | none => rw [hgd] at hg; simp at hg; simp [hg]
 | some x =>
  obtain ⟨j,want⟩ := x
  rw [hgd] at hg
  simp only at hg ⊢
  split at hg
  · rename_i d hd
    unfold yielded
    rw [hd]
    split at hg
    · rename_i b' hb
      obtain ⟨u,h1,h2⟩ := h.tmps d _ hb
      have := RP.sc_eq h2
      subst this
      simp at hg
      simp only [Option.bind_some,h1]
      rw [← hg]
      cases b' <;> cases want <;> rfl
    · rename_i hb
      obtain ⟨u,h1,us,h2,h3,_⟩ := h.tmps d _ hb
      subst h2
      simp at hg
      simp only [Option.bind_some,h1]
      rw [hg]; rfl
    · cases hg
  · cases hg
theorem RV_undef (M : Bad) (E : Env) (w : World) : RV M E w (.tup []) undef := ⟨#[],rfl,rfl,fun i x h => by simp at h⟩
noncomputable def stepR (P : Program) (Sp : Spec) (b : Nat) (ops : Array Oper) (st : ASt) (k : Nat) (o : Oper) : Option (Option Res) := match guardA ops st o with
 | some true => (evRes P Sp st (b + 8 * k) o.op).map some
 | some false => some none
 | none => none
theorem snd_step {X : Fx} {Sp : Spec} {E : Env} {st : ASt} {a : Act} {w : World} {b k : Nat} (h : Rel X E st a w) {ops : Array Oper} {o : Oper} (hF : Free X E st (b + 8 * k))
   {r : Option Res} (hr : stepR X.P Sp b ops st k o = some r) {next : Act → World → Prop} {Q : Exit → Act → World → Prop}
   (hn : ∀ v w' E',(∀ n,¬ (b + 8 * k ≤ n ∧ n < b + 8 * k + 8) → E.N n = none → E'.N n = none) → Rel X E' (apply1 st o r) (a.put o.dst v) w' → next (a.put o.dst v) w') :
   if Region.wanted o (yielded ops a.tmps) then o.wp X.P a w next Q else next (a.put o.dst undef) w := by
 unfold stepR at hr
 split at hr
 · rename_i hg
   rw [guard_told h hg]
   simp only [if_true]
   simp only [Option.map_eq_some_iff] at hr
   obtain ⟨r',hr',rfl⟩ := hr
   exact snd h hF hr' (fun u w' E' k1 k2 k3 => hn u w' E' k1 (k2.put o.dst k3))
 · rename_i hg
   rw [guard_told h hg]
   cases hr
   simp only [Bool.false_eq_true,if_false]
   exact hn undef w E (fun _ _ h => h) (h.put o.dst (RV_undef X.M E w))
 · cases hr
theorem apply1_tmps (st : ASt) (o : Oper) (r : Option Res) (t : Nat) : (apply1 st o r).tmps[t]? = if o.dst = some t then (st.tmps[t]?).map (fun _ => valOf r) else st.tmps[t]? := by
 unfold apply1
 cases hd : o.dst with
 | none => simp [ASt.put,ASt.eff]
 | some d =>
  simp only [ASt.put,ASt.eff,List.getElem?_set,Option.some.injEq]
  by_cases hdt : d = t
  · subst hdt
    simp only [if_true]
    by_cases hl : d < st.tmps.length
    · simp [hl]
    · simp [hl,List.getElem?_eq_none (Nat.le_of_not_lt hl)]
  · rw [if_neg hdt,if_neg hdt]
theorem put_heap (st : ASt) (d : Option Nat) (v : V) : (st.put d v).heap = st.heap ∧ (st.put d v).gone = st.gone ∧ (st.put d v).next = st.next := by cases d <;> exact ⟨rfl,rfl,rfl⟩
theorem apply1_heap (st : ASt) (o : Oper) (r : Option Res) (α : Nat) : List.lookup α (apply1 st o r).heap = ((effOf r).upd.lookup α).or (st.heap.lookup α) := by
 unfold apply1
 rw [(put_heap _ _ _).1]
 simp only [ASt.eff,lookup_app]
theorem apply1_gone (st : ASt) (o : Oper) (r : Option Res) (τ : Nat) : (τ ∈ (apply1 st o r).gone) = (τ ∈ (effOf r).gone ∨ τ ∈ st.gone) := by
 unfold apply1
 rw [(put_heap _ _ _).2.1]
 simp [ASt.eff]
theorem apply1_next (st : ASt) (o : Oper) (r : Option Res) : (apply1 st o r).next = st.next := by
 unfold apply1
 rw [(put_heap _ _ _).2.2]; rfl
theorem Rel.congr {X : Fx} {E : Env} {st st' : ASt} {a : Act} {w : World} (h : Rel X E st a w) (ht : ∀ t : Nat,st'.tmps[t]? = st.tmps[t]?) (hb : ∀ α,List.lookup α st'.heap = List.lookup α st.heap)
  (hu : ∀ τ,τ ∈ st'.gone ↔ τ ∈ st.gone) (hx : st'.next = st.next) : Rel X ⟨E.N,st'.gone⟩ st' a w := by
 have htm : st'.tmps = st.tmps := List.ext_getElem? ht
 have hG : Goes X.M E ⟨E.N,st'.gone⟩ w w := {
  cell := fun _ _ _ h1 h2 => ⟨h1,h2⟩
  name := fun n x hx => .inr hx
  gone := fun n hn => (hu n).2 (by rw [← h.gone]; exact hn) }
 exact {
  defers := h.defers
  gone := rfl
  frame := h.frame
  mlt := h.mlt
  nlt := fun n x hn => by rw [hx]; exact h.nlt n x hn
  names := h.names
  inj := h.inj
  keep := h.keep
  knext := by rw [hx]; exact h.knext
  gnext := fun n hn => by rw [hx]; exact h.gnext n ((hu n).1 hn)
  size := by rw [htm]; exact h.size
  tmps := fun i v hi => by
   rw [htm] at hi
   obtain ⟨u,h1,h2⟩ := h.tmps i v hi
   exact ⟨u,h1,h2.goes hG⟩
  heap := fun n b hl => by
   rw [hb] at hl
   by_cases hn : n ∈ st'.gone
   · exact .inl hn
   · rcases h.heap n b hl with h1 | h1
     · exact .inl ((hu n).2 h1)
     · exact .inr (h1.goes hG hn (fun _ _ _ _ => rfl)) }
def disj (a b : List Nat) : Bool := a.all fun x => !b.contains x
theorem disj_spec {a b : List Nat} (h : disj a b = true) {x : Nat} (ha : x ∈ a) : x ∉ b := by
 simp only [disj,List.all_eq_true] at h
 have := h x ha
 simpa using this
def direct (ops : Array Oper) (j i : Nat) : Bool := match ops[j]? with
 | some o => o.after.any fun e => Region.binds .any e && e.on == i
 | none => false
abbrev Feet := List (List Nat × List Nat)
def compat (ops : Array Oper) (ts : Feet) (i j : Nat) : Bool :=
 match ops[i]?,ops[j]?,ts[i]?,ts[j]? with
 | some x,some y,some (ri,mi),some (rj,mj) => x.apart ops y && disj mi rj && disj mj ri && disj mi mj
 | _,_,_,_ => false
def before (ops : Array Oper) : Nat → Nat → Nat → Bool
 | 0,j,i => direct ops j i
 | n + 1,j,i => direct ops j i || match ops[j]? with
  | some o => o.after.toList.any fun e => Region.binds .any e && before ops n e.on i
  | none => false
def pairsOk (ops : Array Oper) (ts : Feet) : Bool :=
 (List.range ops.size).all fun j => (List.range j).all fun i => compat ops ts i j || before ops 6 j i
def freshOk (b : Nat) (ops : Array Oper) (ts : Feet) : Bool :=
 (List.range ops.size).all fun i => (List.range ops.size).all fun j => i == j || direct ops i j || match ts[i]? with
  | some (_,mi) => mi.all fun n => !(decide (b + 8 * j ≤ n) && decide (n < b + 8 * j + 8))
  | none => false
def forwardOk (ops : Array Oper) : Bool := (List.range ops.size).all fun j => match ops[j]? with
 | some o => o.after.all fun e => !Region.binds .any e || decide (e.on < j)
 | none => true
structure Lex (P : Program) (Sp : Spec) (b : Nat) (ops : Array Oper) (st0 : ASt) (rs : Nat → Option Res) (ts : Feet) : Prop where
 step : ∀ (k : Nat) (o : Oper),ops[k]? = some o → stepR P Sp b ops (foldS (fun k st => apply1 st (ops[k]?.getD default) (rs k)) (fun j => decide (j < k)) st0 ops.size) k o = some (rs k)
 name : ∀ (k : Nat) (o : Oper),ops[k]? = some o → ts[k]? = some (readsOf (foldS (fun k st => apply1 st (ops[k]?.getD default) (rs k)) (fun j => decide (j < k)) st0 ops.size) o (rs k),modsOf (rs k))
theorem arg_congr {st st' : ASt} {x : Operand} (ht : ∀ t,x = .tmp t → st.tmps[t]? = st'.tmps[t]?) (hg : ∀ n ∈ st.raw x,(n ∈ st.gone ↔ n ∈ st'.gone)) : st.arg x = st'.arg x := by
 have hl : ∀ v : V,(∀ n ∈ v.names,(n ∈ st.gone ↔ n ∈ st'.gone)) → v.live st.gone = v.live st'.gone := by
  intro v hv
  unfold V.live
  congr 1
  rw [Bool.eq_iff_iff]
  simp only [List.all_eq_true,Bool.not_eq_true',List.contains_eq_mem,decide_eq_false_iff_not]
  exact forall_congr' fun n => forall_congr' fun hn => not_congr (hv n hn)
 cases x with
 | tmp t =>
  have h1 := ht t rfl
  simp only [ASt.arg,← h1]
  cases hv : st.tmps[t]? with
  | none => rfl
  | some v =>
   simp only
   rw [hl v (fun n hn => hg n (by simp only [ASt.raw,hv]; exact hn))]
 | const v =>
  simp only [ASt.arg]
  rw [hl (.v (ofValue v)) (fun n hn => hg n (by simp only [ASt.raw]; exact hn))]
 | _ => rfl
theorem arg_raw {st : ASt} {x : Operand} {v : V} (h : st.arg x = some v) (hf : ∀ f,x ≠ .func f) : st.raw x = v.names := by
 cases x with
 | tmp t =>
  simp only [ASt.arg] at h
  split at h
  · rename_i y hy
    split at h
    · cases h; simp only [ASt.raw,hy]
    · cases h
  · cases h
 | const u =>
  simp only [ASt.arg] at h
  split at h
  · cases h; rfl
  · cases h
 | func f => exact absurd rfl (hf f)
 | global => cases h
theorem touch_foot {st : ASt} {op : Op} {n : Nat} (h : n ∈ st.touch op) : n ∈ st.foot op := by
 cases hop : looseOp op with
 | false =>
  have e1 : st.touch op = (op.operands.toList.filterMap st.arg).flatMap V.names := by unfold ASt.touch; split <;> first | rfl | cases hop
  have e2 : st.foot op = op.operands.toList.flatMap st.raw := by unfold ASt.foot; split <;> first | rfl | cases hop
  rw [e1] at h
  rw [e2]
  obtain ⟨v,h1,h2⟩ := List.mem_flatMap.1 h
  obtain ⟨x,h3,h4⟩ := List.mem_filterMap.1 h1
  refine List.mem_flatMap.2 ⟨x,h3,?_⟩
  rw [arg_raw h4 (fun f hf => by subst hf; simp only [ASt.arg,Option.some.injEq] at h4; subst h4; simp [V.names,V1.names,C.names] at h2)]
  exact h2
 | true =>
  have e1 : st.touch op = [] := by
   unfold looseOp at hop
   split at hop
   · rfl
   · rfl
   · rfl
   · cases hop
  rw [e1] at h; cases h
section
variable {P : Program} {Sp : Spec} {b : Nat} {ops : Array Oper} {st0 : ASt} {rs : Nat → Option Res} {ts : Feet}
abbrev AS (ops : Array Oper) (rs : Nat → Option Res) (st0 : ASt) (L : Nat → Bool) : ASt := foldS (fun k st => apply1 st (ops[k]?.getD default) (rs k)) L st0 ops.size
def gT (ops : Array Oper) (rs : Nat → Option Res) (t : Nat) (k : Nat) (x : Option V) : Option V := if (ops[k]?.getD default).dst = some t then x.map (fun _ => valOf (rs k)) else x
def gB (rs : Nat → Option Res) (α : Nat) (k : Nat) (x : Option Blk) : Option Blk := ((effOf (rs k)).upd.lookup α).or x
def gU (rs : Nat → Option Res) (τ : Nat) (k : Nat) (x : Prop) : Prop := τ ∈ (effOf (rs k)).gone ∨ x
theorem AS_tmps (L : Nat → Bool) (t : Nat) : (AS ops rs st0 L).tmps[t]? = foldS (gT ops rs t) L (st0.tmps[t]?) ops.size :=
 foldS_obs (fun st : ASt => st.tmps[t]?) (fun k st => apply1_tmps st _ _ t) ops.size
theorem AS_heap (L : Nat → Bool) (α : Nat) : List.lookup α (AS ops rs st0 L).heap = foldS (gB rs α) L (List.lookup α st0.heap) ops.size :=
 foldS_obs (g' := gB rs α) (fun st : ASt => List.lookup α st.heap) (fun k st => apply1_heap st (ops[k]?.getD default) (rs k) α) ops.size
theorem AS_gone (L : Nat → Bool) (τ : Nat) : (τ ∈ (AS ops rs st0 L).gone) = foldS (gU rs τ) L (τ ∈ st0.gone) ops.size :=
 foldS_obs (g' := gU rs τ) (fun st : ASt => τ ∈ st.gone) (fun k st => apply1_gone st (ops[k]?.getD default) (rs k) τ) ops.size
theorem AS_next (L : Nat → Bool) : (AS ops rs st0 L).next = st0.next := by
 have : (AS ops rs st0 L).next = foldS (fun _ x => x) L st0.next ops.size := foldS_obs (fun st : ASt => st.next) (fun k st => apply1_next st _ _) ops.size
 rw [this]
 induction ops.size with
 | zero => rfl
 | succ n ih => simp only [foldS,ih]; split <;> rfl
theorem lookup_none_of {l : Hp} {α : Nat} (h : α ∉ l.map (·.1)) : l.lookup α = none := by
 induction l with
 | nil => rfl
 | cons x l ih =>
  obtain ⟨k,c⟩ := x
  simp only [List.map_cons,List.mem_cons,not_or] at h
  rw [List.lookup_cons,beq_eq_false_iff_ne.2 h.1]
  exact ih h.2
theorem gB_id {α k : Nat} (h : α ∉ modsOf (rs k)) : ∀ x,gB rs α k x = x := by
 intro x
 unfold gB
 rw [lookup_none_of (fun h' => h (List.mem_append_left _ h'))]
 rfl
theorem gU_id {τ k : Nat} (h : τ ∉ modsOf (rs k)) : ∀ x,gU rs τ k x = x := by
 intro x
 unfold gU
 have : τ ∉ (effOf (rs k)).gone := fun h' => h (List.mem_append_right _ h')
 simp [this]
theorem gT_id {t k : Nat} {o : Oper} (ho : ops[k]? = some o) (h : o.dst ≠ some t) : ∀ x,gT ops rs t k x = x := by
 intro x
 unfold gT
 rw [ho]
 simp only [Option.getD_some,if_neg h]
theorem compat_spec (hL : Lex P Sp b ops st0 rs ts) {i j : Nat} {x y : Oper} (hx : ops[i]? = some x) (hy : ops[j]? = some y) (h : compat ops ts i j = true) :
  ∃ ri rj,ts[i]? = some (ri,modsOf (rs i)) ∧ ts[j]? = some (rj,modsOf (rs j)) ∧ x.apart ops y = true ∧ disj (modsOf (rs i)) rj = true ∧ disj (modsOf (rs j)) ri = true ∧ disj (modsOf (rs i)) (modsOf (rs j)) = true := by
 have h1 := hL.name i x hx
 have h2 := hL.name j y hy
 unfold compat at h
 rw [hx,hy,h1,h2] at h
 simp only [Bool.and_eq_true] at h
 exact ⟨_,_,h1,h2,h.1.1.1,h.1.1.2,h.1.2,h.2⟩
def Shut (ops : Array Oper) (L : Nat → Bool) : Prop := ∀ j i,L j = true → direct ops j i = true → L i = true
theorem pairs_spec (hp : pairsOk ops ts = true) {i j : Nat} (hij : i < j) (hj : j < ops.size) : before ops 6 j i = true ∨ compat ops ts i j = true := by
 unfold pairsOk at hp
 simp only [List.all_eq_true,List.mem_range,Bool.or_eq_true] at hp
 exact (hp j hj i hij).symm
theorem before_or : ∀ {n j i : Nat},before ops n j i = true → direct ops j i = true ∨ ∃ m n',direct ops j m = true ∧ before ops n' m i = true ∧ n' < n
 | 0,j,i,h => .inl h
 | n + 1,j,i,h => by
  simp only [before,Bool.or_eq_true] at h
  rcases h with h | h
  · exact .inl h
  · split at h
    · rename_i o ho
      simp only [List.any_eq_true,Bool.and_eq_true] at h
      obtain ⟨e,h1,h2,h3⟩ := h
      refine .inr ⟨e.on,n,?_,h3,Nat.lt_succ_self n⟩
      unfold direct
      rw [ho]
      simp only [Array.any_eq_true',Bool.and_eq_true,beq_iff_eq]
      exact ⟨e,by simpa using h1,h2,rfl⟩
    · cases h
theorem before_shut {L : Nat → Bool} (hS : Shut ops L) (n : Nat) : ∀ {j i : Nat},before ops n j i = true → L j = true → L i = true := by
 induction n using Nat.strongRecOn with
 | _ n ih =>
  intro j i h hj
  rcases before_or h with h | ⟨m,n',h1,h2,h3⟩
  · exact hS j i hj h
  · exact ih n' h3 h2 (hS j m hj h1)
theorem before_preds {L : Nat → Bool} (hS : Shut ops L) {n j i : Nat} (h : before ops n j i = true) (hr : ∀ m,direct ops j m = true → L m = true) : L i = true := by
 rcases before_or h with h | ⟨m,n',h1,h2,h3⟩
 · exact hr i h
 · exact before_shut hS n' h2 (hr m h1)
theorem apart_of (hp : pairsOk ops ts = true) {L : Nat → Bool} (hS : Shut ops L) {i k : Nat} (hi : L i = false) (hin : i < ops.size) (hkn : k < ops.size) (hr : ∀ j,direct ops i j = true → L j = true) (hd : L k ≠ decide (k < i)) :
   (k < i ∧ compat ops ts k i = true) ∨ (i < k ∧ compat ops ts i k = true) := by
 by_cases hki : k < i
 · have hk : L k = false := by simpa [hki] using hd
   rcases pairs_spec hp hki hin with h | h
   · have := before_preds hS h hr; rw [hk] at this; cases this
   · exact .inl ⟨hki,h⟩
 · have hk : L k = true := by simpa [hki] using hd
   have hik : i < k := by
     rcases Nat.lt_or_ge i k with h | h
     · exact h
     · have : k = i := by omega
       subst this; rw [hi] at hk; cases hk
   rcases pairs_spec hp hik hkn with h | h
   · have := before_shut hS _ h hk; rw [hi] at this; cases this
   · exact .inr ⟨hik,h⟩
theorem step_any (hL : Lex P Sp b ops st0 rs ts) (hp : pairsOk ops ts = true) {L : Nat → Bool} (hS : Shut ops L) {i : Nat} {o : Oper} (ho : ops[i]? = some o) (hi : L i = false) (hr : ∀ j,direct ops i j = true → L j = true) :
   stepR P Sp b ops (AS ops rs st0 L) i o = some (rs i) := by
 have hin : i < ops.size := (Array.getElem?_eq_some_iff.1 ho).1
 have hstep : stepR P Sp b ops (AS ops rs st0 fun j => decide (j < i)) i o = some (rs i) := hL.step i o ho
 have hname : ts[i]? = some (readsOf (AS ops rs st0 fun j => decide (j < i)) o (rs i),modsOf (rs i)) := hL.name i o ho
 have key : ∀ k,k < ops.size → L k = decide (k < i) ∨ ∃ x,ops[k]? = some x ∧ (∀ t,t ∈ o.looksAt ops → x.dst ≠ some t) ∧ ∀ α,α ∈ readsOf (AS ops rs st0 fun j => decide (j < i)) o (rs i) → α ∉ modsOf (rs k) := by
   intro k hk
   by_cases hd : L k = decide (k < i)
   · exact .inl hd
   · right
     have hx : ops[k]? = some ops[k] := Array.getElem?_eq_getElem hk
     refine ⟨ops[k],hx,?_,?_⟩
     · intro t ht hdt
       rcases apart_of hp hS hi hin hk hr hd with ⟨_,h⟩ | ⟨_,h⟩
       · obtain ⟨_,_,_,_,h1,_⟩ := compat_spec hL hx ho h
         exact (Oper.apart_spec h1).1 t hdt ht
       · obtain ⟨_,_,_,_,h1,_⟩ := compat_spec hL ho hx h
         exact (Oper.apart_spec h1).2.2 t hdt ht
     · intro α hα hm
       rcases apart_of hp hS hi hin hk hr hd with ⟨_,h⟩ | ⟨_,h⟩
       · obtain ⟨_,rj,_,h2,_,h3,_⟩ := compat_spec hL hx ho h
         rw [hname] at h2
         cases h2
         exact disj_spec h3 hm hα
       · obtain ⟨ri,_,h1,_,_,_,h3,_⟩ := compat_spec hL ho hx h
         rw [hname] at h1
         cases h1
         exact disj_spec h3 hm hα
 have htm : ∀ t,t ∈ o.looksAt ops → (AS ops rs st0 L).tmps[t]? = (AS ops rs st0 fun j => decide (j < i)).tmps[t]? := by
   intro t ht
   rw [AS_tmps,AS_tmps]
   refine foldS_congr fun k hk => ?_
   rcases key k hk with h | ⟨x,hx,h,_⟩
   · exact .inl h
   · exact .inr (gT_id hx (h t ht))
 have hag : ∀ α,α ∈ readsOf (AS ops rs st0 fun j => decide (j < i)) o (rs i) → Agree (AS ops rs st0 fun j => decide (j < i)) (AS ops rs st0 L) α := by
   intro α hα
   refine ⟨?_,?_⟩
   · rw [AS_heap,AS_heap]
     refine (foldS_congr fun k hk => ?_).symm
     rcases key k hk with h | ⟨x,hx,_,h⟩
     · exact .inl h
     · exact .inr (gB_id (h α hα))
   · rw [AS_gone,AS_gone]
     refine (Iff.of_eq (foldS_congr fun k hk => ?_)).symm
     rcases key k hk with h | ⟨x,hx,_,h⟩
     · exact .inl h
     · exact .inr (gU_id (h α hα))
 have hguard : guardA ops (AS ops rs st0 L) o = guardA ops (AS ops rs st0 fun j => decide (j < i)) o := by
   unfold guardA
   cases hg : o.guard with
   | none => rfl
   | some y =>
     obtain ⟨j,want⟩ := y
     simp only
     cases hd : (ops[j]?).bind (·.dst) with
     | none => rfl
     | some d =>
       simp only
       rw [htm d (by
         unfold Oper.looksAt
         refine List.mem_append.2 (.inr ?_)
         rw [hg]
         simp only
         rw [hd]; simp)]
 unfold stepR at hstep ⊢
 rw [hguard]
 split at hstep
 · rename_i hg
   simp only [Option.map_eq_some_iff] at hstep ⊢
   obtain ⟨r,h1,h2⟩ := hstep
   refine ⟨r,?_,h2⟩
   have hrd : ∀ n,n ∈ (AS ops rs st0 fun j => decide (j < i)).foot o.op ++ r.rd → Agree (AS ops rs st0 fun j => decide (j < i)) (AS ops rs st0 L) n := by
     intro n hn
     refine hag n ?_
     rw [← h2]; exact hn
   refine evRes_congr (st := AS ops rs st0 fun j => decide (j < i)) (fun hop x hx => ?_) (fun _ t h3 => ?_) (fun n hn => hrd n (List.mem_append_left _ (touch_foot hn))) (fun n hn => hrd n (List.mem_append_right _ hn)) h1
   · refine arg_congr (fun t ht => (htm t ?_).symm) (fun n hn => (hrd n (List.mem_append_left _ ?_)).2)
     · subst ht
       unfold Oper.looksAt
       exact List.mem_append.2 (.inl (List.mem_filterMap.2 ⟨.tmp t,hx,rfl⟩))
     · have : (AS ops rs st0 fun j => decide (j < i)).foot o.op = o.op.operands.toList.flatMap (AS ops rs st0 fun j => decide (j < i)).raw := by
         unfold ASt.foot
         split <;> first | rfl | (rename_i h; rw [h] at hop; cases hop)
       rw [this]
       exact List.mem_flatMap.2 ⟨x,hx,hn⟩
   · refine (htm t ?_).symm
     unfold Oper.looksAt
     exact List.mem_append.2 (.inl (List.mem_filterMap.2 ⟨.tmp t,h3,rfl⟩))
 · exact hstep
 · cases hstep
theorem insert_any (hL : Lex P Sp b ops st0 rs ts) (hp : pairsOk ops ts = true) {L L' : Nat → Bool} (hS : Shut ops L) {i : Nat} {o : Oper} (ho : ops[i]? = some o) (hi : L i = false)
   (hi' : L' i = true) (hL' : ∀ k,k ≠ i → L' k = L k) {X : Fx} {E : Env} {a : Act} {w : World} (h : Rel X E (apply1 (AS ops rs st0 L) o (rs i)) a w) :
   Rel X ⟨E.N,(AS ops rs st0 L').gone⟩ (AS ops rs st0 L') a w := by
 have hin : i < ops.size := (Array.getElem?_eq_some_iff.1 ho).1
 have hlate : ∀ k,i < k → k < ops.size → L k = true → ∃ x,ops[k]? = some x ∧ (∀ t,o.dst = some t → x.dst ≠ some t) ∧ ∀ α,α ∈ modsOf (rs i) → α ∉ modsOf (rs k) := by
   intro k hik hk hLk
   have hx : ops[k]? = some ops[k] := Array.getElem?_eq_getElem hk
   rcases pairs_spec hp hik hk with hd | hd
   · have := before_shut hS _ hd hLk; rw [hi] at this; cases this
   · obtain ⟨ri,rj,_,_,h1,_,_,h4⟩ := compat_spec hL ho hx hd
     exact ⟨ops[k],hx,fun t ht => (Oper.apart_spec h1).2.1 t ht,fun α hα => disj_spec h4 hα⟩
 refine h.congr ?_ ?_ ?_ ?_
 · intro t
   rw [AS_tmps,foldS_insert hi hi' hL' hin,apply1_tmps,AS_tmps]
   · simp only [gT,ho,Option.getD_some]
   · by_cases ht : o.dst = some t
     · refine .inl fun k h1 h2 h3 => ?_
       obtain ⟨x,hx,h4,_⟩ := hlate k h1 h2 h3
       exact gT_id hx (h4 t ht)
     · exact .inr (gT_id ho ht)
 · intro α
   rw [AS_heap,foldS_insert hi hi' hL' hin,apply1_heap,AS_heap]
   · rfl
   · by_cases ht : α ∈ modsOf (rs i)
     · refine .inl fun k h1 h2 h3 => ?_
       obtain ⟨x,hx,_,h4⟩ := hlate k h1 h2 h3
       exact gB_id (h4 α ht)
     · exact .inr (gB_id ht)
 · intro τ
   rw [AS_gone,foldS_insert hi hi' hL' hin,apply1_gone,AS_gone]
   · rfl
   · by_cases ht : τ ∈ modsOf (rs i)
     · refine .inl fun k h1 h2 h3 => ?_
       obtain ⟨x,hx,_,h4⟩ := hlate k h1 h2 h3
       exact gU_id (h4 τ ht)
     · exact .inr (gU_id ht)
 · rw [AS_next,apply1_next,AS_next]
end
end
end Go.Proofs.YtndegphojkiblaaGreatDoor
