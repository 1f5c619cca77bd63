/- Towards the last file's theorem: part 9. -/
import Derived.Test.YtndegphojkiblaaGreatDoorG8
set_option linter.unusedSimpArgs false
set_option linter.unusedVariables false
namespace Go.Proofs.YtndegphojkiblaaGreatDoor
section
open Go.RowKit
open Classical
def C.clear (g : List Nat) (c : C) : C := if c.names.any (g.contains ·) then .dead else c
def ASt.settle (st : ASt) : ASt := match st.gone with
 | [] => st
 | g => ⟨st.tmps.map (V.on (C.clear g)),(st.heap.filter fun x => !g.contains x.1).map fun x => (x.1,x.2.on (C.clear g)),[],st.next⟩
def Env.settle (E : Env) : Env := ⟨fun n => if n ∈ E.gone then none else E.N n,[]⟩
theorem bad_settle {M : Bad} {E : Env} {g : Nat} (h : bad M E.settle g) : bad M E g := by
 rcases h with h | ⟨n,x,h1,h2⟩
 · exact .inl h
 · simp only [Env.settle] at h1
   split at h1
   · cases h1
   · exact .inr ⟨n,x,h1,h2⟩
theorem RC.clear {M : Bad} {E : Env} {w : World} {c : C} {v : Value} (h : RC M E w c v) : RC M E.settle w (c.clear E.gone) v := by
 unfold C.clear
 split
 · trivial
 · rename_i hn
   have hn' : ∀ n ∈ c.names,n ∉ E.gone := fun n h1 h2 => hn (List.any_eq_true.2 ⟨n,h1,by simpa using h2⟩)
   have hs : Stay (bad M E) (bad M E.settle) w w := fun g o u h1 h2 => ⟨h1,fun h => h2 (bad_settle h)⟩
   have : RC M E.settle w (c.ren id) v := RC.ren (.inl hs) (fun n h1 => ⟨hn' n h1,fun x hx => by simp only [Env.settle,id,if_neg (hn' n h1)]; exact hx⟩) h
   have e : c.ren id = c := by cases c <;> simp [C.ren]
   rw [e] at this
   exact this
theorem lookup_filter {l : Hp} {p : Nat → Bool} {n : Nat} : List.lookup n (l.filter fun x => p x.1) = if p n then List.lookup n l else none := by
 induction l with
 | nil => simp
 | cons x l ih =>
  obtain ⟨k,b⟩ := x
  simp only [List.filter_cons,List.lookup_cons]
  by_cases hk : p k = true
  · rw [if_pos hk,List.lookup_cons]
    by_cases hn : n = k
    · subst hn; simp [hk]
    · rw [beq_eq_false_iff_ne.2 hn]; exact ih
  · rw [if_neg hk]
    by_cases hn : n = k
    · subst hn; rw [ih,if_neg hk,if_neg hk]
    · rw [beq_eq_false_iff_ne.2 hn]; exact ih
theorem lookup_mapsnd {l : Hp} {f : Blk → Blk} {n : Nat} : List.lookup n (l.map fun x => (x.1,f x.2)) = (List.lookup n l).map f := by
 induction l with
 | nil => simp
 | cons x l ih =>
  obtain ⟨k,b⟩ := x
  simp only [List.map_cons,List.lookup_cons]
  split
  · rfl
  · exact ih
theorem Rel.settle {X : Fx} {E : Env} {st : ASt} {a : Act} {w : World} (h : Rel X E st a w) : ∃ E',Rel X E' st.settle a w ∧ st.settle.gone = [] := by
 cases hg : st.gone with
 | nil => exact ⟨E,by simp only [ASt.settle,hg]; exact h,by simp [ASt.settle,hg]⟩
 | cons t U =>
  have hs : st.settle = ⟨st.tmps.map (V.on (C.clear E.gone)),(st.heap.filter fun x => !E.gone.contains x.1).map fun x => (x.1,x.2.on (C.clear E.gone)),[],st.next⟩ := by simp only [ASt.settle,hg,h.gone]
  have hN : ∀ n x,E.settle.N n = some x → n ∉ E.gone ∧ E.N n = some x := fun n x hx => by
   simp only [Env.settle] at hx
   split at hx
   · cases hx
   · exact ⟨by assumption,hx⟩
  have hst : Stay (bad X.M E) (bad X.M E.settle) w w := fun g o u h1 h2 => ⟨h1,fun h => h2 (bad_settle h)⟩
  refine ⟨E.settle,?_,by rw [hs]⟩
  rw [hs]
  exact {
   defers := h.defers
   gone := rfl
   frame := h.frame
   mlt := h.mlt
   nlt := fun n x hx => h.nlt n x (hN n x hx).2
   names := fun n x g hx hg => h.names n x g (hN n x hx).2 hg
   inj := fun n m x y g hx hy => h.inj n m x y g (hN n x hx).2 (hN m y hy).2
   keep := fun m hm => by
     simp only [Env.settle]
     split
     · exact .inl rfl
     · exact h.keep m hm
   knext := h.knext
   gnext := fun n hn => by cases hn
   size := by simp [h.size]
   tmps := fun i v hi => by
     simp only [List.getElem?_map,Option.map_eq_some_iff] at hi
     obtain ⟨v',hv,rfl⟩ := hi
     obtain ⟨u,h1,h2⟩ := h.tmps i v' hv
     exact ⟨u,h1,RV.on (fun c v hc => RC.clear hc) h2⟩
   heap := fun n b hl => by
     simp only [lookup_mapsnd] at hl
     rw [lookup_filter (p := fun k => !E.gone.contains k)] at hl
     split at hl
     · rename_i hn
       simp only [Option.map_eq_some_iff] at hl
       obtain ⟨b',hb',rfl⟩ := hl
       have hn' : n ∉ E.gone := by simpa using hn
       have hr := h.row (by rw [← h.gone]; exact hn') hb'
       have hNn : ∀ x,E.N n = some x → E.settle.N n = some x := fun x hx => by simp only [Env.settle,if_neg hn']; exact hx
       right
       cases b' with
       | box cs =>
        obtain ⟨x,g,cur,e,h1,h0,h2,h3,h4⟩ := hr
        refine ⟨x,g,cur,e,hNn x h1,h0,h2,by simp [h3],fun i c hi => ?_⟩
        simp only [List.getElem?_map,Option.map_eq_some_iff] at hi
        obtain ⟨c',hc',rfl⟩ := hi
        obtain ⟨u,h5,h6,h7⟩ := h4 i c' hc'
        exact ⟨u,h5,RC.clear h6,h7⟩
       | row e rows =>
        obtain ⟨x,cur,fz,h1,hfz,h2,h3,h4,h5,h6,h11,h7,h8,h10,h9⟩ := hr
        exact ⟨x,cur,fz,hNn x h1,hfz,h2,h3,h4,h5,h6,h11,h7,h8,h10,fun i r j p hi hj => let ⟨u,k1,k2⟩ := h9 i r j p hi hj; ⟨u,k1,k2.trans hst⟩⟩
       | map es =>
        obtain ⟨x,g,en,clock,h1,h0,h2,h3⟩ := hr
        exact ⟨x,g,en,clock,hNn x h1,h0,h2,h3⟩
     · cases hl }
def ASt.bump (st : ASt) (k : Nat) : ASt := { st with next := st.next + 8 * k }
theorem Rel.bump {X : Fx} {E : Env} {st : ASt} {a : Act} {w : World} (h : Rel X E st a w) (k : Nat) : Rel X E (st.bump k) a w :=
 { h with nlt := fun n x hx => Nat.lt_of_lt_of_le (h.nlt n x hx) (Nat.le_add_right _ _),knext := Nat.le_trans h.knext (Nat.le_add_right _ _),gnext := fun n hn => Nat.lt_of_lt_of_le (h.gnext n hn) (Nat.le_add_right _ _),size := h.size,tmps := h.tmps,heap := h.heap,defers := h.defers,gone := h.gone }
theorem Rel.free {X : Fx} {E : Env} {st : ASt} {a : Act} {w : World} (h : Rel X E st a w) (hg : st.gone = []) {k j : Nat} (hj : j < k) : Free X E (st.bump k) (st.next + 8 * j) := fun n h1 h2 => by
 refine ⟨?_,?_,?_,?_⟩
 · cases hn : E.N n with
   | none => rfl
   | some x => have := h.nlt n x hn; omega
 · show n ∉ st.gone; rw [hg]; simp
 · show n < st.next + 8 * k; omega
 · have := h.knext; omega
noncomputable def evD (P : Program) (Sp : Spec) (b : Nat) (ops : Array Oper) : List Oper → Nat → ASt → Option (List (Option Res) × Feet × ASt)
 | [],_,st => some ([],[],st)
 | o :: l,k,st => match stepR P Sp b ops st k o with
  | some r => match evD P Sp b ops l (k + 1) (apply1 st o r) with
   | some (rs,ts,st') => some (r :: rs,(readsOf st o r,modsOf r) :: ts,st')
   | none => none
  | none => none
def seqOk (b : Nat) : Nat → Feet → Bool
 | _,[] => true
 | k,(_,m) :: ts => m.all (fun n => decide (n < b + 8 * k + 8)) && seqOk b (k + 1) ts
theorem snd_list {X : Fx} {Sp : Spec} {b : Nat} {ops : Array Oper} {Q : Exit → Act → World → Prop} : ∀ (l : List Oper) (k : Nat) {E : Env} {st st' : ASt} {rs : List (Option Res)} {ts : Feet} {a : Act} {w : World},
  (∀ j,l[j]? = ops[k + j]?) → Rel X E st a w → (∀ j,k ≤ j → j < ops.size → Free X E st (b + 8 * j)) → evD X.P Sp b ops l k st = some (rs,ts,st') → seqOk b k ts = true →
  (∀ a' w' E',Rel X E' st' a' w' → Q .normal a' w') → wpOps X.P ops Q (List.range' k l.length) a w
 | [],k,E,st,st',rs,ts,a,w,_,h,_,he,_,hq => by
  cases he
  exact hq a w E h
 | o :: l,k,E,st,st',rs,ts,a,w,hl,h,hF,he,hsq,hq => by
  have h0 : ops[k]? = some o := by simpa using (hl 0).symm
  have hk : k < ops.size := (Array.getElem?_eq_some_iff.1 h0).1
  simp only [evD] at he
  split at he
  · rename_i r hr
    split at he
    · rename_i rs1 ts1 st1 he1
      cases he
      simp only [seqOk,Bool.and_eq_true,List.all_eq_true,decide_eq_true_eq] at hsq
      simp only [List.length_cons,List.range'_succ,wpOps,h0]
      have := snd_step h (hF k (Nat.le_refl _) hk) (ops := ops) hr (next := wpOps X.P ops Q (List.range' (k + 1) l.length)) (Q := Q) (fun v w' E' k1 k2 => by
        refine snd_list l (k + 1) (fun j => by have := hl (j + 1); simpa [Nat.add_assoc,Nat.add_comm 1 j] using this) k2 ?_ he1 hsq.2 hq
        intro j hj hjs n h1 h2
        obtain ⟨f1,f2,f3,f4⟩ := hF j (by omega) hjs n h1 h2
        refine ⟨k1 n (by omega) f1,?_,by rw [apply1_next]; exact f3,f4⟩
        rw [apply1_gone]
        rintro (h3 | h3)
        · have := hsq.1 n (List.mem_append_right _ h3); omega
        · exact f2 h3)
      split
      · rename_i hw; rw [if_pos hw] at this; exact .inl this
      · rename_i hw; rw [if_neg hw] at this; exact this
    · cases he
  · cases he
def cnt (p : Nat → Bool) : Nat → Nat
 | 0 => 0
 | n + 1 => cnt p n + if p n then 1 else 0
theorem cnt_congr {p q : Nat → Bool} : ∀ {n : Nat},(∀ k,k < n → p k = q k) → cnt p n = cnt q n
 | 0,_ => rfl
 | n + 1,h => by simp only [cnt,cnt_congr (n := n) (fun k hk => h k (by omega)),h n (by omega)]
theorem cnt_drop {p q : Nat → Bool} {i : Nat} (hi : p i = true) (hi' : q i = false) (h : ∀ k,k ≠ i → q k = p k) : ∀ {n : Nat},i < n → cnt q n + 1 = cnt p n
 | 0,hn => by omega
 | n + 1,hn => by
  by_cases hin : i = n
  · subst hin
    simp only [cnt,hi,hi',if_true,Bool.false_eq_true,if_false,cnt_congr (n := i) (p := q) (q := p) (fun k hk => h k (by omega))]
  · have ih := cnt_drop hi hi' h (n := n) (by omega)
    simp only [cnt,h n (by omega)]
    omega
theorem cnt_zero {p : Nat → Bool} : ∀ {n : Nat},cnt p n = 0 → ∀ k,k < n → p k = false
 | 0,_,k,hk => by omega
 | n + 1,h,k,hk => by
  simp only [cnt] at h
  by_cases hkn : k = n
  · subst hkn
    cases hp : p k
    · rfl
    · rw [hp] at h; simp at h
  · exact cnt_zero (n := n) (by omega) k (by omega)
def did (listed : Array Bool) (k : Nat) : Bool := listed.getD k false
section
variable {X : Fx} {Sp : Spec} {b : Nat} {ops : Array Oper} {st0 : ASt} {rs : Nat → Option Res} {ts : Feet}
theorem fresh_spec (hL : Lex X.P Sp b ops st0 rs ts) (hf : freshOk b ops ts = true) {i j : Nat} (hi : i < ops.size) (hj : j < ops.size) (hij : i ≠ j) (hd : direct ops i j = false) : ∀ n ∈ modsOf (rs i),¬ (b + 8 * j ≤ n ∧ n < b + 8 * j + 8) := by
 unfold freshOk at hf
 simp only [List.all_eq_true,List.mem_range,Bool.or_eq_true,beq_iff_eq] at hf
 have h1 := hL.name i ops[i] (Array.getElem?_eq_getElem hi)
 rcases hf i hi j hj with (h2 | h2) | h2
 · exact absurd h2 hij
 · rw [hd] at h2; cases h2
 · rw [h1] at h2
   simp only [List.all_eq_true,Bool.not_eq_true',Bool.and_eq_false_iff,decide_eq_false_iff_not] at h2
   intro n hn h3
   rcases h2 n hn with h4 | h4
   · exact h4 h3.1
   · exact h4 h3.2
theorem any_told (hL : Lex X.P Sp b ops st0 rs ts) (hp : pairsOk ops ts = true) (hfo : freshOk b ops ts = true) (hf : forwardOk ops = true) {Q : Exit → Act → World → Prop}
  (hq : ∀ a' w' E',Rel X E' (AS ops rs st0 fun k => decide (k < ops.size)) a' w' → Q .normal a' w') :
  ∀ (fuel : Nat) (listed : Array Bool) (E : Env) (a : Act) (w : World),listed.size = ops.size → cnt (fun k => !did listed k) ops.size = fuel → Shut ops (did listed) → Rel X E (AS ops rs st0 (did listed)) a w →
    (∀ k,k < ops.size → did listed k = false → Free X E (AS ops rs st0 (did listed)) (b + 8 * k)) → wpAny X.P .any ops Q fuel listed a w := by
 have hend : ∀ (listed : Array Bool) (E : Env) (a : Act) (w : World),(∀ k,k < ops.size → did listed k = true) → Rel X E (AS ops rs st0 (did listed)) a w → Q .normal a w := by
  intro listed E a w hall hR
  refine hq a w E ?_
  have : AS ops rs st0 (did listed) = AS ops rs st0 fun k => decide (k < ops.size) := foldS_congr fun k hk => .inl (by rw [hall k hk]; simp [hk])
  rw [← this]
  exact hR
 have hnone : ∀ (listed : Array Bool),listed.size = ops.size → Region.ready .any ops listed = [] → ∀ k,k < ops.size → did listed k = true := by
  intro listed hsz hr k
  induction k using Nat.strongRecOn with
  | _ k ih =>
    intro hk
    cases hd : did listed k with
    | true => rfl
    | false =>
      exfalso
      have : k ∈ Region.ready .any ops listed := mem_ready.2 ⟨by
        unfold did at hd
        simp only [Array.getD_eq_getD_getElem?,Array.getElem?_eq_getElem (show k < listed.size by omega),Option.getD_some] at hd ⊢
        exact hd,ops[k],Array.getElem?_eq_getElem hk,fun e he hb => by
        unfold forwardOk at hf
        simp only [List.all_eq_true,List.mem_range] at hf
        have := hf k hk
        rw [Array.getElem?_eq_getElem hk] at this
        simp only [Array.all_eq_true_iff_forall_mem] at this
        have := this e he
        rw [hb] at this
        simp at this
        exact ih e.on this (by omega)⟩
      rw [hr] at this
      cases this
 intro fuel
 induction fuel with
 | zero =>
  intro listed E a w hsz hc hSh hR hF
  have hall : ∀ k,k < ops.size → did listed k = true := fun k hk => by simpa using cnt_zero hc k hk
  refine ⟨?_,hend listed E a w hall hR⟩
  refine List.eq_nil_iff_forall_not_mem.2 fun i hi => ?_
  obtain ⟨h1,o,ho,_⟩ := mem_ready.1 hi
  have hin : i < ops.size := (Array.getElem?_eq_some_iff.1 ho).1
  have := hall i hin
  unfold did at this
  simp only [Array.getD_eq_getD_getElem?,Array.getElem?_eq_getElem (show i < listed.size by omega),Option.getD_some] at this h1
  rw [this] at h1; cases h1
 | succ fuel ih =>
  intro listed E a w hsz hc hSh hR hF
  refine ⟨fun hr => hend listed E a w (hnone listed hsz hr) hR,fun i hi => ?_⟩
  obtain ⟨h1,o,ho,hpre⟩ := mem_ready.1 hi
  have hin : i < ops.size := (Array.getElem?_eq_some_iff.1 ho).1
  have hii : did listed i = false := by
    unfold did
    simp only [Array.getD_eq_getD_getElem?,Array.getElem?_eq_getElem (show i < listed.size by omega),Option.getD_some] at h1 ⊢
    exact h1
  have hri : ∀ j,direct ops i j = true → did listed j = true := by
    intro j hj
    unfold direct at hj
    rw [ho] at hj
    simp only [Array.any_eq_true',Bool.and_eq_true,beq_iff_eq] at hj
    obtain ⟨e,he,hb,rfl⟩ := hj
    exact hpre e he hb
  have hset : did (listed.setIfInBounds i true) i = true := by
    unfold did
    simp [Array.getD_eq_getD_getElem?,Array.getElem?_setIfInBounds,show i < listed.size by omega]
  have hoth : ∀ k,k ≠ i → did (listed.setIfInBounds i true) k = did listed k := fun k hk => by
    unfold did
    exact getD_set_ne false (Ne.symm hk)
  have hst := step_any hL hp hSh ho hii hri
  unfold wpOp
  rw [ho]
  simp only
  have := snd_step hR (hF i hin hii) (ops := ops) (o := o) hst (next := wpAny X.P .any ops Q fuel (listed.setIfInBounds i true)) (Q := Q) (fun v w' E' k1 k2 => by
    have k4 := insert_any hL hp hSh ho hii hset hoth k2
    refine ih (listed.setIfInBounds i true) _ _ w' (by simpa using hsz) ?_ ?_ k4 ?_
    · have := cnt_drop (p := fun k => !did listed k) (q := fun k => !did (listed.setIfInBounds i true) k) (i := i) (by simp [hii]) (by simp [hset]) (fun k hk => by simp [hoth k hk]) hin
      omega
    · intro j k hj hd
      by_cases hki : k = i
      · subst hki; exact hset
      · rw [hoth k hki]
        by_cases hji : j = i
        · subst hji; exact hri k hd
        · rw [hoth j hji] at hj
          exact hSh j k hj hd
    · intro k hk hkd n h5 h6
      have hki : k ≠ i := by rintro rfl; rw [hset] at hkd; cases hkd
      rw [hoth k hki] at hkd
      obtain ⟨f1,f2,f3,f4⟩ := hF k hk hkd n h5 h6
      refine ⟨k1 n (by omega) f1,?_,by rw [AS_next] at f3 ⊢; exact f3,f4⟩
      have hiff : (n ∈ (AS ops rs st0 (did (listed.setIfInBounds i true))).gone) ↔ n ∈ (apply1 (AS ops rs st0 (did listed)) o (rs i)).gone := by
        have hg : n ∉ modsOf (rs i) := by
          intro hm
          cases hdi : direct ops i k with
          | true => have := hri k hdi; rw [hkd] at this; cases this
          | false => exact fresh_spec hL hfo hin hk (Ne.symm hki) hdi n hm ⟨h5,h6⟩
        rw [AS_gone,foldS_insert hii hset hoth hin (.inr (gU_id hg)),apply1_gone,AS_gone]
        rfl
      intro h7
      have h8 := hiff.1 h7
      rw [apply1_gone] at h8
      rcases h8 with h8 | h8
      · cases hdi : direct ops i k with
        | true => have := hri k hdi; rw [hkd] at this; cases this
        | false => exact fresh_spec hL hfo hin hk (Ne.symm hki) hdi n (List.mem_append_right _ h8) ⟨h5,h6⟩
      · exact f2 h8)
  split
  · rename_i hw; rw [if_pos hw] at this; exact .inl this
  · rename_i hw; rw [if_neg hw] at this; exact this
theorem evD_lex {rsF : Nat → Option Res} : ∀ (l : List Oper) (k : Nat) {st st' : ASt} {ts : Feet} {rs : List (Option Res)},
  (∀ j,l[j]? = ops[k + j]?) → evD X.P Sp b ops l k st = some (rs,ts,st') → (∀ j,j < rs.length → rsF (k + j) = (rs[j]?).getD none) →
  st = foldS (fun k st => apply1 st (ops[k]?.getD default) (rsF k)) (fun _ => true) st0 k →
  rs.length = l.length ∧ ts.length = l.length ∧
  st' = foldS (fun k st => apply1 st (ops[k]?.getD default) (rsF k)) (fun _ => true) st0 (k + l.length) ∧
  ∀ (j : Nat) (o : Oper),l[j]? = some o → stepR X.P Sp b ops (foldS (fun k st => apply1 st (ops[k]?.getD default) (rsF k)) (fun _ => true) st0 (k + j)) (k + j) o = some (rsF (k + j)) ∧
    ts[j]? = some (readsOf (foldS (fun k st => apply1 st (ops[k]?.getD default) (rsF k)) (fun _ => true) st0 (k + j)) o (rsF (k + j)),modsOf (rsF (k + j)))
 | [],k,st,st',ts,rs,_,he,_,hst => by
  cases he
  exact ⟨rfl,rfl,by simpa using hst,fun j o h => by simp at h⟩
 | o :: l,k,st,st',ts,rs,hl,he,hrs,hst => by
  have h0 : ops[k]? = some o := by simpa using (hl 0).symm
  simp only [evD] at he
  split at he
  · rename_i r hr
    split at he
    · rename_i rs1 ts1 st1 he1
      cases he
      have hrk : rsF k = r := by have := hrs 0 (by simp); simpa using this
      have hst1 : apply1 st o r = foldS (fun k st => apply1 st (ops[k]?.getD default) (rsF k)) (fun _ => true) st0 (k + 1) := by
       simp only [foldS,if_true,← hst,h0,Option.getD_some,hrk]
      obtain ⟨g1,g2,g4,g5⟩ := evD_lex l (k + 1) (fun j => by have := hl (j + 1); simpa [Nat.add_assoc,Nat.add_comm 1 j] using this) he1
       (fun j hj => by have := hrs (j + 1) (by simpa using hj); rw [show k + 1 + j = k + (j + 1) by omega]; simpa using this) hst1
      refine ⟨by simp [g1],by simp [g2],by rw [g4]; simp [Nat.add_assoc,Nat.add_comm 1],fun j x hj => ?_⟩
      cases j with
      | zero =>
       simp at hj; subst hj
       rw [Nat.add_zero,← hst,hrk]
       exact ⟨hr,rfl⟩
      | succ j =>
       have := g5 j x (by simpa using hj)
       rw [show k + 1 + j = k + (j + 1) by omega] at this
       simpa using this
    · cases he
  · cases he
end
theorem foldS_prefix {X : Type} {g : Nat → X → X} {x : X} {k n : Nat} (h : k ≤ n) : foldS g (fun j => decide (j < k)) x n = foldS g (fun _ => true) x k := by
  induction n with
  | zero => have : k = 0 := by omega
            subst this; rfl
  | succ n ih =>
    by_cases hk : k = n + 1
    · subst hk
      exact foldS_congr fun j hj => .inl (by simp [hj])
    · simp only [foldS]
      rw [if_neg (by simp; omega)]
      exact ih (by omega)
def Told (X : Fx) (st : ASt) (a : Act) (w : World) : Prop := ∃ E,Rel X E st a w ∧ st.gone = []
def Aw (X : Fx) (c : Code) (Q : Exit → ASt → Prop) (st : ASt) : Prop :=
 ∀ a w,Told X st a w → c.wp X.P (fun e a' w' => ∃ st',Q e st' ∧ Told X st' a' w') a w
section
variable {X : Fx} {Sp : Spec} {Q : Exit → ASt → Prop} {st : ASt}
theorem aw_region {id : Nat} {ops : List Oper} {rs : List (Option Res)} {ts : Feet} {st' : ASt} (he : evD X.P Sp st.next ops.toArray ops 0 (st.bump ops.length) = some (rs,ts,st')) (hs : seqOk st.next 0 ts = true) (h : Q .normal st'.settle) :
  Aw X (.region id ops.toArray false) Q st := fun a w ht => by
 obtain ⟨E,hR,hg⟩ := ht
 refine wp_region ?_
 have := snd_list (X := X) (ops := ops.toArray) (Q := fun e a' w' => ∃ st',Q e st' ∧ Told X st' a' w') ops 0 (fun j => by simp) (hR.bump ops.length) (fun j _ hj => hR.free hg (by simpa using hj)) he hs (fun a' w' E' k1 => by
  obtain ⟨E2,k3,k4⟩ := k1.settle
  exact ⟨_,h,E2,k3,k4⟩)
 rw [← List.range_eq_range'] at this
 simpa using this
theorem aw_draw (hm : X.P.follows .mixedOrders = true) {id : Nat} {ops : List Oper} (hf : forwardOk ops.toArray = true) {rs : List (Option Res)} {ts : Feet} {st' : ASt}
   (he : evD X.P Sp st.next ops.toArray ops 0 (st.bump ops.length) = some (rs,ts,st')) (hp : pairsOk ops.toArray ts = true) (hfo : freshOk st.next ops.toArray ts = true) (h : Q .normal st'.settle) :
   Aw X (.region id ops.toArray true) Q st := fun a w ht => by
 obtain ⟨E,hR,hg⟩ := ht
 obtain ⟨g1,g2,g4,g5⟩ := evD_lex (X := X) (st0 := st.bump ops.length) (rsF := fun k => (rs[k]?).getD none) ops 0 (fun j => by simp) he (fun j _ => by simp) rfl
 have hlex : Lex X.P Sp st.next ops.toArray (st.bump ops.length) (fun k => (rs[k]?).getD none) ts := {
   step := fun k o ho => by
    have hk : k < ops.length := by have := (Array.getElem?_eq_some_iff.1 ho).1; simpa using this
    rw [foldS_prefix (by simpa using Nat.le_of_lt hk)]
    have := (g5 k o (by simpa using ho)).1
    simpa using this
   name := fun k o ho => by
    have hk : k < ops.length := by have := (Array.getElem?_eq_some_iff.1 ho).1; simpa using this
    rw [foldS_prefix (by simpa using Nat.le_of_lt hk)]
    have := (g5 k o (by simpa using ho)).2
    simpa using this }
 refine wp_region_any hm ?_
 have hR1 : Rel X E (st.bump ops.length) a { w with drawn := w.drawn + 1 } := (hR.bump ops.length).drew
 have e1 : AS ops.toArray (fun k => (rs[k]?).getD none) (st.bump ops.length) (did (Array.replicate ops.toArray.size false)) = st.bump ops.length := by
   have : AS ops.toArray (fun k => (rs[k]?).getD none) (st.bump ops.length) (did (Array.replicate ops.toArray.size false)) = AS ops.toArray (fun k => (rs[k]?).getD none) (st.bump ops.length) (fun j => decide (j < 0)) :=
    foldS_congr fun k hk => .inl (by simp [did,Array.getD_eq_getD_getElem?,Array.getElem?_replicate]; split <;> simp)
   rw [this]
   show foldS _ _ _ _ = _
   rw [foldS_prefix (Nat.zero_le _)]
   rfl
 refine any_told (X := X) (Q := fun e a' w' => ∃ st',Q e st' ∧ Told X st' a' w') hlex hp hfo hf ?_ _ _ E a _ (by simp) ?_ ?_ ?_ ?_
 · intro a' w' E' k2
   have e1 : AS ops.toArray (fun k => (rs[k]?).getD none) (st.bump ops.length) (fun k => decide (k < ops.toArray.size)) = st' := by
    rw [g4]
    show foldS _ _ _ _ = _
    rw [foldS_prefix (Nat.le_refl _)]
    simp
   rw [e1] at k2
   obtain ⟨E2,k3,k4⟩ := k2.settle
   exact ⟨_,h,E2,k3,k4⟩
 · have : ∀ n,n ≤ ops.length → cnt (fun k => !did (Array.replicate ops.toArray.size false) k) n = n := by
    intro n hn
    induction n with
    | zero => rfl
    | succ n ih =>
     simp only [cnt,ih (by omega)]
     simp [did,Array.getD_eq_getD_getElem?,Array.getElem?_replicate,show n < ops.length by omega]
   simpa using this ops.length (Nat.le_refl _)
 · intro j i hj _
   simp [did,Array.getD_eq_getD_getElem?,Array.getElem?_replicate] at hj
   split at hj <;> simp at hj
 · rw [e1]; exact hR1
 · intro k hk _
   rw [e1]
   exact hR.free hg (by simpa using hk)
theorem aw_mono {c : Code} {Q' : Exit → ASt → Prop} (h : Aw X c Q st) (hq : ∀ e st,Q e st → Q' e st) : Aw X c Q' st :=
 fun a w ht => wp_mono (h a w ht) fun e _ _ ⟨st',h1,h2⟩ => ⟨st',hq e st' h1,h2⟩
def Le (X : Fx) (st st' : ASt) : Prop := ∀ a w,Told X st a w → Told X st' a w
theorem aw_le {c : Code} {st' : ASt} (hl : Le X st st') (h : Aw X c Q st') : Aw X c Q st := fun a w ht => h a w (hl a w ht)
theorem aw_skip (h : Q .normal st) : Aw X .skip Q st := fun _ _ ht => wp_skip ⟨st,h,ht⟩
theorem aw_exit {id : Nat} (h : Q (.exit id) st) : Aw X (.exit id) Q st := fun _ _ ht => wp_exit ⟨st,h,ht⟩
theorem aw_ret (h : Q .ret st) : Aw X .ret Q st := fun _ _ ht => wp_ret ⟨st,h,ht⟩
def thenA (next : ASt → Prop) (Q : Exit → ASt → Prop) : Exit → ASt → Prop
 | .normal,st => next st
 | e,st => Q e st
theorem aw_seq {x y : Code} (h : Aw X x (thenA (Aw X y Q) Q) st) : Aw X (.seq x y) Q st := fun a w ht => by
 refine wp_seq (wp_mono (h a w ht) ?_)
 rintro e a' w' ⟨st',h1,h2⟩
 cases e with
 | normal => exact h1 a' w' h2
 | _ => exact ⟨st',h1,h2⟩
theorem aw_cond {c : Operand} {x y : Code} {t : Bool} (hc : st.arg c = some (.sc (.bool t))) (h1 : t = true → Aw X x Q st) (h2 : t = false → Aw X y Q st) : Aw X (.cond c x y) Q st := fun a w ht => by
 have ht' := ht
 obtain ⟨E,hR,_⟩ := ht'
 have k1 := RP.sc_eq (hR.argc hc).1
 refine wp_cond k1 ?_
 cases t
 · exact h2 rfl a w ht
 · exact h1 rfl a w ht
def inBlockA (id : Nat) (Q : Exit → ASt → Prop) : Exit → ASt → Prop
 | .exit id',st => if id' = id then Q .normal st else Q (.exit id') st
 | e,st => Q e st
theorem aw_block {id : Nat} {c : Code} (h : Aw X c (inBlockA id Q) st) : Aw X (.block id c) Q st := fun a w ht => by
 refine wp_block (wp_mono (h a w ht) ?_)
 rintro e a' w' ⟨st',h1,h2⟩
 cases e with
 | exit id' =>
  simp only [inBlockA] at h1
  by_cases hid : id' = id
  · rw [if_pos hid] at h1
    simp only [Exit.inBlock,hid,if_true]
    exact ⟨st',h1,h2⟩
  · rw [if_neg hid] at h1
    simp only [Exit.inBlock]
    rw [if_neg (by first | exact hid | exact fun h => hid h.symm)]
    exact ⟨st',h1,h2⟩
 | _ => exact ⟨st',h1,h2⟩
theorem aw_loop {c : Code} {α : Type} (I : α → ASt → Prop) (μ : α → Nat) {x0 : α} (h0 : ∃ st1,Le X st st1 ∧ I x0 st1)
  (round : ∀ x st,I x st → Aw X c (thenA (fun st' => ∃ x' st1,Le X st' st1 ∧ I x' st1 ∧ μ x' < μ x) Q) st) : Aw X (.loop c) Q st := fun a w ht => by
 obtain ⟨st1,hl,hI⟩ := h0
 intro b k cs
 have key : ∀ n x st,μ x = n → I x st → ∀ a w,Told X st a w →
   ∃ e a' w',(∃ st',Q e st' ∧ Told X st' a' w') ∧ Arrives X.P (lone (b.at a (.code c :: .inLoop c :: k)) cs w) b k cs e a' w' := by
  intro n
  induction n using Nat.strongRecOn with
  | _ n ih =>
   intro x st hx hI a w ht
   obtain ⟨e,a₁,w₁,⟨st',hq,ht'⟩,harr⟩ := round x st hI a w ht b (.inLoop c :: k) cs
   cases e with
   | normal =>
    obtain ⟨x',st2,hl2,hI2,hμ⟩ := hq
    obtain ⟨e₂,a₂,w₂,hq₂,harr₂⟩ := ih (μ x') (hx ▸ hμ) x' st2 rfl hI2 a₁ w₁ (hl2 _ _ ht')
    exact ⟨e₂,a₂,w₂,hq₂,.of_steps (Steps.trans harr (.one step_inLoop)) harr₂⟩
   | exit id => exact ⟨_,a₁,w₁,⟨st',hq,ht'⟩,.pass (x := .inLoop c) rfl (fun _ _ => .inl (by simp)) harr⟩
   | goto l => exact ⟨_,a₁,w₁,⟨st',hq,ht'⟩,.pass (x := .inLoop c) rfl (fun _ _ => .inl (by simp)) harr⟩
   | ret => exact ⟨_,a₁,w₁,⟨st',hq,ht'⟩,.pass (x := .inLoop c) rfl (fun _ _ => .inl (by simp)) harr⟩
   | panic ch => exact ⟨_,a₁,w₁,⟨st',hq,ht'⟩,.pass (x := .inLoop c) rfl (fun _ _ => .inl (by simp)) harr⟩
   | outgrown => exact ⟨_,a₁,w₁,⟨st',hq,ht'⟩,.pass (x := .inLoop c) rfl (fun _ _ => .inl (by simp)) harr⟩
 obtain ⟨e,a',w',hq,harr⟩ := key _ x0 st1 rfl hI a w (hl _ _ ht)
 exact ⟨e,a',w',hq,.of_steps (.one step_loop) harr⟩
end
end
end Go.Proofs.YtndegphojkiblaaGreatDoor
