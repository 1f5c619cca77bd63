/- Towards the last file's theorem: part 10. -/
import Derived.Test.YtndegphojkiblaaGreatDoorG9
set_option linter.unusedSimpArgs false
set_option linter.unusedVariables false
namespace Go.Proofs.YtndegphojkiblaaGreatDoor
section
open Go.RowKit
open Classical
abbrev Ren := List (Nat × Nat)
def Ren.to (ι : Ren) (n : Nat) : Nat := (List.lookup n ι).getD 0
def Ren.old (ι : Ren) : List Nat := ι.map (·.1)
def Ren.new (ι : Ren) : List Nat := ι.map (·.2)
def leC (st : ASt) (ι : Ren) (Z : List Nat) : C → C → Prop
 | _,.dead => True
 | c,.p q => c = .p q ∨ ∃ rows,q = .sl rows ∧ st.view c = some rows ∧ ∀ n ∈ c.names,n ∉ ι.old
 | .nil,.own n' => n' ∈ Z
 | .nil,.sub n' lo len => n' ∈ Z ∧ lo = 0 ∧ len = 0
 | c,c' => c' = c.ren ι.to ∧ ∀ n ∈ c.names,n ∈ ι.old
def leCs (st : ASt) (ι : Ren) (Z : List Nat) : List C → List C → Prop
 | [],[] => True
 | c :: cs,c' :: cs' => leC st ι Z c c' ∧ leCs st ι Z cs cs'
 | _,_ => False
def leV1 (st : ASt) (ι : Ren) (Z : List Nat) : V1 → V1 → Prop
 | _,.c .dead => True
 | .c c,.c c' => leC st ι Z c c'
 | .agg cs,.agg cs' => leCs st ι Z cs cs'
 | _,_ => False
def leV1s (st : ASt) (ι : Ren) (Z : List Nat) : List V1 → List V1 → Prop
 | [],[] => True
 | c :: cs,c' :: cs' => leV1 st ι Z c c' ∧ leV1s st ι Z cs cs'
 | _,_ => False
def leV (st : ASt) (ι : Ren) (Z : List Nat) : V → V → Prop
 | _,.v (.c .dead) => True
 | .v x,.v x' => leV1 st ι Z x x'
 | .tup xs,.tup xs' => leV1s st ι Z xs xs'
 | _,_ => False
def leL (st : ASt) (ι : Ren) (Z : List Nat) : List V → List V → Prop
 | [],[] => True
 | v :: l,v' :: l' => leV st ι Z v v' ∧ leL st ι Z l l'
 | _,_ => False
def leB (st : ASt) (ι : Ren) (Z : List Nat) : Blk → Blk → Prop
 | .box cs,.box cs' => leCs st ι Z cs cs'
 | .row e rows,.row e' rows' => e = e' ∧ rows = rows'
 | .map es,.map es' => es = es'
 | _,_ => False
structure LeS (P : Program) (k0 : Nat) (st st' : ASt) (ι : Ren) (Z : List Nat) : Prop where
 gone : st'.gone = []
 old : ι.old.Nodup
 new : ι.new.Nodup
 zs : ∀ n ∈ Z,n ∉ ι.new ∧ k0 ≤ n ∧ n < st'.next ∧ ∃ e,st'.heap.lookup n = some (.row e []) ∧ 0 < P.cellsOf e
 lt : ∀ x ∈ ι,x.2 < st'.next ∧ (x.2 < k0 → x.1 = x.2)
 k0 : k0 ≤ st'.next
 tmps : leL st ι Z st.tmps st'.tmps
 heap : ∀ n' b',st'.heap.lookup n' = some b' → n' ∈ Z ∨ ∃ n b,(n,n') ∈ ι ∧ st.heap.lookup n = some b ∧ leB st ι Z b b'
theorem lookup_old {ι : Ren} {n : Nat} (h : n ∈ ι.old) : ∃ n',List.lookup n ι = some n' ∧ (n,n') ∈ ι := by
 induction ι with
 | nil => simp [Ren.old] at h
 | cons x ι ih =>
  obtain ⟨k,k'⟩ := x
  rw [List.lookup_cons]
  by_cases hk : n = k
  · subst hk; exact ⟨k',by simp,by simp⟩
  · rw [beq_eq_false_iff_ne.2 hk]
    obtain ⟨n',h1,h2⟩ := ih (by simpa [Ren.old,hk] using h)
    exact ⟨n',h1,by simp [h2]⟩
theorem pair_old {ι : Ren} (hn : ι.old.Nodup) {n a b : Nat} (h1 : (n,a) ∈ ι) (h2 : (n,b) ∈ ι) : a = b := by
 induction ι with
 | nil => cases h1
 | cons x ι ih =>
  simp only [Ren.old,List.map_cons,List.nodup_cons] at hn
  rcases List.mem_cons.1 h1 with k1 | k1 <;> rcases List.mem_cons.1 h2 with k2 | k2
  · rw [← k1] at k2; cases k2; rfl
  · rw [← k1] at hn; exact absurd (List.mem_map.2 ⟨(n,b),k2,rfl⟩ : n ∈ ι.map (·.1)) hn.1
  · rw [← k2] at hn; exact absurd (List.mem_map.2 ⟨(n,a),k1,rfl⟩ : n ∈ ι.map (·.1)) hn.1
  · exact ih hn.2 k1 k2
theorem pair_new {ι : Ren} (hn : ι.new.Nodup) {n a b : Nat} (h1 : (a,n) ∈ ι) (h2 : (b,n) ∈ ι) : a = b := by
 induction ι with
 | nil => cases h1
 | cons x ι ih =>
  simp only [Ren.new,List.map_cons,List.nodup_cons] at hn
  rcases List.mem_cons.1 h1 with k1 | k1 <;> rcases List.mem_cons.1 h2 with k2 | k2
  · rw [← k1] at k2; cases k2; rfl
  · rw [← k1] at hn; exact absurd (List.mem_map.2 ⟨(b,n),k2,rfl⟩ : n ∈ ι.map (·.2)) hn.1
  · rw [← k2] at hn; exact absurd (List.mem_map.2 ⟨(a,n),k1,rfl⟩ : n ∈ ι.map (·.2)) hn.1
  · exact ih hn.2 k1 k2
def Env.le (P : Program) (E : Env) (st' : ASt) (ι : Ren) (Z : List Nat) : Env :=
 ⟨fun n' => if n' ∈ Z then some ⟨none,0,0,match st'.heap.lookup n' with | some (.row e _) => P.cellsOf e | _ => 0⟩ else match ι.find? (fun x => x.2 == n') with | some x => E.N x.1 | none => none,[]⟩
section
variable {X : Fx} {E : Env} {st st' : ASt} {a : Act} {w : World} {ι : Ren} {Z : List Nat}
theorem le_some {n' : Nat} {x : Nm} (h : (E.le X.P st' ι Z).N n' = some x) : (n' ∈ Z ∧ x.g = none) ∨ (n' ∉ Z ∧ ∃ n,(n,n') ∈ ι ∧ E.N n = some x) := by
 simp only [Env.le] at h
 split at h
 · cases h; exact .inl ⟨by assumption,rfl⟩
 · right
   refine ⟨by assumption,?_⟩
   split at h
   · rename_i y hy
     have h1 := List.find?_some hy
     have h2 := List.mem_of_find?_eq_some hy
     simp at h1
     obtain ⟨n,m⟩ := y
     simp at h1; subst h1
     exact ⟨n,h2,h⟩
   · cases h
theorem le_name (hL : LeS X.P X.k0 st st' ι Z) {n n' : Nat} (hn : (n,n') ∈ ι) {x : Nm} (h : E.N n = some x) : (E.le X.P st' ι Z).N n' = some x := by
 simp only [Env.le]
 rw [if_neg (fun hz => (hL.zs n' hz).1 (List.mem_map.2 ⟨_,hn,rfl⟩))]
 cases hf : ι.find? (fun x => x.2 == n') with
 | none =>
  rw [List.find?_eq_none] at hf
  exact (hf _ hn (by simp)).elim
 | some y =>
  have h1 := List.find?_some hf
  have h2 := List.mem_of_find?_eq_some hf
  obtain ⟨m,m'⟩ := y
  simp at h1; subst h1
  have := pair_new hL.new hn h2
  subst this
  exact h
theorem bad_le {g : Nat} (h : bad X.M (E.le X.P st' ι Z) g) : bad X.M E g := by
 rcases h with h | ⟨n',x,h1,h2⟩
 · exact .inl h
 · rcases le_some h1 with ⟨_,h3⟩ | ⟨_,n,_,h3⟩
   · rw [h3] at h2; cases h2
   · exact .inr ⟨n,x,h3,h2⟩
theorem RC.le (h : Rel X E st a w) (hg : st.gone = []) (hL : LeS X.P X.k0 st st' ι Z) {c c' : C} {v : Value} (hl : leC st ι Z c c') (hc : RC X.M E w c v) : RC X.M (E.le X.P st' ι Z) w c' v := by
 have hst : Stay (bad X.M E) (bad X.M (E.le X.P st' ι Z)) w w := fun g o u h1 h2 => ⟨h1,fun h => h2 (bad_le h)⟩
 have hng : ∀ n,n ∉ E.gone := fun n => by rw [h.gone,hg]; simp
 have key : c' = c.ren ι.to ∧ (∀ n ∈ c.names,n ∈ ι.old) → RC X.M (E.le X.P st' ι Z) w c' v := by
  rintro ⟨rfl,hn⟩
  refine RC.ren (.inl hst) (fun n h1 => ⟨hng n,fun x hx => ?_⟩) hc
  obtain ⟨n',h2,h3⟩ := lookup_old (hn n h1)
  have : ι.to n = n' := by simp [Ren.to,h2]
  rw [this]
  exact le_name hL h3 hx
 cases c' with
 | dead => trivial
 | p q =>
  have hl' : c = .p q ∨ ∃ rows,q = .sl rows ∧ st.view c = some rows ∧ ∀ n ∈ c.names,n ∉ ι.old := by cases c <;> exact hl
  rcases hl' with rfl | ⟨rows,rfl,hv,hn⟩
  · exact RP.trans hc hst
  · obtain ⟨ns,h1,h2⟩ := view_sink hv
    obtain ⟨_,_,h3⟩ := h.sink hc (fun n _ => by rw [hg]; simp) h1
    refine RP.trans (h3 ns (fun _ h => h)) (fun g o u k1 k2 => ⟨k1,fun k3 => k2 ?_⟩)
    rcases k3 with k3 | ⟨n',x,k4,k5⟩
    · exact .inl k3
    · rcases le_some k4 with ⟨_,k6⟩ | ⟨_,n,k6,k7⟩
      · rw [k6] at k5; cases k5
      · refine .inr ⟨n,x,?_,k5⟩
        simp only [Env.drop]
        rw [if_neg fun hns => hn n (h2 n hns) (List.mem_map.2 ⟨_,k6,rfl⟩)]
        exact k7
 | own n' =>
  cases c with
  | nil =>
    have hz : n' ∈ Z := hl
    obtain ⟨_,_,_,e,h4,h5⟩ := hL.zs n' hz
    refine .inr ⟨⟨none,0,0,X.P.cellsOf e⟩,by simp [Env.le,hz,h4],?_⟩
    exact hc
  | _ => exact key hl
 | sub n' lo len =>
  cases c with
  | nil =>
    obtain ⟨hz,rfl,rfl⟩ : n' ∈ Z ∧ lo = 0 ∧ len = 0 := hl
    obtain ⟨_,_,_,e,h4,h5⟩ := hL.zs n' hz
    exact .inr ⟨⟨none,0,0,X.P.cellsOf e⟩,by simp [Env.le,hz,h4],Nat.le_refl _,none,hc,fun _ => rfl⟩
  | _ => exact key hl
 | _ => cases c <;> exact key hl
theorem leCs_get : ∀ {cs cs' : List C},leCs st ι Z cs cs' → cs.length = cs'.length ∧ ∀ (i : Nat) (c' : C),cs'[i]? = some c' → ∃ c,cs[i]? = some c ∧ leC st ι Z c c'
 | [],[],_ => ⟨rfl,fun i c' h => by simp at h⟩
 | c :: cs,c' :: cs',h => by
  obtain ⟨h1,h2⟩ := leCs_get h.2
  refine ⟨by simp [h1],fun i x hi => ?_⟩
  cases i with
  | zero => simp at hi; subst hi; exact ⟨c,rfl,h.1⟩
  | succ i => simpa using h2 i x (by simpa using hi)
 | [],_ :: _,h => h.elim
 | _ :: _,[],h => h.elim
theorem leV1s_get : ∀ {cs cs' : List V1},leV1s st ι Z cs cs' → cs.length = cs'.length ∧ ∀ (i : Nat) (c' : V1),cs'[i]? = some c' → ∃ c,cs[i]? = some c ∧ leV1 st ι Z c c'
 | [],[],_ => ⟨rfl,fun i c' h => by simp at h⟩
 | c :: cs,c' :: cs',h => by
  obtain ⟨h1,h2⟩ := leV1s_get h.2
  refine ⟨by simp [h1],fun i x hi => ?_⟩
  cases i with
  | zero => simp at hi; subst hi; exact ⟨c,rfl,h.1⟩
  | succ i => simpa using h2 i x (by simpa using hi)
 | [],_ :: _,h => h.elim
 | _ :: _,[],h => h.elim
theorem leL_get : ∀ {cs cs' : List V},leL st ι Z cs cs' → cs.length = cs'.length ∧ ∀ (i : Nat) (c' : V),cs'[i]? = some c' → ∃ c,cs[i]? = some c ∧ leV st ι Z c c'
 | [],[],_ => ⟨rfl,fun i c' h => by simp at h⟩
 | c :: cs,c' :: cs',h => by
  obtain ⟨h1,h2⟩ := leL_get h.2
  refine ⟨by simp [h1],fun i x hi => ?_⟩
  cases i with
  | zero => simp at hi; subst hi; exact ⟨c,rfl,h.1⟩
  | succ i => simpa using h2 i x (by simpa using hi)
 | [],_ :: _,h => h.elim
 | _ :: _,[],h => h.elim
theorem RV1.le (h : Rel X E st a w) (hg : st.gone = []) (hL : LeS X.P X.k0 st st' ι Z) {x x' : V1} {v : Value} (hl : leV1 st ι Z x x') (hc : RV1 X.M E w x v) : RV1 X.M (E.le X.P st' ι Z) w x' v := by
 unfold leV1 at hl
 split at hl
 · trivial
 · exact RC.le h hg hL hl hc
 · obtain ⟨us,h1,h2,h3⟩ := hc
   obtain ⟨h4,h5⟩ := leCs_get hl
   refine ⟨us,h1,by rw [h2,h4],fun i c hi => ?_⟩
   obtain ⟨c0,h6,h7⟩ := h5 i c hi
   obtain ⟨u,h8,h9,h10⟩ := h3 i c0 h6
   exact ⟨u,h8,RC.le h hg hL h7 h9,h10⟩
 · exact hl.elim
theorem RV.le (h : Rel X E st a w) (hg : st.gone = []) (hL : LeS X.P X.k0 st st' ι Z) {x x' : V} {v : Value} (hl : leV st ι Z x x') (hc : RV X.M E w x v) : RV X.M (E.le X.P st' ι Z) w x' v := by
 unfold leV at hl
 split at hl
 · trivial
 · exact RV1.le h hg hL hl hc
 · obtain ⟨us,h1,h2,h3⟩ := hc
   obtain ⟨h4,h5⟩ := leV1s_get hl
   refine ⟨us,h1,by rw [h2,h4],fun i c hi => ?_⟩
   obtain ⟨c0,h6,h7⟩ := h5 i c hi
   obtain ⟨u,h8,h9⟩ := h3 i c0 h6
   exact ⟨u,h8,RV1.le h hg hL h7 h9⟩
 · exact hl.elim
theorem Rel.le (h : Rel X E st a w) (hg : st.gone = []) (hL : LeS X.P X.k0 st st' ι Z) : Rel X (E.le X.P st' ι Z) st' a w := by
 have hst : Stay (bad X.M E) (bad X.M (E.le X.P st' ι Z)) w w := fun g o u h1 h2 => ⟨h1,fun h => h2 (bad_le h)⟩
 exact {
  defers := h.defers
  gone := by rw [hL.gone]; rfl
  frame := h.frame
  mlt := h.mlt
  nlt := fun n' x hx => by
   rcases le_some hx with ⟨h1,_⟩ | ⟨_,n,h1,_⟩
   · exact (hL.zs n' h1).2.2.1
   · exact (hL.lt _ h1).1
  names := fun n' x g hx hgx => by
   rcases le_some hx with ⟨_,h1⟩ | ⟨_,n,_,h1⟩
   · rw [h1] at hgx; cases hgx
   · exact h.names n x g h1 hgx
  inj := fun n' m' x y g hx hy hgx hgy => by
   rcases le_some hx with ⟨_,h1⟩ | ⟨_,n,h0,h1⟩
   · rw [h1] at hgx; cases hgx
   · rcases le_some hy with ⟨_,h2⟩ | ⟨_,m,h3,h2⟩
     · rw [h2] at hgy; cases hgy
     · have := h.inj n m x y g h1 h2 hgx hgy
       subst this
       exact pair_old hL.old h0 h3
  keep := fun m hm => by
   cases hx : (E.le X.P st' ι Z).N m with
   | none => exact .inl rfl
   | some x =>
     right
     rcases le_some hx with ⟨h1,_⟩ | ⟨_,n,h0,h1⟩
     · have := (hL.zs m h1).2.1; omega
     · have := (hL.lt _ h0).2 hm
       simp at this; subst this
       rcases h.keep n hm with h2 | h2
       · rw [h2] at h1; cases h1
       · rw [← h2,h1]
  knext := hL.k0
  gnext := fun n hn => by rw [hL.gone] at hn; cases hn
  size := by rw [h.size,(leL_get hL.tmps).1]
  tmps := fun i v' hi => by
   obtain ⟨v,h6,h7⟩ := (leL_get hL.tmps).2 i v' hi
   obtain ⟨u,h8,h9⟩ := h.tmps i v h6
   exact ⟨u,h8,h9.le h hg hL h7⟩
  heap := fun n' b' hl => by
   right
   rcases hL.heap n' b' hl with hz | ⟨n,b,h1,h2,h3⟩
   · obtain ⟨_,_,_,e,h4,h5⟩ := hL.zs n' hz
     rw [h4] at hl; cases hl
     exact ⟨⟨none,0,0,X.P.cellsOf e⟩,#[],(0,0),by simp [Env.le,hz,h4],.inl rfl,fun g hg => (by cases hg),rfl,Nat.le_refl _,by simp [maxLen],h5,rfl,by simp,fun r hr => by simp at hr,fun _ => rfl,fun i r j p hi => by simp at hi⟩
   · have hr := h.row (by rw [hg]; simp) h2
     have hN : ∀ x,E.N n = some x → (E.le X.P st' ι Z).N n' = some x := fun x hx => le_name hL h1 hx
     cases b with
     | box cs =>
       cases b' with
       | box cs' =>
         obtain ⟨x,g,cur,e,k1,k0,k2,k3,k4⟩ := hr
         obtain ⟨h4,h5⟩ := leCs_get h3
         refine ⟨x,g,cur,e,hN x k1,k0,k2,by rw [k3,h4],fun i c' hi => ?_⟩
         obtain ⟨c,h6,h7⟩ := h5 i c' hi
         obtain ⟨u,h8,h9,h10⟩ := k4 i c h6
         exact ⟨u,h8,RC.le h hg hL h7 h9,h10⟩
       | _ => exact h3.elim
     | row e rows =>
       cases b' with
       | row e' rows' =>
         obtain ⟨rfl,rfl⟩ := h3
         obtain ⟨x,cur,fz,h1,hfz,h2,h3,h4,h5,h6,h11,h7,h8,h10,h9⟩ := hr
         exact ⟨x,cur,fz,hN x h1,hfz,h2,h3,h4,h5,h6,h11,h7,h8,h10,fun i r j p hi hj => let ⟨u,k1,k2⟩ := h9 i r j p hi hj; ⟨u,k1,k2.trans hst⟩⟩
       | _ => exact h3.elim
     | map es =>
       cases b' with
       | map es' =>
         cases h3
         obtain ⟨x,g,en,clock,h1,h0,h2,h3⟩ := hr
         exact ⟨x,g,en,clock,hN x h1,h0,h2,h3⟩
       | _ => exact h3.elim }
theorem LeS.le (hg : st.gone = []) (hL : LeS X.P X.k0 st st' ι Z) : Le X st st' := fun _ _ ⟨E,h,_⟩ => ⟨E.le X.P st' ι Z,h.le hg hL,hL.gone⟩
end
def CutC (n L : Nat) (c c' : C) : Prop := c' = .dead ∨ (c' = c ∧ n ∉ c.names) ∨ (c = .sub n 0 L ∧ c' = .own n)
def CutV1 (n L : Nat) : V1 → V1 → Prop
 | _,.c .dead => True
 | .c c,.c c' => CutC n L c c'
 | .agg cs,.agg cs' => cs.length = cs'.length ∧ ∀ (i : Nat) (c' : C),cs'[i]? = some c' → ∃ c,cs[i]? = some c ∧ CutC n L c c'
 | _,_ => False
def CutV (n L : Nat) : V → V → Prop
 | _,.v (.c .dead) => True
 | .v x,.v x' => CutV1 n L x x'
 | .tup xs,.tup xs' => xs.length = xs'.length ∧ ∀ (i : Nat) (c' : V1),xs'[i]? = some c' → ∃ c,xs[i]? = some c ∧ CutV1 n L c c'
 | _,_ => False
def CutB (n L : Nat) : Blk → Blk → Prop
 | .box cs,.box cs' => cs.length = cs'.length ∧ ∀ (i : Nat) (c' : C),cs'[i]? = some c' → ∃ c,cs[i]? = some c ∧ CutC n L c c'
 | .row e rows,.row e' rows' => e' = e ∧ rows' = rows
 | .map es,.map es' => es' = es
 | _,_ => False
structure CutS (k0 : Nat) (st st' : ASt) (n L : Nat) (e : TypeId) (rows : List (List PV)) : Prop where
 k0 : k0 ≤ n
 gone : st'.gone = []
 next : st'.next = st.next
 row : st.heap.lookup n = some (.row e rows)
 told : ∃ i : Nat,st.tmps[i]? = some (.v (.c (.sub n 0 L)))
 len : st.tmps.length = st'.tmps.length
 tmps : ∀ (i : Nat) (v' : V),st'.tmps[i]? = some v' → ∃ v,st.tmps[i]? = some v ∧ CutV n L v v'
 heap : ∀ m b',st'.heap.lookup m = some b' → (m = n ∧ b' = .row e (rows.take L)) ∨ (m ≠ n ∧ ∃ b,st.heap.lookup m = some b ∧ CutB n L b b')
theorem CutS.le {X : Fx} {st st' : ASt} {n L : Nat} {e : TypeId} {rows : List (List PV)} (hg : st.gone = []) (hC : CutS X.k0 st st' n L e rows) : Le X st st' := by
 rintro a w ⟨E,h,_⟩
 have hng : ∀ m,m ∉ E.gone := fun m => by rw [h.gone,hg]; simp
 obtain ⟨x,cur,fz,k1,hfz,k2,k3,k4,k5,k6,k7,k8,k9,k10,k11⟩ := h.row (by rw [hg]; simp) hC.row
 obtain ⟨i0,hi0⟩ := hC.told
 obtain ⟨u0,_,hu0⟩ := h.tmps i0 _ hi0
 obtain ⟨x',k1',hL,_⟩ := Nmd.get (show RC X.M E w (.sub n 0 L) u0 from hu0) (hng n)
 rw [k1] at k1'; cases k1'
 rw [Nat.zero_add] at hL
 let E' : Env := ⟨fun m => if m = n then some { x with len := L } else E.N m,[]⟩
 have hN : ∀ m y,m ≠ n → E.N m = some y → E'.N m = some y := fun m y hm hy => by simp only [E',if_neg hm]; exact hy
 have hNi : ∀ m y,E'.N m = some y → ∃ z,E.N m = some z ∧ z.g = y.g := fun m y hy => by
  simp only [E'] at hy
  split at hy
  · rename_i hm; subst hm; cases hy; exact ⟨x,k1,rfl⟩
  · exact ⟨y,hy,rfl⟩
 have hbad : ∀ g,bad X.M E' g → bad X.M E g := by
  rintro g (h1 | ⟨m,y,h1,h2⟩)
  · exact .inl h1
  · obtain ⟨z,h3,h4⟩ := hNi m y h1
    exact .inr ⟨m,z,h3,h4.trans h2⟩
 have hst : Stay (bad X.M E) (bad X.M E') w w := fun g o u h1 h2 => ⟨h1,fun h => h2 (hbad g h)⟩
 have hnm : ∀ m (Q : Nm → Prop),m ≠ n → Nmd E m Q → Nmd E' m Q := fun m Q hm hq => by
  obtain ⟨y,h1,h2⟩ := Nmd.get hq (hng m)
  exact .inr ⟨y,hN m y hm h1,h2⟩
 have hc : ∀ c c' v,CutC n L c c' → RC X.M E w c v → RC X.M E' w c' v := by
  rintro c c' v (rfl | ⟨rfl,hn⟩ | ⟨rfl,rfl⟩) hv
  · trivial
  · cases c' with
    | p q => exact RP.trans hv hst
    | nil => exact hv
    | own m => exact hnm m _ (by simpa [C.names] using fun h : m = n => hn (by simp [C.names,h])) hv
    | sub m lo len => exact hnm m _ (by simpa [C.names] using fun h : m = n => hn (by simp [C.names,h])) hv
    | ptr m off => exact hnm m _ (by simpa [C.names] using fun h : m = n => hn (by simp [C.names,h])) hv
    | eptr m i j => exact hnm m _ (by simpa [C.names] using fun h : m = n => hn (by simp [C.names,h])) hv
    | ref cells =>
      obtain ⟨g,o,h1,h2⟩ := hv
      refine ⟨g,o,h1,fun j p hj => ?_⟩
      obtain ⟨u,h3,h4,h5⟩ := h2 j p hj
      exact ⟨u,h3,fun h => h4 (hbad g h),RP.trans h5 hst⟩
    | fn f caps =>
      obtain ⟨us,h1,h2,h3⟩ := hv
      refine ⟨us,h1,h2,fun i m hi => ?_⟩
      obtain ⟨u,h4,h5⟩ := h3 i m hi
      exact ⟨u,h4,hnm m _ (fun hm => hn (by subst hm; exact List.mem_of_getElem? hi)) h5⟩
    | mp m => exact hnm m _ (by simpa [C.names] using fun h : m = n => hn (by simp [C.names,h])) hv
    | dead => trivial
  · obtain ⟨y,h1,_,A,h3,h4⟩ := Nmd.get (show RC X.M E w (.sub n 0 L) v from hv) (hng n)
    rw [k1] at h1; cases h1
    have hA := h4 (.inr rfl)
    simp only [Nat.zero_mul,Nat.sub_zero] at hA h3
    exact .inr ⟨{ x with len := L },by simp [E'],by rw [h3,hA]⟩
 have hv1 : ∀ y y' v,CutV1 n L y y' → RV1 X.M E w y v → RV1 X.M E' w y' v := by
  intro y y' v hy hv
  cases y' with
  | c c' =>
    cases y with
    | c c =>
      have : c' = .dead ∨ CutC n L c c' := by cases c' <;> first | exact .inl rfl | exact .inr hy
      rcases this with rfl | hy
      · trivial
      · exact hc c c' v hy hv
    | agg => cases c' <;> first | trivial | exact hy.elim
  | agg cs' =>
    cases y with
    | c => exact hy.elim
    | agg cs =>
      obtain ⟨us,rfl,h2,h3⟩ := hv
      refine ⟨us,rfl,h2.trans hy.1,fun i c' hi => ?_⟩
      obtain ⟨c,h4,h5⟩ := hy.2 i c' hi
      obtain ⟨u,h6,h7,h8⟩ := h3 i c h4
      exact ⟨u,h6,hc c c' u h5 h7,h8⟩
 refine ⟨E',?_,hC.gone⟩
 exact {
  defers := h.defers
  gone := by rw [hC.gone]
  frame := h.frame
  mlt := h.mlt
  nlt := fun m y hy => by
    obtain ⟨z,h1,_⟩ := hNi m y hy
    rw [hC.next]; exact h.nlt m z h1
  names := fun m y g hy hyg => by
    obtain ⟨z,h1,h2⟩ := hNi m y hy
    exact h.names m z g h1 (h2.trans hyg)
  inj := fun m m' y y' g hy hy' hg hg' => by
    obtain ⟨z,h1,h2⟩ := hNi m y hy
    obtain ⟨z',h3,h4⟩ := hNi m' y' hy'
    exact h.inj m m' z z' g h1 h3 (h2.trans hg) (h4.trans hg')
  keep := fun m hm => by
    have : m ≠ n := by have := hC.k0; omega
    simp only [E',if_neg this]
    exact h.keep m hm
  knext := by rw [hC.next]; exact h.knext
  gnext := fun m hm => by rw [hC.gone] at hm; cases hm
  size := by rw [h.size,hC.len]
  tmps := fun i v' hi => by
    obtain ⟨v,h1,h2⟩ := hC.tmps i v' hi
    obtain ⟨u,h3,h4⟩ := h.tmps i v h1
    refine ⟨u,h3,?_⟩
    cases v' with
    | v y' =>
      cases v with
      | v y =>
        have : y' = .c .dead ∨ CutV1 n L y y' := by
          cases y' with
          | c c' => cases c' <;> first | exact .inl rfl | exact .inr h2
          | agg => exact .inr h2
        rcases this with rfl | h2
        · trivial
        · exact hv1 y y' u h2 h4
      | tup =>
        cases y' with
        | c c' => cases c' <;> first | trivial | exact h2.elim
        | agg => exact h2.elim
    | tup xs' =>
      cases v with
      | v => exact h2.elim
      | tup xs =>
        obtain ⟨us,rfl,h5,h6⟩ := h4
        refine ⟨us,rfl,h5.trans h2.1,fun j c' hj => ?_⟩
        obtain ⟨c,h7,h8⟩ := h2.2 j c' hj
        obtain ⟨u,h9,h10⟩ := h6 j c h7
        exact ⟨u,h9,hv1 c c' u h8 h10⟩
  heap := fun m b' hb => by
    right
    rcases hC.heap m b' hb with ⟨rfl,rfl⟩ | ⟨hm,b,h1,h2⟩
    · exact ⟨{ x with len := L },cur,fz,by simp [E'],hfz,k2,by simp; omega,by simp only; omega,k5,k6,k7,k8,fun r hr => k9 r (List.mem_of_mem_take hr),k10,fun i r j p hi hj => by
        obtain ⟨u,q1,q2⟩ := k11 i r j p (take_get hi).1 hj
        exact ⟨u,q1,q2.trans hst⟩⟩
    · have hr := h.row (by rw [hg]; simp) h1
      cases b with
      | box cs =>
        cases b' with
        | box cs' =>
          obtain ⟨y,g,cur',e',j1,j2,j3,j4,j5⟩ := hr
          refine ⟨y,g,cur',e',hN m y hm j1,j2,j3,j4.trans h2.1,fun i c' hi => ?_⟩
          obtain ⟨c,q1,q2⟩ := h2.2 i c' hi
          obtain ⟨u,q3,q4,q5⟩ := j5 i c q1
          exact ⟨u,q3,hc c c' u q2 q4,q5⟩
        | _ => exact h2.elim
      | row e0 rows0 =>
        cases b' with
        | row e' rows' =>
          obtain ⟨rfl,rfl⟩ := h2
          obtain ⟨y,cur',fz',j1,jf,j2,j3,j4,j5,j6,j7,j8,j9,j10,j11⟩ := hr
          exact ⟨y,cur',fz',hN m y hm j1,jf,j2,j3,j4,j5,j6,j7,j8,j9,j10,fun i r j p hi hj => let ⟨u,q1,q2⟩ := j11 i r j p hi hj; ⟨u,q1,q2.trans hst⟩⟩
        | _ => exact h2.elim
      | map es =>
        cases b' with
        | map es' =>
          obtain ⟨y,g,en,clock,j1,j2,j3,j4⟩ := hr
          exact ⟨y,g,en,clock,hN m y hm j1,j2,j3,j4⟩
        | _ => exact h2.elim }
def V.one : V → Option V1
 | .v x => some x
 | .tup _ => none
def res1 (P : Program) (st : ASt) : ResultVar → Option V1
 | .tmp t => (st.tmps[t]?).bind V.one
 | .cell t ty => match st.tmps[t]? with
  | some (.v (.c (.ptr n off))) => match st.heap.lookup n with
   | some (.box cs) => (readC P ty (cs.drop off)).bind V.one
   | _ => none
  | _ => none
def packA : List V1 → V
 | [x] => .v x
 | xs => .tup xs
def resA (P : Program) (rs : List ResultVar) (st : ASt) : Option V := (rs.mapM (res1 P st)).map packA
theorem one_eq {v : V} {x : V1} (h : v.one = some x) : v = .v x := by cases v <;> simp [V.one] at h; subst h; rfl
def resOf (tmps : Array Value) : ResultVar → Sem Value
 | .tmp t => Pure.pure (tmps.getD t undef)
 | .cell t ty => do loadVar ty (← asAddr (tmps.getD t undef))
theorem results_eq (fn : Func) (tmps : Array Value) : results fn tmps = (do let vs ← fn.results.mapM (resOf tmps); Pure.pure (if h : vs.size = 1 then vs[0] else .tuple vs)) := by
 unfold results
 congr 1
section
variable {X : Fx} {E : Env} {st : ASt} {a : Act} {w : World}
theorem run_res1 (h : Rel X E st a w) (hg : st.gone = []) {rv : ResultVar} {x : V1} (hr : res1 X.P st rv = some x) :
  ∃ u,(resOf a.tmps rv).run X.P w = .ok u w ∧ RV1 X.M E w x u := by
 cases rv with
 | tmp t =>
  simp only [res1,Option.bind_eq_some_iff] at hr
  obtain ⟨v,h1,h2⟩ := hr
  have := one_eq h2; subst this
  obtain ⟨u,h3,h4⟩ := h.tmps t _ h1
  exact ⟨u,by simp [resOf,Array.getD_eq_getD_getElem?,h3],h4⟩
 | cell t ty =>
  simp only [res1] at hr
  split at hr
  · rename_i n off ht
    obtain ⟨u,h3,h40⟩ := h.tmps t _ ht
    obtain ⟨x',h4,g,h5,h6⟩ := Nmd.get h40 (by rw [h.gone,hg]; simp)
    subst h6
    split at hr
    · rename_i cs hl
      simp only [Option.bind_eq_some_iff] at hr
      obtain ⟨v,h6,h7⟩ := hr
      have := one_eq h7; subst this
      obtain ⟨x2,g',cur,e,k3,k0,k4,k5,k6⟩ := h.row (by rw [hg]; simp) hl
      rw [h4] at k3; cases k3
      rw [h5] at k0; cases k0
      obtain ⟨u,h8,h9⟩ := run_loadVar_told (P := X.P) (M := X.M) (E := E) (w := w) (g := g) (o := off) h6 (fun j c hj => by
       rw [List.getElem?_drop] at hj
       obtain ⟨u,j1,j2,j3⟩ := k6 _ c hj
       exact ⟨u,by rw [cell_of_row w g _ cur e (0,0) k4]; exact j1,j2,j3⟩)
      refine ⟨u,?_,h9⟩
      simp [resOf,Array.getD_eq_getD_getElem?,h3,asAddr,h8]
    · cases hr
  · cases hr
theorem run_mapM_res (h : Rel X E st a w) (hg : st.gone = []) : ∀ (l : List ResultVar) {xs : List V1},l.mapM (res1 X.P st) = some xs →
  ∃ us : List Value,(l.mapM (resOf a.tmps)).run X.P w = .ok us w ∧
   us.length = xs.length ∧ ∀ (i : Nat) (x : V1),xs[i]? = some x → ∃ u,us[i]? = some u ∧ RV1 X.M E w x u
 | [],xs,hx => by simp at hx; subst hx; exact ⟨[],by simp,rfl,by simp⟩
 | rv :: l,xs,hx => by
  simp only [List.mapM_cons] at hx
  cases h1 : res1 X.P st rv with
  | none => simp [h1] at hx
  | some x =>
   cases h2 : l.mapM (res1 X.P st) with
   | none => simp [h1,h2] at hx
   | some ys =>
    simp [h1,h2] at hx
    subst hx
    obtain ⟨u,h3,h4⟩ := run_res1 h hg h1
    obtain ⟨us,h5,h6,h7⟩ := run_mapM_res h hg l h2
    refine ⟨u :: us,?_,by simp [h6],fun i y hi => ?_⟩
    · simp only [List.mapM_cons,Sem.run_bind]
      rw [h3]; simp only [Result.andThen_ok]; rw [h5]; rfl
    · cases i with
      | zero => simp at hi; subst hi; exact ⟨u,rfl,h4⟩
      | succ i => simpa using h7 i y (by simpa using hi)
theorem run_results (h : Rel X E st a w) (hg : st.gone = []) {fn : Func} {r : V} (hr : resA X.P fn.results.toList st = some r) : ∃ u,(results fn a.tmps).run X.P w = .ok u w ∧ RV X.M E w r u := by
 unfold resA at hr
 simp only [Option.map_eq_some_iff] at hr
 obtain ⟨xs,h1,rfl⟩ := hr
 obtain ⟨us,h2,h3,h4⟩ := run_mapM_res h hg _ h1
 refine ⟨if hh : us.toArray.size = 1 then us.toArray[0] else .tuple us.toArray,?_,?_⟩
 · rw [results_eq,Array.mapM_eq_mapM_toList]
   simp only [Sem.run_bind,Sem.run_map,Sem.run_pure,h2,Result.andThen_ok]
 · cases xs with
   | nil =>
    have : us = [] := List.eq_nil_of_length_eq_zero (by simpa using h3)
    subst this
    exact ⟨#[],by simp,rfl,by simp⟩
   | cons x ys =>
    cases ys with
    | nil =>
     obtain ⟨u,h5,h6⟩ := h4 0 x rfl
     cases us with
     | nil => simp at h3
     | cons u' us' =>
      have : us' = [] := List.eq_nil_of_length_eq_zero (by simpa using h3)
      subst this
      simp at h5; subst h5
      show RV1 X.M E w x _
      simpa using h6
    | cons y zs =>
     have : us.length ≠ 1 := by rw [h3]; simp
     refine ⟨us.toArray,by simp [this],by simp [h3],fun i z hi => ?_⟩
     simpa using h4 i z hi
end
def retA (P : Program) (rs : List ResultVar) (r : V) (H' : Hp) (e : Exit) (st : ASt) : Prop :=
 (match e with | .normal => True | .ret => True | _ => False) ∧ resA P rs st = some r ∧ ∀ n b,H'.lookup n = some b → st.heap.lookup n = some b
def startA (n : Nat) (args : List V1) (H : List Blk) : ASt := ⟨args.map V.v ++ List.replicate (n - args.length) (.tup []),hp H,[],H.length⟩
theorem ACalls.intro {P : Program} {f : FuncId} {fn : Func} {c : Code} (hf : P.funcs[f]? = some fn) (hname : (fn.name == "runtime.NumGoroutine") = false) (hb : fn.body = some c) {n : Nat} (hn : fn.ntmps = n) {rs : List ResultVar} (hrs : fn.results = rs.toArray) {args : List V1} {H : List Blk} {r : V} {H' : Hp}
  (h : ∀ X : Fx,X.P = P → X.k0 = H.length → Aw X c (retA P rs r H') (startA n args H)) : ACalls P f args H r H' := {
 own := ⟨fn,hf,hname,by rw [hb]; rfl⟩
 call := fun w M N vals hM hNl hNn hNi hH hsz hv => by
  subst hn
  have hrs' : rs = fn.results.toList := by rw [hrs]
  subst hrs'
  let X : Fx := ⟨P,M,fun g => ∃ n x,N n = some x ∧ x.g = some g,w,N,H.length,[]⟩
  refine calls_of_wp hf hb (wp_mono (h X rfl rfl _ w ?_) ?_)
  · refine ⟨⟨N,[]⟩,?_,rfl⟩
    exact {
     defers := rfl
     gone := rfl
     frame := Frame.refl _ _
     mlt := hM
     nlt := hNl
     names := fun n x g h1 h2 => ⟨(hNn n x g h1 h2).1,.inl ⟨n,x,h1,h2⟩,(hNn n x g h1 h2).2⟩
     inj := hNi
     keep := fun _ _ => .inr rfl
     knext := Nat.le_refl _
     gnext := fun n hn => by cases hn
     size := by simp [startA,hsz]
     tmps := fun i v hi => by
      simp only [startA] at hi
      rw [List.getElem?_append] at hi
      simp only [List.length_map] at hi
      split at hi
      · rename_i hlt
        simp only [List.getElem?_map,Option.map_eq_some_iff] at hi
        obtain ⟨x,hx,rfl⟩ := hi
        obtain ⟨u,h1,h2⟩ := hv i x hx
        exact ⟨u,by rw [Array.getElem?_append,if_pos (by rw [hsz]; exact hlt)]; exact h1,h2⟩
      · rename_i hlt
        rw [List.getElem?_replicate] at hi
        split at hi
        · rename_i hlt2
          simp at hi; subst hi
          exact ⟨undef,by simp only [Array.getElem?_append,hsz,hlt,if_false,Array.getElem?_replicate,hlt2,if_true],RV_undef _ _ _⟩
        · cases hi
     heap := fun n b hl => by
      simp only [startA,lookup_hp] at hl
      exact .inr (hH n b hl) }
  · rintro e a' w' ⟨st',⟨he,hr,hHl⟩,E,hR,hg⟩
    obtain ⟨u,h1,h2⟩ := run_results (X := X) hR hg hr
    have hback : Back N H.length w w' E := {
     gone := hR.gone.trans hg
     names := fun n x g k1 k2 => by
      obtain ⟨k3,k4,_⟩ := hR.names n x g k1 k2
      exact ⟨k3,k4⟩
     inj := hR.inj
     keep := hR.keep }
    have hfin : ∀ n b,H'.lookup n = some b → RB P M E w' n b := fun n b hl => hR.row (by rw [hg]; simp) (hHl n b hl)
    cases e with
    | normal => exact ⟨hR.defers,u,h1,u,E,rfl,hR.frame,hback,hfin,h2⟩
    | ret => exact ⟨hR.defers,u,h1,u,E,rfl,hR.frame,hback,hfin,h2⟩
    | exit => exact he.elim
    | goto => exact he.elim
    | panic => exact he.elim
    | outgrown => exact he.elim
 }
end
section
open Go.RowKit
inductive Kd where
 | int (k : IntKind) | bool | str | sl | ptr | mp | fn | ifc
deriving DecidableEq,Repr,Inhabited
inductive L where
 | i (n : Int) | b (t : Bool) | s (x : ByteArray) | r (rows : List (List PV)) | c (cells : List PV)
deriving Inhabited
def L.asI : L → Int | .i n => n | _ => 0
def L.asB : L → Bool | .b t => t | _ => false
def L.asS : L → ByteArray | .s x => x | _ => ByteArray.empty
def L.asR : L → List (List PV) | .r x => x | _ => []
def L.asC : L → List PV | .c x => x | _ => []
inductive At where
 | v (n : Nat) | i (n : Int) | b (t : Bool) | s (x : ByteArray) | r0
deriving Inhabited
def At.ev (ρ : List L) : At → L
 | .v n => (ρ[n]?).getD (.b false)
 | .i n => .i n
 | .b t => .b t
 | .s x => .s x
 | .r0 => .r []
def Kd.pv (k : Kd) (l : L) : PV := match k with
 | .int k => .sc (.int k l.asI)
 | .bool => .sc (.bool l.asB)
 | .str => .sc (.string l.asS)
 | .sl => .sl l.asR
 | .ptr => .sc (.pointer none)
 | .mp => .sc (.map none)
 | .fn => .sc .nilFunc
 | .ifc => .sc .nilIface
def Kd.of (k : Kd) (q : PV) : Option L := match k,q with
 | .int k,.sc (.int k' n) => if k = k' then some (.i n) else none
 | .bool,.sc (.bool t) => some (.b t)
 | .str,.sc (.string x) => some (.s x)
 | .sl,.sl rows => some (.r rows)
 | _,_ => none
theorem Kd.of_pv {k : Kd} {q : PV} {l : L} (h : k.of q = some l) : k.pv l = q := by
 unfold Kd.of at h
 split at h
 · split at h
   · rename_i hk; subst hk; cases h; rfl
   · cases h
 all_goals first | (cases h; rfl) | cases h
inductive SC where
 | p (k : Kd) (x : At)
 | nil
 | own (n : Nat)
 | sub (n : Nat) (lo len : At)
 | ptr (n off : Nat)
 | aptr (n off cnt m : Nat) (i : At)
 | eptr (n : Nat) (i : At) (j : Nat)
 | ref (x : At) (j : Nat)
 | fn (f : FuncId) (caps : List Nat)
 | mp (n : Nat)
 | dead
deriving Inhabited
def SC.den (ρ : List L) : SC → C
 | .p k x => .p (k.pv (x.ev ρ))
 | .nil => .nil
 | .own n => .own n
 | .sub n lo len => .sub n (lo.ev ρ).asI.toNat (len.ev ρ).asI.toNat
 | .ptr n off => .ptr n off
 | .aptr n off _ m i => .ptr n (off + (i.ev ρ).asI.toNat * m)
 | .eptr n i j => .eptr n (i.ev ρ).asI.toNat j
 | .ref x j => .ref ((x.ev ρ).asC.drop j)
 | .fn f caps => .fn f caps
 | .mp n => .mp n
 | .dead => .dead
inductive SV1 where
 | c (c : SC)
 | agg (cs : List SC)
deriving Inhabited
inductive SV where
 | v (x : SV1)
 | tup (xs : List SV1)
deriving Inhabited
inductive SB where
 | box (cs : List SC)
 | row (e : TypeId) (x : At)
 | map
deriving Inhabited
def SV1.den (ρ : List L) : SV1 → V1
 | .c y => .c (y.den ρ)
 | .agg cs => .agg (cs.map (SC.den ρ))
def SV.den (ρ : List L) : SV → V
 | .v x => .v (x.den ρ)
 | .tup xs => .tup (xs.map (SV1.den ρ))
def SB.den (ρ : List L) : SB → Blk
 | .box cs => .box (cs.map (SC.den ρ))
 | .row e x => .row e (x.ev ρ).asR
 | .map => .map []
abbrev SHp := List (Nat × SB)
def SHp.den (ρ : List L) (h : SHp) : Hp := h.map fun x => (x.1,x.2.den ρ)
structure SEff where
 upd : SHp
 gone : List Nat
def SEff.den (ρ : List L) (e : SEff) : Eff := ⟨e.upd.den ρ,e.gone⟩
structure SSt where
 tmps : List SV
 heap : SHp
 gone : List Nat
 next : Nat
 nv : Nat
deriving Inhabited
def SSt.den (ρ : List L) (S : SSt) : ASt := ⟨S.tmps.map (SV.den ρ),S.heap.den ρ,S.gone,S.next⟩
theorem SHp.lookup_den (ρ : List L) (h : SHp) (n : Nat) : List.lookup n (h.den ρ) = (List.lookup n h).map (SB.den ρ) := by
 induction h with
 | nil => rfl
 | cons x h ih =>
  obtain ⟨k,b⟩ := x
  simp only [SHp.den,List.map_cons,List.lookup_cons] at ih ⊢
  split
  · rfl
  · exact ih
def SC.names : SC → List Nat
 | .own n => [n] | .sub n _ _ => [n] | .ptr n _ => [n] | .aptr n _ _ _ _ => [n] | .eptr n _ _ => [n] | .mp n => [n] | .fn _ caps => caps | _ => []
def SV1.names : SV1 → List Nat
 | .c x => x.names
 | .agg xs => xs.flatMap SC.names
def SV.names : SV → List Nat
 | .v x => x.names
 | .tup xs => xs.flatMap SV1.names
def SB.names : SB → List Nat
 | .box cs => cs.flatMap SC.names
 | _ => []
theorem SC.names_den (ρ : List L) (c : SC) : (c.den ρ).names = c.names := by cases c <;> rfl
theorem SC.names_dens (ρ : List L) (cs : List SC) : (cs.map (SC.den ρ)).flatMap C.names = cs.flatMap SC.names := by
 induction cs with
 | nil => rfl
 | cons c cs ih => simp only [List.map_cons,List.flatMap_cons,SC.names_den,ih]
theorem SV1.names_den (ρ : List L) (x : SV1) : (x.den ρ).names = x.names := by
 cases x with
 | c c => exact SC.names_den ρ c
 | agg cs => exact SC.names_dens ρ cs
theorem SV.names_den (ρ : List L) (x : SV) : (x.den ρ).names = x.names := by
 cases x with
 | v x => exact SV1.names_den ρ x
 | tup xs =>
  show (xs.map (SV1.den ρ)).flatMap V1.names = xs.flatMap SV1.names
  induction xs with
  | nil => rfl
  | cons c cs ih => simp only [List.map_cons,List.flatMap_cons,SV1.names_den,ih]
def SC.isDead : SC → Bool
 | .dead => true
 | _ => false
def SV.isDead : SV → Bool
 | .v (.c c) => c.isDead
 | _ => false
def SV.live (gone : List Nat) (v : SV) : Bool := !v.isDead && v.names.all fun n => !gone.contains n
theorem SV.live_den (ρ : List L) (g : List Nat) (x : SV) : (x.den ρ).live g = x.live g := by
 unfold V.live SV.live
 rw [SV.names_den]
 congr 1
 cases x with
 | v x =>
  cases x with
  | c c => cases c <;> rfl
  | agg => rfl
 | tup => rfl
def sCell : Value → SC
 | .slice none 0 0 => .nil
 | .int k n => .p (.int k) (.i n)
 | .bool t => .p .bool (.b t)
 | .string x => .p .str (.s x)
 | .pointer none => .p .ptr .r0
 | .map none => .p .mp .r0
 | .nilFunc => .p .fn .r0
 | .nilIface => .p .ifc .r0
 | _ => .dead
def knownCell : Value → Bool
 | .slice none 0 0 => true
 | .int _ _ => true | .bool _ => true | .string _ => true | .pointer none => true | .map none => true | .nilFunc => true | .nilIface => true
 | _ => false
theorem sCell_den (ρ : List L) {v : Value} (h : knownCell v = true) : (sCell v).den ρ = ofCell v := by
 unfold knownCell at h
 split at h <;> first | rfl | cases h
def sOfValue : Value → Option SV1
 | .agg us => if us.toList.all knownCell then some (.agg (us.toList.map sCell)) else none
 | .func (.func f) first captured => if first.size = 0 ∧ captured.size = 0 then some (.c (.fn f [])) else none
 | v => if knownCell v then some (.c (sCell v)) else none
theorem known_one {v : Value} (h : knownCell v = true) : v.oneCell' = true := by
 unfold knownCell at h
 split at h <;> first | rfl | cases h
theorem sOfValue_den (ρ : List L) {v : Value} {x : SV1} (h : sOfValue v = some x) : x.den ρ = ofValue v := by
 unfold sOfValue at h
 split at h
 · rename_i us
   split at h
   · rename_i hall
     cases h
     simp only [List.all_eq_true] at hall
     simp only [SV1.den,ofValue]
     rw [if_pos (by simp only [List.all_eq_true]; exact fun u hu => known_one (hall u hu))]
     simp only [List.map_map]
     congr 1
     apply List.map_congr_left
     intro u hu
     exact sCell_den ρ (hall u hu)
   · cases h
 · split at h
   · rename_i hc
     cases h
     simp only [ofValue,if_pos hc]; rfl
   · cases h
 · rename_i v' h1 h2
   split at h
   · rename_i hk
     cases h
     simp only [SV1.den,sCell_den ρ hk]
     unfold knownCell at hk
     split at hk <;> first | rfl | cases hk
   · cases h
def SSt.arg (S : SSt) : Operand → Option SV
 | .tmp t => match S.tmps[t]? with
  | some x => if x.live S.gone then some x else none
  | none => none
 | .const v => match sOfValue v with
  | some x => if (SV.v x).live S.gone then some (.v x) else none
  | none => none
 | .func f => some (.v (.c (.fn f [])))
 | .global _ => none
theorem SSt.arg_den (ρ : List L) {S : SSt} {x : Operand} {v : SV} (h : S.arg x = some v) : (S.den ρ).arg x = some (v.den ρ) := by
 cases x with
 | tmp t =>
  simp only [SSt.arg] at h
  split at h
  · rename_i y hy
    split at h
    · rename_i hl
      cases h
      simp only [ASt.arg,SSt.den,List.getElem?_map,hy,Option.map_some,SV.live_den,hl,if_true]
    · cases h
  · cases h
 | const u =>
  simp only [SSt.arg] at h
  split at h
  · rename_i y hy
    split at h
    · rename_i hl
      cases h
      have h1 := sOfValue_den ρ hy
      have h2 := SV.live_den ρ S.gone (.v y)
      simp only [SV.den,h1,hl] at h2
      simp only [ASt.arg,SV.den,h1]
      exact if_pos h2
    · cases h
  · cases h
 | func f => simp only [SSt.arg] at h; cases h; rfl
 | global => cases h
end
end Go.Proofs.YtndegphojkiblaaGreatDoor
