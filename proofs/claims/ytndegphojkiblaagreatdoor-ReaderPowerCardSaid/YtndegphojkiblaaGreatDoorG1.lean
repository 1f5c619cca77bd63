/- Towards the last file's theorem: part 1. -/
import Derived.WalkKit
import Derived.WalkSpells
import Derived.WalkLawsBesides
import Derived.Below
import Derived.IntWalk
import Derived.Laws.AppendOwn
import Derived.Laws.MakeOwn
import Derived.Laws.OwnMore
set_option linter.unusedSimpArgs false
set_option linter.unusedVariables false
namespace Go.Proofs.YtndegphojkiblaaGreatDoor
section
open Go.RowKit
inductive PV where
 | sc (v : Value)
 | sl (rows : List (List PV))
deriving Inhabited
def flat : Value → Bool
 | .bool _ | .int _ _ | .float _ _ | .complex _ _ _ | .string _ | .pointer none | .map none | .nilFunc | .nilIface => true
 | _ => false
abbrev Bad := Nat → Prop
def Rect (n : Nat) (rows : List (List PV)) : Prop := ∀ r ∈ rows,r.length = n
inductive RP (M : Bad) (w : World) : PV → Value → Prop
 | sc {v : Value} (h : flat v = true) : RP M w (.sc v) v
 | nil {A : Option Addr} {cap : Nat} : RP M w (.sl []) (.slice A 0 cap)
 | row {rows : List (List PV)} {g o cap sz : Nat} {f : Nat → Nat → Value} (h0 : rows ≠ []) (hl : rows.length ≤ cap) (hm : cap ≤ maxLen)
  (hs : ∀ r ∈ rows,r.length = sz)
  (hc : ∀ (i : Nat) (r : List PV) (j : Nat) (p : PV),rows[i]? = some r → r[j]? = some p → w.cell? ⟨g,o + i * sz + j,none⟩ = some (f i j) ∧ ¬ M g)
  (hp : ∀ (i : Nat) (r : List PV) (j : Nat) (p : PV),rows[i]? = some r → r[j]? = some p → RP M w p (f i j)) :
  RP M w (.sl rows) (.slice (some ⟨g,o,none⟩) rows.length cap)
theorem flat_oneCell {v : Value} (h : flat v = true) : v.oneCell' = true := by cases v <;> simp_all [flat,Value.oneCell']
theorem RP.oneCell {M : Bad} {w : World} {p : PV} {v : Value} (h : RP M w p v) : v.oneCell' = true := by
 cases h with
 | sc h => exact flat_oneCell h
 | nil => rfl
 | row => rfl
def Stay (M M' : Bad) (w w' : World) : Prop := ∀ g o u,w.cell? ⟨g,o,none⟩ = some u → ¬ M g → w'.cell? ⟨g,o,none⟩ = some u ∧ ¬ M' g
theorem RP.trans {M M' : Bad} {w w' : World} {p : PV} {v : Value} (h : RP M w p v) (hk : Stay M M' w w') : RP M' w' p v := by
 induction h with
 | sc h => exact .sc h
 | nil => exact .nil
 | row h0 hl hm hs hc hp ih => exact .row h0 hl hm hs (fun i r j p hi hj => hk _ _ _ (hc i r j p hi hj).1 (hc i r j p hi hj).2) (fun i r j p hi hj => ih i r j p hi hj)
theorem RP.sc_eq {M : Bad} {w : World} {u v : Value} (h : RP M w (.sc u) v) : v = u := by cases h; rfl
def Rows (M : Bad) (w : World) (rows : List (List PV)) (v : Value) : Prop :=
 (rows = [] ∧ ∃ A cap,v = .slice A 0 cap) ∨ ∃ (g o cap sz : Nat) (f : Nat → Nat → Value),v = .slice (some ⟨g,o,none⟩) rows.length cap ∧ rows ≠ [] ∧ rows.length ≤ cap ∧ cap ≤ maxLen ∧ Rect sz rows ∧
  ∀ (i : Nat) (r : List PV) (j : Nat) (p : PV),rows[i]? = some r → r[j]? = some p → w.cell? ⟨g,o + i * sz + j,none⟩ = some (f i j) ∧ RP M w p (f i j)
theorem RP.rows {M : Bad} {w : World} {rows : List (List PV)} {v : Value} (h : RP M w (.sl rows) v) : Rows M w rows v := by
 cases h with
 | nil => exact .inl ⟨rfl,_,_,rfl⟩
 | row h0 hl hm hs hc hp => exact .inr ⟨_,_,_,_,_,rfl,h0,hl,hm,hs,fun i r j p hi hj => ⟨(hc i r j p hi hj).1,hp i r j p hi hj⟩⟩
inductive C where
 | p (p : PV)
 | nil
 | own (n : Nat)
 | sub (n lo len : Nat)
 | ptr (n off : Nat)
 | eptr (n i j : Nat)
 | ref (cells : List PV)
 | fn (f : FuncId) (caps : List Nat)
 | mp (n : Nat)
 | dead
deriving Inhabited
inductive V1 where
 | c (c : C)
 | agg (cs : List C)
deriving Inhabited
inductive V where
 | v (x : V1)
 | tup (xs : List V1)
deriving Inhabited
inductive Blk where
 | box (cs : List C)
 | row (e : TypeId) (rows : List (List PV))
 | map (es : List (Value × List PV))
deriving Inhabited
abbrev Hp := List (Nat × Blk)
structure Nm where
 g : Option Nat
 len : Nat
 cap : Nat
 sz : Nat
structure Env where
 N : Nat → Option Nm
 gone : List Nat
def bad (M : Bad) (E : Env) : Bad := fun g => M g ∨ ∃ n x,E.N n = some x ∧ x.g = some g
def Nmd (E : Env) (n : Nat) (Q : Nm → Prop) : Prop := n ∈ E.gone ∨ ∃ x,E.N n = some x ∧ Q x
def RC (M : Bad) (E : Env) (w : World) : C → Value → Prop
 | .p p,v => RP (bad M E) w p v
 | .nil,v => v = .slice none 0 0
 | .own n,v => Nmd E n fun x => v = .slice (x.g.map fun g => ⟨g,0,none⟩) x.len x.cap
 | .sub n lo len,v => Nmd E n fun x => lo + len ≤ x.len ∧ ∃ A,v = .slice A len (x.cap - lo) ∧ (x.cap ≠ lo ∨ lo = 0 → A = x.g.map fun g => ⟨g,lo * x.sz,none⟩)
 | .ptr n off,v => Nmd E n fun x => ∃ g,x.g = some g ∧ v = .pointer (some ⟨g,off,none⟩)
 | .eptr n i j,v => Nmd E n fun x => i < x.len ∧ ∃ g,x.g = some g ∧ v = .pointer (some ⟨g,i * x.sz + j,none⟩)
 | .ref cells,v => ∃ g o,v = .pointer (some ⟨g,o,none⟩) ∧ ∀ (j : Nat) (p : PV),cells[j]? = some p → ∃ u,w.cell? ⟨g,o + j,none⟩ = some u ∧ ¬ bad M E g ∧ RP (bad M E) w p u
 | .fn f caps,v => ∃ us : Array Value,v = .func (.func f) #[] us ∧ us.size = caps.length ∧ ∀ (i n : Nat),caps[i]? = some n → ∃ u,us[i]? = some u ∧ Nmd E n fun x => ∃ g,x.g = some g ∧ u = .pointer (some ⟨g,0,none⟩)
 | .mp n,v => Nmd E n fun x => ∃ g,x.g = some g ∧ v = .map (some g)
 | .dead,_ => True
def RV1 (M : Bad) (E : Env) (w : World) : V1 → Value → Prop
 | .c c,v => RC M E w c v
 | .agg cs,v => ∃ us : Array Value,v = .agg us ∧ us.size = cs.length ∧ ∀ (i : Nat) (c : C),cs[i]? = some c → ∃ u,us[i]? = some u ∧ RC M E w c u ∧ u.oneCell' = true
def RV (M : Bad) (E : Env) (w : World) : V → Value → Prop
 | .v x,v => RV1 M E w x v
 | .tup xs,v => ∃ us : Array Value,v = .tuple us ∧ us.size = xs.length ∧ ∀ (i : Nat) (x : V1),xs[i]? = some x → ∃ u,us[i]? = some u ∧ RV1 M E w x u
def FzOk (n : Nat) (fz : Nat × Nat) : Prop := fz = (0,0) ∨ n ≤ fz.1
def RB (P : Program) (M : Bad) (E : Env) (w : World) (n : Nat) : Blk → Prop
 | .box cs => ∃ x g cur e,E.N n = some x ∧ x.g = some g ∧ w.heap[g]? = some (.cells cur e (0,0)) ∧ cur.size = cs.length ∧
  ∀ (i : Nat) (c : C),cs[i]? = some c → ∃ u,cur[i]? = some u ∧ RC M E w c u ∧ u.oneCell' = true
 | .row e rows => ∃ x cur fz,E.N n = some x ∧ FzOk cur.size fz ∧ (∀ g,x.g = some g → w.heap[g]? = some (.cells cur e fz)) ∧ x.len = rows.length ∧ x.len ≤ x.cap ∧ x.cap ≤ maxLen ∧ 0 < x.sz ∧ x.sz = P.cellsOf e ∧ cur.size = x.cap * x.sz ∧ Rect x.sz rows ∧ (x.g = none → x.cap = 0) ∧
  ∀ (i : Nat) (r : List PV) (j : Nat) (p : PV),rows[i]? = some r → r[j]? = some p → ∃ u,cur[i * x.sz + j]? = some u ∧ RP (bad M E) w p u
 | .map _ => ∃ x g en clock,E.N n = some x ∧ x.g = some g ∧ w.heap[g]? = some (.map en clock) ∧ ∀ m ∈ en.toList,∃ z,m.key = .int .u64 z
structure Goes (M : Bad) (E E' : Env) (w w' : World) : Prop where
 cell : Stay (bad M E) (bad M E') w w'
 name : ∀ n x,E.N n = some x → n ∈ E'.gone ∨ E'.N n = some x
 gone : ∀ n,n ∈ E.gone → n ∈ E'.gone
section
variable {M : Bad} {E E' : Env} {w w' : World}
theorem RP.goes (hG : Goes M E E' w w') {p : PV} {v : Value} (h : RP (bad M E) w p v) : RP (bad M E') w' p v := h.trans hG.cell
theorem Nmd.goes (hG : Goes M E E' w w') {n : Nat} {Q : Nm → Prop} (h : Nmd E n Q) : Nmd E' n Q := by
 rcases h with h | ⟨x,h1,h2⟩
 · exact .inl (hG.gone n h)
 · rcases hG.name n x h1 with h3 | h3
   · exact .inl h3
   · exact .inr ⟨x,h3,h2⟩
theorem RC.goes (hG : Goes M E E' w w') {c : C} {v : Value} (h : RC M E w c v) : RC M E' w' c v := by
 cases c with
 | p p => exact RP.goes hG h
 | nil => exact h
 | own n => exact Nmd.goes hG h
 | sub n lo len => exact Nmd.goes hG h
 | ptr n off => exact Nmd.goes hG h
 | eptr n i j => exact Nmd.goes hG h
 | ref cells =>
  obtain ⟨g,o,h1,h2⟩ := h
  refine ⟨g,o,h1,fun j p hj => ?_⟩
  obtain ⟨u,h3,h4,h5⟩ := h2 j p hj
  exact ⟨u,(hG.cell _ _ _ h3 h4).1,(hG.cell _ _ _ h3 h4).2,RP.goes hG h5⟩
 | fn f caps =>
  obtain ⟨us,h1,h2,h3⟩ := h
  exact ⟨us,h1,h2,fun i n hi => let ⟨u,h4,h5⟩ := h3 i n hi; ⟨u,h4,h5.goes hG⟩⟩
 | mp n => exact Nmd.goes hG h
 | dead => trivial
theorem RV1.goes (hG : Goes M E E' w w') {x : V1} {v : Value} (h : RV1 M E w x v) : RV1 M E' w' x v := by
 cases x with
 | c c => exact RC.goes hG h
 | agg cs =>
  obtain ⟨us,h1,h2,h3⟩ := h
  exact ⟨us,h1,h2,fun i c hi => let ⟨u,h4,h5,h6⟩ := h3 i c hi; ⟨u,h4,h5.goes hG,h6⟩⟩
theorem RV.goes (hG : Goes M E E' w w') {x : V} {v : Value} (h : RV M E w x v) : RV M E' w' x v := by
 cases x with
 | v x => exact RV1.goes hG h
 | tup xs =>
  obtain ⟨us,h1,h2,h3⟩ := h
  exact ⟨us,h1,h2,fun i c hi => let ⟨u,h4,h5⟩ := h3 i c hi; ⟨u,h4,h5.goes hG⟩⟩
theorem RB.goes {P : Program} (hG : Goes M E E' w w') {n : Nat} (hn : n ∉ E'.gone) (hb : ∀ x g,E.N n = some x → x.g = some g → w'.heap[g]? = w.heap[g]?) {b : Blk} (h : RB P M E w n b) : RB P M E' w' n b := by
 have hN : ∀ x,E.N n = some x → E'.N n = some x := fun x hx => (hG.name n x hx).resolve_left hn
 cases b with
 | box cs =>
  obtain ⟨x,g,cur,e,h1,h0,h2,h3,h4⟩ := h
  exact ⟨x,g,cur,e,hN x h1,h0,(hb x g h1 h0).trans h2,h3,fun i c hi => let ⟨u,h5,h6,h7⟩ := h4 i c hi; ⟨u,h5,h6.goes hG,h7⟩⟩
 | row e rows =>
  obtain ⟨x,cur,fz,h1,hfz,h2,h3,h4,h5,h6,h11,h7,h8,h10,h9⟩ := h
  exact ⟨x,cur,fz,hN x h1,hfz,fun g hg => (hb x g h1 hg).trans (h2 g hg),h3,h4,h5,h6,h11,h7,h8,h10,fun i r j p hi hj => let ⟨u,k1,k2⟩ := h9 i r j p hi hj; ⟨u,k1,k2.goes hG⟩⟩
 | map es =>
  obtain ⟨x,g,en,clock,h1,h0,h2,h3⟩ := h
  exact ⟨x,g,en,clock,hN x h1,h0,(hb x g h1 h0).trans h2,h3⟩
end
structure Frame (K : Bad) (w w' : World) : Prop where
 os : w'.os = w.os
 tape : w'.tape = w.tape
 output : w'.output = w.output
 size : w.heap.size ≤ w'.heap.size
 block : ∀ g,g < w.heap.size → ¬ K g → w'.heap[g]? = w.heap[g]?
theorem Frame.refl (K : Bad) (w : World) : Frame K w w := ⟨rfl,rfl,rfl,Nat.le_refl _,fun _ _ _ => rfl⟩
theorem Frame.trans {K K' : Bad} {a b c : World} (h : Frame K a b) (k : Frame K' b c) (hK : ∀ g,g < a.heap.size → K' g → K g) : Frame K a c :=
 ⟨k.os.trans h.os,k.tape.trans h.tape,k.output.trans h.output,Nat.le_trans h.size k.size,fun g hg hn =>
  (k.block g (Nat.lt_of_lt_of_le hg h.size) fun hk => hn (hK g hg hk)).trans (h.block g hg hn)⟩
theorem Frame.of_below {K : Bad} {w w' : World} (h : Below w.heap.size w w') : Frame K w w' := ⟨h.os,h.tape,h.output,h.size,fun g hg _ => h.block g hg⟩
structure ASt where
 tmps : List V
 heap : Hp
 gone : List Nat
 next : Nat
structure Fx where
 P : Program
 M : Bad
 K : Bad
 w0 : World
 N0 : Nat → Option Nm
 k0 : Nat
 D : List Deferred
structure Rel (X : Fx) (E : Env) (st : ASt) (a : Act) (w : World) : Prop where
 defers : a.defers = X.D
 gone : E.gone = st.gone
 frame : Frame X.K X.w0 w
 mlt : ∀ g,X.M g → g < X.w0.heap.size
 nlt : ∀ n x,E.N n = some x → n < st.next
 names : ∀ n x g,E.N n = some x → x.g = some g → g < w.heap.size ∧ (X.K g ∨ X.w0.heap.size ≤ g) ∧ ¬ X.M g
 inj : ∀ n m x y g,E.N n = some x → E.N m = some y → x.g = some g → y.g = some g → n = m
 keep : ∀ m,m < X.k0 → E.N m = none ∨ E.N m = X.N0 m
 knext : X.k0 ≤ st.next
 gnext : ∀ n ∈ st.gone,n < st.next
 size : a.tmps.size = st.tmps.length
 tmps : ∀ (i : Nat) (v : V),st.tmps[i]? = some v → ∃ u,a.tmps[i]? = some u ∧ RV X.M E w v u
 heap : ∀ n b,st.heap.lookup n = some b → n ∈ st.gone ∨ RB X.P X.M E w n b
def ASt.put (st : ASt) (d : Option Nat) (v : V) : ASt :=
 match d with
 | some d => { st with tmps := st.tmps.set d v }
 | none => st
theorem Rel.put {X : Fx} {E : Env} {st : ASt} {a : Act} {w : World} (h : Rel X E st a w) (d : Option Nat) {v : V} {u : Value} (hv : RV X.M E w v u) : Rel X E (st.put d v) (a.put d u) w := by
 cases d with
 | none => exact h
 | some d =>
  refine { h with size := by simp [Act.put,ASt.put,h.size],tmps := ?_,defers := h.defers,heap := h.heap,gone := h.gone }
  intro i x hi
  simp only [ASt.put,List.getElem?_set] at hi
  simp only [Act.put,Array.getElem?_setIfInBounds]
  split at hi
  · rename_i hdi
    subst hdi
    split at hi
    · rename_i hl
      simp at hi; subst hi
      exact ⟨u,by simp [h.size,hl],hv⟩
    · cases hi
  · rename_i hdi
    obtain ⟨u',h1,h2⟩ := h.tmps i x hi
    exact ⟨u',by simp [hdi,h1],h2⟩
structure Eff where
 upd : Hp
 gone : List Nat
def ASt.eff (st : ASt) (e : Eff) : ASt := { st with heap := e.upd ++ st.heap,gone := e.gone ++ st.gone }
theorem lookup_app (n : Nat) (a b : Hp) : List.lookup n (a ++ b) = (List.lookup n a).or (List.lookup n b) := by
 induction a with
 | nil => simp
 | cons x a ih =>
  obtain ⟨k,c⟩ := x
  simp only [List.cons_append,List.lookup_cons]
  split <;> simp [ih]
theorem Rel.step {X : Fx} {E E' : Env} {st : ASt} {a : Act} {w w' : World} (h : Rel X E st a w) (e : Eff) {nx : Nat} (hnx : st.next ≤ nx) (hG : Goes X.M E E' w w') (hg : E'.gone = e.gone ++ st.gone) (hF : Frame X.K X.w0 w')
  (hnl : ∀ n x,E'.N n = some x → n < nx)
  (hnm : ∀ n x g,E'.N n = some x → x.g = some g → g < w'.heap.size ∧ (X.K g ∨ X.w0.heap.size ≤ g) ∧ ¬ X.M g)
  (hinj : ∀ n m x y g,E'.N n = some x → E'.N m = some y → x.g = some g → y.g = some g → n = m)
  (hkeep : ∀ m,m < X.k0 → E'.N m = none ∨ E'.N m = E.N m)
  (hgn : ∀ n ∈ e.gone,n < nx)
  (hold : ∀ n x g,E.N n = some x → x.g = some g → n ∉ E'.gone → e.upd.lookup n = none → w'.heap[g]? = w.heap[g]?)
  (hnew : ∀ n b,e.upd.lookup n = some b → n ∈ E'.gone ∨ RB X.P X.M E' w' n b) : Rel X E' { st.eff e with next := nx } a w' := {
 defers := h.defers
 gone := hg
 frame := hF
 mlt := h.mlt
 nlt := hnl
 names := hnm
 inj := hinj
 keep := fun m hm => by
  rcases hkeep m hm with h1 | h1
  · exact .inl h1
  · rw [h1]; exact h.keep m hm
 knext := Nat.le_trans h.knext hnx
 gnext := fun n hn => by
  rcases List.mem_append.1 hn with h1 | h1
  · exact hgn n h1
  · exact Nat.lt_of_lt_of_le (h.gnext n h1) hnx
 size := h.size
 tmps := fun i v hi => let ⟨u,h1,h2⟩ := h.tmps i v hi; ⟨u,h1,h2.goes hG⟩
 heap := fun n b hl => by
  simp only [ASt.eff,lookup_app] at hl
  show n ∈ e.gone ++ st.gone ∨ _
  rw [← hg]
  cases hu : e.upd.lookup n with
  | some b' =>
    rw [hu] at hl
    simp at hl; subst hl
    exact hnew n b' hu
  | none =>
    rw [hu] at hl
    simp at hl
    by_cases hn : n ∈ E'.gone
    · exact .inl hn
    · rcases h.heap n b hl with h1 | h1
      · exact absurd (hG.gone n (by rw [h.gone]; exact h1)) hn
      · exact .inr (h1.goes hG hn (fun x g hx hg => hold n x g hx hg hn hu))
 }
theorem goes_grow {M : Bad} {E E' : Env} {w w' : World} (hB : ∀ g,g < w.heap.size → w'.heap[g]? = w.heap[g]?) (hM : ∀ g,g < w.heap.size → bad M E' g → bad M E g)
  (hN : ∀ n x,E.N n = some x → n ∈ E'.gone ∨ E'.N n = some x) (hg : ∀ n,n ∈ E.gone → n ∈ E'.gone) : Goes M E E' w w' := {
 cell := fun g o u h1 h2 => by
  have hlt := World.block_lt_of_cell? w ⟨g,o,none⟩ h1
  exact ⟨(World.cell?_of_block (w := w) (a := ⟨g,o,none⟩) (hB g hlt)).trans h1,fun h3 => h2 (hM g hlt h3)⟩
 name := hN
 gone := hg
 }
theorem Rel.drew {X : Fx} {E : Env} {st : ASt} {a : Act} {w : World} (h : Rel X E st a w) : Rel X E st a w.drew := by
 have hG : Goes X.M E E w w.drew := goes_grow (fun _ _ => rfl) (fun _ _ h => h) (fun _ _ h => .inr h) (fun _ h => h)
 exact { h with
  frame := ⟨h.frame.os,h.frame.tape,h.frame.output,h.frame.size,h.frame.block⟩
  defers := h.defers
  gone := h.gone
  size := h.size
  names := h.names
  nlt := h.nlt
  tmps := fun i v hi => let ⟨u,h1,h2⟩ := h.tmps i v hi; ⟨u,h1,h2.goes hG⟩
  heap := fun n b hl => by
   rcases h.heap n b hl with h1 | h1
   · exact .inl h1
   · by_cases hn : n ∈ E.gone
     · exact .inl (by rw [← h.gone]; exact hn)
     · exact .inr (h1.goes hG hn (fun _ _ _ _ => rfl)) }
def Env.add (E : Env) (d : Nat) (x : Nm) : Env := { E with N := fun n => if n = d then some x else E.N n }
theorem Rel.fresh {X : Fx} {E : Env} {st : ASt} {a : Act} {w w' : World} (h : Rel X E st a w) (d : Nat) (hd : E.N d = none) (hdk : X.k0 ≤ d) (hdn : d < st.next)
   (hB : Below w.heap.size w w') {x : Nm} (hx : x.g = none ∨ x.g = some w.heap.size ∧ w.heap.size < w'.heap.size) (b : Blk) (hb : Goes X.M E (E.add d x) w w' → RB X.P X.M (E.add d x) w' d b) :
   Goes X.M E (E.add d x) w w' ∧ Rel X (E.add d x) (st.eff ⟨[(d,b)],[]⟩) a w' := by
 have hlt : ∀ n y g,E.N n = some y → y.g = some g → g < w.heap.size := fun n y g hy hg => (h.names n y g hy hg).1
 have hxg : ∀ g,x.g = some g → g = w.heap.size ∧ w.heap.size < w'.heap.size := fun g hg => by
   rcases hx with h1 | h1
   · rw [h1] at hg; cases hg
   · rw [h1.1] at hg; cases hg; exact ⟨rfl,h1.2⟩
 have hG : Goes X.M E (E.add d x) w w' := goes_grow hB.block (fun g hg hm => by
     rcases hm with h1 | ⟨n,y,h1,h2⟩
     · exact .inl h1
     · simp only [Env.add] at h1
       split at h1
       · cases h1; have := hxg g h2; omega
       · exact .inr ⟨n,y,h1,h2⟩) (fun n y hy => by
     right
     simp only [Env.add]
     split
     · subst n; rw [hd] at hy; cases hy
     · exact hy) (fun _ h => h)
 refine ⟨hG,h.step ⟨[(d,b)],[]⟩ (nx := st.next) (Nat.le_refl _) hG h.gone (h.frame.trans (Frame.of_below (K := fun _ => False) hB) (fun _ _ h => h.elim)) ?_ ?_ ?_ ?_ (by simp) ?_ ?_⟩
 · intro n y hy
   simp only [Env.add] at hy
   split at hy
   · omega
   · exact h.nlt n y hy
 · intro n y g hy hg
   simp only [Env.add] at hy
   split at hy
   · cases hy
     obtain ⟨h1,h2⟩ := hxg g hg
     subst h1
     exact ⟨h2,.inr h.frame.size,fun hM => by have := h.mlt _ hM; have := h.frame.size; omega⟩
   · obtain ⟨h1,h2,h3⟩ := h.names n y g hy hg
     exact ⟨by have := hB.size; omega,h2,h3⟩
 · intro n m y z g hy hz hgy hgz
   simp only [Env.add] at hy hz
   split at hy <;> split at hz
   · omega
   · cases hy; have := hlt m z g hz hgz; have := hxg g hgy; omega
   · cases hz; have := hlt n y g hy hgy; have := hxg g hgz; omega
   · exact h.inj n m y z g hy hz hgy hgz
 · intro m hm
   right
   simp only [Env.add]
   rw [if_neg (by omega)]
 · intro n y g hy hg _ _
   exact hB.block _ (hlt n y g hy hg)
 · intro n b' hl
   simp only [List.lookup_cons,List.lookup_nil] at hl
   split at hl
   · rename_i heq
     simp at heq; subst heq
     cases hl
     exact .inr (hb hG)
   · cases hl
end
section
open Go.RowKit
open Classical in
noncomputable def need {α : Type} (c : Prop) (x : Option α) : Option α := if c then x else none
theorem need_ok {α : Type} {c : Prop} (h : c) (x : Option α) : need c x = x := if_pos h
def bitsOf (k : IntKind) (r : BitVec k.bits) : Value := .int k (k.wrap r.toNat)
noncomputable def scBin (tb : Bool) (op : BinOp) : Value → Value → Option Value
 | .int k a,.int k' b =>
  match op with
  | .shl => need (0 ≤ b) (some (.int k (k.wrap (a * 2 ^ (min b.toNat k.bits)))))
  | .shr => need (0 ≤ b) (some (.int k (a.fdiv (2 ^ (min b.toNat k.bits)))))
  | .add => if k = k' then some (.int k (k.wrap (a + b))) else none
  | .sub => if k = k' then some (.int k (k.wrap (a - b))) else none
  | .mul => if k = k' then some (.int k (k.wrap (a * b))) else none
  | .quo => need (k = k' ∧ b ≠ 0) (some (.int k (k.wrap (a.tdiv b))))
  | .rem => need (k = k' ∧ b ≠ 0) (some (.int k (a.tmod b)))
  | .and => if k = k' then some (bitsOf k (BitVec.ofInt k.bits a &&& BitVec.ofInt k.bits b)) else none
  | .or => if k = k' then some (bitsOf k (BitVec.ofInt k.bits a ||| BitVec.ofInt k.bits b)) else none
  | .xor => if k = k' then some (bitsOf k (BitVec.ofInt k.bits a ^^^ BitVec.ofInt k.bits b)) else none
  | .andNot => if k = k' then some (bitsOf k (BitVec.ofInt k.bits a &&& ~~~ BitVec.ofInt k.bits b)) else none
  | .eql => if k = k' then some (.bool (decide (a = b))) else none
  | .neq => if k = k' then some (.bool (decide (a ≠ b))) else none
  | .lss => if k = k' then some (.bool (decide (a < b))) else none
  | .leq => if k = k' then some (.bool (decide (a ≤ b))) else none
  | .gtr => if k = k' then some (.bool (decide (b < a))) else none
  | .geq => if k = k' then some (.bool (decide (b ≤ a))) else none
 | .string a,.string b =>
  match op with
  | .add => need (((a.size + b.size : Nat) : Int) ≤ 9223372036854775807) (some (.string (a ++ b)))
  | .eql => some (.bool (a.toList == b.toList))
  | .neq => some (.bool (!(a.toList == b.toList)))
  | .lss => some (.bool (Op.bytesLess a.toList b.toList))
  | .leq => some (.bool (Op.bytesLess a.toList b.toList || a.toList == b.toList))
  | .gtr => some (.bool (!(Op.bytesLess a.toList b.toList || a.toList == b.toList)))
  | .geq => some (.bool (!(Op.bytesLess a.toList b.toList)))
  | _ => none
 | .bool a,.bool b =>
  match op with
  | .eql => if tb then some (.bool (a == b)) else none
  | .neq => if tb then some (.bool (!(a == b))) else none
  | _ => none
 | _,_ => none
def tyB (P : Program) (t : TypeId) : Bool := match P.underlying t with | some .bool => true | _ => false
theorem tyB_eq {P : Program} {t : TypeId} (h : tyB P t = true) : P.underlying t = some .bool := by
 unfold tyB at h; split at h <;> simp_all
theorem beq_dec (a b : Int) : (a == b) = decide (a = b) := by rw [Bool.eq_iff_iff]; simp
theorem bne_dec (a b : Int) : (a != b) = decide (a ≠ b) := by rw [Bool.eq_iff_iff]; simp
theorem flat_scBin {tb : Bool} {op : BinOp} {u v r : Value} (h : scBin tb op u v = some r) : flat r = true := by
 unfold scBin at h
 cases u <;> cases v <;> simp only [] at h <;> first | (cases h; done) | (cases op <;> simp [bitsOf,need] at h <;> first | (obtain ⟨_,rfl⟩ := h; rfl) | (subst h; rfl))
theorem run_scBin {P : Program} {op : BinOp} {u v r : Value} (t : TypeId) (x y : Operand) (h : scBin (tyB P t) op u v = some r) (w : World) :
   (do eqGuard op t x y u v; binOp op t u v).run P w = .ok r w := by
 have hg : (eqGuard op t x y u v).run P w = .ok () w := by
   unfold eqGuard
   unfold scBin at h
   cases u <;> cases v <;> simp only [] at h <;> first | (cases h; done) | (cases op <;> simp)
 simp only [Sem.run_bind,hg,Result.andThen_ok]
 cases u <;> cases v <;> first
   | (simp [scBin] at h; done)
   | (cases op <;> simp [scBin,bitsOf,need] at h <;> obtain ⟨h1,rfl⟩ := h <;> simp_all [binOp,Op.shift,Op.intArith,Op.intDiv,Op.intBits,Op.intCmp,bitsOf,beq_dec,bne_dec] <;> (try omega); done)
   | skip
 · cases op <;> simp only [scBin,need,Option.some.injEq] at h <;> first
    | (cases h; done)
    | (split at h <;> simp at h; subst h; first | exact run_eql_bool w _ _ _ (tyB_eq (by assumption)) | exact run_neq_bool w _ _ _ (tyB_eq (by assumption)))
 · cases op <;> simp only [scBin,need,Option.some.injEq] at h <;> first
    | (cases h; done)
    | (split at h <;> simp at h; subst h; simp only [binOp]; exact run_string_add_sum w _ _ (by omega))
    | (subst h; simp [binOp,Op.stringOp]; done)
end
end Go.Proofs.YtndegphojkiblaaGreatDoor
