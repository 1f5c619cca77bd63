/- Towards the last file's theorem: part 2. -/
import Derived.Test.YtndegphojkiblaaGreatDoorG1
set_option linter.unusedSimpArgs false
set_option linter.unusedVariables false
namespace Go.Proofs.YtndegphojkiblaaGreatDoor
section
open Go.RowKit
open Classical
def ofCell : Value → C
 | .slice none 0 0 => .nil
 | v => if flat v then .p (.sc v) else .dead
def ofValue : Value → V1
 | .agg us => if us.toList.all (·.oneCell') then .agg (us.toList.map ofCell) else .c .dead
 | .func (.func f) first captured => if first.size = 0 ∧ captured.size = 0 then .c (.fn f []) else .c .dead
 | v => .c (ofCell v)
section
variable (M : Bad) (E : Env) (w : World)
theorem RC_ofCell (v : Value) : RC M E w (ofCell v) v := by
 unfold ofCell
 split
 · rfl
 · split
   · exact .sc (by assumption)
   · trivial
theorem RV1_ofValue (v : Value) : RV1 M E w (ofValue v) v := by
 unfold ofValue
 split
 · split
   · rename_i us hall
     refine ⟨us,rfl,by simp,fun i c hi => ?_⟩
     simp only [List.getElem?_map,Option.map_eq_some_iff,Array.getElem?_toList] at hi
     obtain ⟨u,h1,rfl⟩ := hi
     exact ⟨u,h1,RC_ofCell M E w u,by simp only [List.all_eq_true] at hall; exact hall u (Array.mem_toList_iff.2 (Array.mem_of_getElem? h1))⟩
   · trivial
 · split
   · rename_i f first captured hc
     have h1 : first = #[] := Array.eq_empty_of_size_eq_zero hc.1
     exact ⟨captured,by rw [h1],hc.2,fun i n hi => by simp at hi⟩
   · trivial
 · exact RC_ofCell M E w v
end
def C.names : C → List Nat
 | .own n => [n] | .sub n _ _ => [n] | .ptr n _ => [n] | .eptr n _ _ => [n] | .mp n => [n] | .fn _ caps => caps | _ => []
def V1.names : V1 → List Nat
 | .c x => x.names
 | .agg xs => xs.flatMap C.names
def V.names : V → List Nat
 | .v x => x.names
 | .tup xs => xs.flatMap V1.names
def C.isDead : C → Bool
 | .dead => true
 | _ => false
def V.isDead : V → Bool
 | .v (.c c) => c.isDead
 | _ => false
def V.live (gone : List Nat) (v : V) : Bool := !v.isDead && v.names.all fun n => !gone.contains n
def ASt.arg (st : ASt) : Operand → Option V
 | .tmp t => match st.tmps[t]? with
  | some x => if x.live st.gone then some x else none
  | none => none
 | .const v => if (V.v (ofValue v)).live st.gone then some (.v (ofValue v)) else none
 | .func f => some (.v (.c (.fn f [])))
 | .global _ => none
theorem Rel.arg {X : Fx} {E : Env} {st : ASt} {a : Act} {w : World} (h : Rel X E st a w) {x : Operand} {v : V} (hx : st.arg x = some v) : RV X.M E w v (a.eval x) ∧ v.live st.gone = true := by
 cases x with
 | tmp t =>
  simp only [ASt.arg] at hx
  split at hx
  · rename_i y hy
    split at hx
    · simp at hx; subst hx
      obtain ⟨u,h1,h2⟩ := h.tmps t y hy
      refine ⟨?_,by assumption⟩
      simp only [Act.eval,Array.getD_eq_getD_getElem?,h1,Option.getD_some]
      exact h2
    · cases hx
  · cases hx
 | const v' =>
  simp only [ASt.arg] at hx
  split at hx
  · simp at hx; subst hx
    exact ⟨RV1_ofValue X.M E w v',by assumption⟩
  · cases hx
 | global g => cases hx
 | func f =>
  simp only [ASt.arg,Option.some.injEq] at hx
  subst hx
  exact ⟨⟨#[],by simp [Act.eval],rfl,fun i n hi => by simp at hi⟩,by simp [V.live,V.isDead,C.isDead,V.names,V1.names,C.names]⟩
theorem live_c {gone : List Nat} {c : C} (h : (V.v (.c c)).live gone = true) : c.isDead = false ∧ ∀ n ∈ c.names,n ∉ gone := by
 simp only [V.live,Bool.and_eq_true,Bool.not_eq_true',List.all_eq_true,V.isDead] at h
 exact ⟨h.1,fun n hn hg => by have := h.2 n hn; simp [hg] at this⟩
theorem live_agg {gone : List Nat} {cs : List C} (h : (V.v (.agg cs)).live gone = true) : ∀ c ∈ cs,∀ n ∈ c.names,n ∉ gone := by
 simp only [V.live,Bool.and_eq_true,Bool.not_eq_true',List.all_eq_true] at h
 exact fun c hc n hn hg => by have := h.2 n (List.mem_flatMap.2 ⟨c,hc,hn⟩); simp [hg] at this
theorem Nmd.get {E : Env} {n : Nat} {Q : Nm → Prop} (h : Nmd E n Q) (hn : n ∉ E.gone) : ∃ x,E.N n = some x ∧ Q x := h.resolve_left hn
theorem RC.oneCell {M : Bad} {E : Env} {w : World} {c : C} {v : Value} (h : RC M E w c v) (hd : c.isDead = false) (hn : ∀ n ∈ c.names,n ∉ E.gone) : v.oneCell' = true := by
 cases c with
 | p q => exact RP.oneCell h
 | nil => cases h; rfl
 | own n => obtain ⟨x,_,rfl⟩ := Nmd.get h (hn n (by simp [C.names])); rfl
 | sub n lo len =>
  obtain ⟨x,_,_,A,rfl,_⟩ := Nmd.get h (hn n (by simp [C.names]))
  rfl
 | ptr n off => obtain ⟨x,_,g,_,rfl⟩ := Nmd.get h (hn n (by simp [C.names])); rfl
 | eptr n i j => obtain ⟨x,_,_,g,_,rfl⟩ := Nmd.get h (hn n (by simp [C.names])); rfl
 | ref cells => obtain ⟨g,o,rfl,_⟩ := h; rfl
 | fn f caps => obtain ⟨us,rfl,_⟩ := h; rfl
 | mp n => obtain ⟨x,_,g,_,rfl⟩ := Nmd.get h (hn n (by simp [C.names])); rfl
 | dead => cases hd
def V1.cells : V1 → List C
 | .c x => [x]
 | .agg xs => xs
theorem oneCell_cells {v : Value} (h : v.oneCell' = true) : v.cells = #[v] := by cases v <;> simp_all [Value.cells,Value.oneCell']
theorem RV1.cells {M : Bad} {E : Env} {w : World} {x : V1} {v : Value} (h : RV1 M E w x v) (hl : (V.v x).live E.gone = true) :
  v.cells.size = x.cells.length ∧ ∀ (i : Nat) (c : C),x.cells[i]? = some c → ∃ u,v.cells[i]? = some u ∧ RC M E w c u ∧ u.oneCell' = true := by
 cases x with
 | c c =>
  obtain ⟨h2,h3⟩ := live_c hl
  have h1 := RC.oneCell h h2 h3
  rw [oneCell_cells h1]
  refine ⟨rfl,fun i c' hi => ?_⟩
  cases i with
  | zero => simp [V1.cells] at hi; subst hi; exact ⟨v,rfl,h,h1⟩
  | succ i => simp [V1.cells] at hi
 | agg cs =>
  obtain ⟨us,rfl,h2,h3⟩ := h
  exact ⟨h2,h3⟩
def ASt.view (st : ASt) : C → Option (List (List PV))
 | .p (.sl rows) => some rows
 | .nil => some []
 | .own n => match st.heap.lookup n with
  | some (.row _ rows) => some rows
  | _ => none
 | .sub n lo len => match st.heap.lookup n with
  | some (.row _ rows) => some ((rows.drop lo).take len)
  | _ => none
 | _ => none
theorem Rel.row {X : Fx} {E : Env} {st : ASt} {a : Act} {w : World} (h : Rel X E st a w) {n : Nat} (hn : n ∉ st.gone) {b : Blk} (hl : st.heap.lookup n = some b) : RB X.P X.M E w n b := (h.heap n b hl).resolve_left hn
theorem rows_of_cells {M : Bad} {w : World} {g o cap sz : Nat} {cur : Array Value} {e : TypeId} {fz : Nat × Nat} {rows : List (List PV)} (hg : w.heap[g]? = some (.cells cur e fz)) (hl : rows.length ≤ cap) (hm : cap ≤ maxLen) (hR : Rect sz rows)
   (hc : ∀ (i : Nat) (r : List PV) (j : Nat) (p : PV),rows[i]? = some r → r[j]? = some p → ∃ u,cur[o + i * sz + j]? = some u ∧ RP M w p u) : Rows M w rows (.slice (some ⟨g,o,none⟩) rows.length cap) := by
 by_cases h0 : rows = []
 · subst h0; exact .inl ⟨rfl,_,_,rfl⟩
 · refine .inr ⟨g,o,cap,sz,fun i j => (cur[o + i * sz + j]?).getD undef,rfl,h0,hl,hm,hR,fun i r j p hi hj => ?_⟩
   obtain ⟨u,h1,h2⟩ := hc i r j p hi hj
   simp only [cell_of_row w g _ cur e fz hg,h1,Option.getD_some]
   exact ⟨trivial,h2⟩
theorem Rel.view {X : Fx} {E : Env} {st : ASt} {a : Act} {w : World} (h : Rel X E st a w) {c : C} {v : Value} {rows : List (List PV)} (hc : RC X.M E w c v) (hn : ∀ n ∈ c.names,n ∉ st.gone) (hv : st.view c = some rows) :
  Rows (bad X.M E) w rows v := by
 cases c with
 | p q =>
  cases q with
  | sc u => simp [ASt.view] at hv
  | sl rs => simp [ASt.view] at hv; subst hv; exact RP.rows hc
 | nil => simp [ASt.view] at hv; subst hv; cases hc; exact .inl ⟨rfl,_,_,rfl⟩
 | own n =>
  have hn' := hn n (by simp [C.names])
  simp only [ASt.view] at hv
  split at hv
  · rename_i e rs hl
    simp at hv; subst hv
    obtain ⟨x,cur,fz,h1,hfz,h2,h3,h4,h5,h6,_,h7,h8,h10,h9⟩ := h.row hn' hl
    obtain ⟨y,k1,rfl⟩ := Nmd.get hc (by rw [h.gone]; exact hn')
    rw [h1] at k1; cases k1
    cases hg : x.g with
    | none =>
      have := h10 hg
      have h0 : x.len = 0 := by omega
      rw [h0]
      exact .inl ⟨List.eq_nil_of_length_eq_zero (by omega),_,_,rfl⟩
    | some g =>
      rw [h3]
      exact rows_of_cells (h2 g hg) (by omega) h5 h8 (fun i r j p hi hj => by simpa using h9 i r j p hi hj)
  · cases hv
 | sub n lo len =>
  have hn' := hn n (by simp [C.names])
  simp only [ASt.view] at hv
  split at hv
  · rename_i e rs hl
    simp at hv; subst hv
    obtain ⟨x,cur,fz,h1,hfz,h2,h3,h4,h5,h6,_,h7,h8,h10,h9⟩ := h.row hn' hl
    obtain ⟨y,k1,k2,A,rfl,k4⟩ := Nmd.get hc (by rw [h.gone]; exact hn')
    rw [h1] at k1; cases k1
    have hlen : ((rs.drop lo).take len).length = len := by simp; omega
    by_cases h0 : len = 0
    · subst h0
      exact .inl ⟨by simp,_,_,rfl⟩
    · cases hg : x.g with
      | none => have := h10 hg; omega
      | some g =>
      rw [k4 (.inl (by omega)),hg]
      simp only [Option.map_some]
      conv => rhs; rw [← hlen]
      refine rows_of_cells (h2 g hg) (by omega) (by omega) (fun r hr => h8 r (List.mem_of_mem_drop (List.mem_of_mem_take hr))) (fun i r j p hi hj => ?_)
      rw [List.getElem?_take] at hi
      split at hi
      · rw [List.getElem?_drop] at hi
        have := h9 _ r j p hi hj
        rw [Nat.add_mul] at this
        simpa using this
      · cases hi
  · cases hv
 | ptr => cases hv
 | eptr => cases hv
 | ref => cases hv
 | fn => cases hv
 | mp => cases hv
 | dead => cases hv
def tySize (P : Program) (t : TypeId) : Nat := P.cellsOf t
def tyAgg (P : Program) (t : TypeId) : Bool := match P.underlying t with | some (.struct _) | some (.array _ _) => true | _ => false
def tyField (P : Program) (t : TypeId) (f : Nat) : Option Nat :=
 match P.underlying t with
 | some (.struct fs) => match fs[f]? with
  | some fd => match P.info? fd.type with
   | some i => if i.size = 0 then none else some fd.offset
   | none => none
  | none => none
 | _ => none
def tyElem (P : Program) (t : TypeId) : Option TypeId := match P.underlying t with | some (.slice e) => if (P.info? e).isSome then some e else none | _ => none
def tyArr (P : Program) (t : TypeId) : Option (Nat × TypeId) := match P.underlying t with | some (.array n e) => if (P.info? e).isSome then some (n,e) else none | _ => none
def tyKind (P : Program) (t : TypeId) : Option IntKind := match P.underlying t with | some (.int k) => some k | _ => none
def tyZero (P : Program) (t : TypeId) : Option (List C) := match P.info? t with
 | some i => match i.zero with
  | some z => if z.cells.toList.all (·.oneCell') then some (z.cells.toList.map ofCell) else none
  | none => none
 | none => none
def tySome (P : Program) (t : TypeId) : Bool := (P.underlying t).isSome
def tyInfo (P : Program) (t : TypeId) : Bool := (P.info? t).isSome
def readC (P : Program) (t : TypeId) (cs : List C) : Option V :=
 if tyAgg P t then (if tySize P t ≤ cs.length ∧ tyInfo P t = true then some (.v (.agg (cs.take (tySize P t)))) else none)
 else match tySome P t,cs with
  | true,c :: _ => some (.v (.c c))
  | _,_ => none
theorem run_isAgg {P : Program} {t : TypeId} (w : World) {d : TypeDesc} (h : P.underlying t = some d) : (isAgg t).run P w = .ok (tyAgg P t) w := by
 unfold isAgg tyAgg
 rw [h]
 simp only [Sem.run_bind,run_underlying h,Result.andThen_ok]
 cases d <;> rfl
theorem run_sizeOf {P : Program} {t : TypeId} (w : World) (h : (P.info? t).isSome = true) : (sizeOf t).run P w = .ok (tySize P t) w := by
 obtain ⟨i,hi⟩ := Option.isSome_iff_exists.1 h
 simp [sizeOf,typeInfo,hi,tySize,Program.cellsOf]
theorem addr_add (g o k : Nat) : (⟨g,o,none⟩ : Addr).add k = ⟨g,o + k,none⟩ := by unfold Addr.add; split <;> simp_all
theorem tyAgg_under {P : Program} {t : TypeId} (h : tyAgg P t = true) : ∃ d,P.underlying t = some d := by
 unfold tyAgg at h
 cases hd : P.underlying t with
 | none => rw [hd] at h; cases h
 | some d => exact ⟨d,rfl⟩
theorem run_part_told {P : Program} {M : Bad} {E : Env} {w : World} {t : TypeId} {off : Nat} {cs : List C} {us : Array Value} {v : V} (hr : readC P t (cs.drop off) = some v) (hs : us.size = cs.length)
   (hc : ∀ (i : Nat) (c : C),cs[i]? = some c → ∃ u,us[i]? = some u ∧ RC M E w c u ∧ u.oneCell' = true) :
   ∃ u,(part t us off).run P w = .ok u w ∧ RV M E w v u := by
 unfold readC at hr
 split at hr
 · rename_i hagg
   split at hr
   · rename_i hsz
     cases hr
     obtain ⟨d,hd⟩ := tyAgg_under hagg
     have hlen : off + tySize P t ≤ us.size ∨ tySize P t = 0 := by
       have := hsz.1
       rw [List.length_drop] at this
       omega
     refine ⟨.agg (us.extract off (off + tySize P t)),?_,_,rfl,?_,?_⟩
     · unfold part
       simp only [Sem.run_bind,run_isAgg w hd,hagg,Result.andThen_ok,if_true,run_sizeOf w hsz.2,Sem.run_pure]
     · have := hsz.1
       rw [List.length_drop] at this
       simp only [Array.size_extract,List.length_take,List.length_drop]
       omega
     · intro i c hi
       rw [List.getElem?_take] at hi
       split at hi
       · rename_i hlt
         rw [List.getElem?_drop] at hi
         obtain ⟨u,h1,h2⟩ := hc _ c hi
         refine ⟨u,?_,h2⟩
         rw [Array.getElem?_extract]
         obtain ⟨h3,_⟩ := Array.getElem?_eq_some_iff.1 h1
         rw [if_pos (by omega)]
         exact h1
       · cases hi
   · cases hr
 · rename_i hagg
   split at hr
   · rename_i c l hd hcs
     cases hr
     obtain ⟨d,hd⟩ := Option.isSome_iff_exists.1 hd
     have h0 : cs[off]? = some c := by
       have : (cs.drop off)[0]? = some c := by rw [hcs]; rfl
       rw [List.getElem?_drop] at this
       simpa using this
     obtain ⟨u,h1,h2,_⟩ := hc off c h0
     refine ⟨u,?_,h2⟩
     unfold part
     have : tyAgg P t = false := by simpa using hagg
     simp only [Sem.run_bind,run_isAgg w hd,this,Result.andThen_ok,Bool.false_eq_true,if_false,h1,Sem.run_pure]
   · cases hr
theorem run_loadVar_told {P : Program} {M : Bad} {E : Env} {w : World} {t : TypeId} {g o : Nat} {cs : List C} {v : V} (hr : readC P t cs = some v)
   (hc : ∀ (j : Nat) (c : C),cs[j]? = some c → ∃ u,w.cell? ⟨g,o + j,none⟩ = some u ∧ RC M E w c u ∧ u.oneCell' = true) :
   ∃ u,(loadVar t ⟨g,o,none⟩).run P w = .ok u w ∧ RV M E w v u := by
 unfold readC at hr
 split at hr
 · rename_i hagg
   split at hr
   · rename_i hsz
     simp at hr; subst hr
     obtain ⟨d,hd⟩ := tyAgg_under hagg
     have hex : ∀ j,j < tySize P t → ∃ u,w.cell? ⟨g,o + j,none⟩ = some u ∧ ∀ c,cs[j]? = some c → RC M E w c u ∧ u.oneCell' = true := by
       intro j hj
       obtain ⟨u,h1,h2,h3⟩ := hc j _ (List.getElem?_eq_getElem (Nat.lt_of_lt_of_le hj hsz.1))
       exact ⟨u,h1,fun c hcc => by rw [List.getElem?_eq_getElem (Nat.lt_of_lt_of_le hj hsz.1)] at hcc; cases hcc; exact ⟨h2,h3⟩⟩
     have hrun := run_loadCells (P := P) w ⟨g,o,none⟩ (tySize P t) (fun j => (w.cell? ⟨g,o + j,none⟩).getD undef) (fun j hj => by
       obtain ⟨u,h1,_⟩ := hex j hj
       rw [addr_add]; simp [h1])
     refine ⟨.agg ((List.range (tySize P t)).map fun j => (w.cell? ⟨g,o + j,none⟩).getD undef).toArray,?_,_,rfl,?_,?_⟩
     · unfold loadVar
       simp only [Sem.run_bind,run_isAgg w hd,hagg,Result.andThen_ok,if_true,run_sizeOf w hsz.2,hrun,Sem.run_pure]
     · simp; omega
     · intro i c hi
       rw [List.getElem?_take] at hi
       split at hi
       · rename_i hlt
         obtain ⟨u,h1,h2⟩ := hex i hlt
         exact ⟨u,by simp [hlt,h1],h2 c hi⟩
       · cases hi
   · cases hr
 · rename_i hagg
   split at hr
   · rename_i c l hd
     simp at hr; subst hr
     obtain ⟨d,hd⟩ := Option.isSome_iff_exists.1 hd
     obtain ⟨u,h1,h2,_⟩ := hc 0 c rfl
     refine ⟨u,?_,h2⟩
     unfold loadVar
     have : tyAgg P t = false := by simpa using hagg
     simp only [Sem.run_bind,run_isAgg w hd,this,Result.andThen_ok,Bool.false_eq_true,if_false,run_load]
     simp only [Nat.add_zero] at h1
     simp [h1]
   · cases hr
abbrev V.sc (v : Value) : V := .v (.c (.p (.sc v)))
abbrev V.c (c : C) : V := .v (.c c)
noncomputable def evLoad (P : Program) (st : ASt) (t : TypeId) (x : Operand) : Option V :=
 match st.arg x with
 | some (.v (.c (.ptr n off))) => match st.heap.lookup n with
  | some (.box cs) => readC P t (cs.drop off)
  | _ => none
 | some (.v (.c (.eptr n i j))) => match st.heap.lookup n with
  | some (.row _ rows) => match rows[i]? with
   | some r => readC P t ((r.drop j).map .p)
   | none => none
  | _ => none
 | some (.v (.c (.ref cells))) => readC P t (cells.map .p)
 | _ => none
section
variable {X : Fx} {E : Env} {st : ASt} {a : Act} {w : World}
theorem Rel.argc (h : Rel X E st a w) {x : Operand} {c : C} (hx : st.arg x = some (.v (.c c))) : RC X.M E w c (a.eval x) ∧ c.isDead = false ∧ ∀ n ∈ c.names,n ∉ st.gone := ⟨(h.arg hx).1,live_c (h.arg hx).2⟩
theorem Rel.argn (h : Rel X E st a w) {x : Operand} {c : C} (hx : st.arg x = some (.v (.c c))) {n : Nat} (hn : n ∈ c.names) : n ∉ E.gone := by rw [h.gone]; exact (h.argc hx).2.2 n hn
theorem snd_load (h : Rel X E st a w) {t : TypeId} {x : Operand} {v : V}
   (he : evLoad X.P st t x = some v) : ∃ u,(Instr.loadAt t (a.eval x)).run X.P w = .ok u w ∧ RV X.M E w v u := by
 unfold evLoad at he
 split at he
 · rename_i n off hx
   have hn := h.argn hx (n := n) (by simp [C.names])
   obtain ⟨y,h1,g,hg,h2⟩ := Nmd.get (h.argc hx).1 hn
   split at he
   · rename_i cs hl
     obtain ⟨x',g',cur,e,h3,h3',h4,h5,h6⟩ := h.row (by rw [← h.gone]; exact hn) hl
     rw [h1] at h3; cases h3
     rw [hg] at h3'; cases h3'
     obtain ⟨u,h8,h9⟩ := run_loadVar_told (P := X.P) (M := X.M) (E := E) (w := w) (g := g) (o := off) he (fun j c hj => by
       rw [List.getElem?_drop] at hj
       obtain ⟨u,k1,k2,k3⟩ := h6 _ c hj
       exact ⟨u,by rw [cell_of_row w g _ cur e (0,0) h4]; exact k1,k2,k3⟩)
     refine ⟨u,?_,h9⟩
     rw [h2]
     simpa [Instr.loadAt,Instr.sureAddr] using h8
   · cases he
 · rename_i n i j hx
   have hn := h.argn hx (n := n) (by simp [C.names])
   obtain ⟨y,h1,hi,g,hg,h2⟩ := Nmd.get (h.argc hx).1 hn
   split at he
   · rename_i e rows hl
     obtain ⟨x',cur,fz,h3,hfz,h4,_,_,_,_,_,_,_,_,h6⟩ := h.row (by rw [← h.gone]; exact hn) hl
     rw [h1] at h3; cases h3
     split at he
     · rename_i r hr
       obtain ⟨u,h8,h9⟩ := run_loadVar_told (P := X.P) (M := X.M) (E := E) (w := w) (g := g) (o := i * y.sz + j) he (fun k c hj => by
        simp only [List.getElem?_map,Option.map_eq_some_iff,List.getElem?_drop] at hj
        obtain ⟨p,hp,rfl⟩ := hj
        obtain ⟨u,k1,k2⟩ := h6 i r (j + k) p hr hp
        exact ⟨u,by rw [cell_of_row w g _ cur e fz (h4 g hg),Nat.add_assoc]; exact k1,k2,k2.oneCell⟩)
       refine ⟨u,?_,h9⟩
       rw [h2]
       simpa [Instr.loadAt,Instr.sureAddr] using h8
     · cases he
   · cases he
 · rename_i cells hx
   obtain ⟨⟨g,o,h1,h2⟩,_⟩ := h.argc hx
   obtain ⟨u,h8,h9⟩ := run_loadVar_told (P := X.P) (M := X.M) (E := E) (w := w) (g := g) (o := o) he (fun j c hj => by
     simp only [List.getElem?_map,Option.map_eq_some_iff] at hj
     obtain ⟨p,hp,rfl⟩ := hj
     obtain ⟨u,k1,k2,k3⟩ := h2 j p hp
     exact ⟨u,k1,k3,k3.oneCell⟩)
   refine ⟨u,?_,h9⟩
   rw [h1]
   simpa [Instr.loadAt,Instr.sureAddr] using h8
 · cases he
noncomputable def evField (P : Program) (st : ASt) (t : TypeId) (x : Operand) (f : Nat) : Option V :=
 match st.arg x,tyField P t f with
 | some (.v (.c (.ptr n off))),some k => some (.c (.ptr n (off + k)))
 | some (.v (.c (.eptr n i j))),some k => some (.c (.eptr n i (j + k)))
 | some (.v (.c (.ref cells))),some k => some (.c (.ref (cells.drop k)))
 | _,_ => none
theorem run_fieldAt_told {P : Program} {t : TypeId} {f k : Nat} (h : tyField P t f = some k) (g o : Nat) (w : World) :
   (Instr.fieldAt t (.pointer (some ⟨g,o,none⟩)) f).run P w = .ok (.pointer (some ⟨g,o + k,none⟩)) w := by
 unfold tyField at h
 split at h
 · rename_i fs hu
   split at h
   · rename_i fd hf
     split at h
     · rename_i i hi
       split at h
       · cases h
       · rename_i hsz
         simp at h; subst h
         simp [Instr.fieldAt,run_underlying hu,hf,Instr.sureAddr,fieldPlace,sizeOf,typeInfo,hi,hsz,addr_add]
     · cases h
   · cases h
 · cases h
theorem RC.ref_drop {M : Bad} {cells : List PV} {g o : Nat} (h : ∀ (j : Nat) (p : PV),cells[j]? = some p → ∃ u,w.cell? ⟨g,o + j,none⟩ = some u ∧ ¬ bad M E g ∧ RP (bad M E) w p u) (k : Nat) :
  RC M E w (.ref (cells.drop k)) (.pointer (some ⟨g,o + k,none⟩)) :=
 ⟨g,o + k,rfl,fun j p hj => by rw [List.getElem?_drop] at hj; rw [Nat.add_assoc]; exact h _ p hj⟩
theorem snd_field (h : Rel X E st a w) {t : TypeId} {x : Operand} {f : Nat} {v : V}
   (he : evField X.P st t x f = some v) : ∃ u,(Instr.fieldAt t (a.eval x) f).run X.P w = .ok u w ∧ RV X.M E w v u := by
 unfold evField at he
 split at he
 · rename_i n off k hx hk
   obtain ⟨y,h1,g,hg,h2⟩ := Nmd.get (h.argc hx).1 (h.argn hx (n := n) (by simp [C.names]))
   simp at he; subst he
   exact ⟨_,by rw [h2]; exact run_fieldAt_told hk g off w,.inr ⟨y,h1,g,hg,rfl⟩⟩
 · rename_i n i j k hx hk
   obtain ⟨y,h1,h2,g,hg,h3⟩ := Nmd.get (h.argc hx).1 (h.argn hx (n := n) (by simp [C.names]))
   simp at he; subst he
   exact ⟨_,by rw [h3]; exact run_fieldAt_told hk g _ w,.inr ⟨y,h1,h2,g,hg,by rw [Nat.add_assoc]⟩⟩
 · rename_i cells k hx hk
   obtain ⟨⟨g,o,h1,h2⟩,_⟩ := h.argc hx
   simp at he; subst he
   exact ⟨_,by rw [h1]; exact run_fieldAt_told hk g o w,RC.ref_drop h2 k⟩
 · cases he
theorem tyArr_eq {P : Program} {t : TypeId} {n : Nat} {e : TypeId} (h : tyArr P t = some (n,e)) : P.underlying t = some (.array n e) ∧ (P.info? e).isSome = true := by
 unfold tyArr at h
 split at h
 · split at h
   · simp at h; obtain ⟨rfl,rfl⟩ := h; exact ⟨by assumption,by assumption⟩
   · cases h
 · cases h
theorem tyElem_eq {P : Program} {t e : TypeId} (h : tyElem P t = some e) : P.underlying t = some (.slice e) ∧ (P.info? e).isSome = true := by
 unfold tyElem at h
 split at h
 · split at h
   · simp at h; subst h; exact ⟨by assumption,by assumption⟩
   · cases h
 · cases h
theorem run_indexAt_arr {P : Program} {t : TypeId} {n : Nat} {e : TypeId} (h : tyArr P t = some (n,e)) (g o : Nat) (k : IntKind) {i : Int} (hi : 0 ≤ i ∧ i < n) (w : World) :
  (Instr.indexAt t (.pointer (some ⟨g,o,none⟩)) (.int k i)).run P w = .ok (.pointer (some ⟨g,o + i.toNat * tySize P e,none⟩)) w := by
 obtain ⟨h1,h2⟩ := tyArr_eq h
 simp [Instr.indexAt,run_underlying h1,asIntOf,Instr.sureAddr,hi,run_sizeOf w h2,addr_add]
theorem run_indexAt_sl {P : Program} {t e : TypeId} (h : tyElem P t = some e) (g o n cap : Nat) (k : IntKind) {i : Int} (hi : 0 ≤ i ∧ i < n) (w : World) :
  (Instr.indexAt t (.slice (some ⟨g,o,none⟩) n cap) (.int k i)).run P w = .ok (.pointer (some ⟨g,o + i.toNat * tySize P e,none⟩)) w := by
 obtain ⟨h1,h2⟩ := tyElem_eq h
 simp [Instr.indexAt,run_underlying h1,asIntOf,hi,run_sizeOf w h2,addr_add]
def ASt.elem (st : ASt) (size i : Nat) : C → Option C
 | .own n => match st.heap.lookup n with
  | some (.row _ rows) => match rows[i]? with
   | some r => if r.length = size then some (.eptr n i 0) else none
   | none => none
  | _ => none
 | .sub n lo len => match st.heap.lookup n with
  | some (.row _ rows) => match rows[lo + i]? with
   | some r => if r.length = size ∧ i < len then some (.eptr n (lo + i) 0) else none
   | none => none
  | _ => none
 | .p (.sl rows) => match rows[i]? with
  | some r => if r.length = size then some (.ref r) else none
  | none => none
 | _ => none
noncomputable def evIndex (P : Program) (st : ASt) (t : TypeId) (x i : Operand) : Option V :=
 match st.arg i with
 | some (.v (.c (.p (.sc (.int _ i))))) => match st.arg x with
  | some (.v (.c (.ptr n off))) => match tyArr P t with
   | some (m,e) => need (0 ≤ i ∧ i < m) (some (.c (.ptr n (off + i.toNat * tySize P e))))
   | none => none
  | some (.v (.c (.eptr n r j))) => match tyArr P t with
   | some (m,e) => need (0 ≤ i ∧ i < m) (some (.c (.eptr n r (j + i.toNat * tySize P e))))
   | none => none
  | some (.v (.c (.ref cells))) => match tyArr P t with
   | some (m,e) => need (0 ≤ i ∧ i < m) (some (.c (.ref (cells.drop (i.toNat * tySize P e)))))
   | none => none
  | some (.v (.c c)) => match tyElem P t with
   | some e => need (0 ≤ i) ((st.elem (tySize P e) i.toNat c).map V.c)
   | none => none
  | _ => none
 | _ => none
theorem snd_index (h : Rel X E st a w) {t : TypeId} {x i : Operand} {v : V}
   (he : evIndex X.P st t x i = some v) : ∃ u,(Instr.indexAt t (a.eval x) (a.eval i)).run X.P w = .ok u w ∧ RV X.M E w v u := by
 unfold evIndex need at he
 split at he
 · rename_i k i' hi
   have h3 := RP.sc_eq (h.argc hi).1
   split at he
   · rename_i n off hx
     obtain ⟨y,h1,g,hg,h2⟩ := Nmd.get (h.argc hx).1 (h.argn hx (n := n) (by simp [C.names]))
     split at he
     · rename_i m e ht
       split at he
       · simp at he; subst he
         exact ⟨_,by rw [h2,h3]; exact run_indexAt_arr ht g off k (by assumption) w,.inr ⟨y,h1,g,hg,rfl⟩⟩
       · cases he
     · cases he
   · rename_i n r j hx
     obtain ⟨y,h1,h4,g,hg,h2⟩ := Nmd.get (h.argc hx).1 (h.argn hx (n := n) (by simp [C.names]))
     split at he
     · rename_i m e ht
       split at he
       · simp at he; subst he
         exact ⟨_,by rw [h2,h3]; exact run_indexAt_arr ht g _ k (by assumption) w,.inr ⟨y,h1,h4,g,hg,by rw [Nat.add_assoc]⟩⟩
       · cases he
     · cases he
   · rename_i cells hx
     obtain ⟨⟨g,o,h1,h2⟩,_⟩ := h.argc hx
     split at he
     · rename_i m e ht
       split at he
       · simp at he; subst he
         exact ⟨_,by rw [h1,h3]; exact run_indexAt_arr ht g o k (by assumption) w,RC.ref_drop h2 _⟩
       · cases he
     · cases he
   · rename_i c _ _ _ hx
     have hc := (h.argc hx).1
     split at he
     · rename_i e ht
       split at he
       · rename_i h0
         simp only [Option.map_eq_some_iff] at he
         obtain ⟨c',he,rfl⟩ := he
         cases c with
         | own n =>
           simp only [ASt.elem] at he
           have hn := h.argn hx (n := n) (by simp [C.names])
           obtain ⟨y,h1,h2⟩ := Nmd.get hc hn
           split at he
           · rename_i e' rows hl
             obtain ⟨x',cur,fz,k3,hfz,k4,k5,k6,k7,k8,_,k9,k10,k11,_⟩ := h.row (by rw [← h.gone]; exact hn) hl
             rw [h1] at k3; cases k3
             split at he
             · rename_i r hr
               split at he
               · rename_i hrl
                 simp at he; subst he
                 have hlt := (List.getElem?_eq_some_iff.1 hr).1
                 have hsz : y.sz = tySize X.P e := by rw [← hrl]; exact (k10 r (List.mem_of_getElem? hr)).symm
                 cases hg : y.g with
                 | none => have := k11 hg; omega
                 | some g =>
                  rw [hg] at h2
                  refine ⟨_,by rw [h2,h3]; exact run_indexAt_sl ht g 0 y.len y.cap k (by omega) w,.inr ⟨y,h1,by omega,g,hg,by rw [hsz]; simp⟩⟩
               · cases he
             · cases he
           · cases he
         | sub n lo len =>
           simp only [ASt.elem] at he
           have hn := h.argn hx (n := n) (by simp [C.names])
           obtain ⟨y,h1,h2,A,h4,h5⟩ := Nmd.get hc hn
           split at he
           · rename_i e' rows hl
             obtain ⟨x',cur,fz,k3,hfz,k4,k5,k6,k7,k8,_,k9,k10,k11,_⟩ := h.row (by rw [← h.gone]; exact hn) hl
             rw [h1] at k3; cases k3
             split at he
             · rename_i r hr
               split at he
               · rename_i hrl
                 simp at he; subst he
                 have hlt := (List.getElem?_eq_some_iff.1 hr).1
                 have hsz : y.sz = tySize X.P e := by rw [← hrl.1]; exact (k10 r (List.mem_of_getElem? hr)).symm
                 have hcap : y.cap ≠ lo := by omega
                 cases hg : y.g with
                 | none => have := k11 hg; omega
                 | some g =>
                 rw [h5 (.inl hcap),hg] at h4
                 refine ⟨_,by rw [h4,h3]; exact run_indexAt_sl ht g (lo * y.sz) len (y.cap - lo) k (by omega) w,.inr ⟨y,h1,by omega,g,hg,by rw [hsz,Nat.add_mul]; simp⟩⟩
               · cases he
             · cases he
           · cases he
         | p q =>
          cases q with
          | sc => cases he
          | sl rows =>
           simp only [ASt.elem] at he
           split at he
           · rename_i r hr
             split at he
             · rename_i hrl
               simp at he; subst he
               have hlt := (List.getElem?_eq_some_iff.1 hr).1
               generalize a.eval x = u at hc
               cases hc with
               | nil => simp at hr
               | @row _ g o cap sz f h0' hl hm hs hcc hpp =>
                 have hsz : sz = tySize X.P e := by rw [← hrl]; exact (hs r (List.mem_of_getElem? hr)).symm
                 refine ⟨_,by rw [h3]; exact run_indexAt_sl ht g o _ cap k (by omega) w,g,_,rfl,fun j p hj => ?_⟩
                 rw [← hsz]
                 exact ⟨_,(hcc _ r j p hr hj).1,(hcc _ r j p hr hj).2,hpp _ r j p hr hj⟩
             · cases he
           · cases he
         | _ => cases he
       · cases he
     · cases he
   · cases he
 · cases he
end
theorem run_sliceBounds_in {P : Program} (isSlice : Bool) (len cap : Nat) (lo hi : Option Value) {l h : Int} (hlo : lo = none ∧ l = 0 ∨ ∃ k,lo = some (.int k l)) (hhi : hi = none ∧ h = len ∨ ∃ k,hi = some (.int k h))
   (h0 : 0 ≤ l) (h1 : l ≤ h) (h2 : h ≤ cap) (w : World) : (Instr.sliceBounds isSlice len cap lo hi none).run P w = .ok (l.toNat,h.toNat,cap) w := by
 have e1 : ∀ (k : IntKind) (y : Nat) (c : BoundsCode) (i : Int),0 ≤ i → i ≤ y → (Instr.sliceBound (.int k i) y c).run P w = .ok i.toNat w := by
   intro k y c i hi0 hi1
   simp [Instr.sliceBound,asIntOf,hi0,hi1]
 rcases hlo with ⟨rfl,rfl⟩ | ⟨k,rfl⟩ <;> rcases hhi with ⟨rfl,rfl⟩ | ⟨k',rfl⟩
 · simp [Instr.sliceBounds]
 · simp [Instr.sliceBounds,e1 k' cap _ h (by omega) h2]
 · simp [Instr.sliceBounds,e1 k len _ l h0 h1]
 · simp [Instr.sliceBounds,e1 k' cap _ h (by omega) h2,e1 k h.toNat _ l h0 (by omega)]
noncomputable def ASt.part (st : ASt) (size l h : Nat) : C → Option C
 | .own n => match st.heap.lookup n with
  | some (.row _ rows) => if h ≤ rows.length ∧ (∀ r,rows[0]? = some r → r.length = size) then some (.sub n l (h - l)) else none
  | _ => none
 | .sub n lo len => match st.heap.lookup n with
  | some (.row _ rows) => if h ≤ len ∧ (∀ r,rows[0]? = some r → r.length = size) then some (.sub n (lo + l) (h - l)) else none
  | _ => none
 | .p (.sl rows) => if h ≤ rows.length ∧ Rect size rows then some (.p (.sl ((rows.take h).drop l))) else none
 | .nil => if h = 0 then some .nil else none
 | _ => none
def ASt.num (st : ASt) (o : Option Operand) (d : Int) : Option Int := match o with
 | none => some d
 | some o => match st.arg o with
  | some (.v (.c (.p (.sc (.int _ i))))) => some i
  | _ => none
def ASt.clen (st : ASt) : C → Option Nat
 | .sub _ _ len => some len
 | c => (st.view c).map (·.length)
noncomputable def evSlice (P : Program) (st : ASt) (t : TypeId) (x : Operand) (lo hi : Option Operand) : Option V :=
 match st.arg x with
 | some (.v (.c (.p (.sc (.string s))))) => match st.num lo 0,st.num hi s.size,P.underlying t with
  | some l,some h,some .string => need (0 ≤ l ∧ l ≤ h ∧ h ≤ s.size) (some (.sc (.string (s.extract l.toNat h.toNat))))
  | _,_,_ => none
 | some (.v (.c c)) => match st.clen c,tyElem P t with
  | some n,some e => match st.num lo 0,st.num hi n with
   | some l,some h => need (0 ≤ l ∧ l ≤ h) ((st.part (tySize P e) l.toNat h.toNat c).map V.c)
   | _,_ => none
  | _,_ => none
 | _ => none
theorem RP.slice {M : Bad} {w : World} {rows : List (List PV)} {A : Option Addr} {n cap size : Nat} (hr : RP M w (.sl rows) (.slice A n cap)) (hR : Rect size rows) {l h : Nat} (h1 : l ≤ h) (h2 : h ≤ rows.length) :
   RP M w (.sl ((rows.take h).drop l)) (.slice (if cap = l then A else A.map (·.add (l * size))) (h - l) (cap - l)) := by
 by_cases hlh : l = h
 · subst hlh
   have : (rows.take l).drop l = [] := by simp
   rw [this,Nat.sub_self]
   exact .nil
 · cases hr with
   | nil => simp at h2; omega
   | @row _ g o cap sz f h0 hl hm hs hcc hpp =>
    have hlen : ((rows.take h).drop l).length = h - l := by simp; omega
    have hsz : ∀ r ∈ rows,sz = size := fun r hr => by rw [← hs r hr]; exact hR r hr
    have hne : cap ≠ l := by omega
    rw [if_neg hne,← hlen]
    simp only [Option.map_some,addr_add]
    have hg : ∀ (i : Nat) (r : List PV),((rows.take h).drop l)[i]? = some r → rows[l + i]? = some r := by
      intro i r hi
      rw [List.getElem?_drop,List.getElem?_take] at hi
      split at hi
      · exact hi
      · cases hi
    have hpos : ∀ (i : Nat) (r : List PV) (j : Nat),((rows.take h).drop l)[i]? = some r → o + l * size + i * sz + j = o + (l + i) * sz + j := by
      intro i r j hi
      have := hsz r (List.mem_of_getElem? (hg i r hi))
      subst this
      rw [Nat.add_mul]; omega
    refine RP.row (sz := sz) (f := fun i j => f (l + i) j) (by intro h3; rw [h3] at hlen; simp at hlen; omega) (by rw [hlen]; omega) (by omega) (fun r hr => hs r (List.mem_of_mem_take (List.mem_of_mem_drop hr))) ?_ ?_
    · intro i r j p hi hj
      rw [hpos i r j hi]
      exact hcc (l + i) r j p (hg i r hi) hj
    · intro i r j p hi hj
      exact hpp (l + i) r j p (hg i r hi) hj
section
variable {X : Fx} {E : Env} {st : ASt} {a : Act} {w : World}
theorem evNum (h : Rel X E st a w) {o : Option Operand} {d l : Int} (he : st.num o d = some l) : o.map a.eval = none ∧ l = d ∨ ∃ k,o.map a.eval = some (.int k l) := by
 cases o with
 | none => simp [ASt.num] at he; exact .inl ⟨rfl,he.symm⟩
 | some o =>
  simp only [ASt.num] at he
  split at he
  · rename_i k i hx
    simp at he; subst he
    exact .inr ⟨k,by simp [RP.sc_eq (h.argc hx).1]⟩
  · cases he
theorem snd_slice (h : Rel X E st a w) {t : TypeId} {x : Operand} {lo hi : Option Operand} {v : V}
   (he : evSlice X.P st t x lo hi = some v) : ∃ u,(Instr.sliceAt t (a.eval x) (lo.map a.eval) (hi.map a.eval) none).run X.P w = .ok u w ∧ RV X.M E w v u := by
 unfold evSlice need at he
 split at he
 · rename_i s hx
   have h3 := RP.sc_eq (h.argc hx).1
   split at he
   · rename_i l hh hlo hhi hu
     split at he
     · rename_i hb
       simp at he; subst he
       have h4 := run_sliceBounds_in (P := X.P) false s.size s.size (lo.map a.eval) (hi.map a.eval) (evNum h hlo) (evNum h hhi) hb.1 hb.2.1 hb.2.2 w
       refine ⟨_,?_,.sc rfl⟩
       rw [h3]
       simp [Instr.sliceAt,Instr.slice,run_underlying hu,h4]
     · cases he
   · cases he
 · rename_i c _ hx
   have hc := (h.argc hx).1
   split at he
   · rename_i n e hp ht
     obtain ⟨hu,hie⟩ := tyElem_eq ht
     split at he
     · rename_i l hh hlo hhi
       split at he
       · rename_i hb
         simp only [Option.map_eq_some_iff] at he
         obtain ⟨c',he,rfl⟩ := he
         have key : ∀ (A : Option Addr) (m cap : Nat),a.eval x = .slice A m cap → (hi = none → (m : Int) = n) → hh ≤ cap →
             (Instr.sliceAt t (a.eval x) (lo.map a.eval) (hi.map a.eval) none).run X.P w = .ok (.slice (if cap = l.toNat then A else A.map (·.add (l.toNat * tySize X.P e))) (hh.toNat - l.toNat) (cap - l.toNat)) w := by
           intro A m cap hx' hm hcap
           have h4 := run_sliceBounds_in (P := X.P) true m cap (lo.map a.eval) (hi.map a.eval) (evNum h hlo) (by
             rcases evNum h hhi with ⟨k1,k2⟩ | k1
             · refine .inl ⟨k1,?_⟩
               have : hi = none := by cases hi <;> simp_all
               rw [k2,hm this]
             · exact .inr k1) hb.1 hb.2 hcap w
           rw [hx']
           simp [Instr.sliceAt,Instr.slice,run_underlying hu,h4,run_sizeOf w hie,tySize]
         cases c with
         | own nn =>
           simp only [ASt.part] at he
           have hn := h.argn hx (n := nn) (by simp [C.names])
           obtain ⟨y,k1,k2⟩ := Nmd.get hc hn
           split at he
           · rename_i e' rows hl
             obtain ⟨x',cur,fz,k3,hfz,k4,k5,k6,k7,k8,_,k9,k10,k11,_⟩ := h.row (by rw [← h.gone]; exact hn) hl
             rw [k1] at k3; cases k3
             split at he
             · rename_i hcond
               simp at he; subst he
               have hnl : n = rows.length := by simp [ASt.clen,ASt.view,hl] at hp; exact hp.symm
               refine ⟨_,key _ _ _ k2 (fun _ => by omega) (by omega),.inr ⟨y,k1,by omega,_,rfl,fun hcap => ?_⟩⟩
               by_cases hc0 : y.cap = l.toNat
               · have hl0 : l.toNat = 0 := by omega
                 rw [if_pos hc0,hl0]; simp
               · rw [if_neg hc0]
                 have hsz : l.toNat * tySize X.P e = l.toNat * y.sz := by
                  by_cases hr0 : rows = []
                  · subst hr0
                    have : l.toNat = 0 := by simp at hcond; omega
                    rw [this]; simp
                  · obtain ⟨r,rs,rfl⟩ := List.exists_cons_of_ne_nil hr0
                    rw [← hcond.2 r rfl,k10 r (by simp)]
                 cases y.g <;> simp [addr_add,hsz]
             · cases he
           · cases he
         | sub nn l0 len =>
           simp only [ASt.part] at he
           have hn := h.argn hx (n := nn) (by simp [C.names])
           obtain ⟨y,k1,k13,A,k2,k12⟩ := Nmd.get hc hn
           split at he
           · rename_i e' rows hl
             obtain ⟨x',cur,fz,k3,hfz,k4,k5,k6,k7,k8,_,k9,k10,k11,_⟩ := h.row (by rw [← h.gone]; exact hn) hl
             rw [k1] at k3; cases k3
             split at he
             · rename_i hcond
               simp at he; subst he
               have hnl : n = len := by simp [ASt.clen] at hp; exact hp.symm
               refine ⟨_,key _ _ _ k2 (fun _ => by omega) (by omega),.inr ⟨y,k1,by omega,_,by rw [Nat.sub_sub],fun hcap => ?_⟩⟩
               have hA := k12 (by omega)
               subst hA
               by_cases hc0 : y.cap - l0 = l.toNat
               · have hl0 : l0 = 0 ∧ l.toNat = 0 := by omega
                 rw [if_pos hc0,hl0.1,hl0.2]
               · rw [if_neg hc0]
                 have hsz : l.toNat * tySize X.P e = l.toNat * y.sz := by
                  by_cases hr0 : rows = []
                  · subst hr0
                    have : l.toNat = 0 := by simp at k5; omega
                    rw [this]; simp
                  · obtain ⟨r,rs,rfl⟩ := List.exists_cons_of_ne_nil hr0
                    rw [← hcond.2 r rfl,k10 r (by simp)]
                 cases y.g <;> simp [addr_add,hsz,Nat.add_mul]
             · cases he
           · cases he
         | p q =>
          cases q with
          | sc => cases he
          | sl rows =>
           simp only [ASt.part] at he
           split at he
           · rename_i hcond
             simp at he; subst he
             have hnl : n = rows.length := by simp [ASt.clen,ASt.view] at hp; exact hp.symm
             have hx2 : ∃ A cap,a.eval x = .slice A rows.length cap ∧ rows.length ≤ cap := by
               generalize a.eval x = u at hc
               cases hc with
               | nil => exact ⟨_,_,rfl,by simp⟩
               | row h0 hl => exact ⟨_,_,rfl,hl⟩
             obtain ⟨A,cap,hx',hcap⟩ := hx2
             rw [hx'] at hc
             exact ⟨_,key _ _ _ hx' (fun _ => by omega) (by omega),RP.slice hc hcond.2 (by omega) hcond.1⟩
           · cases he
         | nil =>
           simp only [ASt.part] at he
           split at he
           · rename_i h0
             simp at he; subst he
             have hnl : n = 0 := by simp [ASt.clen,ASt.view] at hp; exact hp.symm
             refine ⟨_,key _ _ _ hc (fun _ => by omega) (by omega),?_⟩
             show _ = _
             have : l.toNat = 0 := by omega
             simp [this,h0]
           · cases he
         | _ => cases he
       · cases he
     · cases he
   · cases he
 · cases he
end
end
end Go.Proofs.YtndegphojkiblaaGreatDoor
