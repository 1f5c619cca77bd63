/- Towards the last file's theorem: part 3. -/
import Derived.Test.YtndegphojkiblaaGreatDoorG2
set_option linter.unusedSimpArgs false
set_option linter.unusedVariables false
namespace Go.Proofs.YtndegphojkiblaaGreatDoor
section
open Go.RowKit
open Classical
def Env.drop (E : Env) (ns : List Nat) : Env := ⟨fun n => if n ∈ ns then none else E.N n,ns ++ E.gone⟩
theorem drop_nil (E : Env) : E.drop [] = E := by simp [Env.drop]
theorem drop_some {E : Env} {ns : List Nat} {n : Nat} {x : Nm} (h : (E.drop ns).N n = some x) : E.N n = some x ∧ n ∉ ns := by
 simp only [Env.drop] at h
 split at h
 · cases h
 · exact ⟨h,by assumption⟩
theorem bad_drop {M : Bad} {E : Env} {ns : List Nat} {g : Nat} (h : bad M (E.drop ns) g) : bad M E g := by
 rcases h with h | ⟨n,x,h1,h2⟩
 · exact .inl h
 · exact .inr ⟨n,x,(drop_some h1).1,h2⟩
theorem goes_drop (M : Bad) (E : Env) (ns : List Nat) (w : World) : Goes M E (E.drop ns) w w := {
 cell := fun _ _ _ h1 h2 => ⟨h1,fun h => h2 (bad_drop h)⟩
 name := fun n x hx => by
  by_cases hn : n ∈ ns
  · exact .inl (by simp [Env.drop,hn])
  · exact .inr (by simp [Env.drop,hn,hx])
 gone := fun n hn => by simp [Env.drop,hn]
 }
section
variable {X : Fx} {E : Env} {st : ASt} {a : Act} {w : World}
theorem Rel.drop (h : Rel X E st a w) (ns : List Nat) (hns : ∀ n ∈ ns,n < st.next) : Rel X (E.drop ns) (st.eff ⟨[],ns⟩) a w :=
 h.step ⟨[],ns⟩ (nx := st.next) (Nat.le_refl _) (goes_drop _ _ _ _) (by simp [Env.drop,h.gone]) h.frame (fun n x hx => h.nlt n x (drop_some hx).1) (fun n x g hx => h.names n x g (drop_some hx).1)
  (fun n m x y g hx hy => h.inj n m x y g (drop_some hx).1 (drop_some hy).1) (fun m _ => by simp only [Env.drop]; split; exact .inl rfl; exact .inr rfl) hns (fun _ _ _ _ _ _ _ => rfl) (fun n b hl => by simp at hl)
theorem Rel.write (h : Rel X E st a w) {n : Nat} {x : Nm} (hN : E.N n = some x) {g : Nat} (hxg : x.g = some g) {cur : Array Value} {e : TypeId} {fz : Nat × Nat} (hg : w.heap[g]? = some (.cells cur e fz)) (us : Array Value) (ns : List Nat) (hns : ∀ m ∈ ns,m < st.next) (b : Blk)
   (hb : Goes X.M E (E.drop ns) w (w.setRow g us) → (w.setRow g us).heap[g]? = some (.cells us e fz) → n ∉ ns → RB X.P X.M (E.drop ns) (w.setRow g us) n b) :
   Goes X.M E (E.drop ns) w (w.setRow g us) ∧ Rel X (E.drop ns) (st.eff ⟨[(n,b)],ns⟩) a (w.setRow g us) := by
 have hot : ∀ k,k ≠ g → (w.setRow g us).heap[k]? = w.heap[k]? := fun k hk => setRow_other w g k _ hk
 have hsz : (w.setRow g us).heap.size = w.heap.size := by simp [World.setRow]
 obtain ⟨hx1,hx2,hx3⟩ := h.names n x g hN hxg
 have hG : Goes X.M E (E.drop ns) w (w.setRow g us) := {
   cell := fun k o u k1 k2 => by
     have : k ≠ g := by rintro rfl; exact k2 (.inr ⟨n,x,hN,hxg⟩)
     exact ⟨(World.cell?_of_block (w := w) (a := ⟨k,o,none⟩) (hot k this)).trans k1,fun h => k2 (bad_drop h)⟩
   name := (goes_drop X.M E ns w).name
   gone := (goes_drop X.M E ns w).gone }
 refine ⟨hG,h.step ⟨[(n,b)],ns⟩ (nx := st.next) (Nat.le_refl _) hG (by simp [Env.drop,h.gone]) ?_ (fun n x hx => h.nlt n x (drop_some hx).1) (fun n x g hx => by rw [hsz]; exact h.names n x g (drop_some hx).1)
   (fun n m x y g hx hy => h.inj n m x y g (drop_some hx).1 (drop_some hy).1) (fun m _ => by simp only [Env.drop]; split; exact .inl rfl; exact .inr rfl) hns ?_ ?_⟩
 · refine h.frame.trans (K' := fun k => k = g) ⟨rfl,rfl,rfl,by rw [hsz]; exact Nat.le_refl _,fun k _ hk => hot k hk⟩ ?_
   rintro k hk rfl
   rcases hx2 with h1 | h1
   · exact h1
   · omega
 · intro m y k hy hk _ hl
   refine hot _ fun he => ?_
   subst he
   have := h.inj m n y x k hy hN hk hxg
   subst this
   simp at hl
 · intro m b' hl
   simp only [List.lookup_cons,List.lookup_nil] at hl
   split at hl
   · rename_i heq
     simp at heq hl; subst heq hl
     by_cases hm : m ∈ ns
     · exact .inl (by simp [Env.drop,hm])
     · exact .inr (hb hG (setRow_heap w g cur us e _ hg) hm)
   · cases hl
theorem Rel.ngone (h : Rel X E st a w) {n : Nat} {x : Nm} (hN : E.N n = some x) : n < st.next := h.nlt n x hN
def ASt.sink (st : ASt) : C → Option (PV × List Nat)
 | .p q => some (q,[])
 | .nil => some (.sl [],[])
 | .own n => match st.heap.lookup n with
  | some (.row _ rows) => some (.sl rows,[n])
  | _ => none
 | .sub n lo len => match st.heap.lookup n with
  | some (.row _ rows) => some (.sl ((rows.drop lo).take len),[n])
  | _ => none
 | _ => none
theorem Rows.rp {M M' : Bad} {w : World} {rows : List (List PV)} {v : Value} (h : Rows M w rows v) (hM : ∀ g,M' g → M g) (hb : ∀ g o n c,v = .slice (some ⟨g,o,none⟩) n c → ¬ M' g) : RP M' w (.sl rows) v := by
 rcases h with ⟨rfl,A,cap,rfl⟩ | ⟨g,o,cap,sz,f,rfl,h0,hl,hm,hR,hc⟩
 · exact .nil
 · have hs : Stay M M' w w := fun k o u h1 h2 => ⟨h1,fun h => h2 (hM k h)⟩
   exact .row h0 hl hm hR (fun i r j p hi hj => ⟨(hc i r j p hi hj).1,hb g o _ _ rfl⟩) (fun i r j p hi hj => (hc i r j p hi hj).2.trans hs)
theorem Rel.sink (h : Rel X E st a w) {c : C} {v : Value} {q : PV} {ns : List Nat} (hc : RC X.M E w c v) (hn : ∀ n ∈ c.names,n ∉ st.gone) (hs : st.sink c = some (q,ns)) :
  (∀ n ∈ ns,n < st.next) ∧ (∀ n ∈ ns,n ∉ st.gone) ∧ ∀ ns',(∀ n ∈ ns,n ∈ ns') → RP (bad X.M (E.drop ns')) w q v := by
 have hst : ∀ ns',Stay (bad X.M E) (bad X.M (E.drop ns')) w w := fun ns' k o u h1 h2 => ⟨h1,fun h => h2 (bad_drop h)⟩
 have key : ∀ n lo len,n ∉ st.gone → RC X.M E w c v → (c = .own n ∨ c = .sub n lo len) → ∀ rows,st.view c = some rows →
    (∀ k ∈ [n],k < st.next) ∧ (∀ k ∈ [n],k ∉ st.gone) ∧ ∀ ns',(∀ k ∈ [n],k ∈ ns') → RP (bad X.M (E.drop ns')) w (.sl rows) v := by
  intro n lo len hng hc hcc rows hv
  have hr := h.view hc hn hv
  have hx : ∃ x,E.N n = some x ∧ ∀ g o m cp,v = .slice (some ⟨g,o,none⟩) m cp → x.g = some g ∨ m = 0 := by
    rcases hcc with rfl | rfl
    · obtain ⟨x,h1,rfl⟩ := Nmd.get hc (by rw [h.gone]; exact hng)
      refine ⟨x,h1,fun g o m cp he => ?_⟩
      cases hg : x.g with
      | none => rw [hg] at he; simp at he
      | some g' => rw [hg] at he; simp at he; exact .inl (by rw [he.1.1])
    · obtain ⟨x,h1,h2,A,rfl,h4⟩ := Nmd.get hc (by rw [h.gone]; exact hng)
      refine ⟨x,h1,fun g o m cp he => ?_⟩
      simp at he
      by_cases hl0 : len = 0
      · right; omega
      · left
        simp only [ASt.view] at hv
        split at hv
        · rename_i e rs hlk
          obtain ⟨x',cur,fz,k3,hfz,k4,k5,k6,_⟩ := h.row hng hlk
          rw [h1] at k3; cases k3
          rw [h4 (by omega)] at he
          cases hg : x.g with
          | none => rw [hg] at he; simp at he
          | some g' => rw [hg] at he; simp at he; rw [he.1.1]
        · cases hv
  obtain ⟨x,hN,hx⟩ := hx
  refine ⟨by simpa using h.ngone hN,by simpa using hng,fun ns' hns => ?_⟩
  by_cases h0 : rows = []
  · subst h0
    rcases hr with ⟨_,A,cap,rfl⟩ | ⟨_,_,_,_,_,_,h0,_⟩
    · exact .nil
    · exact absurd rfl h0
  · refine hr.rp (fun g hg => bad_drop hg) ?_
    rintro g o m cp rfl hb
    have hg : x.g = some g := by
      rcases hx g o m cp rfl with h1 | h1
      · exact h1
      · rcases hr with ⟨h2,_⟩ | ⟨g',o',cap,sz,f,h2,_⟩
        · exact absurd h2 h0
        · simp at h2
          exact absurd (List.eq_nil_of_length_eq_zero (by omega)) h0
    rcases hb with hb | ⟨k,y,h1,h2⟩
    · exact (h.names n x g hN hg).2.2 hb
    · obtain ⟨h3,h4⟩ := drop_some h1
      have := h.inj k n y x g h3 hN h2 hg
      subst this
      exact h4 (hns k (by simp))
 cases c with
 | p q' => simp [ASt.sink] at hs; obtain ⟨rfl,rfl⟩ := hs; exact ⟨by simp,by simp,fun ns' _ => RP.trans hc (hst ns')⟩
 | nil => simp [ASt.sink] at hs; obtain ⟨rfl,rfl⟩ := hs; cases hc; exact ⟨by simp,by simp,fun ns' _ => .nil⟩
 | own n =>
  simp only [ASt.sink] at hs
  split at hs
  · rename_i e rows hl
    simp at hs; obtain ⟨rfl,rfl⟩ := hs
    exact key n 0 0 (hn n (by simp [C.names])) hc (.inl rfl) rows (by simp [ASt.view,hl])
  · cases hs
 | sub n lo len =>
  simp only [ASt.sink] at hs
  split at hs
  · rename_i e rows hl
    simp at hs; obtain ⟨rfl,rfl⟩ := hs
    exact key n lo len (hn n (by simp [C.names])) hc (.inr rfl) _ (by simp [ASt.view,hl])
  · cases hs
 | _ => cases hs
def ASt.sinks (st : ASt) : List C → Option (List PV × List Nat)
 | [] => some ([],[])
 | c :: cs => match st.sink c,st.sinks cs with
  | some (q,ns),some (qs,ms) => some (q :: qs,ns ++ ms)
  | _,_ => none
theorem sinks_get {st : ASt} : ∀ {cs : List C} {qs : List PV} {ns : List Nat},st.sinks cs = some (qs,ns) → qs.length = cs.length ∧ (∀ (i : Nat) (q : PV),qs[i]? = some q → ∃ c ms,cs[i]? = some c ∧ st.sink c = some (q,ms) ∧ ∀ m ∈ ms,m ∈ ns) ∧
    ∀ n ∈ ns,∃ c q ms,c ∈ cs ∧ st.sink c = some (q,ms) ∧ n ∈ ms
 | [],qs,ns,h => by simp [ASt.sinks] at h; obtain ⟨rfl,rfl⟩ := h; exact ⟨rfl,by simp,by simp⟩
 | c :: cs,qs,ns,h => by
  simp only [ASt.sinks] at h
  split at h
  · rename_i q ms qs' ms' h1 h2
    simp at h; obtain ⟨rfl,rfl⟩ := h
    obtain ⟨h3,h4,h5⟩ := sinks_get h2
    refine ⟨by simp [h3],fun i q' hi => ?_,fun n hn => ?_⟩
    · cases i with
      | zero => simp at hi; subst hi; exact ⟨c,ms,rfl,h1,fun m hm => List.mem_append_left _ hm⟩
      | succ i =>
        obtain ⟨c',ms2,k1,k2,k3⟩ := h4 i q' (by simpa using hi)
        exact ⟨c',ms2,by simpa using k1,k2,fun m hm => List.mem_append_right _ (k3 m hm)⟩
    · rcases List.mem_append.1 hn with h6 | h6
      · exact ⟨c,q,ms,by simp,h1,h6⟩
      · obtain ⟨c',q',ms2,k1,k2,k3⟩ := h5 n h6
        exact ⟨c',q',ms2,by simp [k1],k2,k3⟩
  · cases h
theorem Rel.sinks (h : Rel X E st a w) {cs : List C} {us : Array Value} {qs : List PV} {ns : List Nat} (hsz : us.size = cs.length) (hc : ∀ (i : Nat) (c : C),cs[i]? = some c → ∃ u,us[i]? = some u ∧ RC X.M E w c u) (hn : ∀ c ∈ cs,∀ n ∈ c.names,n ∉ st.gone) (hs : st.sinks cs = some (qs,ns)) :
  qs.length = us.size ∧ (∀ n ∈ ns,n < st.next) ∧ (∀ n ∈ ns,n ∉ st.gone) ∧ ∀ ns',(∀ n ∈ ns,n ∈ ns') → ∀ (i : Nat) (q : PV),qs[i]? = some q → ∃ u,us[i]? = some u ∧ RP (bad X.M (E.drop ns')) w q u := by
 obtain ⟨h1,h2,h3⟩ := sinks_get hs
 have hall : ∀ n ∈ ns,n < st.next ∧ n ∉ st.gone := by
  intro n hn'
  obtain ⟨c,q,ms,k1,k2,k3⟩ := h3 n hn'
  obtain ⟨i,hi,rfl⟩ := List.getElem_of_mem k1
  obtain ⟨u,k4,k5⟩ := hc i _ (List.getElem?_eq_getElem hi)
  obtain ⟨k6,k7,_⟩ := h.sink k5 (hn _ k1) k2
  exact ⟨k6 n k3,k7 n k3⟩
 refine ⟨by rw [h1,hsz],fun n hn' => (hall n hn').1,fun n hn' => (hall n hn').2,fun ns' hns i q hi => ?_⟩
 obtain ⟨c,ms,k1,k2,k3⟩ := h2 i q hi
 obtain ⟨u,k4,k5⟩ := hc i c k1
 obtain ⟨_,_,k6⟩ := h.sink k5 (hn c (List.mem_of_getElem? k1)) k2
 exact ⟨u,k4,k6 ns' (fun n hn' => hns n (k3 n hn'))⟩
theorem names_cells {gone : List Nat} {y : V1} (hl : (V.v y).live gone = true) : ∀ c ∈ y.cells,∀ n ∈ c.names,n ∉ gone := by
 cases y with
 | c c => intro c' hc'; simp [V1.cells] at hc'; subst hc'; exact (live_c hl).2
 | agg cs => exact live_agg hl
noncomputable def evStore (P : Program) (st : ASt) (t : TypeId) (x y : Operand) : Option Eff :=
 match st.arg x,st.arg y with
 | some (.v (.c (.ptr n off))),some (.v y) => match st.heap.lookup n with
  | some (.box cs) => if y.cells.length = tySize P t ∧ off + y.cells.length ≤ cs.length ∧ tyInfo P t = true then some ⟨[(n,.box (cs.take off ++ y.cells ++ cs.drop (off + y.cells.length)))],[]⟩ else none
  | _ => none
 | some (.v (.c (.eptr n i j))),some (.v y) => match st.heap.lookup n,st.sinks y.cells with
  | some (.row e rows),some (qs,ns) => match rows[i]? with
   | some r => if qs.length = tySize P t ∧ j + qs.length ≤ r.length ∧ tyInfo P t = true ∧ n ∉ ns then some ⟨[(n,.row e (rows.set i (r.take j ++ qs ++ r.drop (j + qs.length))))],ns⟩ else none
   | none => none
  | _,_ => none
 | _,_ => none
theorem get_splice {α : Type} {l ys : List α} {off k : Nat} (h : off + ys.length ≤ l.length) : (l.take off ++ ys ++ l.drop (off + ys.length))[k]? = if off ≤ k ∧ k < off + ys.length then ys[k - off]? else l[k]? := by
 rw [List.append_assoc,List.getElem?_append]
 have : (l.take off).length = off := by simp; omega
 rw [this]
 split
 · rename_i h1
   rw [if_neg (by omega),List.getElem?_take,if_pos h1]
 · rename_i h1
   rw [List.getElem?_append]
   split
   · rename_i h2; rw [if_pos (by omega)]
   · rename_i h2
     rw [if_neg (by omega),List.getElem?_drop]
     congr 1; omega
theorem FzOk.not {n : Nat} {fz : Nat × Nat} (h : FzOk n fz) {w : World} {g : Nat} {cur : Array Value} {e : TypeId} (hg : w.heap[g]? = some (.cells cur e fz)) {i : Nat} (hi : i < n) : w.frozen? ⟨g,i,none⟩ = false := by
 obtain ⟨lo,hi'⟩ := fz
 simp only [World.frozen?,hg,Bool.and_eq_false_iff,decide_eq_false_iff_not]
 rcases h with h | h
 · cases h; right; omega
 · left; simp only at h ⊢; omega
theorem run_storeCells_fz (P : Program) (g o : Nat) (t : TypeId) (fz : Nat × Nat) : ∀ (vs : List Value) (i : Nat) (cur : Array Value) (w : World),FzOk cur.size fz → w.heap[g]? = some (.cells cur t fz) → o + i + vs.length ≤ cur.size → (∀ v ∈ vs,v.oneCell' = true) →
  (storeCells ⟨g,o,none⟩ vs i).run P w = .ok () (w.setRow g (cur.toList.take (o + i) ++ vs ++ cur.toList.drop (o + i + vs.length)).toArray)
 | [],i,cur,w,hf,hg,_,_ => by
  simp only [storeCells,List.append_nil,List.length_nil,Nat.add_zero,List.take_append_drop,Array.toArray_toList]
  rw [setRow_self w g cur t fz hg]
  rfl
 | v :: rest,i,cur,w,hf,hg,hl,h1 => by
  have hi : o + i < cur.size := by simp at hl; omega
  have hadd : (⟨g,o,none⟩ : Addr).add i = ⟨g,o + i,none⟩ := by unfold Addr.add; split <;> simp_all
  have hcell : w.cell? ⟨g,o + i,none⟩ = some cur[o + i] := by simp [World.cell?,hg,hi]
  have hfro : w.frozen? ⟨g,o + i,none⟩ = false := hf.not hg hi
  have hst : (store ((⟨g,o,none⟩ : Addr).add i) v).run P w = .ok () (w.setRow g (cur.setIfInBounds (o + i) v)) := by
   rw [hadd,run_store P w _ v _ (h1 v (by simp)),hcell]
   simp [hfro,setCell_eq_setRow w g (o + i) cur t fz v hg]
  have ih := run_storeCells_fz P g o t fz rest (i + 1) (cur.setIfInBounds (o + i) v) (w.setRow g (cur.setIfInBounds (o + i) v)) (by simpa using hf) (setRow_heap w g cur _ t _ hg) (by simp at hl ⊢; omega) (fun x hx => h1 x (by simp [hx]))
  simp only [storeCells,Sem.run_bind,hst,Result.andThen_ok,ih,setRow_setRow]
  congr 3
  have e := list_seg_step cur.toList (o + i) v rest (by simp at hl ⊢; omega)
  simpa [Array.toList_setIfInBounds,Nat.add_assoc] using e
theorem run_storeAt (P : Program) {t : TypeId} {g o : Nat} {v : Value} {cur : Array Value} {e : TypeId} {fz : Nat × Nat} {w : World} (hfz : FzOk cur.size fz) (hg : w.heap[g]? = some (.cells cur e fz)) (hsz : v.cells.size = tySize P t) (hi : tyInfo P t = true) (hfit : o + v.cells.size ≤ cur.size)
  (hone : ∀ u ∈ v.cells.toList,u.oneCell' = true) :
  (Instr.storeAt t (.pointer (some ⟨g,o,none⟩)) v).run P w = .ok () (w.setRow g (cur.toList.take o ++ v.cells.toList ++ cur.toList.drop (o + v.cells.toList.length)).toArray) := by
 have hst := run_storeCells_fz P g o e fz v.cells.toList 0 cur w hfz hg (by simp; omega) hone
 simp only [Nat.add_zero] at hst
 have : ¬ v.cells.size ≠ tySize P t := by rw [hsz]; simp
 simp only [Instr.storeAt,Instr.sureAddr,storeVar,Sem.run_bind,Sem.run_pure,Result.andThen_ok,run_sizeOf w hi,this,if_false]
 exact hst
theorem snd_store (h : Rel X E st a w) {t : TypeId} {x y : Operand} {ef : Eff}
   (he : evStore X.P st t x y = some ef) : ∃ w' E',(Instr.storeAt t (a.eval x) (a.eval y)).run X.P w = .ok () w' ∧ (∀ n,E.N n = none → E'.N n = none) ∧ Rel X E' (st.eff ef) a w' := by
 unfold evStore at he
 split at he
 · rename_i n off y1 hx hy
   have hn := h.argn hx (n := n) (by simp [C.names])
   obtain ⟨z,h1,g,hg,h2⟩ := Nmd.get (h.argc hx).1 hn
   obtain ⟨hy1,hy2⟩ := h.arg hy
   split at he
   · rename_i cs hl
     split at he
     · rename_i hb
       cases he
       obtain ⟨hsz,hfit,hinf⟩ := hb
       obtain ⟨x',g',cur,e,h3,h3',h4,h5,h6⟩ := h.row (by rw [← h.gone]; exact hn) hl
       rw [h1] at h3; cases h3
       rw [hg] at h3'; cases h3'
       obtain ⟨k1,k2⟩ := RV1.cells hy1 (by rw [h.gone]; exact hy2)
       have hone : ∀ u ∈ (a.eval y).cells.toList,u.oneCell' = true := by
         intro u hu
         obtain ⟨i,hi,hiu⟩ := List.getElem_of_mem hu
         have hi' : i < y1.cells.length := by rw [← k1]; simpa using hi
         obtain ⟨u',j1,j2,j3⟩ := k2 i _ (List.getElem?_eq_getElem hi')
         have : (a.eval y).cells[i]? = some u := by rw [← hiu]; simp [Array.getElem?_eq_getElem (by simpa using hi : i < (a.eval y).cells.size)]
         rw [this] at j1; cases j1; exact j3
       have hrun := run_storeAt X.P (t := t) (o := off) (.inl rfl) h4 (by rw [k1,hsz]) hinf (by rw [k1,h5]; exact hfit) hone
       have hcell : ∀ (i : Nat) (c : C),(cs.take off ++ y1.cells ++ cs.drop (off + y1.cells.length))[i]? = some c → ∃ u,(cur.toList.take off ++ (a.eval y).cells.toList ++ cur.toList.drop (off + (a.eval y).cells.toList.length)).toArray[i]? = some u ∧ RC X.M E w c u ∧ u.oneCell' = true := by
         intro i c hi
         rw [get_splice hfit] at hi
         rw [List.getElem?_toArray,get_splice (by simp [k1,h5]; exact hfit)]
         simp only [Array.length_toList,k1]
         split
         · rename_i hc
           rw [if_pos hc] at hi
           obtain ⟨u,j1,j2,j3⟩ := k2 _ c hi
           exact ⟨u,by simpa using j1,j2,j3⟩
         · rename_i hc
           rw [if_neg hc] at hi
           obtain ⟨u,j1,j2,j3⟩ := h6 _ c hi
           exact ⟨u,by simpa using j1,j2,j3⟩
       have hw := h.write h1 hg h4 (cur.toList.take off ++ (a.eval y).cells.toList ++ cur.toList.drop (off + (a.eval y).cells.toList.length)).toArray [] (by simp) (.box (cs.take off ++ y1.cells ++ cs.drop (off + y1.cells.length))) (fun hG hnew _ => by
         refine ⟨z,g,_,e,by rw [drop_nil]; exact h1,hg,hnew,by simp [k1,h5],fun i c hi => ?_⟩
         obtain ⟨u,j1,j2,j3⟩ := hcell i c hi
         exact ⟨u,j1,j2.goes hG,j3⟩)
       exact ⟨_,_,by rw [h2]; exact hrun,fun m hm => by rw [drop_nil]; exact hm,hw.2⟩
     · cases he
   · cases he
 · rename_i n i j y1 hx hy
   have hn := h.argn hx (n := n) (by simp [C.names])
   obtain ⟨z,h1,hi,g,hg,h2⟩ := Nmd.get (h.argc hx).1 hn
   obtain ⟨hy1,hy2⟩ := h.arg hy
   split at he
   · rename_i e rows qs ns hl hsk
     split at he
     · rename_i r hr
       split at he
       · rename_i hb
         cases he
         obtain ⟨hsz,hfit,hinf,hnn⟩ := hb
         obtain ⟨x',cur,fz,h3,hfz,h4',h5,h5',h5'',hpos,hsz0,hcs,hR,hnone,h6⟩ := h.row (by rw [← h.gone]; exact hn) hl
         rw [h1] at h3; cases h3
         have h4 := h4' g hg
         obtain ⟨k1,k2⟩ := RV1.cells hy1 (by rw [h.gone]; exact hy2)
         obtain ⟨s1,s2,s3,s4⟩ := h.sinks k1 (fun i c hi => let ⟨u,q1,q2,_⟩ := k2 i c hi; ⟨u,q1,q2⟩) (names_cells hy2) hsk
         have hone : ∀ u ∈ (a.eval y).cells.toList,u.oneCell' = true := by
           intro u hu
           obtain ⟨i,hi,hiu⟩ := List.getElem_of_mem hu
           have hi' : i < y1.cells.length := by rw [← k1]; simpa using hi
           obtain ⟨u',j1,j2,j3⟩ := k2 i _ (List.getElem?_eq_getElem hi')
           have : (a.eval y).cells[i]? = some u := by rw [← hiu]; simp [Array.getElem?_eq_getElem (by simpa using hi : i < (a.eval y).cells.size)]
           rw [this] at j1; cases j1; exact j3
         have hrsz : r.length = z.sz := hR r (List.mem_of_getElem? hr)
         have hblk : i * z.sz + z.sz ≤ cur.size := by
           rw [hcs,← Nat.succ_mul]
           exact Nat.mul_le_mul_right _ (by omega)
         have hrun := run_storeAt X.P (t := t) (o := i * z.sz + j) hfz h4 (by rw [← s1,hsz]) hinf (by rw [← s1]; omega) hone
         have hlen : (r.take j ++ qs ++ r.drop (j + qs.length)).length = z.sz := by simp; omega
         have hcell : ∀ (i' : Nat) (r' : List PV) (j' : Nat) (p : PV),(rows.set i (r.take j ++ qs ++ r.drop (j + qs.length)))[i']? = some r' → r'[j']? = some p → ∃ u,(cur.toList.take (i * z.sz + j) ++ (a.eval y).cells.toList ++ cur.toList.drop (i * z.sz + j + (a.eval y).cells.toList.length)).toArray[i' * z.sz + j']? = some u ∧ RP (bad X.M (E.drop ns)) w p u := by
           intro i' r' j' p hi' hj'
           have hst : Stay (bad X.M E) (bad X.M (E.drop ns)) w w := fun k o u h1 h2 => ⟨h1,fun h => h2 (bad_drop h)⟩
           rw [List.getElem?_toArray,get_splice (by simp; omega)]
           simp only [Array.length_toList,← s1]
           rw [List.getElem?_set] at hi'
           split at hi'
           · rename_i hii
             subst hii
             split at hi'
             · cases hi'
               rw [get_splice hfit] at hj'
               split at hj'
               · rename_i hc
                 rw [if_pos (by omega),show i * z.sz + j' - (i * z.sz + j) = j' - j by omega]
                 obtain ⟨u,q1,q2⟩ := s4 ns (fun _ h => h) _ p hj'
                 exact ⟨u,by simpa using q1,q2⟩
               · rename_i hc
                 have hj2 : j' < z.sz := by rw [← hrsz]; exact (List.getElem?_eq_some_iff.1 hj').1
                 rw [if_neg (by omega)]
                 obtain ⟨u,q1,q2⟩ := h6 i r j' p hr hj'
                 exact ⟨u,by simpa using q1,q2.trans hst⟩
             · cases hi'
           · rename_i hii
             have hj2 : j' < z.sz := by rw [← hR r' (List.mem_of_getElem? hi')]; exact (List.getElem?_eq_some_iff.1 hj').1
             have hno : ¬ (i * z.sz + j ≤ i' * z.sz + j' ∧ i' * z.sz + j' < i * z.sz + j + qs.length) := by
               rcases Nat.lt_or_ge i i' with h7 | h7
               · have : (i + 1) * z.sz ≤ i' * z.sz := Nat.mul_le_mul_right _ h7
                 rw [Nat.succ_mul] at this
                 omega
               · have h8 : i' < i := by omega
                 have : (i' + 1) * z.sz ≤ i * z.sz := Nat.mul_le_mul_right _ h8
                 rw [Nat.succ_mul] at this
                 omega
             rw [if_neg hno]
             obtain ⟨u,q1,q2⟩ := h6 i' r' j' p hi' hj'
             exact ⟨u,by simpa using q1,q2.trans hst⟩
         have hw := h.write h1 hg h4 (cur.toList.take (i * z.sz + j) ++ (a.eval y).cells.toList ++ cur.toList.drop (i * z.sz + j + (a.eval y).cells.toList.length)).toArray ns s2 (.row e (rows.set i (r.take j ++ qs ++ r.drop (j + qs.length)))) (fun hG hnew hnn' => by
           refine ⟨z,_,fz,by simp only [Env.drop,if_neg hnn']; exact h1,(by
             have e1 : (cur.toList.take (i * z.sz + j) ++ (a.eval y).cells.toList ++ cur.toList.drop (i * z.sz + j + (a.eval y).cells.toList.length)).toArray.size = cur.size := by simp; omega
             rw [e1]; exact hfz),fun g' hg' => by rw [hg] at hg'; cases hg'; exact hnew,by simp [h5],h5',h5'',hpos,hsz0,by rw [← hcs]; simp; omega,?_,hnone,fun i' r' j' p hi' hj' => ?_⟩
           · intro q hq
             rcases List.mem_or_eq_of_mem_set hq with h7 | h7
             · exact hR q h7
             · rw [h7]; exact hlen
           · obtain ⟨u,q1,q2⟩ := hcell i' r' j' p hi' hj'
             refine ⟨u,q1,q2.trans (fun k o u' c1 c2 => ?_)⟩
             have hne : k ≠ g := by rintro rfl; exact c2 (.inr ⟨n,z,by simp only [Env.drop,if_neg hnn']; exact h1,hg⟩)
             exact ⟨(World.cell?_of_block (w := w) (a := ⟨k,o,none⟩) (setRow_other w g k _ hne)).trans c1,c2⟩)
         exact ⟨_,_,by rw [h2]; exact hrun,fun m hm => by simp [Env.drop,hm],hw.2⟩
       · cases he
     · cases he
   · cases he
 · cases he
end
end
end Go.Proofs.YtndegphojkiblaaGreatDoor
