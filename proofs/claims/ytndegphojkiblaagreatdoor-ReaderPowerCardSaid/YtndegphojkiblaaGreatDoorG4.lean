/- Towards the last file's theorem: part 4. -/
import Derived.Test.YtndegphojkiblaaGreatDoorG3
import Derived.Laws.Tables
import Derived.Laws.BytesArg
import Derived.Laws.IdiomStrings
set_option linter.unusedSimpArgs false
set_option linter.unusedVariables false
namespace Go.Proofs.YtndegphojkiblaaGreatDoor
section
open Go.RowKit
open Classical
theorem Rect.flat {n : Nat} {rows : List (List PV)} (h : Rect n rows) : rows.flatten.length = rows.length * n := by
 induction rows with
 | nil => simp
 | cons r l ih =>
  have h1 := h r (by simp)
  have h2 := ih (fun r hr => h r (by simp [hr]))
  simp only [List.flatten_cons,List.length_append,List.length_cons,h2,h1,Nat.succ_mul]; omega
theorem Rect.app {n : Nat} {a b : List (List PV)} (ha : Rect n a) (hb : Rect n b) : Rect n (a ++ b) := fun r hr => by
 rcases List.mem_append.1 hr with h | h
 · exact ha r h
 · exact hb r h
theorem Rect.take {n : Nat} {a : List (List PV)} (ha : Rect n a) (k : Nat) : Rect n (a.take k) := fun r hr => ha r (List.mem_of_mem_take hr)
theorem Rows.src {M : Bad} {w : World} {rows : List (List PV)} {v : Value} {n : Nat} (h : Rows M w rows v) (hR : Rect n rows) :
   (rows = [] ∧ ∃ A cap,v = .slice A 0 cap) ∨ ∃ (g o cap : Nat) (news : List Value),v = .slice (some ⟨g,o,none⟩) rows.length cap ∧ 0 < rows.length ∧ news.length = rows.length * n ∧
     (∀ (k : Nat) (u : Value),news[k]? = some u → w.cell? ((⟨g,o,none⟩ : Addr).add k) = some u) ∧ (∀ u ∈ news,u.oneCell' = true) ∧
     ∀ (i : Nat) (r : List PV) (j : Nat) (p : PV),rows[i]? = some r → r[j]? = some p → ∃ u,news[i * n + j]? = some u ∧ RP M w p u := by
 rcases h with h | ⟨g,o,cap,sz,f,rfl,h0,hl,hm,hs,hc⟩
 · exact .inl h
 · right
   have hsz : sz = n := by
     cases rows with
     | nil => exact absurd rfl h0
     | cons r l => rw [← hs r (by simp)]; exact hR r (by simp)
   subst hsz
   have hex : ∀ k,k < rows.length * sz → ∃ u,w.cell? ⟨g,o + k,none⟩ = some u ∧ u.oneCell' = true := by
     intro k hk
     have hpos : 0 < sz := by rcases Nat.eq_zero_or_pos sz with h1 | h1; (rw [h1] at hk; omega); exact h1
     have hi : k / sz < rows.length := by rw [Nat.div_lt_iff_lt_mul hpos]; exact hk
     have hj : k % sz < (rows[k / sz]).length := by rw [hs _ (List.getElem_mem hi)]; exact Nat.mod_lt _ hpos
     obtain ⟨h1,h2⟩ := hc (k / sz) _ (k % sz) _ (List.getElem?_eq_getElem hi) (List.getElem?_eq_getElem hj)
     refine ⟨_,?_,h2.oneCell⟩
     rw [← h1,Nat.add_assoc,Nat.mul_comm,Nat.div_add_mod]
   refine ⟨g,o,cap,(List.range (rows.length * sz)).map fun k => (w.cell? ⟨g,o + k,none⟩).getD undef,rfl,List.length_pos_iff.2 h0,by simp,?_,?_,?_⟩
   · intro k u hu
     simp only [List.getElem?_map,Option.map_eq_some_iff] at hu
     obtain ⟨k',hk',rfl⟩ := hu
     obtain ⟨hk1,hk2⟩ := List.getElem?_eq_some_iff.1 hk'
     simp at hk1 hk2
     subst hk2
     obtain ⟨u,h1,_⟩ := hex _ hk1
     rw [addr_add,h1]; rfl
   · intro u hu
     simp only [List.mem_map,List.mem_range] at hu
     obtain ⟨k,hk,rfl⟩ := hu
     obtain ⟨u,h1,h2⟩ := hex _ hk
     rw [h1]; exact h2
   · intro i r j p hi hj
     obtain ⟨h1,h2⟩ := hc i r j p hi hj
     have hlt : i * sz + j < rows.length * sz := by
      have h3 := (List.getElem?_eq_some_iff.1 hi).1
      have h4 := (List.getElem?_eq_some_iff.1 hj).1
      rw [hs r (List.mem_of_getElem? hi)] at h4
      have : (i + 1) * sz ≤ rows.length * sz := Nat.mul_le_mul_right _ h3
      rw [Nat.succ_mul] at this
      omega
     refine ⟨f i j,?_,h2⟩
     rw [List.getElem?_map,List.getElem?_range hlt,Option.map_some,← Nat.add_assoc,h1]; rfl
section
variable {X : Fx} {E : Env} {st : ASt} {a : Act} {w : World}
theorem run_append_room_fz {P : Program} (w : World) (t ty e : TypeId) (i : TypeInfo) (ht : P.underlying t = some (.slice e)) (hi : P.info? e = some i)
  (g sLen sCap : Nat) (cur : Array Value) {fz : Nat × Nat} (hfz : FzOk cur.size fz) (hg : w.heap[g]? = some (.cells cur e fz))
  (a : Addr) (m c : Nat) (news : List Value) (hl : news.length = m * i.size) (hnews : ∀ j u,news[j]? = some u → w.cell? (a.add j) = some u) (h1 : ∀ u ∈ news,u.oneCell' = true)
  (hroom : sLen + m ≤ sCap) (hfit : sLen * i.size + news.length ≤ cur.size) :
  (Builtin.append_ #[t,t] ty #[.slice (some ⟨g,0,none⟩) sLen sCap,.slice (some a) m c]).run P w =
   .ok (.slice (some ⟨g,0,none⟩) (sLen + m) sCap) (w.setRow g (cur.toList.take (sLen * i.size) ++ news ++ cur.toList.drop (sLen * i.size + news.length)).toArray) := by
 have hf := run_firstCells_some (P := P) w i.size m a m c news hl hnews
 have hst := run_storeCells_fz P g (sLen * i.size) e fz news 0 cur w hfz hg (by simpa using hfit) h1
 simp only [Nat.add_zero] at hst
 simp [Builtin.append_,run_underlying ht,sizeOf,typeInfo,hi,Builtin.lenOf,hroom,hf,Addr.add_lit,hst]
theorem Rel.fresh_row (h : Rel X E st a w) {d : Nat} (hd : E.N d = none) (hdk : X.k0 ≤ d) (hdn : d < st.next) {e : TypeId} {n : Nat} (hpos : 0 < n) (hne : n = X.P.cellsOf e)
  {rows : List (List PV)} (hR : Rect n rows) {cap : Nat} (hcap : rows.length ≤ cap) (hm : cap ≤ maxLen) {us : Array Value} (hus : us.size = cap * n)
  (hc : ∀ (i : Nat) (r : List PV) (j : Nat) (p : PV),rows[i]? = some r → r[j]? = some p → ∃ u,us[i * n + j]? = some u ∧ RP (bad X.M E) w p u) {wd : World} (hwd : wd = w ∨ wd = w.drew) :
  let E' := E.add d ⟨some w.heap.size,rows.length,cap,n⟩
  Rel X E' (st.eff ⟨[(d,.row e rows)],[]⟩) a (wd.alloc (.cells us e)) ∧ RV X.M E' (wd.alloc (.cells us e)) (.c (.own d)) (.slice (some ⟨w.heap.size,0,none⟩) rows.length cap) := by
 intro E'
 have hb : Below w.heap.size w (wd.alloc (.cells us e)) := by
  rcases hwd with rfl | rfl
  · exact (Below.refl _ _).alloc (Nat.le_refl _) _
  · exact ((Below.refl _ w).drew).alloc (Nat.le_refl _) _
 have hsz : wd.heap.size = w.heap.size := by rcases hwd with rfl | rfl <;> rfl
 have hg : (wd.alloc (.cells us e)).heap[w.heap.size]? = some (.cells us e (0,0)) := by rw [← hsz]; exact heap_alloc_new wd _
 have := h.fresh (w' := wd.alloc (.cells us e)) d hd hdk hdn hb (x := ⟨some w.heap.size,rows.length,cap,n⟩) (.inr ⟨rfl,by simp [hsz]⟩) (.row e rows) (fun hG =>
  ⟨⟨some w.heap.size,rows.length,cap,n⟩,us,(0,0),by simp [Env.add],.inl rfl,fun g hg' => by cases hg'; exact hg,rfl,hcap,hm,hpos,hne,hus,hR,fun h => (by cases h),fun i r j p hi hj => let ⟨u,h1,h2⟩ := hc i r j p hi hj; ⟨u,h1,h2.goes hG⟩⟩)
 exact ⟨this.2,.inr ⟨⟨some w.heap.size,rows.length,cap,n⟩,by simp [E',Env.add],rfl⟩⟩
theorem Rel.fresh_nil (h : Rel X E st a w) {d : Nat} (hd : E.N d = none) (hdk : X.k0 ≤ d) (hdn : d < st.next) (e : TypeId) {n : Nat} (hpos : 0 < n) (hne : n = X.P.cellsOf e) :
  let E' := E.add d ⟨none,0,0,n⟩
  Rel X E' (st.eff ⟨[(d,.row e [])],[]⟩) a w ∧ RV X.M E' w (.c (.own d)) (.slice none 0 0) := by
 intro E'
 have := h.fresh (w' := w) d hd hdk hdn (Below.refl _ _) (x := ⟨none,0,0,n⟩) (.inl rfl) (.row e []) (fun _ =>
  ⟨⟨none,0,0,n⟩,#[],(0,0),by simp [Env.add],.inl rfl,fun g hg' => (by cases hg'),rfl,Nat.le_refl _,by simp [maxLen],hpos,hne,by simp,fun r hr => by simp at hr,fun _ => rfl,fun i r j p hi => by simp at hi⟩)
 exact ⟨this.2,.inr ⟨⟨none,0,0,n⟩,by simp [E',Env.add],rfl⟩⟩
theorem Rel.take (h : Rel X E st a w) {m d : Nat} (hm : m < st.next) {x : Nm} (hN : E.N m = some x) {g : Nat} (hxg : x.g = some g) {cur us : Array Value} {e : TypeId} {fz : Nat × Nat} (hg : w.heap[g]? = some (.cells cur e fz)) (hfz : FzOk us.size fz)
   (hd : E.N d = none) (hdk : X.k0 ≤ d) (hdn : d < st.next) (hdg : d ∉ st.gone) {rows : List (List PV)} (hR : Rect x.sz rows) (hpos : 0 < x.sz) (hne : x.sz = X.P.cellsOf e) (hcap : rows.length ≤ x.cap) (hml : x.cap ≤ maxLen) (hus : us.size = x.cap * x.sz)
   (hc : ∀ (i : Nat) (r : List PV) (j : Nat) (p : PV),rows[i]? = some r → r[j]? = some p → ∃ u,us[i * x.sz + j]? = some u ∧ RP (bad X.M E) w p u) :
   let E' := (E.drop [m]).add d ⟨some g,rows.length,x.cap,x.sz⟩
   Rel X E' (st.eff ⟨[(d,.row e rows)],[m]⟩) a (w.setRow g us) ∧ RV X.M E' (w.setRow g us) (.c (.own d)) (.slice (some ⟨g,0,none⟩) rows.length x.cap) := by
 intro E'
 have hmd : m ≠ d := by rintro rfl; rw [hd] at hN; cases hN
 have hot : ∀ k,k ≠ g → (w.setRow g us).heap[k]? = w.heap[k]? := fun k hk => setRow_other w g k _ hk
 have hsz : (w.setRow g us).heap.size = w.heap.size := by simp [World.setRow]
 obtain ⟨hx1,hx2,hx3⟩ := h.names m x g hN hxg
 have hE' : ∀ n y,E'.N n = some y → (n = d ∧ y = ⟨some g,rows.length,x.cap,x.sz⟩) ∨ (n ≠ d ∧ n ≠ m ∧ E.N n = some y) := by
   intro n y hy
   simp only [E',Env.add] at hy
   split at hy
   · cases hy; exact .inl ⟨by assumption,rfl⟩
   · obtain ⟨h1,h2⟩ := drop_some hy
     exact .inr ⟨by assumption,by simpa using h2,h1⟩
 have hbad : ∀ k,bad X.M E' k → bad X.M E k := by
   rintro k (h1 | ⟨n,y,h1,h2⟩)
   · exact .inl h1
   · rcases hE' n y h1 with ⟨_,rfl⟩ | ⟨_,_,h3⟩
     · exact .inr ⟨m,x,hN,hxg.trans h2⟩
     · exact .inr ⟨n,y,h3,h2⟩
 have hG : Goes X.M E E' w (w.setRow g us) := {
   cell := fun k o u k1 k2 => by
     have : k ≠ g := by rintro rfl; exact k2 (.inr ⟨m,x,hN,hxg⟩)
     exact ⟨(World.cell?_of_block (w := w) (a := ⟨k,o,none⟩) (hot k this)).trans k1,fun h => k2 (hbad k h)⟩
   name := fun n y hy => by
     by_cases hn : n = m
     · subst hn; exact .inl (by simp [E',Env.add,Env.drop])
     · right
       have : n ≠ d := by rintro rfl; rw [hd] at hy; cases hy
       simp [E',Env.add,Env.drop,this,hn,hy]
   gone := fun n hn => by simp [E',Env.add,Env.drop,hn] }
 refine ⟨h.step ⟨[(d,.row e rows)],[m]⟩ (nx := st.next) (Nat.le_refl _) hG (by simp [E',Env.add,Env.drop,h.gone]) ?_ ?_ ?_ ?_ ?_ (by simpa using hm) ?_ ?_,.inr ⟨⟨some g,rows.length,x.cap,x.sz⟩,by simp [E',Env.add],rfl⟩⟩
 · refine h.frame.trans (K' := fun k => k = g) ⟨rfl,rfl,rfl,by rw [hsz]; exact Nat.le_refl _,fun k _ hk => hot k hk⟩ ?_
   rintro k hk rfl
   rcases hx2 with h1 | h1
   · exact h1
   · omega
 · intro n y hy
   rcases hE' n y hy with ⟨rfl,_⟩ | ⟨_,_,h3⟩
   · exact hdn
   · exact h.nlt n y h3
 · intro n y k hy hk
   rw [hsz]
   rcases hE' n y hy with ⟨rfl,rfl⟩ | ⟨_,_,h3⟩
   · cases hk; exact ⟨hx1,hx2,hx3⟩
   · exact h.names n y k h3 hk
 · intro n k y z b hy hz hb1 hb2
   rcases hE' n y hy with ⟨rfl,rfl⟩ | ⟨h1,h2,h3⟩ <;> rcases hE' k z hz with ⟨rfl,rfl⟩ | ⟨k1,k2,k3⟩
   · rfl
   · cases hb1; exact absurd (h.inj k m z x g k3 hN hb2 hxg) k2
   · cases hb2; exact absurd (h.inj n m y x g h3 hN hb1 hxg) h2
   · exact h.inj n k y z b h3 k3 hb1 hb2
 · intro n hn
   simp only [E',Env.add,Env.drop]
   rw [if_neg (by omega)]
   split
   · exact .inl rfl
   · exact .inr rfl
 · intro n y k hy hk hng _
   refine hot k fun he => ?_
   subst he
   have := h.inj n m y x k hy hN hk hxg
   subst this
   exact hng (by simp [E',Env.add,Env.drop])
 · intro n b hl
   simp only [List.lookup_cons,List.lookup_nil] at hl
   split at hl
   · rename_i heq
     simp at heq; subst heq
     cases hl
     refine .inr ⟨⟨some g,rows.length,x.cap,x.sz⟩,us,fz,by simp [E',Env.add],hfz,fun k hk => by cases hk; exact setRow_heap w g cur us e _ hg,rfl,hcap,hml,hpos,hne,hus,hR,fun h => (by cases h),fun i r j p hi hj => ?_⟩
     obtain ⟨u,h1,h2⟩ := hc i r j p hi hj
     exact ⟨u,h1,h2.goes hG⟩
   · cases hl
def tyApp (P : Program) (e : TypeId) : Option (Nat × Nat) := match P.info? e with
 | some i => match i.zero with
  | some z => if z.cells.size = i.size ∧ 0 < i.size then some (i.size,i.bytes) else none
  | none => none
 | none => none
theorem tyApp_eq {P : Program} {e : TypeId} {n b : Nat} (h : tyApp P e = some (n,b)) : ∃ i z,P.info? e = some i ∧ i.zero = some z ∧ z.cells.size = n ∧ 0 < n ∧ i.size = n ∧ i.bytes = b ∧ P.cellsOf e = n := by
 unfold tyApp at h
 split at h
 · rename_i i hi
   split at h
   · rename_i z hz
     split at h
     · rename_i hs
       simp at h
       obtain ⟨rfl,rfl⟩ := h
       exact ⟨i,z,hi,hz,hs.1,hs.2,rfl,rfl,by simp [Program.cellsOf,hi]⟩
     · cases h
   · cases h
 · cases h
def ASt.appSrc (st : ASt) (e : TypeId) : C → Option (List (List PV) × List Nat)
 | .nil => some ([],[])
 | .own m => match st.heap.lookup m with
  | some (.row e' rows) => if e' = e then some (rows,[m]) else none
  | _ => none
 | .sub m 0 len => match st.heap.lookup m with
  | some (.row e' rows) => if e' = e then some (rows.take len,[m]) else none
  | _ => none
 | _ => none
def rectB (n : Nat) (rows : List (List PV)) : Bool := rows.all (·.length == n)
theorem rectB_iff {n : Nat} {rows : List (List PV)} : rectB n rows = true ↔ Rect n rows := by simp [rectB,Rect]
noncomputable def evAppend (P : Program) (st : ASt) (d : Nat) (t : TypeId) (s x : Operand) : Option (V × Eff) :=
 match tyElem P t with
 | some e => match tyApp P e,st.arg s,st.arg x with
  | some (n,b),some (.v (.c s)),some (.v (.c x)) => match st.appSrc e s,st.view x with
   | some (rows,ms),some rows' => if rows.length + rows'.length ≤ 9223372036854775807 ∧ (rows.length + rows'.length) * b ≤ 140737488355328 ∧ rectB n rows = true ∧ rectB n rows' = true then some (.c (.own d),⟨[(d,.row e (rows ++ rows'))],ms⟩) else none
   | _,_ => none
  | _,_,_ => none
 | none => none
theorem take_get {α : Type} {l : List α} {n k : Nat} {u : α} (h : (l.take n)[k]? = some u) : l[k]? = some u ∧ k < n := by
 rw [List.getElem?_take] at h
 split at h
 · exact ⟨h,by assumption⟩
 · cases h
theorem Env.add_other {E : Env} {d n : Nat} {x : Nm} (h : n ≠ d) : (E.add d x).N n = E.N n := by simp [Env.add,h]
theorem Env.drop_other {E : Env} {ns : List Nat} {n : Nat} (h : E.N n = none) : (E.drop ns).N n = none := by simp [Env.drop,h]
theorem snd_append (h : Rel X E st a w) {d : Nat} (hd : E.N d = none) (hdk : X.k0 ≤ d) (hdn : d < st.next) (hdg : d ∉ st.gone) {t ty : TypeId} {s x : Operand} {v : V} {ef : Eff}
   (he : evAppend X.P st d t s x = some (v,ef)) :
   ∃ u w' E',(Builtin.append_ #[t,t] ty #[a.eval s,a.eval x]).run X.P w = .ok u w' ∧ (∀ n,n ≠ d → E.N n = none → E'.N n = none) ∧ Rel X E' (st.eff ef) a w' ∧ RV X.M E' w' v u := by
 unfold evAppend at he
 split at he
 · rename_i e ht
   obtain ⟨hu,hie⟩ := tyElem_eq ht
   split at he
   · rename_i n b cs cx happ hs hx
     obtain ⟨i,z,hi,hz,hzs,hpos,hin,hib,hcn⟩ := tyApp_eq happ
     split at he
     · rename_i rows ms rows' hsrc hpv
       split at he
       · rename_i hb
         obtain ⟨hlen',hby,hRr,hR'⟩ := hb
         rw [rectB_iff] at hRr hR'
         have hlen : rows.length + rows'.length ≤ maxLen := by simp only [maxLen]; omega
         cases he
         obtain ⟨hxc,_,hxn⟩ := h.argc hx
         have hxr := h.view hxc hxn hpv
         obtain ⟨hsc,_,hsn⟩ := h.argc hs
         have hmx : (rows.length + rows'.length : Nat) ≤ 9223372036854775807 := hlen'
         have hst : ∀ ns,Stay (bad X.M E) (bad X.M (E.drop ns)) w w := fun ns k o u h1 h2 => ⟨h1,fun h => h2 (bad_drop h)⟩
         have hnil : a.eval s = .slice none 0 0 → rows = [] → (∀ m ∈ ms,m < st.next) →
            ∃ u w' E',(Builtin.append_ #[t,t] ty #[a.eval s,a.eval x]).run X.P w = .ok u w' ∧ (∀ n,n ≠ d → E.N n = none → E'.N n = none) ∧ Rel X E' (st.eff ⟨[(d,.row e (rows ++ rows'))],ms⟩) a w' ∧ RV X.M E' w' (.c (.own d)) u := by
          intro hA h0 hms
          subst h0
          rw [hA]
          have hD := h.drop ms hms
          have hdD : (E.drop ms).N d = none := Env.drop_other hd
          have heff : ∀ b,(st.eff ⟨[],ms⟩).eff ⟨[(d,b)],[]⟩ = st.eff ⟨[(d,b)],ms⟩ := fun b => by simp [ASt.eff]
          rcases hxr.src hR' with ⟨rfl,B,cap,hxe⟩ | ⟨g,o,cap,news,hxe,hne,hnl,hcell,hone,hval⟩
          · have hf := hD.fresh_nil hdD hdk hdn e hpos hcn.symm
            rw [heff] at hf
            refine ⟨_,w,_,?_,fun k hk hkn => by rw [Env.add_other hk]; exact Env.drop_other hkn,hf.1,hf.2⟩
            rw [hxe]
            cases B <;> simp [Builtin.append_,run_underlying hu,sizeOf,typeInfo,hi,Builtin.lenOf,Builtin.firstCells,loadCells,loadCellsFrom]
          · rw [hxe]
            have hgc := grownCap_ge w rows'.length 0 e
            have hgm := grownCap_le_maxLen w rows'.length 0 e (by simpa using hlen)
            have hrun := run_append_nil (P := X.P) w t ty e i z hu hi hz ⟨g,o,none⟩ rows'.length cap news (by rw [hin]; exact hnl) hcell hne (by omega) (by rw [hib]; simp at hby; omega)
            have hf := hD.fresh_row hdD hdk hdn (e := e) hpos hcn.symm hR' hgc hgm (us := news.toArray ++ Builtin.zeroCells z.cells (grownCap w rows'.length 0 e - rows'.length))
              (by simp only [Array.size_append,List.size_toArray,size_zeroCells,hzs,hnl,← Nat.add_mul]; congr 1; omega)
              (fun i r j p k1 k2 => by
                obtain ⟨u,k3,k4⟩ := hval i r j p k1 k2
                have hk := (List.getElem?_eq_some_iff.1 k3).1
                exact ⟨u,by rw [Array.getElem?_append,if_pos (by simpa using hk)]; simpa using k3,k4.trans (hst ms)⟩) (wd := w.drew) (.inr rfl)
            rw [heff] at hf
            exact ⟨_,_,_,hrun,fun k hk hkn => by rw [Env.add_other hk]; exact Env.drop_other hkn,hf.1,hf.2⟩
         have hrow : ∀ (m : Nat) (y : Nm) (g : Nat) (cur : Array Value) (fz : Nat × Nat),FzOk cur.size fz → m ∉ st.gone → E.N m = some y → y.g = some g → w.heap[g]? = some (.cells cur e fz) → y.sz = n → y.cap ≤ maxLen → cur.size = y.cap * n → rows.length ≤ y.cap →
            (∀ (i : Nat) (r : List PV) (j : Nat) (p : PV),rows[i]? = some r → r[j]? = some p → ∃ u,cur[i * n + j]? = some u ∧ RP (bad X.M E) w p u) → a.eval s = .slice (some ⟨g,0,none⟩) rows.length y.cap → ms = [m] →
            ∃ u w' E',(Builtin.append_ #[t,t] ty #[a.eval s,a.eval x]).run X.P w = .ok u w' ∧ (∀ n,n ≠ d → E.N n = none → E'.N n = none) ∧ Rel X E' (st.eff ⟨[(d,.row e (rows ++ rows'))],ms⟩) a w' ∧ RV X.M E' w' (.c (.own d)) u := by
          intro m y g0 cur fz hfz hmg hN hyg hg0 hysz hm0 hcs0 hn0 hcur hse hms
          subst hms
          have hmn := h.nlt m y hN
          rw [hse]
          have hmul : rows.length * n ≤ cur.size := by rw [hcs0]; exact Nat.mul_le_mul_right _ hn0
          have hxl : (cur.toList.take (rows.length * n)).length = rows.length * n := by simp; omega
          rcases hxr.src hR' with ⟨rfl,B,cap,hxe⟩ | ⟨g,o,cap,news,hxe,hne,hnl,hcell,hone,hval⟩
          · have hself : w.setRow g0 cur = w := setRow_self w g0 cur e fz hg0
            have hk := h.take (d := d) hmn hN hyg hg0 (us := cur) hfz hd hdk hdn hdg (rows := rows) (by rw [hysz]; exact hRr) (by omega) (by rw [hysz,hcn]) hn0 hm0 (by rw [hysz]; exact hcs0) (by rw [hysz]; exact hcur)
            simp only [hself] at hk
            refine ⟨.slice (some ⟨g0,0,none⟩) rows.length y.cap,w,_,?_,fun k hk hkn => by rw [Env.add_other hk]; exact Env.drop_other hkn,by rw [List.append_nil]; exact hk.1,hk.2⟩
            rw [hxe]
            cases B with
            | none => simp [Builtin.append_,run_underlying hu,sizeOf,typeInfo,hi,Builtin.lenOf,Builtin.firstCells,hn0,storeCells]
            | some B => simp [Builtin.append_,run_underlying hu,sizeOf,typeInfo,hi,Builtin.lenOf,Builtin.firstCells,loadCells,loadCellsFrom,hn0,storeCells]
          · rw [hxe]
            have hvals : ∀ (us : Array Value),(∀ k,k < rows.length * n + news.length → us[k]? = (cur.toList.take (rows.length * n) ++ news)[k]?) → ∀ (i : Nat) (r : List PV) (j : Nat) (p : PV),(rows ++ rows')[i]? = some r → r[j]? = some p → ∃ u,us[i * n + j]? = some u ∧ RP (bad X.M E) w p u := by
              intro us hus i r j p k1 k2
              have hrn : r.length = n := (hRr.app hR') r (List.mem_of_getElem? k1)
              have hj := (List.getElem?_eq_some_iff.1 k2).1
              rw [List.getElem?_append] at k1
              split at k1
              · rename_i hlt
                obtain ⟨u,k3,k4⟩ := hcur i r j p k1 k2
                have : (i + 1) * n ≤ rows.length * n := Nat.mul_le_mul_right _ hlt
                rw [Nat.succ_mul] at this
                refine ⟨u,?_,k4⟩
                rw [hus _ (by omega),List.getElem?_append,if_pos (by rw [hxl]; omega),List.getElem?_take,if_pos (by omega)]
                simpa using k3
              · rename_i hlt
                obtain ⟨u,k3,k4⟩ := hval _ r j p k1 k2
                have hk := (List.getElem?_eq_some_iff.1 k3).1
                have e1 : i * n = rows.length * n + (i - rows.length) * n := by rw [← Nat.add_mul]; congr 1; omega
                refine ⟨u,?_,k4⟩
                rw [hus _ (by omega),List.getElem?_append,if_neg (by rw [hxl]; omega),hxl,← k3]
                congr 1; omega
            by_cases hroom : rows.length + rows'.length ≤ y.cap
            · have hfit : rows.length * n + news.length ≤ cur.size := by rw [hnl,hcs0,← Nat.add_mul]; exact Nat.mul_le_mul_right _ hroom
              have hr := run_append_room_fz (P := X.P) w t ty e i hu hi g0 rows.length y.cap cur hfz hg0 ⟨g,o,none⟩ rows'.length cap news (by rw [hin]; exact hnl) hcell hone hroom (by rw [hin]; exact hfit)
              rw [hin] at hr
              have hk := h.take (d := d) hmn hN hyg hg0 (us := (cur.toList.take (rows.length * n) ++ news ++ cur.toList.drop (rows.length * n + news.length)).toArray) (by rw [show (cur.toList.take (rows.length * n) ++ news ++ cur.toList.drop (rows.length * n + news.length)).toArray.size = cur.size by simp; omega]; exact hfz) hd hdk hdn hdg (rows := rows ++ rows') (by rw [hysz]; exact hRr.app hR') (by omega) (by rw [hysz,hcn]) (by simpa using hroom) hm0
                (by rw [hysz,← hcs0]; simp; omega) (by
                 rw [hysz]
                 refine hvals _ fun k hk => ?_
                 rw [List.getElem?_toArray,List.getElem?_append,if_pos (by simp only [List.length_append,hxl]; exact hk)])
              simp only [List.length_append] at hk
              exact ⟨_,_,_,hr,fun k hk hkn => by rw [Env.add_other hk]; exact Env.drop_other hkn,hk.1,hk.2⟩
            · have holds : ∀ j v,(cur.toList.take (rows.length * n))[j]? = some v → w.cell? ((⟨g0,0,none⟩ : Addr).add j) = some v := fun j u hj => by
                rw [addr_add,cell_of_row w g0 _ cur e fz hg0]
                simpa using (take_get hj).1
              have hr := run_append_grow (P := X.P) w t ty e i z hu hi hz ⟨g0,0,none⟩ rows.length y.cap (cur.toList.take (rows.length * n)) (by rw [hin]; exact hxl) holds ⟨g,o,none⟩ rows'.length cap news (by rw [hin]; exact hnl) hcell (by omega) (by omega)
                (by rw [hib]; exact growslice_fits (by omega) hby)
              have hgc := grownCap_ge w (rows.length + rows'.length) y.cap e
              have hgm := grownCap_le_maxLen w (rows.length + rows'.length) y.cap e hlen
              have hget : ∀ k,k < rows.length * n + news.length → ((cur.toList.take (rows.length * n)).toArray ++ news.toArray ++ Builtin.zeroCells z.cells (grownCap w (rows.length + rows'.length) y.cap e - (rows.length + rows'.length)))[k]? = (cur.toList.take (rows.length * n) ++ news)[k]? := by
                intro k hk
                rw [Array.getElem?_append,if_pos (by simp only [Array.size_append,List.size_toArray,hxl]; exact hk)]
                simp [List.getElem?_append,Array.getElem?_append]
              have hD := h.drop [m] (by simpa using hmn)
              have hdD : (E.drop [m]).N d = none := Env.drop_other hd
              have heff : ∀ b,(st.eff ⟨[],[m]⟩).eff ⟨[(d,b)],[]⟩ = st.eff ⟨[(d,b)],[m]⟩ := fun b => by simp [ASt.eff]
              have hf := hD.fresh_row hdD hdk hdn (e := e) hpos hcn.symm (rows := rows ++ rows') (hRr.app hR') (cap := grownCap w (rows.length + rows'.length) y.cap e) (by simpa using hgc) hgm
                (us := (cur.toList.take (rows.length * n)).toArray ++ news.toArray ++ Builtin.zeroCells z.cells (grownCap w (rows.length + rows'.length) y.cap e - (rows.length + rows'.length)))
                (by simp only [Array.size_append,List.size_toArray,size_zeroCells,hzs,hnl,hxl,← Nat.add_mul]; congr 1; omega)
                (fun i r j p k1 k2 => by
                 obtain ⟨u,k3,k4⟩ := hvals _ hget i r j p k1 k2
                 exact ⟨u,k3,k4.trans (hst [m])⟩) (wd := w.drew) (.inr rfl)
              rw [heff] at hf
              simp only [List.length_append] at hf
              exact ⟨_,_,_,hr,fun k hk hkn => by rw [Env.add_other hk]; exact Env.drop_other hkn,hf.1,hf.2⟩
         cases cs with
         | nil =>
          simp [ASt.appSrc] at hsrc; obtain ⟨rfl,rfl⟩ := hsrc
          exact hnil hsc rfl (by simp)
         | own m =>
          simp only [ASt.appSrc] at hsrc
          have hmg := hsn m (by simp [C.names])
          split at hsrc
          · rename_i e' rows0 hl
            split at hsrc
            · rename_i hee
              subst hee
              cases hsrc
              obtain ⟨y,cur,fz,h1,hfz,h2,h3,h4,h5,h6,h11,h7,h8,h10,h9⟩ := h.row hmg hl
              obtain ⟨y',k1,k2⟩ := Nmd.get hsc (by rw [h.gone]; exact hmg)
              rw [h1] at k1; cases k1
              have hyn : y.sz = n := by rw [h11,hcn]
              cases hg : y.g with
              | none =>
                have hc0 := h10 hg
                have hl0 : y.len = 0 := by omega
                rw [hg,hl0,hc0] at k2
                exact hnil (by simpa using k2) (List.eq_nil_of_length_eq_zero (by omega)) (by simpa using h.nlt m y h1)
              | some g =>
                rw [hg,h3] at k2
                exact hrow m y g cur fz hfz hmg h1 hg (h2 g hg) hyn h5 (by rw [← hyn]; exact h7) (by omega) (by rw [← hyn]; exact h9) (by simpa using k2) rfl
            · cases hsrc
          · cases hsrc
         | sub m lo len =>
          cases lo with
          | succ lo => simp [ASt.appSrc] at hsrc
          | zero =>
          simp only [ASt.appSrc] at hsrc
          have hmg := hsn m (by simp [C.names])
          split at hsrc
          · rename_i e' rows0 hl
            split at hsrc
            · rename_i hee
              subst hee
              cases hsrc
              obtain ⟨y,cur,fz,h1,hfz,h2,h3,h4,h5,h6,h11,h7,h8,h10,h9⟩ := h.row hmg hl
              obtain ⟨y',k1,k2,A,k3,k4⟩ := Nmd.get hsc (by rw [h.gone]; exact hmg)
              rw [h1] at k1; cases k1
              have hyn : y.sz = n := by rw [h11,hcn]
              have hA := k4 (.inr rfl)
              have htl : (rows0.take len).length = len := by simp; omega
              cases hg : y.g with
              | none =>
                have hc0 := h10 hg
                have hl0 : len = 0 := by omega
                rw [hA,hg,hl0,hc0] at k3
                exact hnil (by simpa using k3) (by rw [hl0]; simp) (by simpa using h.nlt m y h1)
              | some g =>
                rw [hA,hg] at k3
                refine hrow m y g cur fz hfz hmg h1 hg (h2 g hg) hyn h5 (by rw [← hyn]; exact h7) (by rw [htl]; omega) (fun i r j p hi hj => ?_) (by rw [htl]; simpa using k3) rfl
                rw [← hyn]
                exact h9 i r j p (take_get hi).1 hj
            · cases hsrc
          · cases hsrc
         | _ => simp [ASt.appSrc] at hsrc
       · cases he
     · cases he
   · cases he
 · cases he
end
end
section
open Go.RowKit
open Classical
def setAt (off : Nat) (l : List Value) (s : Nat) (cs : Array Value) : Array Value := (l.zipIdx s).foldl (fun cs x => cs.setIfInBounds (off + x.2) x.1) cs
theorem size_setAt (off : Nat) (l : List Value) (s : Nat) (cs : Array Value) : (setAt off l s cs).size = cs.size := by
 induction l generalizing s cs with
 | nil => rfl
 | cons v l ih => simp only [setAt,List.zipIdx_cons,List.foldl_cons]; have := ih (s + 1) (cs.setIfInBounds (off + s) v); simp only [setAt] at this; rw [this]; simp
theorem get_setAt (off : Nat) (l : List Value) (s : Nat) (cs : Array Value) (k : Nat) : (setAt off l s cs)[k]? = if off + s ≤ k ∧ k < off + s + l.length ∧ k < cs.size then l[k - (off + s)]? else cs[k]? := by
 induction l generalizing s cs with
 | nil => simp [setAt]; intro h1 h2; omega
 | cons v l ih =>
  have := ih (s + 1) (cs.setIfInBounds (off + s) v)
  simp only [setAt,List.zipIdx_cons,List.foldl_cons] at this ⊢
  rw [this]
  simp only [Array.size_setIfInBounds,List.length_cons]
  by_cases h1 : off + s = k
  · subst h1
    by_cases h2 : off + s < cs.size
    · rw [if_neg (by omega),if_pos (by omega)]
      simp [h2]
    · rw [if_neg (by omega),if_neg (by omega)]
      simp [h2]
  · rw [Array.getElem?_setIfInBounds,if_neg h1]
    by_cases h3 : off + s ≤ k ∧ k < off + s + (l.length + 1) ∧ k < cs.size
    · rw [if_pos (by omega),if_pos h3,show k - (off + s) = (k - (off + (s + 1))) + 1 by omega]
      simp
    · rw [if_neg (by omega),if_neg h3]
theorem fill_cons (place : Nat → Option (Nat × Nat)) (cells : Array Value) (i : Nat) (v : Value) (rest : List (Nat × Value)) {off size : Nat} (hp : place i = some (off,size)) (hs : v.cells.size = size) (hf : off + size ≤ cells.size) :
  Instr.fill place cells ((i,v) :: rest) = Instr.fill place (setAt off v.cells.toList 0 cells) rest := by
 have h1 : (v.cells.zipIdx.foldl (fun cs x => cs.setIfInBounds (off + x.2) x.1) cells) = setAt off v.cells.toList 0 cells := by
  unfold setAt
  rw [← Array.foldl_toList]
  simp
 simp only [Instr.fill,hp]
 rw [if_neg (by simp [hs]; omega)]
 rw [← h1]
theorem fill_rows (n : Nat) : ∀ (vs : List Value) (k : Nat) (cells : Array Value),(∀ v ∈ vs,v.cells.size = n) → (k + vs.length) * n ≤ cells.size →
  ∃ us,Instr.fill (fun i => some (i * n,n)) cells ((vs.zipIdx k).map fun x => (x.2,x.1)) = some us ∧ us.size = cells.size ∧
    (∀ j,j < k * n → us[j]? = cells[j]?) ∧ ∀ (i : Nat) (v : Value) (j : Nat),vs[i]? = some v → j < n → us[(k + i) * n + j]? = v.cells[j]?
 | [],k,cells,_,_ => ⟨cells,rfl,rfl,fun _ _ => rfl,fun i v j h => by simp at h⟩
 | v :: vs,k,cells,hv,hsz => by
  have h1 := hv v (by simp)
  have hk : (k + 1) * n ≤ cells.size := Nat.le_trans (Nat.mul_le_mul_right _ (by simp)) hsz
  rw [Nat.succ_mul] at hk
  obtain ⟨us,h2,h3,h4,h5⟩ := fill_rows n vs (k + 1) (setAt (k * n) v.cells.toList 0 cells) (fun u hu => hv u (by simp [hu])) (by rw [size_setAt]; simp only [List.length_cons] at hsz; rw [show k + 1 + vs.length = k + (vs.length + 1) by omega]; exact hsz)
  refine ⟨us,?_,by rw [h3,size_setAt],fun j hj => ?_,fun i u j hi hj => ?_⟩
  · simp only [List.zipIdx_cons,List.map_cons]
    rw [fill_cons _ _ _ _ _ rfl h1 hk]
    exact h2
  · rw [h4 j (by rw [Nat.succ_mul]; omega),get_setAt,if_neg (by omega)]
  · cases i with
    | zero =>
     simp at hi; subst hi
     rw [Nat.add_zero,h4 _ (by rw [Nat.succ_mul]; omega),get_setAt,if_pos (by simp [h1]; omega)]
     simp
    | succ i =>
     have := h5 i u j (by simpa using hi) hj
     rw [show k + 1 + i = k + (i + 1) by omega] at this
     exact this
theorem mapM_get {α β : Type} {f : α → Option β} : ∀ {l : List α} {l' : List β},l.mapM f = some l' → l'.length = l.length ∧ ∀ (i : Nat) (y : β),l'[i]? = some y → ∃ x,l[i]? = some x ∧ f x = some y
 | [],l',h => by simp at h; subst h; simp
 | a :: l,l',h => by
  simp only [List.mapM_cons] at h
  cases hfa : f a with
  | none => simp [hfa] at h
  | some b =>
   cases hl : l.mapM f with
   | none => simp [hfa,hl] at h
   | some l2 =>
    simp [hfa,hl] at h
    subst h
    obtain ⟨h1,h2⟩ := mapM_get hl
    refine ⟨by simp [h1],fun i y hi => ?_⟩
    cases i with
    | zero => simp at hi; subst hi; exact ⟨a,rfl,hfa⟩
    | succ i => simpa using h2 i y (by simpa using hi)
def ASt.arg1 (st : ASt) (x : Operand) : Option V1 := match st.arg x with | some (.v x) => some x | _ => none
def ASt.lits (st : ASt) : List Operand → Option (List (List PV) × List Nat)
 | [] => some ([],[])
 | x :: xs => match st.arg1 x with
  | some y => match st.sinks y.cells,st.lits xs with
   | some (r,ns),some (rs,ms) => some (r :: rs,ns ++ ms)
   | _,_ => none
  | none => none
section
variable {X : Fx} {E : Env} {st : ASt} {a : Act} {w : World}
theorem Rel.arg1 (h : Rel X E st a w) {x : Operand} {v : V1} (hx : st.arg1 x = some v) : RV1 X.M E w v (a.eval x) ∧ (V.v v).live st.gone = true := by
 unfold ASt.arg1 at hx
 split at hx
 · rename_i y hy
   simp at hx; subst hx
   exact h.arg hy
 · cases hx
theorem Rel.lits (h : Rel X E st a w) : ∀ {xs : List Operand} {rows : List (List PV)} {ns : List Nat},st.lits xs = some (rows,ns) → rows.length = xs.length ∧ (∀ n ∈ ns,n < st.next) ∧
  ∀ ns',(∀ n ∈ ns,n ∈ ns') → ∀ (i : Nat) (r : List PV),rows[i]? = some r → ∃ x,xs[i]? = some x ∧ r.length = (a.eval x).cells.size ∧ ∀ (j : Nat) (p : PV),r[j]? = some p → ∃ u,(a.eval x).cells[j]? = some u ∧ RP (bad X.M (E.drop ns')) w p u
 | [],rows,ns,hl => by simp [ASt.lits] at hl; obtain ⟨rfl,rfl⟩ := hl; exact ⟨rfl,by simp,fun ns' _ i r hi => by simp at hi⟩
 | x :: xs,rows,ns,hl => by
  simp only [ASt.lits] at hl
  split at hl
  · rename_i y hy
    split at hl
    · rename_i r ns1 rs ms hs hr
      cases hl
      obtain ⟨h1,h2,h3⟩ := h.lits hr
      obtain ⟨k1,k2⟩ := h.arg1 hy
      obtain ⟨k3,k4⟩ := RV1.cells k1 (by rw [h.gone]; exact k2)
      obtain ⟨s1,s2,_,s4⟩ := h.sinks k3 (fun i c hi => let ⟨u,q1,q2,_⟩ := k4 i c hi; ⟨u,q1,q2⟩) (names_cells k2) hs
      refine ⟨by simp [h1],fun n hn => ?_,fun ns' hns i r' hi => ?_⟩
      · rcases List.mem_append.1 hn with h5 | h5
        · exact s2 n h5
        · exact h2 n h5
      · cases i with
        | zero =>
          simp at hi; subst hi
          exact ⟨x,rfl,s1,s4 ns' (fun n hn => hns n (List.mem_append_left _ hn))⟩
        | succ i =>
          obtain ⟨x',q1,q2⟩ := h3 ns' (fun n hn => hns n (List.mem_append_right _ hn)) i r' (by simpa using hi)
          exact ⟨x',by simpa using q1,q2⟩
    · cases hl
  · cases hl
def evLit (P : Program) (st : ASt) (d : Nat) (t : TypeId) (len : Nat) (parts : List (Nat × Operand)) : Option (V × Eff) :=
 match tyElem P t with
 | some e => match tyApp P e,st.lits (parts.map (·.2)) with
  | some (n,_),some (rows,ns) => if parts.map (·.1) = List.range len ∧ rectB n rows = true ∧ len * n ≤ 16777216 then some (.c (.own d),⟨[(d,.row e rows)],ns⟩) else none
  | _,_ => none
 | none => none
theorem snd_lit (h : Rel X E st a w) {d : Nat} (hd : E.N d = none) (hdk : X.k0 ≤ d) (hdn : d < st.next) {t : TypeId} {len : Nat} {parts : Array (Nat × Operand)} {v : V} {ef : Eff}
   (he : evLit X.P st d t len parts.toList = some (v,ef)) :
   ∃ u w' E',(Instr.buildSlice t len (parts.map fun x => (x.1,a.eval x.2))).run X.P w = .ok u w' ∧ (∀ n,n ≠ d → E.N n = none → E'.N n = none) ∧ Rel X E' (st.eff ef) a w' ∧ RV X.M E' w' v u := by
 unfold evLit at he
 split at he
 · rename_i e ht
   obtain ⟨hu,hie⟩ := tyElem_eq ht
   split at he
   · rename_i n b rows ns happ hrows
     obtain ⟨i,z,hi,hz,hzs,hpos,hin,hib,hcn⟩ := tyApp_eq happ
     split at he
     · rename_i hc
       obtain ⟨hr,hR,hsz⟩ := hc
       rw [rectB_iff] at hR
       cases he
       obtain ⟨hl1,hlns,hl2⟩ := h.lits hrows
       have hpl : parts.toList.length = len := by have := congrArg List.length hr; simpa using this
       have hrl : rows.length = len := by rw [hl1]; simp [hpl]
       have hparts : (parts.map fun x => (x.1,a.eval x.2)).toList = (((parts.toList.map fun x => a.eval x.2).zipIdx 0).map fun x => (x.2,x.1)) := by
        apply List.ext_getElem?
        intro k
        simp only [Array.toList_map,List.getElem?_map,List.getElem?_zipIdx,Option.map_map]
        cases hk : parts.toList[k]? with
        | none => simp
        | some x =>
          have h1 : (parts.toList.map (·.1))[k]? = some x.1 := by simp only [List.getElem?_map,hk,Option.map_some]
          rw [hr] at h1
          have h2 := (List.getElem?_eq_some_iff.1 h1).2
          simp at h2
          simp [← h2]
       have hcellsz : ∀ (k : Nat) (u : Value),(parts.toList.map fun x => a.eval x.2)[k]? = some u → ∃ r,rows[k]? = some r ∧ u.cells.size = n ∧ ∀ (j : Nat) (p : PV),r[j]? = some p → ∃ u',u.cells[j]? = some u' ∧ RP (bad X.M (E.drop ns)) w p u' := by
        intro k u hk
        simp only [List.getElem?_map,Option.map_eq_some_iff] at hk
        obtain ⟨x,hx,rfl⟩ := hk
        have hkl : k < rows.length := by rw [hrl,← hpl]; exact (List.getElem?_eq_some_iff.1 hx).1
        obtain ⟨x',h1,h2,h3⟩ := hl2 ns (fun _ h => h) k _ (List.getElem?_eq_getElem hkl)
        simp only [List.getElem?_map,hx,Option.map_some,Option.some.injEq] at h1
        subst h1
        exact ⟨_,List.getElem?_eq_getElem hkl,by rw [← h2]; exact hR _ (List.getElem_mem hkl),h3⟩
       have hvs : ∀ u ∈ parts.toList.map (fun x => a.eval x.2),u.cells.size = n := by
        intro u hu
        obtain ⟨k,hk,hku⟩ := List.getElem_of_mem hu
        obtain ⟨r,_,h2,_⟩ := hcellsz k u (by rw [← hku]; exact List.getElem?_eq_getElem hk)
        exact h2
       have hz0 : ∃ z0 : Array Value,((Array.range (len * n)).map (z0[· % z0.size]!)).size = len * n ∧ (Instr.buildSlice t len (parts.map fun x => (x.1,a.eval x.2))).run X.P w =
          (match Instr.fill (fun i => some (i * n,n)) ((Array.range (len * n)).map (z0[· % z0.size]!)) (parts.map fun x => (x.1,a.eval x.2)).toList with
          | some cells => .ok (.slice (some ⟨w.heap.size,0,none⟩) len len) (w.alloc (.cells cells e))
          | none => .halt (.stuck "buildSlice: a part of the wrong size") w) := by
        have hgt : ¬ (len * n > 16777216) := by omega
        by_cases h0 : len * n = 0
        · refine ⟨#[],by simp,?_⟩
          simp [Instr.buildSlice,run_underlying hu,sizeOf,typeInfo,hi,hin,h0]
          generalize Instr.fill _ _ _ = q
          cases q <;> simp [newRow]
        · refine ⟨z.cells,by simp,?_⟩
          have h0' : ¬ (len = 0 ∨ n = 0) := by rintro (h | h) <;> simp [h] at h0
          simp only [Instr.buildSlice,run_underlying hu,sizeOf,typeInfo,zeroValue,hi,hz,hin,h0,hgt,Sem.run_bind,run_program,Result.andThen_ok,Sem.run_pure,if_false]
          generalize Instr.fill _ _ _ = q
          cases q <;> simp [newRow]
       obtain ⟨z0,hz1,hrun⟩ := hz0
       obtain ⟨us,h1,h2,_,h4⟩ := fill_rows n (parts.toList.map fun x => a.eval x.2) 0 ((Array.range (len * n)).map (z0[· % z0.size]!)) hvs (by rw [hz1]; simp [← hpl])
       rw [hparts,h1] at hrun
       rw [hz1] at h2
       have hm : rows.length ≤ maxLen := by
        have : len * 1 ≤ len * n := Nat.mul_le_mul_left _ hpos
        simp only [maxLen]; omega
       have hD := h.drop ns hlns
       have hdD : (E.drop ns).N d = none := Env.drop_other hd
       have heff : ∀ b,(st.eff ⟨[],ns⟩).eff ⟨[(d,b)],[]⟩ = st.eff ⟨[(d,b)],ns⟩ := fun b => by simp [ASt.eff]
       have hf := hD.fresh_row hdD hdk hdn (e := e) hpos hcn.symm hR (cap := rows.length) (Nat.le_refl _) hm (us := us) (by rw [h2,hrl]) (fun i' r j p hi' hj => by
        have hi2 : i' < (parts.toList.map fun x => a.eval x.2).length := by simp [hpl,← hrl]; exact (List.getElem?_eq_some_iff.1 hi').1
        obtain ⟨r',hr',h5,h6⟩ := hcellsz i' _ (List.getElem?_eq_getElem hi2)
        rw [hi'] at hr'; cases hr'
        have hjn : j < n := by rw [← hR r (List.mem_of_getElem? hi')]; exact (List.getElem?_eq_some_iff.1 hj).1
        have := h4 i' _ j (List.getElem?_eq_getElem hi2) hjn
        rw [Nat.zero_add] at this
        rw [this]
        exact h6 j p hj) (wd := w) (.inl rfl)
       rw [heff,hrl] at hf
       exact ⟨_,_,_,hrun,fun k hk hkn => by rw [Env.add_other hk]; exact Env.drop_other hkn,hf.1,hf.2⟩
     · cases he
   · cases he
 · cases he
end
def RL (M : Bad) (E : Env) (w : World) (cs : List C) (us : Array Value) : Prop := us.size = cs.length ∧ ∀ (i : Nat) (c : C),cs[i]? = some c → ∃ u,us[i]? = some u ∧ RC M E w c u ∧ u.oneCell' = true
theorem RL.splice {M : Bad} {E : Env} {w : World} {cs xs : List C} {us : Array Value} {vs : List Value} (h : RL M E w cs us) (hx : RL M E w xs vs.toArray) {off : Nat} (hf : off + xs.length ≤ cs.length) :
   RL M E w (cs.take off ++ xs ++ cs.drop (off + xs.length)) (setAt off vs 0 us) := by
 have hvl : vs.length = xs.length := by simpa using hx.1
 refine ⟨by simp only [size_setAt,h.1,List.length_append,List.length_take,List.length_drop]; omega,fun i c hi => ?_⟩
 rw [get_setAt]
 simp only [Nat.add_zero,hvl,h.1,List.append_assoc] at hi ⊢
 rw [List.getElem?_append] at hi
 simp only [List.length_take,Nat.min_eq_left (show off ≤ cs.length by omega)] at hi
 split at hi
 · rename_i hio
   rw [List.getElem?_take,if_pos hio] at hi
   rw [if_neg (by omega)]
   exact h.2 i c hi
 · rename_i hio
   rw [List.getElem?_append] at hi
   split at hi
   · rename_i hj
     rw [if_pos (by omega)]
     obtain ⟨u,h1,h2⟩ := hx.2 _ c hi
     exact ⟨u,by simpa using h1,h2⟩
   · rename_i hj
     rw [if_neg (by omega)]
     rw [List.getElem?_drop,show off + xs.length + (i - off - xs.length) = i by omega] at hi
     exact h.2 i c hi
def cfill (place : Nat → Option (Nat × Nat)) (cells : List C) : List (Nat × List C) → Option (List C)
 | [] => some cells
 | (i,x) :: rest => match place i with
  | none => none
  | some (off,size) => if x.length = size ∧ off + x.length ≤ cells.length then cfill place (cells.take off ++ x ++ cells.drop (off + x.length)) rest else none
theorem cfill_told {M : Bad} {E : Env} {w : World} (place : Nat → Option (Nat × Nat)) : ∀ (parts : List (Nat × List C)) (vals : List (Nat × Value)) (cells : List C) (us : Array Value) {out : List C},
  vals.length = parts.length → (∀ (k : Nat) (x : Nat × List C) (y : Nat × Value),parts[k]? = some x → vals[k]? = some y → y.1 = x.1 ∧ RL M E w x.2 y.2.cells) → RL M E w cells us → cfill place cells parts = some out →
  ∃ us',Instr.fill place us vals = some us' ∧ RL M E w out us'
 | [],vals,cells,us,out,hl,_,hr,h => by
  have : vals = [] := List.eq_nil_of_length_eq_zero (by simpa using hl)
  subst this
  simp [cfill] at h; subst h
  exact ⟨us,rfl,hr⟩
 | (i,x) :: parts,vals,cells,us,out,hl,hv,hr,h => by
  cases vals with
  | nil => simp at hl
  | cons y vals =>
   obtain ⟨h1,h2⟩ := hv 0 (i,x) y rfl rfl
   obtain ⟨i',v⟩ := y
   simp at h1; subst h1
   simp only [cfill] at h
   cases hp : place i' with
   | none => simp [hp] at h
   | some os =>
    obtain ⟨off,size⟩ := os
    simp only [hp] at h
    split at h
    · rename_i hc
      rw [fill_cons place us i' v vals hp (by rw [h2.1]; exact hc.1) (by rw [← hc.1,hr.1]; exact hc.2)]
      exact cfill_told place parts vals _ _ (by simpa using hl) (fun k x y hx hy => hv (k + 1) x y (by simpa using hx) (by simpa using hy)) (hr.splice (vs := v.cells.toList) (by simpa using h2) hc.2) h
    · cases h
def tyPlaces (P : Program) (t : TypeId) : Option (List (Nat × Nat)) := match P.underlying t with
 | some (.struct fields) => fields.toList.mapM (fun f => (P.info? f.type).map fun i => (f.offset,i.size))
 | some (.array n e) => match P.info? e with
  | some i => some ((List.range n).map fun k => (k * i.size,i.size))
  | none => none
 | _ => none
theorem tyZero_told {P : Program} {M : Bad} {E : Env} {w : World} {t : TypeId} {cs : List C} (h : tyZero P t = some cs) : ∃ i z,P.info? t = some i ∧ i.zero = some z ∧ RL M E w cs z.cells := by
 unfold tyZero at h
 split at h
 · rename_i i hi
   split at h
   · rename_i z hz
     split at h
     · rename_i hall
       simp at h; subst h
       refine ⟨i,z,hi,hz,by simp,fun k c hk => ?_⟩
       simp only [List.getElem?_map,Option.map_eq_some_iff,Array.getElem?_toList] at hk
       obtain ⟨u,h1,rfl⟩ := hk
       exact ⟨u,h1,RC_ofCell M E w u,by simp only [List.all_eq_true] at hall; exact hall u (Array.mem_toList_iff.2 (Array.mem_of_getElem? h1))⟩
     · cases h
   · cases h
 · cases h
noncomputable def evBuild (P : Program) (st : ASt) (t : TypeId) (parts : Array (Nat × Operand)) : Option V :=
 match tyZero P t,tyPlaces P t,parts.toList.mapM (fun x => (st.arg1 x.2).map fun y => (x.1,y.cells)) with
 | some zs,some ps,some xs => (cfill (ps[·]?) zs xs).map fun cs => .v (.agg cs)
 | _,_,_ => none
theorem fill_mono {p q : Nat → Option (Nat × Nat)} (h : ∀ i x,p i = some x → q i = some x) : ∀ (l : List (Nat × Value)) (us us' : Array Value),Instr.fill p us l = some us' → Instr.fill q us l = some us'
 | [],us,us',h' => h'
 | (i,v) :: l,us,us',h' => by
  simp only [Instr.fill] at h' ⊢
  cases hp : p i with
  | none => simp [hp] at h'
  | some x =>
   rw [h i x hp]
   simp only [hp] at h' ⊢
   split at h'
   · cases h'
   · rename_i hc
     rw [if_neg hc]
     exact fill_mono h l _ _ h'
theorem snd_build {X : Fx} {E : Env} {st : ASt} {a : Act} {w : World} (h : Rel X E st a w) {t : TypeId} {parts : Array (Nat × Operand)} {v : V}
   (he : evBuild X.P st t parts = some v) : ∃ u,(Instr.build t (parts.map fun x => (x.1,a.eval x.2))).run X.P w = .ok u w ∧ RV X.M E w v u := by
 unfold evBuild at he
 split at he
 · rename_i zs ps xs hz hp hx
   simp at he
   obtain ⟨cs,hcs,rfl⟩ := he
   obtain ⟨i,z,hi,hzz,hzr⟩ := tyZero_told (M := X.M) (E := E) (w := w) hz
   obtain ⟨hl1,hl2⟩ := mapM_get hx
   obtain ⟨us,h1,h2⟩ := cfill_told (M := X.M) (E := E) (w := w) (ps[·]?) xs (parts.map fun x => (x.1,a.eval x.2)).toList zs z.cells (by simp [hl1]) (fun k x y hk hy => by
     obtain ⟨o,h3,h4⟩ := hl2 k x hk
     simp only [Array.toList_map,List.getElem?_map,h3,Option.map_some,Option.some.injEq] at hy
     subst hy
     simp only [Option.map_eq_some_iff] at h4
     obtain ⟨y1,h5,rfl⟩ := h4
     obtain ⟨h6,h7⟩ := h.arg1 h5
     exact ⟨rfl,RV1.cells h6 (by rw [h.gone]; exact h7)⟩) hzr hcs
   refine ⟨_,run_build w t _ us ?_,us,rfl,h2.1,h2.2⟩
   unfold Program.built
   unfold tyPlaces at hp
   split at hp
   · rename_i fields hu
     simp only [hi,hu,hzz,hp]
     have e1 : ((ps.toArray)[·]? : Nat → Option (Nat × Nat)) = (ps[·]?) := by funext k; simp
     rw [e1]; exact h1
   · rename_i n e hu
     split at hp
     · rename_i ie hie
       simp at hp; subst hp
       simp only [hi,hu,hzz,hie]
       refine fill_mono (fun k x hk => ?_) _ _ _ h1
       simp only [List.getElem?_map,Option.map_eq_some_iff] at hk
       obtain ⟨k',hk',rfl⟩ := hk
       have := (List.getElem?_eq_some_iff.1 hk').2
       simp at this
       simp [← this]
     · cases hp
   · cases hp
 · cases he
end
end Go.Proofs.YtndegphojkiblaaGreatDoor
