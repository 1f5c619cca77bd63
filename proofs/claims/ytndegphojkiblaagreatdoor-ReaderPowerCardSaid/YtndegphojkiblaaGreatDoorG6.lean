/- Towards the last file's theorem: part 6. -/
import Derived.Test.YtndegphojkiblaaGreatDoorG5
import Derived.MapKept
set_option linter.unusedSimpArgs false
set_option linter.unusedVariables false
namespace Go.Proofs.YtndegphojkiblaaGreatDoor
section
open Go.RowKit
open Classical
def Free (X : Fx) (E : Env) (st : ASt) (d : Nat) : Prop := ∀ n,d ≤ n → n < d + 8 → E.N n = none ∧ n ∉ st.gone ∧ n < st.next ∧ X.k0 ≤ n
section
variable {X : Fx} {E : Env} {st : ASt} {a : Act} {w : World}
theorem snd_call (h : Rel X E st a w) {d : Nat} (hF : Free X E st d) {f : FuncId} {vals : Array Value} {xs : List V1} (hx1 : vals.size = xs.length) (hx2 : ∀ (i : Nat) (x : V1),xs[i]? = some x → ∃ u,vals[i]? = some u ∧ RV1 X.M E w x u) {v : V} {ef : Eff} {rd : List Nat} (hc : CallOK X.P st d f xs v ef rd) :
   Own X.P f ∧ Calls X.P f vals w fun e w' => ∃ u E',e = .returned u ∧ (∀ n,¬ (d ≤ n ∧ n < d + 8) → E.N n = none → E'.N n = none) ∧ Rel X E' (st.eff ef) a w' ∧ RV X.M E' w' v u := by
 obtain ⟨cargs,H,r,H',ι,L,hA,hlen,hnd,hxl,hfit,hfitb,hι,hL,hr8,hH8,hrH,hHH,hmode,hgι,hgs,hgd,rfl,hupd,_⟩ := hc
 refine ⟨hA.own,?_⟩
 have hnamed : ∀ i,i < ι.length → ∃ n x,ι[i]? = some n ∧ E.N n = some x := by
   intro i hi
   have hi' : i < H.length := by omega
   obtain ⟨n,b,h1,h2,h3⟩ := hfitb i _ (List.getElem?_eq_getElem hi')
   have hb := h.row (hι n (List.mem_of_getElem? h1)).1 h2
   cases b with
   | box cs => obtain ⟨x,_,_,_,h4,_⟩ := hb; exact ⟨n,x,h1,h4⟩
   | row e rows => obtain ⟨x,_,_,h4,_⟩ := hb; exact ⟨n,x,h1,h4⟩
   | map es => obtain ⟨x,_,_,_,h4,_⟩ := hb; exact ⟨n,x,h1,h4⟩
 have hιE : ∀ n ∈ ι,∃ x,E.N n = some x := by
   intro n hn
   obtain ⟨i,hi,rfl⟩ := List.getElem_of_mem hn
   obtain ⟨n',x,h1,h2⟩ := hnamed i hi
   rw [List.getElem?_eq_getElem hi] at h1; cases h1
   exact ⟨x,h2⟩
 have hιinj : ∀ (i j n : Nat),ι[i]? = some n → ι[j]? = some n → i = j := by
   intro i j n h1 h2
   have hi := (List.getElem?_eq_some_iff.1 h1)
   have hj := (List.getElem?_eq_some_iff.1 h2)
   obtain ⟨hi1,hi2⟩ := hi
   obtain ⟨hj1,hj2⟩ := hj
   have hp := List.pairwise_iff_getElem.1 hnd
   rcases Nat.lt_trichotomy i j with hlt | heq | hlt
   · exact absurd (hi2.trans hj2.symm) (hp i j hi1 hj1 hlt)
   · exact heq
   · exact absurd (hj2.trans hi2.symm) (hp j i hj1 hi1 hlt)
 have hcall := hA.call w (callM X.M E ι L) (callN E ι) vals ?_ ?_ ?_ ?_ ?_ ?_ ?_
 · refine hcall.mono ?_
   rintro e w' ⟨u,E',rfl,hfr,hbk,hH',hrv⟩
   let E2 : Env := ⟨fun n => if n ∈ ef.gone then none else if d ≤ n ∧ n < d + 8 then E'.N (ι.length + (n - d)) else E.N n,ef.gone ++ E.gone⟩
   have hE2 : ∀ n y,E2.N n = some y → n ∉ ef.gone ∧ ((d ≤ n ∧ n < d + 8 ∧ E'.N (ι.length + (n - d)) = some y) ∨ (¬ (d ≤ n ∧ n < d + 8) ∧ E.N n = some y)) := by
     intro n y hy
     simp only [E2] at hy
     split at hy
     · cases hy
     · rename_i hg
       split at hy
       · rename_i hd; exact ⟨hg,.inl ⟨hd.1,hd.2,hy⟩⟩
       · rename_i hd; exact ⟨hg,.inr ⟨hd,hy⟩⟩
   have hfree : ∀ n y,E.N n = some y → ¬ (d ≤ n ∧ n < d + 8) := fun n y hy hd => by rw [(hF n hd.1 hd.2).1] at hy; cases hy
   have hsame : ∀ n,n ∉ ef.gone → ¬ (d ≤ n ∧ n < d + 8) → E2.N n = E.N n := fun n h1 h2 => by simp only [E2,if_neg h1,if_neg h2]
   have hlt : ∀ n y g,E.N n = some y → y.g = some g → g < w.heap.size := fun n y g hy hg => (h.names n y g hy hg).1
   have halive : ∀ (i n : Nat) (x : Nm),ι[i]? = some n → n ∉ ef.gone → E.N n = some x → E'.N i = some x := by
     intro i n x hi hn hx
     have h1 : H'.lookup i ≠ none := fun h1 => hn ((hgι i n hi).2 h1)
     obtain ⟨b,hb⟩ := Option.ne_none_iff_exists'.1 h1
     have hrb := hH' i b hb
     have hne : E'.N i ≠ none := by
       cases b with
       | box cs => obtain ⟨y,_,_,_,h4,_⟩ := hrb; rw [h4]; simp
       | row e rows => obtain ⟨y,_,_,h4,_⟩ := hrb; rw [h4]; simp
       | map es => obtain ⟨y,_,_,_,h4,_⟩ := hrb; rw [h4]; simp
     have hil : i < H.length := by rw [← hlen]; exact (List.getElem?_eq_some_iff.1 hi).1
     rcases hbk.keep i hil with h2 | h2
     · exact absurd h2 hne
     · rw [h2]; simp only [callN,hi]; exact hx
   have hren : ∀ m x,m < ι.length + 8 → (m < ι.length → H'.lookup m ≠ none) → E'.N m = some x → E2.N (renO ι d m) = some x := by
     intro m x hm hl hx
     unfold renO
     split
     · rename_i hml
       obtain ⟨n,y,h1,h2⟩ := hnamed m hml
       have hng : n ∉ ef.gone := fun hg => hl hml ((hgι m n h1).1 hg)
       rw [h1,Option.getD_some,hsame n hng (hfree n y h2)]
       have := halive m n y h1 hng h2
       rw [hx] at this; rw [h2,this]
     · rename_i hml
       have h1 : d ≤ d + (m - ι.length) ∧ d + (m - ι.length) < d + 8 := by omega
       simp only [E2]
       rw [if_neg (fun hg => by have := hgd _ hg; omega),if_pos h1,show ι.length + (d + (m - ι.length) - d) = m by omega]
       exact hx
   have hst : (∀ n ∈ L,n ∈ ef.gone) → Stay (bad (callM X.M E ι L) E') (bad X.M E2) w' w' := by
     intro hLg g o u h1 h2
     refine ⟨h1,fun h3 => h2 ?_⟩
     rcases h3 with h3 | ⟨n,x,h4,h5⟩
     · exact .inl (.inl h3)
     · obtain ⟨h6,h7⟩ := hE2 n x h4
       rcases h7 with ⟨_,_,h7⟩ | ⟨_,h7⟩
       · exact .inr ⟨_,x,h7,h5⟩
       · by_cases hn : n ∈ ι
         · obtain ⟨i,hi,hin⟩ := List.getElem_of_mem hn
           exact .inr ⟨i,x,halive i n x (by rw [← hin]; exact List.getElem?_eq_getElem hi) h6 h7,h5⟩
         · exact .inl (.inr ⟨n,x,h7,h5,hn,fun hl => h6 (hLg n hl)⟩)
   have hG : Goes X.M E E2 w w' := {
     cell := fun g o u h1 h2 => by
       have hg := World.block_lt_of_cell? w ⟨g,o,none⟩ h1
       have hb := hfr.block g hg (fun ⟨m,x,h3,h4⟩ => by
         obtain ⟨n,h5,h6⟩ := callN_some h3
         exact h2 (.inr ⟨n,x,h6,h4⟩))
       refine ⟨(World.cell?_of_block (w := w) (a := ⟨g,o,none⟩) hb).trans h1,fun h3 => h2 ?_⟩
       rcases h3 with h3 | ⟨n,x,h4,h5⟩
       · exact .inl h3
       · obtain ⟨_,h7⟩ := hE2 n x h4
         rcases h7 with ⟨_,_,h7⟩ | ⟨_,h7⟩
         · rcases (hbk.names _ x g h7 h5).2 with ⟨m,y,h8,h9⟩ | h8
           · obtain ⟨k,h10,h11⟩ := callN_some h8
             exact .inr ⟨k,y,h11,h9⟩
           · have hg' : g < w.heap.size := hg
             omega
         · exact .inr ⟨n,x,h7,h5⟩
     name := fun n x hx => by
       by_cases hg : n ∈ ef.gone
       · exact .inl (List.mem_append_left _ hg)
       · exact .inr (by rw [hsame n hg (hfree n x hx)]; exact hx)
     gone := fun n hn => List.mem_append_right _ hn }
   have hgnext : ∀ n ∈ ef.gone,n < st.next := fun n hn => by have := hgd n hn; have := (hF d (Nat.le_refl _) (by omega)).2.2.1; omega
   refine ⟨u,E2,rfl,fun n hn hnn => ?_,?_,?_⟩
   · simp only [E2,if_neg hn]
     split
     · rfl
     · exact hnn
   · refine h.step ef (nx := st.next) (Nat.le_refl _) hG (by simp [E2,h.gone]) ?_ ?_ ?_ ?_ ?_ hgnext ?_ ?_
     · refine h.frame.trans hfr ?_
       rintro g hg ⟨m,x,h1,h2⟩
       obtain ⟨n,h3,h4⟩ := callN_some h1
       rcases (h.names n x g h4 h2).2.1 with h5 | h5
       · exact h5
       · omega
     · intro n x hx
       rcases (hE2 n x hx).2 with ⟨h1,h2,_⟩ | ⟨_,h1⟩
       · exact (hF n h1 h2).2.2.1
       · exact h.nlt n x h1
     · intro n x g hx hg
       rcases (hE2 n x hx).2 with ⟨_,_,h1⟩ | ⟨_,h1⟩
       · obtain ⟨h2,h3⟩ := hbk.names _ x g h1 hg
         refine ⟨h2,?_⟩
         rcases h3 with ⟨m,y,h4,h5⟩ | h3
         · obtain ⟨k,h6,h7⟩ := callN_some h4
           exact (h.names k y g h7 h5).2
         · have := h.frame.size
           exact ⟨.inr (by omega),fun hM => by have := h.mlt g hM; omega⟩
       · obtain ⟨h2,h3⟩ := h.names n x g h1 hg
         exact ⟨Nat.lt_of_lt_of_le h2 hfr.size,h3⟩
     · intro n m x y g hx hy hg1 hg2
       have cross : ∀ n m x y,d ≤ n → n < d + 8 → E'.N (ι.length + (n - d)) = some x → m ∉ ef.gone → E.N m = some y → x.g = some g → y.g = some g → n = m := by
         intro n m x y h1 h2 h3 hmg h4 h5 h6
         exfalso
         rcases (hbk.names _ x g h3 h5).2 with ⟨k,z,h7,h8⟩ | h7
         · obtain ⟨j,h9,h10⟩ := callN_some h7
           have := h.inj j m z y g h10 h4 h8 h6
           subst this
           rw [h10] at h4; cases h4
           have := hbk.inj _ k x y g h3 (halive k j y h9 hmg h10) h5 h8
           have := (List.getElem?_eq_some_iff.1 h9).1
           omega
         · have := hlt m y g h4 h6; omega
       obtain ⟨ha,h1⟩ := hE2 n x hx
       obtain ⟨hb,h2⟩ := hE2 m y hy
       rcases h1 with ⟨h3,h4,h5⟩ | ⟨_,h5⟩ <;> rcases h2 with ⟨k3,k4,k5⟩ | ⟨_,k5⟩
       · have := hbk.inj _ _ x y g h5 k5 hg1 hg2; omega
       · exact cross n m x y h3 h4 h5 hb k5 hg1 hg2
       · exact (cross m n y x k3 k4 k5 ha h5 hg2 hg1).symm
       · exact h.inj n m x y g h5 k5 hg1 hg2
     · intro m hm
       simp only [E2]
       split
       · exact .inl rfl
       · rw [if_neg (fun hd => by have := (hF m hd.1 hd.2).2.2.2; omega)]; exact .inr rfl
     · intro n x g hx hg hng hul
       refine hfr.block g (hlt n x g hx hg) ?_
       rintro ⟨m,y,h1,h2⟩
       obtain ⟨k,h3,h4⟩ := callN_some h1
       have := h.inj k n y x g h4 hx h2 hg
       subst this
       have hng' : k ∉ ef.gone := fun hk => hng (List.mem_append_left _ hk)
       have h5 : H'.lookup m ≠ none := fun h5 => hng' ((hgι m k h3).2 h5)
       obtain ⟨b,hb⟩ := Option.ne_none_iff_exists'.1 h5
       have h6 := lookup_ren_some (ρ := renO ι d) hb
       have hml := (List.getElem?_eq_some_iff.1 h3).1
       rw [show renO ι d m = k by unfold renO; rw [if_pos hml,h3]; rfl,← hupd] at h6
       exact h6 hul
     · intro n b hl
       rw [hupd] at hl
       obtain ⟨m,b',h1,rfl,rfl⟩ := lookup_ren hl
       obtain ⟨h2,h3⟩ := hH8 m b' h1
       refine .inr (RB.ren (hmode.imp hst fun hb => hb.2 m b' h1) (fun x hx => hren m x h2 (fun _ => by rw [h1]; simp) hx) (fun k hk => ⟨by rw [hbk.gone]; simp,fun x hx => hren k x (h3 k hk) (hHH m b' h1 k hk) hx⟩) (hH' m b' h1))
   ·
     have key : ∀ c v,c.bare = true ∨ (∀ n ∈ L,n ∈ ef.gone) → (∀ n ∈ c.names,n < ι.length + 8 ∧ (n < ι.length → H'.lookup n ≠ none)) → RC (callM X.M E ι L) E' w' c v → RC X.M E2 w' (c.ren (renO ι d)) v := by
       intro c v hb hn hcc
       exact RC.ren (hb.symm.imp hst id) (fun n hn' => ⟨by rw [hbk.gone]; simp,fun x hx => hren n x (hn n hn').1 (hn n hn').2 hx⟩) hcc
     have key1 : ∀ (x : V1) v,x.bare = true ∨ (∀ n ∈ L,n ∈ ef.gone) → (∀ n ∈ x.names,n < ι.length + 8 ∧ (n < ι.length → H'.lookup n ≠ none)) → RV1 (callM X.M E ι L) E' w' x v → RV1 X.M E2 w' (x.on (C.ren (renO ι d))) v := by
       intro x v hb hn hcc
       cases x with
       | c c => exact key c v hb hn hcc
       | agg cs =>
         obtain ⟨us,h1,h2,h3⟩ := hcc
         refine ⟨us,h1,by simp [h2],fun i c hi => ?_⟩
         simp only [List.getElem?_map,Option.map_eq_some_iff] at hi
         obtain ⟨c',hc',rfl⟩ := hi
         obtain ⟨u,h4,h5,h6⟩ := h3 i c' hc'
         have hm := List.mem_of_getElem? hc'
         refine ⟨u,h4,key c' u (hb.imp (fun hb => ?_) id) (fun n hn' => hn n (List.mem_flatMap.2 ⟨c',hm,hn'⟩)) h5,h6⟩
         simp only [V1.bare,List.all_eq_true] at hb
         exact hb c' hm
     have hb0 : r.bare = true ∨ (∀ n ∈ L,n ∈ ef.gone) := hmode.symm.imp (·.1) id
     have hn0 : ∀ n ∈ r.names,n < ι.length + 8 ∧ (n < ι.length → H'.lookup n ≠ none) := fun n hn => ⟨hr8 n hn,hrH n hn⟩
     cases r with
     | v x => exact key1 x u hb0 hn0 hrv
     | tup xs =>
       obtain ⟨us,h1,h2,h3⟩ := hrv
       refine ⟨us,h1,by simp [h2],fun i c hi => ?_⟩
       simp only [List.getElem?_map,Option.map_eq_some_iff] at hi
       obtain ⟨c',hc',rfl⟩ := hi
       obtain ⟨u',h4,h5⟩ := h3 i c' hc'
       have hm := List.mem_of_getElem? hc'
       refine ⟨u',h4,key1 c' u' (hb0.imp (fun hb => ?_) id) (fun n hn' => hn0 n (List.mem_flatMap.2 ⟨c',hm,hn'⟩)) h5⟩
       simp only [V.bare,List.all_eq_true] at hb
       exact hb c' hm
 · rintro g (hg | ⟨n,x,h1,h2,_⟩)
   · have := h.mlt g hg; have := h.frame.size; omega
   · exact (h.names n x g h1 h2).1
 · intro n x hx
   obtain ⟨k,h1,_⟩ := callN_some hx
   have := (List.getElem?_eq_some_iff.1 h1).1
   omega
 · intro n x g hx hg
   obtain ⟨k,h1,h2⟩ := callN_some hx
   obtain ⟨h3,_,h4⟩ := h.names k x g h2 hg
   refine ⟨h3,?_⟩
   rintro (h5 | ⟨m,y,h5,h6,h7,_⟩)
   · exact h4 h5
   · have := h.inj k m x y g h2 h5 hg h6
     subst this
     exact h7 (List.mem_of_getElem? h1)
 · intro n m x y g hx hy hg1 hg2
   obtain ⟨k,h1,h2⟩ := callN_some hx
   obtain ⟨j,h3,h4⟩ := callN_some hy
   have := h.inj k j x y g h2 h4 hg1 hg2
   subst this
   exact hιinj n m k h1 h3
 · intro i b' hi
   obtain ⟨n,b,h1,h2,h3⟩ := hfitb i b' hi
   exact fit_rb h hι hL h1 h2 h3
 · rw [hx1,hxl]
 · intro i x' hi
   obtain ⟨x,h1,h2⟩ := hfit i x' hi
   obtain ⟨u,h3,h4⟩ := hx2 i x h1
   exact ⟨u,h3,fit_rv h hι hL h2 h4⟩
end
end
section
open Go.RowKit
open Classical
theorem findNow_int (k : IntKind) (z : Int) : ∀ (es : List MapEntry) (i : Nat),(∀ m ∈ es,∃ y,m.key = .int k y) →
  ∃ r,Instr.findNow (.int k) (.int k z) es i = some r ∧ ∀ j v,r = some (j,v) → i ≤ j ∧ ∃ m,es[j - i]? = some m ∧ m.key = .int k z
 | [],i,_ => ⟨none,rfl,by simp⟩
 | e :: es,i,h => by
  obtain ⟨y,hy⟩ := h e (by simp)
  simp only [Instr.findNow,hy,Instr.sameNow,if_true]
  by_cases hz : z = y
  · subst hz
    refine ⟨some (i,e.val),by simp,fun j v hj => ?_⟩
    cases hj
    exact ⟨Nat.le_refl _,e,by simp,hy⟩
  · obtain ⟨r,h1,h2⟩ := findNow_int k z es (i + 1) (fun m hm => h m (by simp [hm]))
    have : (z == y) = false := by simpa using hz
    rw [this]
    refine ⟨r,h1,fun j v hj => ?_⟩
    obtain ⟨h3,m,h4,h5⟩ := h2 j v hj
    refine ⟨by omega,m,?_,h5⟩
    rw [show j - i = (j - (i + 1)) + 1 by omega]
    simpa using h4
def IntKeys (en : Array MapEntry) : Prop := ∀ m ∈ en.toList,∃ z,m.key = .int .u64 z
theorem run_findKey_int {P : Program} {kt : TypeId} (hk : P.underlying kt = some (.int .u64)) {en : Array MapEntry} (hkeys : IntKeys en) (z : Int) (w : World) :
   ∃ r,(Instr.findKey kt (.int .u64 z) en.toList).run P w = .ok r w ∧ ∀ j v,r = some (j,v) → ∃ m,en[j]? = some m ∧ m.key = .int .u64 z := by
 obtain ⟨r,h1,h2⟩ := findNow_int .u64 z en.toList 0 hkeys
 refine ⟨r,?_,fun j v hj => ?_⟩
 · simp [Instr.findKey,run_underlying hk,h1]
 · obtain ⟨_,m,h3,h4⟩ := h2 j v hj
   exact ⟨m,by simpa using h3,h4⟩
def World.putMap (w : World) (g : Nat) (o : Obj) : World := { w with heap := w.heap.setIfInBounds g o }
theorem run_mapUpdate_int {P : Program} {t kt vt : TypeId} (ht : P.underlying t = some (.map kt vt)) (hk : P.underlying kt = some (.int .u64)) {w : World} {g : Nat} {en : Array MapEntry} {clock : Nat} (hg : w.heap[g]? = some (.map en clock)) (hkeys : IntKeys en) (z : Int) (v : Value) :
  ∃ en' clock',(Instr.mapUpdate t (.map (some g)) (.int .u64 z) v).run P w = .ok () (World.putMap w g (.map en' clock')) ∧ IntKeys en' := by
 obtain ⟨r,h1,h2⟩ := run_findKey_int hk hkeys z w
 have hc : (Instr.checkKey false 10000 kt (.int .u64 z)).run P w = .ok () w := by
  unfold Instr.checkKey
  simp [run_underlying hk]
 cases r with
 | none =>
  refine ⟨en.push { key := .int .u64 z,val := v,born := clock },clock + 1,?_,?_⟩
  · simp [Instr.mapUpdate,run_underlying ht,MapKept.run_getObj_map hg,hc,h1,MapKept.run_setObj_map _ hg,World.putMap]
  · intro m hm
    simp at hm
    rcases hm with hm | rfl
    · exact hkeys m (by simpa using hm)
    · exact ⟨z,rfl⟩
 | some r =>
  obtain ⟨i,old⟩ := r
  obtain ⟨m0,h3,h4⟩ := h2 i old rfl
  have hstay : (Instr.keyThatStays (((en[i]?).map (·.key)).getD (.int .u64 z)) (.int .u64 z)).run P w = .ok (.int .u64 z) w := by
    rw [h3]
    simp [Instr.keyThatStays,h4,Instr.sameBits]
  refine ⟨en.modify i fun e => { e with key := .int .u64 z,val := v },clock,?_,?_⟩
  · simp only [Instr.mapUpdate,Sem.run_bind,run_underlying ht,Result.andThen_ok,MapKept.run_getObj_map hg,hc,h1,hstay,MapKept.run_setObj_map _ hg,World.putMap]
  · intro m hm
    obtain ⟨j,hj,rfl⟩ := List.getElem_of_mem hm
    simp only [Array.toList_modify,List.getElem_modify]
    split
    · exact ⟨z,rfl⟩
    · simp only [Array.toList_modify,List.length_modify] at hj
      exact hkeys _ (List.getElem_mem hj)
theorem run_delete_int {P : Program} {t kt vt : TypeId} (ht : P.underlying t = some (.map kt vt)) (hk : P.underlying kt = some (.int .u64)) {w : World} {g : Nat} {en : Array MapEntry} {clock : Nat} (hg : w.heap[g]? = some (.map en clock)) (hkeys : IntKeys en) (z : Int) (ts : List TypeId) (ty : TypeId) :
  ∃ en' clock',(Builtin.delete_ (t :: ts).toArray ty #[.map (some g),.int .u64 z]).run P w = .ok (.tuple #[]) (World.putMap w g (.map en' clock')) ∧ IntKeys en' := by
 obtain ⟨r,h1,h2⟩ := run_findKey_int hk hkeys z w
 have hc : (Instr.checkKey en.isEmpty 10000 kt (.int .u64 z)).run P w = .ok () w := by
  unfold Instr.checkKey
  simp [run_underlying hk]
 cases r with
 | none =>
  refine ⟨en,clock,?_,hkeys⟩
  simp [Builtin.delete_,run_underlying ht,MapKept.run_getObj_map hg,hc,h1,MapKept.run_setObj_map _ hg,World.putMap]
 | some r =>
  obtain ⟨i,old⟩ := r
  refine ⟨en.eraseIdxIfInBounds i,clock,?_,?_⟩
  · simp [Builtin.delete_,run_underlying ht,MapKept.run_getObj_map hg,hc,h1,MapKept.run_setObj_map _ hg,World.putMap]
  · intro m hm
    refine hkeys m ?_
    simp only [Array.eraseIdxIfInBounds] at hm
    split at hm
    · simp only [Array.toList_eraseIdx] at hm
      exact List.mem_of_mem_eraseIdx hm
    · exact hm
section
variable {X : Fx} {E : Env} {st : ASt} {a : Act} {w : World}
theorem putMap_other {w : World} {g k : Nat} {o : Obj} (h : k ≠ g) : (World.putMap w g o).heap[k]? = w.heap[k]? := by
 simp only [World.putMap,Array.getElem?_setIfInBounds]
 rw [if_neg (fun h' => h h'.symm)]
theorem putMap_self {w : World} {g : Nat} {o o' : Obj} (h : w.heap[g]? = some o') : (World.putMap w g o).heap[g]? = some o := by
 have := (Array.getElem?_eq_some_iff.1 h).1
 simp [World.putMap,Array.getElem?_setIfInBounds,this]
theorem Rel.turn (h : Rel X E st a w) {n : Nat} {x : Nm} (hN : E.N n = some x) {g : Nat} (hxg : x.g = some g) {w' : World} (hos : w'.os = w.os) (htp : w'.tape = w.tape) (hout : w'.output = w.output)
   (hot : ∀ k,k ≠ g → w'.heap[k]? = w.heap[k]?) (hsz : w'.heap.size = w.heap.size) (b : Blk) (hb : Goes X.M E E w w' → RB X.P X.M E w' n b) :
   Goes X.M E E w w' ∧ Rel X E (st.eff ⟨[(n,b)],[]⟩) a w' := by
 obtain ⟨hx1,hx2,hx3⟩ := h.names n x g hN hxg
 have hG : Goes X.M E E w w' := {
   cell := fun k o u k1 k2 => by
     have : k ≠ g := by rintro rfl; exact k2 (.inr ⟨n,x,hN,hxg⟩)
     exact ⟨(World.cell?_of_block (w := w) (a := ⟨k,o,none⟩) (hot k this)).trans k1,k2⟩
   name := fun _ _ h => .inr h
   gone := fun _ h => h }
 refine ⟨hG,h.step ⟨[(n,b)],[]⟩ (nx := st.next) (Nat.le_refl _) hG (by simp [h.gone]) ?_ h.nlt (fun n x g hx => by rw [hsz]; exact h.names n x g hx) h.inj (fun _ _ => .inr rfl) (by simp) ?_ ?_⟩
 · refine h.frame.trans (K' := fun k => k = g) ⟨hos,htp,hout,by rw [hsz]; exact Nat.le_refl _,fun k _ hk => hot k hk⟩ ?_
   rintro k hk rfl
   rcases hx2 with h1 | h1
   · exact h1
   · omega
 · intro m y k hy hk _ hl
   refine hot _ fun he => ?_
   subst he
   have := h.inj m n y x k hy hN hk hxg
   subst this
   simp at hl
 · intro m b' hl
   simp only [List.lookup_cons,List.lookup_nil] at hl
   split at hl
   · rename_i heq
     simp at heq hl; subst heq hl
     exact .inr (hb hG)
   · cases hl
noncomputable def evMapSet (P : Program) (st : ASt) (t : TypeId) (m k x : Operand) : Option Eff :=
 match st.arg m with
 | some (.v (.c (.mp n))) => match P.underlying t,st.heap.lookup n,st.arg k,st.arg x with
  | some (.map kt _),some (.map _),some (.v (.c (.p (.sc (.int .u64 _))))),some _ => match P.underlying kt with
   | some (.int .u64) => some ⟨[(n,.map [])],[]⟩
   | _ => none
  | _,_,_,_ => none
 | _ => none
theorem snd_mapSet (h : Rel X E st a w) {t : TypeId} {m k x : Operand} {ef : Eff} (he : evMapSet X.P st t m k x = some ef) :
   ∃ w' ,(Instr.mapUpdate t (a.eval m) (a.eval k) (a.eval x)).run X.P w = .ok () w' ∧ Rel X E (st.eff ef) a w' := by
 unfold evMapSet at he
 split at he
 · rename_i n hm
   have hn := h.argn hm (n := n) (by simp [C.names])
   obtain ⟨y,h1,g,hg,h2⟩ := Nmd.get (h.argc hm).1 hn
   split at he
   · rename_i kt vt es z v ht hl hk hx
     have k1 := RP.sc_eq (h.argc hk).1
     split at he
     · rename_i hkt
       cases he
       obtain ⟨x',g',en,clock,j1,j2,j3,j4⟩ := h.row (by rw [← h.gone]; exact hn) hl
       rw [h1] at j1; cases j1
       rw [hg] at j2; cases j2
       obtain ⟨en',clock',hr,hk'⟩ := run_mapUpdate_int ht hkt j3 j4 z (a.eval x)
       refine ⟨_,by rw [h2,k1]; exact hr,(h.turn h1 hg (w' := World.putMap w g (.map en' clock')) rfl rfl rfl (fun k hk => putMap_other hk) (by simp [World.putMap]) (.map []) (fun _ => ?_)).2⟩
       exact ⟨y,g,en',clock',h1,hg,putMap_self j3,hk'⟩
     · cases he
   · cases he
 · cases he
noncomputable def evMapDel (P : Program) (st : ASt) (t : TypeId) (m k : Operand) : Option Eff :=
 match st.arg m with
 | some (.v (.c (.mp n))) => match P.underlying t,st.heap.lookup n,st.arg k with
  | some (.map kt _),some (.map _),some (.v (.c (.p (.sc (.int .u64 _))))) => match P.underlying kt with
   | some (.int .u64) => some ⟨[(n,.map [])],[]⟩
   | _ => none
  | _,_,_ => none
 | _ => none
theorem snd_mapDel (h : Rel X E st a w) {t : TypeId} {ts : List TypeId} {ty : TypeId} {m k : Operand} {ef : Eff} (he : evMapDel X.P st t m k = some ef) :
   ∃ w' ,(Builtin.delete_ (t :: ts).toArray ty #[a.eval m,a.eval k]).run X.P w = .ok (.tuple #[]) w' ∧ Rel X E (st.eff ef) a w' := by
 unfold evMapDel at he
 split at he
 · rename_i n hm
   have hn := h.argn hm (n := n) (by simp [C.names])
   obtain ⟨y,h1,g,hg,h2⟩ := Nmd.get (h.argc hm).1 hn
   split at he
   · rename_i kt vt es z ht hl hk
     have k1 := RP.sc_eq (h.argc hk).1
     split at he
     · rename_i hkt
       cases he
       obtain ⟨x',g',en,clock,j1,j2,j3,j4⟩ := h.row (by rw [← h.gone]; exact hn) hl
       rw [h1] at j1; cases j1
       rw [hg] at j2; cases j2
       obtain ⟨en',clock',hr,hk'⟩ := run_delete_int ht hkt j3 j4 z ts ty
       refine ⟨_,by rw [h2,k1]; exact hr,(h.turn h1 hg (w' := World.putMap w g (.map en' clock')) rfl rfl rfl (fun k hk => putMap_other hk) (by simp [World.putMap]) (.map []) (fun _ => ?_)).2⟩
       exact ⟨y,g,en',clock',h1,hg,putMap_self j3,hk'⟩
     · cases he
   · cases he
 · cases he
noncomputable def evConvB (P : Program) (st : ASt) (s d : TypeId) (x : Operand) : Option (V × Eff) :=
 match st.arg x with
 | some (.v (.c (.own n))) => match st.heap.lookup n,P.underlying s with
  | some (.row e rows),some (.slice e') => match P.underlying e' with
   | some (.int .u8) => if s = d ∧ rows ≠ [] then some (.c (.own n),⟨[(n,.row e rows)],[]⟩) else none
   | _ => none
  | _,_ => none
 | _ => none
theorem freeze_heap {w : World} {g : Nat} {cur : Array Value} {e : TypeId} {fz : Nat × Nat} (hg : w.heap[g]? = some (.cells cur e fz)) (hf : FzOk cur.size fz) :
   ∃ fz',(w.freeze ⟨g,cur.size,none⟩ 1).heap[g]? = some (.cells cur e fz') ∧ FzOk cur.size fz' := by
 obtain ⟨lo,hi⟩ := fz
 have hlt := (Array.getElem?_eq_some_iff.1 hg).1
 refine ⟨if lo == hi then (cur.size,cur.size + 1) else (min lo cur.size,max hi (cur.size + 1)),?_,?_⟩
 · simp only [World.freeze,Nat.one_ne_zero,if_false,Array.getElem?_modify,hg]
   simp
 · split
   · exact .inr (Nat.le_refl _)
   · rename_i hne
     rcases hf with h | h
     · cases h; simp at hne
     · exact .inr (by simp only at h ⊢; omega)
theorem freeze_other {w : World} {g k o : Nat} (h : k ≠ g) : (w.freeze ⟨g,o,none⟩ 1).heap[k]? = w.heap[k]? := by
 simp only [World.freeze,Nat.one_ne_zero,if_false,Array.getElem?_modify]
 split
 · rename_i h'; exact absurd h'.symm h
 · rfl
theorem snd_convB (h : Rel X E st a w) {s d : TypeId} {x : Operand} {v : V} {ef : Eff} (he : evConvB X.P st s d x = some (v,ef)) :
   ∃ u w',(convert s d (a.eval x)).run X.P w = .ok u w' ∧ Rel X E (st.eff ef) a w' ∧ RV X.M E w' v u := by
 unfold evConvB at he
 split at he
 · rename_i n hx
   have hn := h.argn hx (n := n) (by simp [C.names])
   have hh := (h.argc hx).1
   obtain ⟨y,h1,h2⟩ := Nmd.get hh hn
   split at he
   · rename_i e rows e' hl hs
     split at he
     · rename_i hu8
       split at he
       · rename_i hc
         cases he
         obtain ⟨rfl,h0⟩ := hc
         obtain ⟨x',cur,fz,j1,hfz,j2,j3,j4,j5,j6,j7,j8,j9,j10,j11⟩ := h.row (by rw [← h.gone]; exact hn) hl
         rw [h1] at j1; cases j1
         cases hg : y.g with
         | none =>
          have := j10 hg
          have : rows.length = 0 := by omega
          exact absurd (List.eq_nil_of_length_eq_zero this) h0
         | some g =>
          have hblk := j2 g hg
          obtain ⟨fz',k1,k2⟩ := freeze_heap hblk hfz
          have hT := h.turn h1 hg (w' := w.freeze ⟨g,cur.size,none⟩ 1) (by simp [World.freeze]) (by simp [World.freeze]) (by simp [World.freeze]) (fun k hk => freeze_other hk) (by simp [World.freeze]) (.row e rows) (fun hG => by
           refine ⟨y,cur,fz',h1,k2,fun g' hg' => ?_,j3,j4,j5,j6,j7,j8,j9,j10,fun i r j p hi hj => ?_⟩
           · rw [hg] at hg'; cases hg'; exact k1
           · obtain ⟨u,q1,q2⟩ := j11 i r j p hi hj
             exact ⟨u,q1,q2.goes hG⟩)
          refine ⟨a.eval x,_,?_,hT.2,.inr ⟨y,h1,h2⟩⟩
          rw [h2,hg]
          have hsh : w.shape? g = some (e,cur.size) := by simp [World.shape?,hblk]
          simp [convert,run_underlying hs,run_underlying hu8,markStringish,hsh]
       · cases he
     · cases he
   · cases he
 · cases he
noncomputable def evAppIn (P : Program) (st : ASt) (t : TypeId) (s x : Operand) : Option (V × Eff) :=
 match st.arg s,st.arg x with
 | some (.v (.c (.sub m 0 len))),some (.v (.c cx)) => match st.heap.lookup m,st.view cx,tyElem P t with
  | some (.row e' rows),some rows',some e => match tyApp P e with
   | some (n,_) => if e' = e ∧ rectB n rows' = true ∧ len + rows'.length ≤ rows.length then some (.c (.sub m 0 (len + rows'.length)),⟨[(m,.row e (rows.take len ++ rows' ++ rows.drop (len + rows'.length)))],[]⟩) else none
   | none => none
  | _,_,_ => none
 | _,_ => none
theorem snd_appIn (h : Rel X E st a w) {t ty : TypeId} {s x : Operand} {v : V} {ef : Eff} (he : evAppIn X.P st t s x = some (v,ef)) :
   ∃ u w',(Builtin.append_ #[t,t] ty #[a.eval s,a.eval x]).run X.P w = .ok u w' ∧ Rel X E (st.eff ef) a w' ∧ RV X.M E w' v u := by
 unfold evAppIn at he
 split at he
 · rename_i m len cx hs hx
   have hn := h.argn hs (n := m) (by simp [C.names])
   obtain ⟨z0,hN0,hle,A,hse,hA⟩ := Nmd.get (h.argc hs).1 hn
   have hA := hA (.inr rfl)
   simp only [Nat.zero_mul,Nat.sub_zero] at hA hse
   split at he
   · rename_i e' rows rows' e hl hv ht
     obtain ⟨hu,hie⟩ := tyElem_eq ht
     split at he
     · rename_i n b happ
       obtain ⟨i,zz,hi,hzz,hzs,hpos,hin,hib,hcn⟩ := tyApp_eq happ
       split at he
       · rename_i hc
         cases he
         obtain ⟨rfl,hR,hroom⟩ := hc
         rw [rectB_iff] at hR
         obtain ⟨z,cur,fz,k1,hfz,k2,k3,k4,k5,k6,k7,k8,k9,k10,k11⟩ := h.row (by rw [← h.gone]; exact hn) hl
         rw [hN0] at k1; cases k1
         have hsz : z0.sz = n := by rw [k7,hcn]
         have hlt := h.nlt m z0 hN0
         rcases (h.views hx hv).src hR with ⟨rfl,B,cap,hxe⟩ | ⟨gs,os,cap,news,hxe,hne,hnl,hcell,hone,hval⟩
         ·
           have hself := h.step ⟨[(m,.row e' rows)],[]⟩ (E' := E) (w' := w) (nx := st.next) (Nat.le_refl _) ⟨fun _ _ _ h1 h2 => ⟨h1,h2⟩,fun _ _ h => .inr h,fun _ h => h⟩ (by simp [h.gone]) h.frame h.nlt h.names h.inj (fun _ _ => .inr rfl) (by simp) (fun _ _ _ _ _ _ _ => rfl) (fun k b hb => by
             simp only [List.lookup_cons,List.lookup_nil] at hb
             split at hb
             · rename_i heq; simp at heq; subst heq; cases hb; exact .inr (h.row (by rw [← h.gone]; exact hn) hl)
             · cases hb)
           refine ⟨.slice A len z0.cap,w,?_,?_,?_⟩
           · rw [hse,hxe]
             have hcl : len ≤ z0.cap := by omega
             cases A with
             | none => cases B <;> simp [Builtin.append_,run_underlying hu,sizeOf,typeInfo,hi,Builtin.lenOf,Builtin.firstCells,loadCells,loadCellsFrom,hcl]
             | some A => cases B <;> simp [Builtin.append_,run_underlying hu,sizeOf,typeInfo,hi,Builtin.lenOf,Builtin.firstCells,loadCells,loadCellsFrom,hcl,storeCells]
           · have e1 : rows.take len ++ [] ++ rows.drop (len + ([] : List (List PV)).length) = rows := by simp
             rw [e1]; exact hself
           · refine .inr ⟨z0,hN0,by simpa using hle,A,by simp,fun _ => by simpa using hA⟩
         · cases hg : z0.g with
           | none => have := k10 hg; omega
           | some g =>
             rw [hg] at hA
             simp only [Option.map_some] at hA
             subst hA
             have hblk := k2 g hg
             have hmul : len * n + rows'.length * n ≤ cur.size := by
               rw [k8,hsz,← Nat.add_mul]; exact Nat.mul_le_mul_right _ (by omega)
             have hrun := run_append_room_fz (P := X.P) w t ty e' i hu hi g len z0.cap cur hfz hblk ⟨gs,os,none⟩ rows'.length cap news (by rw [hin]; exact hnl) hcell hone (by omega) (by rw [hin,hnl]; exact hmul)
             rw [hin] at hrun
             have hus : (cur.toList.take (len * n) ++ news ++ cur.toList.drop (len * n + news.length)).toArray.size = cur.size := by simp [hnl]; omega
             have hRr : Rect z0.sz (rows.take len ++ rows' ++ rows.drop (len + rows'.length)) := ((k9.take _).app (by rw [hsz]; exact hR)).app (fun r hr => k9 r (List.mem_of_mem_drop hr))
             have hw := (h.write hN0 hg hblk ((cur.toList.take (len * n) ++ news ++ cur.toList.drop (len * n + news.length)).toArray) [] (by simp) (.row e' (rows.take len ++ rows' ++ rows.drop (len + rows'.length))) (fun hG hnew _ => by
               refine ⟨z0,_,fz,by rw [drop_nil]; exact hN0,by rw [hus]; exact hfz,fun g' hg' => by rw [hg] at hg'; cases hg'; exact hnew,by simp; omega,k4,k5,k6,k7,by rw [hus,k8],hRr,k10,fun i r j p hi hj => ?_⟩
               rw [hnl] at hG
               have hjz : j < n := by rw [← hsz,← hRr r (List.mem_of_getElem? hi)]; exact (List.getElem?_eq_some_iff.1 hj).1
               rw [List.getElem?_toArray,get_splice (by simp; omega),hnl,hsz]
               rw [get_splice (l := rows) (ys := rows') (off := len) (k := i) hroom] at hi
               split at hi
               · rename_i hc
                 have hlt : (i - len + 1) * n ≤ rows'.length * n := Nat.mul_le_mul_right _ (by omega)
                 have e1 : i * n = len * n + (i - len) * n := by rw [← Nat.add_mul]; congr 1; omega
                 rw [Nat.succ_mul] at hlt
                 rw [if_pos (by omega)]
                 obtain ⟨u,q1,q2⟩ := hval _ r j p hi hj
                 exact ⟨u,by rw [← q1]; congr 1; omega,q2.goes hG⟩
               · rename_i hc
                 have hno : ¬ (len * n ≤ i * n + j ∧ i * n + j < len * n + rows'.length * n) := by
                  rintro ⟨q1,q2⟩
                  apply hc
                  rw [← Nat.add_mul] at q2
                  refine ⟨?_,?_⟩
                  · rcases Nat.lt_or_ge i len with h7 | h7
                    · have : (i + 1) * n ≤ len * n := Nat.mul_le_mul_right _ h7
                      rw [Nat.succ_mul] at this; omega
                    · exact h7
                  · rcases Nat.lt_or_ge i (len + rows'.length) with h7 | h7
                    · exact h7
                    · have : (len + rows'.length) * n ≤ i * n := Nat.mul_le_mul_right _ h7
                      omega
                 rw [if_neg hno]
                 obtain ⟨u,q1,q2⟩ := k11 i r j p hi hj
                 rw [hsz] at q1
                 exact ⟨u,by simpa using q1,q2.goes hG⟩)).2
             rw [drop_nil] at hw
             exact ⟨_,_,by rw [hse,hxe]; exact hrun,hw,.inr ⟨z0,hN0,by omega,some ⟨g,0,none⟩,rfl,fun _ => by rw [hg]; simp⟩⟩
       · cases he
     · cases he
   · cases he
 · cases he
noncomputable def evAppMake (P : Program) (st : ASt) (d : Nat) (t t' : TypeId) (s x : Operand) : Option (V × Eff) :=
 match tyElem P t,st.arg s,st.arg x,P.underlying t' with
 | some e,some (.v (.c .nil)),some (.v (.c (.p (.sc (.int .i64 n))))),some (.int _) => match tyApp P e,tyZero P e with
  | some (_,b),some zs => match pvs zs with
   | some z => if 0 < n ∧ n ≤ 9223372036854775807 ∧ n.toNat * b ≤ 140737488355328 then some (.c (.own d),⟨[(d,.row e (List.replicate n.toNat z))],[]⟩) else none
   | none => none
  | _,_ => none
 | _,_,_,_ => none
theorem snd_appMake (h : Rel X E st a w) {d : Nat} (hd : E.N d = none) (hdk : X.k0 ≤ d) (hdn : d < st.next) {t t' ty : TypeId} {s x : Operand} {v : V} {ef : Eff}
   (he : evAppMake X.P st d t t' s x = some (v,ef)) :
   ∃ u w' E',(Builtin.append_ #[t,t'] ty #[a.eval s,a.eval x]).run X.P w = .ok u w' ∧ (∀ n,n ≠ d → E.N n = none → E'.N n = none) ∧ Rel X E' (st.eff ef) a w' ∧ RV X.M E' w' v u := by
 unfold evAppMake at he
 split at he
 · rename_i e n k ht hs hx hk
   obtain ⟨hu,hie⟩ := tyElem_eq ht
   have h3 : a.eval s = .slice none 0 0 := (h.argc hs).1
   have h4 := RP.sc_eq (h.argc hx).1
   split at he
   · rename_i sz b zs happ hz
     obtain ⟨i,z,hi,hzz,hzs,hpos,hin,hib,hcn⟩ := tyApp_eq happ
     obtain ⟨i',z',hi',hzz',hzr⟩ := tyZero_told (M := X.M) (E := E) (w := w) hz
     rw [hi] at hi'; cases hi'
     rw [hzz] at hzz'; cases hzz'
     split at he
     · rename_i zp hzp
       split at he
       · rename_i hcond
         obtain ⟨h0,hm',hb⟩ := hcond
         cases he
         obtain ⟨hl1,hl2⟩ := mapM_get hzp
         have hzl : zp.length = sz := by rw [hl1,← hzr.1,hzs]
         obtain ⟨N,rfl⟩ : ∃ N : Nat,n = (N : Int) := ⟨n.toNat,by omega⟩
         simp only [Int.toNat_natCast] at hb ⊢
         have hm : N ≤ maxLen := by simp only [maxLen]; omega
         have hgc := grownCap_ge w N 0 e
         have hgm := grownCap_le_maxLen w N 0 e hm
         have hR : Rect sz (List.replicate N zp) := fun r hr => by rw [(List.mem_replicate.1 hr).2]; exact hzl
         have hf := h.fresh_row hd hdk hdn (e := e) hpos hcn.symm (rows := List.replicate N zp) hR (cap := grownCap w N 0 e) (by simpa using hgc) hgm
          (us := Builtin.zeroCells z.cells N ++ Builtin.zeroCells z.cells (grownCap w N 0 e - N)) (by
           simp only [Array.size_append,size_zeroCells,hzs,← Nat.add_mul]; congr 1; omega) (fun i' r j' p h5 h6 => by
           have hr' : r = zp := (List.mem_replicate.1 (List.mem_of_getElem? h5)).2
           subst hr'
           have hi2 : i' < N := by have := (List.getElem?_eq_some_iff.1 h5).1; simpa using this
           have hj' : j' < sz := by rw [← hzl]; exact (List.getElem?_eq_some_iff.1 h6).1
           obtain ⟨cc,h7,h8⟩ := hl2 j' p h6
           obtain ⟨u',h9,h10,_⟩ := hzr.2 j' cc h7
           have hlt : i' * sz + j' < N * sz := by
            have : (i' + 1) * sz ≤ N * sz := Nat.mul_le_mul_right _ hi2
            rw [Nat.succ_mul] at this; omega
           refine ⟨u',?_,RC.pv h10 h8⟩
           rw [Array.getElem?_append,if_pos (by rw [size_zeroCells,hzs]; exact hlt)]
           simp only [Builtin.zeroCells,Array.getElem?_map,hzs,Array.getElem?_range,hlt,if_true,Option.map_some,Option.some.injEq]
           rw [show (i' * sz + j') % sz = j' by rw [Nat.mul_comm,Nat.mul_add_mod,Nat.mod_eq_of_lt hj']]
           obtain ⟨q,hq⟩ := Array.getElem?_eq_some_iff.1 h9
           rw [getElem!_pos z.cells j' q]; exact hq) (wd := w.drew) (.inr rfl)
         simp only [List.length_replicate] at hf
         refine ⟨_,_,_,?_,fun k hk hkn => by rw [Env.add_other hk]; exact hkn,hf.1,hf.2⟩
         rw [h3,h4]
         have hN : 0 < N := by omega
         have hw : IntKind.i64.wrap (N : Int) = (N : Int) := by
          rw [IntKind.wrap_i64]; omega
         have e1 : ¬ ((N : Int) < 0) := by omega
         have e2 : ¬ (281474976710656 < (N : Int) * (i.bytes : Int)) := by
          rw [hib,← Int.natCast_mul]; omega
         have e3 : ¬ (9223372036854775807 < (N : Int)) := by omega
         have e4 : ¬ (281474976710656 < Builtin.nextslicecap N 0 * i.bytes) := by rw [nextslicecap_zero hN,hib]; omega
         have e5 : N * sz ≠ 0 := Nat.ne_of_gt (Nat.mul_pos hN hpos)
         have e6 : ¬ N = 0 := by omega
         have e7 : ¬ sz = 0 := by omega
         have e8 : ¬ ((N : Int) ≤ 0) := by omega
         have e9 : max (N : Int) 0 = N := by omega
         simp [Builtin.append_,run_underlying hu,run_underlying hk,sizeOf,typeInfo,zeroValue,hi,hzz,hin,asInt,asIntOf,hw,e1,e2,e3,e4,e5,e6,e7,e8,e9,Question.forced,Builtin.firstCells,newRow,grownCap]
       · cases he
     · cases he
   · cases he
 · cases he
noncomputable def evBoxSl (P : Program) (st : ASt) (t : TypeId) (x : Operand) : Option (V × Eff) :=
 match st.arg x with
 | some (.v (.c (.ptr n off))) => match tyArr P t,st.heap.lookup n with
  | some (cnt,e),some (.box cs) => match pvs ((cs.drop off).take cnt) with
   | some qs => if tySize P e = 1 ∧ tyInfo P e = true ∧ 0 < cnt ∧ cnt ≤ 4096 ∧ qs.length = cnt then some (.c (.p (.sl (qs.map fun q => [q]))),⟨[],[n]⟩) else none
   | none => none
  | _,_ => none
 | _ => none
theorem snd_boxSl (h : Rel X E st a w) {t : TypeId} {x : Operand} {v : V} {ef : Eff} (he : evBoxSl X.P st t x = some (v,ef)) :
   ∃ u E',(Instr.sliceAt t (a.eval x) none none none).run X.P w = .ok u w ∧ (∀ n,E.N n = none → E'.N n = none) ∧ Rel X E' (st.eff ef) a w ∧ RV X.M E' w v u := by
 unfold evBoxSl at he
 split at he
 · rename_i n off hx
   have hn := h.argn hx (n := n) (by simp [C.names])
   obtain ⟨y,h1,g,hg,h2⟩ := Nmd.get (h.argc hx).1 hn
   split at he
   · rename_i cnt e cs har hl
     split at he
     · rename_i qs hq
       split at he
       · rename_i hc
         cases he
         obtain ⟨hsz,hinf,hpos,hmax,hlen⟩ := hc
         obtain ⟨hua,hie⟩ := tyArr_eq har
         obtain ⟨x',g',cur,e',j1,j2,j3,j4,j5⟩ := h.row (by rw [← h.gone]; exact hn) hl
         rw [h1] at j1; cases j1
         rw [hg] at j2; cases j2
         have hlt := h.nlt n y h1
         obtain ⟨q1,q2⟩ := mapM_get hq
         have hst : Stay (bad X.M E) (bad X.M (E.drop [n])) w w := fun k o u h1 h2 => ⟨h1,fun h => h2 (bad_drop h)⟩
         have hnb : ¬ bad X.M (E.drop [n]) g := by
           rintro (hb | ⟨m,z,k1,k2⟩)
           · exact (h.names n y g h1 hg).2.2 hb
           · obtain ⟨k3,k4⟩ := drop_some k1
             have := h.inj m n z y g k3 h1 k2 hg
             subst this
             simp at k4
         have hval : ∀ (i : Nat) (q : PV),qs[i]? = some q → ∃ u,cur[off + i]? = some u ∧ RP (bad X.M (E.drop [n])) w q u := by
           intro i q hi
           obtain ⟨c,k1,k2⟩ := q2 i q hi
           rw [List.getElem?_take] at k1
           split at k1
           · rw [List.getElem?_drop] at k1
             obtain ⟨u,k3,k4,_⟩ := j5 _ c k1
             exact ⟨u,k3,RP.trans (RC.pv k4 k2) hst⟩
           · cases k1
         refine ⟨.slice (some ⟨g,off,none⟩) cnt cnt,E.drop [n],?_,fun m hm => Env.drop_other hm,h.drop [n] (by simpa using hlt),?_⟩
         · rw [h2]
           have hne : ¬ cnt = 0 := by omega
           simp [Instr.sliceAt,run_underlying hua,Instr.sliceBounds,run_sizeOf w hinf,Instr.sureAddr,hne]
           unfold Addr.add; simp
         · have hql : (qs.map fun q => [q]).length = cnt := by simpa using hlen
           show RP _ w (.sl (qs.map fun q => [q])) _
           rw [show (Value.slice (some ⟨g,off,none⟩) cnt cnt) = .slice (some ⟨g,off,none⟩) (qs.map fun q => [q]).length cnt by rw [hql]]
           refine .row (sz := 1) (f := fun i _ => (cur[off + i]?).getD undef) (by intro h0; rw [h0] at hql; simp at hql; omega) (by omega) (by simp only [maxLen]; omega) (fun r hr => ?_) (fun i r j p hi hj => ?_) (fun i r j p hi hj => ?_)
           · simp at hr; obtain ⟨q,_,rfl⟩ := hr; rfl
           · simp only [List.getElem?_map,Option.map_eq_some_iff] at hi
             obtain ⟨q,hi,rfl⟩ := hi
             obtain ⟨u,k1,k2⟩ := hval i q hi
             have hj0 : j = 0 := by cases j with | zero => rfl | succ j => simp at hj
             subst hj0
             refine ⟨?_,hnb⟩
             rw [cell_of_row w g _ cur e' (0,0) j3,Nat.mul_one,Nat.add_zero,k1]; rfl
           · simp only [List.getElem?_map,Option.map_eq_some_iff] at hi
             obtain ⟨q,hi,rfl⟩ := hi
             obtain ⟨u,k1,k2⟩ := hval i q hi
             have hj0 : j = 0 := by cases j with | zero => rfl | succ j => simp at hj
             subst hj0
             simp at hj; subst hj
             show RP _ w q ((cur[off + i]?).getD undef)
             rw [k1]; exact k2
       · cases he
     · cases he
   · cases he
 · cases he
end
end
end Go.Proofs.YtndegphojkiblaaGreatDoor
