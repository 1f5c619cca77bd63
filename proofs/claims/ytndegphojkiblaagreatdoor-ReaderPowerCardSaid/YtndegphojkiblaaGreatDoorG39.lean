/- Towards the last file's theorem: part 39. -/
import Derived.Test.YtndegphojkiblaaGreatDoorG38
import Derived.Test.YtndegphojkiblaaGreatDoorRows
import Derived.ProofKit
import Derived.LaidMore
import Derived.OpenShut
import Derived.Below
import Derived.Stop.Joined
set_option linter.unusedSimpArgs false
set_option linter.unusedVariables false
set_option maxHeartbeats 4000000
namespace Go.Proofs.YtndegphojkiblaaGreatDoor
section
open Go.RowKit
def outA (Q : List L → Prop) (r : Lf × List L) : Prop := match r with
 | (.jump _ args,ρ') => Q (args.map (At.ev ρ'))
 | _ => False
theorem wp_of_out {f : Fir} {ls o : List L} (h : outO (f.den ls) = some o) : f.wp ls (outA fun x => x = o) := by
 cases hd : f.den ls with
 | none => rw [hd] at h; cases h
 | some r =>
  refine ⟨r,hd,?_⟩
  obtain ⟨lf,ρ'⟩ := r
  rw [hd] at h
  cases lf with
  | st => cases h
  | jump k args => simpa [outO,outA] using h
def nm (r : List PV) : ByteArray := match r with | .sc (.string s) :: _ => s | _ => ByteArray.empty
def fndN (s : ByteArray) : List (List PV) → Nat → Int
 | [],_ => -1
 | r :: rs,i => if (nm r).toList == s.toList then i else fndN s rs (i + 1)
theorem fndN_names (s : ByteArray) : ∀ {D D' : List (List PV)} {i : Nat},D.map nm = D'.map nm → fndN s D i = fndN s D' i
 | [],[],_,_ => rfl
 | [],_ :: _,_,h => by cases h
 | _ :: _,[],_,h => by cases h
 | r :: D,r' :: D',i,h => by
  simp only [List.map_cons,List.cons.injEq] at h
  simp only [fndN,h.1,fndN_names s (i := i + 1) h.2]
def FR (r : List PV) : Prop := ∃ s b p,r = [.sc (.string s),.sl b,.sl p]
theorem len1 {α : Type} : ∀ {r : List α},r.length = 1 → ∃ a,r = [a]
 | [a],_ => ⟨a,rfl⟩
theorem find_law (l0 l1 l2 l3 : L) (hD : ∀ r ∈ l2.asR,FR r) (hn : l2.asR.length ≤ 1000000) : ∃ o,F32 [l0,l1,l2,l3] = some o ∧ o = [.i (fndN l3.asS l2.asR 0)] := by
 refine outO_of_wp ?_
 unfold fir32
 simp only [wp_join]
 refine wp_loop (I := fun a => ∃ i : Nat,a = [.i i] ∧ i ≤ l2.asR.length ∧ fndN l3.asS l2.asR 0 = fndN l3.asS (l2.asR.drop i) i) (mu := fun a => match a with | [.i i] => l2.asR.length - i.toNat | _ => 0) (by exact ⟨0,rfl,by omega,by simp⟩) ?_
 rintro a ⟨i,rfl,e1,e2⟩
 by_cases hi : i < l2.asR.length
 rotate_left
 · rw [List.drop_eq_nil_of_le (by omega)] at e2
   simp [w_bi,w_bs,w_bb,w_not,w_conv,w_len,w_row,w_rc,w_cl,w_bnd,w_sel,w_upd,w_part,w_cut,w_vw,w_tk,w_app,w_set,w_lit,w_mn,w_mx,w_call,wp_ite,wp_leaf,wp_join,binI,binB,At.ev,d6,d7,d8,e0,d9,joinQ,loopQ,outQ,pvsOf,Kd.pv,Kd.of,List.map_cons,List.map_nil,d1,d2,d3,d4,d5,Option.map_some,hi,e2,fndN]
 obtain ⟨s,b,p,hr⟩ := hD _ (List.getElem_mem hi)
 have hd : l2.asR.drop i = l2.asR[i] :: l2.asR.drop (i + 1) := List.drop_eq_getElem_cons hi
 rw [hd] at e2
 simp only [fndN,hr,nm] at e2
 have w : IntKind.wrap .i64 ((i : Int) + 1) = (i : Int) + 1 := AI.wrap64 (by omega) (by omega)
 by_cases hs : s.toList = l3.asS.toList
 · rw [if_pos (by simpa using hs)] at e2
   simp [w_bi,w_bs,w_bb,w_not,w_conv,w_len,w_row,w_rc,w_cl,w_bnd,w_sel,w_upd,w_part,w_cut,w_vw,w_tk,w_app,w_set,w_lit,w_mn,w_mx,w_call,wp_ite,wp_leaf,wp_join,binI,binB,At.ev,d6,d7,d8,e0,d9,joinQ,loopQ,outQ,pvsOf,Kd.pv,Kd.of,List.map_cons,List.map_nil,d1,d2,d3,d4,d5,Option.map_some,hi,hr,binS,hs,e2]
 · rw [if_neg (by simpa using hs)] at e2
   simp [w_bi,w_bs,w_bb,w_not,w_conv,w_len,w_row,w_rc,w_cl,w_bnd,w_sel,w_upd,w_part,w_cut,w_vw,w_tk,w_app,w_set,w_lit,w_mn,w_mx,w_call,wp_ite,wp_leaf,wp_join,binI,binB,At.ev,d6,d7,d8,e0,d9,joinQ,loopQ,outQ,pvsOf,Kd.pv,Kd.of,List.map_cons,List.map_nil,d1,d2,d3,d4,d5,Option.map_some,hi,hr,binS,hs,w]
   exact ⟨⟨i + 1,by omega,by omega,e2⟩,by omega⟩
theorem at_law {l0 l1 l2 l3 : L} (hD : ∀ r ∈ l2.asR,FR r) (hn : l2.asR.length ≤ 1000000) {o : List L} (h : F110 [l0,l1,l2,l3] = some o) : ∃ i e,o = [i,e] ∧ (e.asI = 0 → i = .i (fndN l3.asS l2.asR 0) ∧ 0 ≤ fndN l3.asS l2.asR 0) := by
 have h := wp_of_out h
 obtain ⟨o2,h2,rfl⟩ := find_law l0 l1 l2 l3 hD hn
 unfold fir110 at h
 simp [w_bi,w_bs,w_bb,w_not,w_conv,w_len,w_row,w_rc,w_cl,w_bnd,w_sel,w_upd,w_part,w_cut,w_vw,w_tk,w_app,w_set,w_lit,w_mn,w_mx,w_call,wp_ite,wp_leaf,wp_join,binI,binB,At.ev,d6,d7,d8,e0,d9,joinQ,loopQ,outQ,pvsOf,Kd.pv,Kd.of,List.map_cons,List.map_nil,d1,d2,d3,d4,d5,Option.map_some,h2,outA] at h
 obtain ⟨l,h3,h4,h5⟩ := h
 obtain ⟨w,rfl⟩ := len1 h4
 simp [w_bi,w_bs,w_bb,w_not,w_conv,w_len,w_row,w_rc,w_cl,w_bnd,w_sel,w_upd,w_part,w_cut,w_vw,w_tk,w_app,w_set,w_lit,w_mn,w_mx,w_call,wp_ite,wp_leaf,wp_join,binI,binB,At.ev,d6,d7,d8,e0,d9,joinQ,loopQ,outQ,pvsOf,Kd.pv,Kd.of,List.map_cons,List.map_nil,d1,d2,d3,d4,d5,Option.map_some] at h5
 by_cases hw : w.asI = 0
 · simp [hw] at h5
   by_cases hf : fndN l3.asS l2.asR 0 < 0
   · simp [hf] at h5
     subst h5
     exact ⟨_,_,rfl,fun h => by simp [asI_i] at h⟩
   · simp [hf] at h5
     subst h5
     exact ⟨_,_,rfl,fun _ => ⟨rfl,by omega⟩⟩
 · simp [hw] at h5
   subst h5
   exact ⟨_,_,rfl,fun h => absurd h hw⟩
theorem len4 {α : Type} : ∀ {r : List α},r.length = 4 → ∃ a b c d,r = [a,b,c,d]
 | [a,b,c,d],_ => ⟨a,b,c,d,rfl⟩
theorem next_law {l0 l1 l2 : L} {o : List L} (h : F31 [l0,l1,l2] = some o) : ∃ x,o = [x,.r l2.asR] := by
 have h := wp_of_out h
 unfold fir31 at h
 simp [w_bi,w_bs,w_bb,w_not,w_conv,w_len,w_row,w_rc,w_cl,w_bnd,w_sel,w_upd,w_part,w_cut,w_vw,w_tk,w_app,w_set,w_lit,w_mn,w_mx,w_call,wp_ite,wp_leaf,wp_join,binI,binB,At.ev,d6,d7,d8,e0,d9,joinQ,loopQ,outQ,pvsOf,Kd.pv,Kd.of,List.map_cons,List.map_nil,d1,d2,d3,d4,d5,Option.map_some,outA] at h
 obtain ⟨_,h⟩ := h
 split at h <;> (subst h; exact ⟨_,rfl⟩)
theorem sync_law {l0 l1 l2 l3 : L} (hD : ∀ r ∈ l2.asR,FR r) (hn : l2.asR.length ≤ 1000000) {o : List L} (h : F130 [l0,l1,l2,l3] = some o) :
   ∃ a b c d,o = [a,b,c,d] ∧ (d.asR = [] ∨ ∃ q,0 ≤ fndN l3.asS l2.asR 0 ∧ d.asR = l2.asR.set (fndN l3.asS l2.asR 0).toNat [.sc (.string l3.asS),.sl q,.sl []]) := by
 have h := wp_of_out h
 unfold fir130 at h
 rw [w_call] at h
 obtain ⟨l,h1,_,h⟩ := h
 obtain ⟨i,e,rfl,h2⟩ := at_law hD hn h1
 by_cases he : e.asI = 0
 · obtain ⟨rfl,h3⟩ := h2 he
   simp [w_bi,w_bs,w_bb,w_not,w_conv,w_len,w_row,w_rc,w_cl,w_bnd,w_sel,w_upd,w_part,w_cut,w_vw,w_tk,w_app,w_set,w_lit,w_mn,w_mx,w_call,wp_ite,wp_leaf,wp_join,binI,binB,At.ev,d6,d7,d8,e0,d9,joinQ,loopQ,outQ,pvsOf,Kd.pv,Kd.of,List.map_cons,List.map_nil,d1,d2,d3,d4,d5,Option.map_some,outA,he] at h
   obtain ⟨l',h4,h5,h⟩ := h
   obtain ⟨x,rfl⟩ := next_law h4
   simp [w_bi,w_bs,w_bb,w_not,w_conv,w_len,w_row,w_rc,w_cl,w_bnd,w_sel,w_upd,w_part,w_cut,w_vw,w_tk,w_app,w_set,w_lit,w_mn,w_mx,w_call,wp_ite,wp_leaf,wp_join,binI,binB,At.ev,d6,d7,d8,e0,d9,joinQ,loopQ,outQ,pvsOf,Kd.pv,Kd.of,List.map_cons,List.map_nil,d1,d2,d3,d4,d5,Option.map_some] at h
   obtain ⟨_,r,hr,_⟩ := id h
   obtain ⟨s,b,p,rfl⟩ := hD r (List.mem_of_getElem? hr)
   simp [hr,Kd.of] at h
   obtain ⟨_,l3',h6,h7,_,h⟩ := h
   obtain ⟨c,rfl⟩ := len1 h7
   subst h
   exact ⟨_,_,_,_,rfl,.inr ⟨c.asR,h3,by simp [asR_r]⟩⟩
 · simp [w_bi,w_bs,w_bb,w_not,w_conv,w_len,w_row,w_rc,w_cl,w_bnd,w_sel,w_upd,w_part,w_cut,w_vw,w_tk,w_app,w_set,w_lit,w_mn,w_mx,w_call,wp_ite,wp_leaf,wp_join,binI,binB,At.ev,d6,d7,d8,e0,d9,joinQ,loopQ,outQ,pvsOf,Kd.pv,Kd.of,List.map_cons,List.map_nil,d1,d2,d3,d4,d5,Option.map_some,outA,he] at h
   subst h
   exact ⟨_,_,_,_,rfl,.inl rfl⟩
theorem i1 {nd : Nd} {k : Fir} {ρ : List L} {Q : Lf × List L → Prop} (h : (Fir.op nd k).wp ρ Q) (hn : nd.n = 1) : ∃ v,k.wp (ρ ++ [v]) Q := by
 rw [wp_op'] at h
 obtain ⟨ls,h1,h2⟩ := h
 obtain ⟨v,rfl⟩ := len1 ((Nd.ev_n h1).trans hn)
 exact ⟨v,h2⟩
def Fir.j1 : Fir → Bool
 | .leaf (.jump 0 [_]) => true
 | .op _ k => Fir.j1 k
 | .ite _ a b => Fir.j1 a && Fir.j1 b
 | _ => false
theorem j1_ok {rest : Fir} {ρ : List L} {Q : Lf × List L → Prop} : ∀ {b : Fir} {ρ' : List L},Fir.j1 b = true → b.wp ρ' (joinQ rest ρ Q) → ∃ x,rest.wp (ρ ++ [x]) Q
 | .leaf (.jump 0 [a]),ρ',_,h => by rw [wp_leaf] at h; exact ⟨_,h⟩
 | .leaf (.jump 0 []),_,hj,_ => by cases hj
 | .leaf (.jump 0 (_ :: _ :: _)),_,hj,_ => by cases hj
 | .leaf (.jump (_ + 1) _),_,hj,_ => by cases hj
 | .leaf (.st _ _),_,hj,_ => by cases hj
 | .op nd k,ρ',hj,h => by
  rw [wp_op'] at h
  obtain ⟨ls,_,h⟩ := h
  exact j1_ok (b := k) hj h
 | .ite c a b,ρ',hj,h => by
  simp only [Fir.j1,Bool.and_eq_true] at hj
  rw [wp_ite] at h
  split at h
  · exact j1_ok hj.1 h
  · exact j1_ok hj.2 h
 | .join _ _,_,hj,_ => by cases hj
 | .loop _ _,_,hj,_ => by cases hj
theorem written_law {l0 l1 l2 l3 l4 l5 l6 : L} (hD : ∀ r ∈ l2.asR,FR r) {o : List L} (h : F131 [l0,l1,l2,l3,l4,l5,l6] = some o) :
   ∃ a b c d,o = [a,b,c,d] ∧ (d.asR = [] ∨ ∃ s q p r,l2.asR[l3.asI.toNat]? = some r ∧ nm r = s ∧ d.asR = l2.asR.set l3.asI.toNat [.sc (.string s),.sl q,.sl p]) := by
 have h := wp_of_out h
 unfold fir131 at h
 rw [w_row] at h
 obtain ⟨_,r,hr,_,h⟩ := h
 obtain ⟨s,b,p,rfl⟩ := hD r (List.mem_of_getElem? hr)
 simp only [List.cons_append,List.nil_append] at h
 rw [w_cl] at h; obtain ⟨_,ha,_,hb,h⟩ := h; cases ha; cases hb
 simp only [List.cons_append,List.nil_append] at h
 rw [w_cl] at h; obtain ⟨_,ha,_,hb,h⟩ := h; cases ha; cases hb
 simp only [List.cons_append,List.nil_append] at h
 rw [w_cl] at h; obtain ⟨_,ha,_,hb,h⟩ := h; cases ha; cases hb
 simp only [List.cons_append,List.nil_append] at h
 obtain ⟨v11,h⟩ := i1 h rfl
 obtain ⟨v12,h⟩ := i1 h rfl
 obtain ⟨v13,h⟩ := i1 h rfl
 obtain ⟨v14,h⟩ := i1 h rfl
 obtain ⟨v15,h⟩ := i1 h rfl
 simp only [List.cons_append,List.nil_append] at h
 rw [wp_ite] at h
 split at h
 · rw [wp_leaf] at h
   cases h
   exact ⟨_,_,_,_,rfl,.inl rfl⟩
 obtain ⟨v16,h⟩ := i1 h rfl
 obtain ⟨v17,h⟩ := i1 h rfl
 obtain ⟨v18,h⟩ := i1 h rfl
 obtain ⟨v19,h⟩ := i1 h rfl
 obtain ⟨v20,h⟩ := i1 h rfl
 obtain ⟨v21,h⟩ := i1 h rfl
 obtain ⟨v22,h⟩ := i1 h rfl
 obtain ⟨v23,h⟩ := i1 h rfl
 obtain ⟨v24,h⟩ := i1 h rfl
 simp only [List.cons_append,List.nil_append] at h
 rw [wp_join] at h
 obtain ⟨v25,h⟩ := j1_ok rfl h
 simp only [List.cons_append,List.nil_append] at h
 rw [wp_ite] at h
 split at h
 · rw [wp_leaf] at h
   cases h
   exact ⟨_,_,_,_,rfl,.inl rfl⟩
 rw [w_call] at h
 obtain ⟨l,h1,_,h⟩ := h
 obtain ⟨x,rfl⟩ := next_law h1
 simp only [List.cons_append,List.nil_append] at h
 obtain ⟨v28,h⟩ := i1 h rfl
 simp only [List.cons_append,List.nil_append] at h
 rw [w_set] at h
 obtain ⟨r,hr2,_,h⟩ := h
 have hr2 : l2.asR[l3.asI.toNat]? = some r := hr2
 have hr : l2.asR[l3.asI.toNat]? = some [PV.sc (Value.string s),PV.sl b,PV.sl p] := hr
 rw [hr] at hr2; cases hr2
 rw [wp_leaf] at h
 cases h
 exact ⟨_,_,_,_,rfl,.inr ⟨s,b,v21.asR,_,hr,rfl,rfl⟩⟩
theorem append_law {l0 l1 l2 l3 l4 : L} (hD : ∀ r ∈ l2.asR,FR r) (hn : l2.asR.length ≤ 1000000) {o : List L} (h : outO (fir135.den [l0,l1,l2,l3,l4]) = some o) :
   ∃ a b c d,o = [a,b,c,d] ∧ (d.asR = [] ∨ ∃ s q p r,l2.asR[(fndN l3.asS l2.asR 0).toNat]? = some r ∧ nm r = s ∧ d.asR = l2.asR.set (fndN l3.asS l2.asR 0).toNat [.sc (.string s),.sl q,.sl p]) := by
 have h := wp_of_out h
 unfold fir135 at h
 rw [w_call] at h
 obtain ⟨l,h1,_,h⟩ := h
 obtain ⟨i,e,rfl,h2⟩ := at_law hD hn h1
 simp only [List.cons_append,List.nil_append] at h
 rw [w_bi] at h; obtain ⟨_,ha,h⟩ := h; cases ha
 rw [wp_ite] at h
 by_cases he : e.asI = 0
 rotate_left
 · rw [if_pos (by simp [At.ev,asI_i,asB_b,he])] at h
   rw [wp_leaf] at h
   cases h
   exact ⟨_,_,_,_,rfl,.inl rfl⟩
 rw [if_neg (by simp [At.ev,asI_i,asB_b,he])] at h
 obtain ⟨rfl,h3⟩ := h2 he
 simp only [List.cons_append,List.nil_append] at h
 obtain ⟨v8,h⟩ := i1 h rfl
 obtain ⟨v9,h⟩ := i1 h rfl
 obtain ⟨v10,h⟩ := i1 h rfl
 obtain ⟨v11,h⟩ := i1 h rfl
 obtain ⟨v12,h⟩ := i1 h rfl
 obtain ⟨v13,h⟩ := i1 h rfl
 simp only [List.cons_append,List.nil_append] at h
 rw [w_call] at h
 obtain ⟨l,h1,_,h⟩ := h
 obtain ⟨a,b,c,d,rfl,h4⟩ := written_law (l0 := l0) (l1 := l1) (l2 := l2) (l3 := .i (fndN l3.asS l2.asR 0)) (l4 := v13) (l5 := l4) (l6 := .b false) hD h1
 rw [wp_leaf] at h
 cases h
 exact ⟨_,_,_,_,rfl,h4⟩
def PE (r : List PV) : Prop := ∃ s b,r = [.sc (.string s),.sl b,.sl []]
theorem PE.fr {r : List PV} (h : PE r) : FR r := by obtain ⟨s,b,rfl⟩ := h; exact ⟨s,b,[],rfl⟩
theorem mem_set {α : Type} : ∀ {l : List α} {i : Nat} {x y : α},y ∈ l.set i x → y = x ∨ y ∈ l
 | [],_,_,_,h => by cases h
 | a :: l,0,x,y,h => by
  rcases List.mem_cons.1 h with h | h
  · exact .inl h
  · exact .inr (List.mem_cons_of_mem _ h)
 | a :: l,i + 1,x,y,h => by
  rcases List.mem_cons.1 h with h | h
  · exact .inr (by rw [h]; exact List.mem_cons_self)
  · rcases mem_set (l := l) h with h | h
    · exact .inl h
    · exact .inr (List.mem_cons_of_mem _ h)
theorem names_set : ∀ {D : List (List PV)} {k : Nat} {r x : List PV},D[k]? = some r → nm x = nm r → (D.set k x).map nm = D.map nm
 | [],_,_,_,h,_ => by cases h
 | a :: D,0,r,x,h,hx => by
  cases h
  simp only [List.set_cons_zero,List.map_cons,hx]
 | a :: D,k + 1,r,x,h,hx => by
  simp only [List.set_cons_succ,List.map_cons,names_set (D := D) (k := k) (r := r) (x := x) (by simpa using h) hx]
theorem pend_fin {z d2 d3 : List (List PV)} {s : ByteArray} (hz : ∀ r ∈ z,PE r)
   (h2 : d2 = [] ∨ ∃ s' q p r,z[(fndN s z 0).toNat]? = some r ∧ nm r = s' ∧ d2 = z.set (fndN s z 0).toNat [.sc (.string s'),.sl q,.sl p])
   (h4 : d3 = [] ∨ ∃ q,0 ≤ fndN s d2 0 ∧ d3 = d2.set (fndN s d2 0).toNat [.sc (.string s),.sl q,.sl []]) : ∀ r ∈ d3,PE r := by
 rcases h4 with rfl | ⟨q,_,rfl⟩
 · intro r hr; cases hr
 rcases h2 with rfl | ⟨s',q',p',r0,h5,h6,rfl⟩
 · intro r hr; simp at hr
 · rw [← fndN_names s (names_set h5 (x := [.sc (.string s'),.sl q',.sl p']) (by rw [h6]; rfl)).symm]
   intro r hr
   rw [List.set_set] at hr
   rcases mem_set hr with rfl | hr
   · exact ⟨_,_,rfl⟩
   · exact hz r hr
theorem write_law138 {l0 l1 l2 l3 l4 l5 l6 l7 l8 : L} (h0 : ∀ r ∈ l2.asR,PE r) (hn : l2.asR.length ≤ 1000000)
   (h109 : ∀ o,F109 [l0,l1,l2,l7] = some o → ∃ a b c d,o = [a,b,c,d] ∧ (∀ r ∈ d.asR,PE r) ∧ d.asR.length ≤ 1000000)
   {o : List L} (h : F138 [l0,l1,l2,l3,l4,l5,l6,l7,l8] = some o) : ∃ a b c,o = [a,b,c] ∧ ∀ r ∈ c.asR,PE r := by
 have h := wp_of_out h
 have fin : ∀ x y z : L,(∀ r ∈ z.asR,PE r) → z.asR.length ≤ 1000000 → (Fir.op (.call 135 F135 [(.v 9),(.v 10),(.v 11),(.v 7),(.v 8)] 4 []) (.op (.call 130 F130 [(.v 13),(.v 14),(.v 15),(.v 7)] 4 []) (.leaf (.jump 0 [(.v 17),(.v 18),(.v 19)])))).wp [l0,l1,l2,l3,l4,l5,l6,l7,l8,x,y,z] (outA fun x => x = o) → ∃ a b c,o = [a,b,c] ∧ ∀ r ∈ c.asR,PE r := by
   intro x y z hz hzn h
   rw [w_call] at h
   obtain ⟨l,h1,_,h⟩ := h
   obtain ⟨a2,b2,c2,d2,rfl,h2⟩ := append_law (l0 := x) (l1 := y) (l2 := z) (l3 := l7) (l4 := l8) (fun r hr => (hz r hr).fr) hzn h1
   simp only [List.cons_append,List.nil_append] at h
   have hD2 : (∀ r ∈ d2.asR,FR r) ∧ d2.asR.length ≤ 1000000 := by
    rcases h2 with h2 | ⟨s',q',p',r0,h5,h6,h2⟩
    · rw [h2]; exact ⟨fun r hr => (by cases hr),by simp⟩
    · rw [h2]
      refine ⟨fun r hr => ?_,by rw [List.length_set]; exact hzn⟩
      rcases mem_set hr with rfl | hr
      · exact ⟨_,_,_,rfl⟩
      · exact (hz r hr).fr
   rw [w_call] at h
   obtain ⟨l',h3,_,h⟩ := h
   obtain ⟨a3,b3,c3,d3,rfl,h4⟩ := sync_law (l0 := b2) (l1 := c2) (l2 := d2) (l3 := l7) hD2.1 hD2.2 h3
   rw [wp_leaf] at h
   cases h
   exact ⟨_,_,_,rfl,pend_fin hz h2 h4⟩
 unfold fir138 at h
 rw [wp_join,w_call] at h
 obtain ⟨l,h1,_,h⟩ := h
 obtain ⟨a,b,c,d,rfl,h2,h3⟩ := h109 _ h1
 simp only [List.cons_append,List.nil_append] at h
 obtain ⟨v13,h⟩ := i1 h rfl
 rw [wp_ite] at h
 split at h
 · rw [wp_leaf] at h
   exact fin b c d h2 h3 h
 · rw [wp_leaf] at h
   exact fin l0 l1 l2 h0 hn h
theorem write_law152 {l0 l1 l2 l3 l4 l5 l6 l7 l8 : L} (h0 : ∀ r ∈ l2.asR,PE r) (hn : l2.asR.length ≤ 1000000)
   (h109 : ∀ o,F109 [l0,l1,l2,l7] = some o → ∃ a b c d,o = [a,b,c,d] ∧ (∀ r ∈ d.asR,PE r) ∧ d.asR.length ≤ 1000000)
   {o : List L} (h : F152 [l0,l1,l2,l3,l4,l5,l6,l7,l8] = some o) : ∃ a b c,o = [a,b,c] ∧ ∀ r ∈ c.asR,PE r := by
 have h := wp_of_out h
 have fin : ∀ x y z : L,(∀ r ∈ z.asR,PE r) → z.asR.length ≤ 1000000 → (Fir.op (.call 144 F144 [(.v 9),(.v 10),(.v 11),(.v 7),(.v 8)] 4 []) (.op (.call 130 F130 [(.v 13),(.v 14),(.v 15),(.v 7)] 4 []) (.leaf (.jump 0 [(.v 17),(.v 18),(.v 19)])))).wp [l0,l1,l2,l3,l4,l5,l6,l7,l8,x,y,z] (outA fun x => x = o) → ∃ a b c,o = [a,b,c] ∧ ∀ r ∈ c.asR,PE r := by
   intro x y z hz hzn h
   rw [w_call] at h
   obtain ⟨l,h1,_,h⟩ := h
   obtain ⟨a2,b2,c2,d2,rfl,h2⟩ := append_law (l0 := x) (l1 := y) (l2 := z) (l3 := l7) (l4 := l8) (fun r hr => (hz r hr).fr) hzn (show outO (fir135.den [x,y,z,l7,l8]) = some l from h1)
   simp only [List.cons_append,List.nil_append] at h
   have hD2 : (∀ r ∈ d2.asR,FR r) ∧ d2.asR.length ≤ 1000000 := by
    rcases h2 with h2 | ⟨s',q',p',r0,h5,h6,h2⟩
    · rw [h2]; exact ⟨fun r hr => (by cases hr),by simp⟩
    · rw [h2]
      refine ⟨fun r hr => ?_,by rw [List.length_set]; exact hzn⟩
      rcases mem_set hr with rfl | hr
      · exact ⟨_,_,_,rfl⟩
      · exact (hz r hr).fr
   rw [w_call] at h
   obtain ⟨l',h3,_,h⟩ := h
   obtain ⟨a3,b3,c3,d3,rfl,h4⟩ := sync_law (l0 := b2) (l1 := c2) (l2 := d2) (l3 := l7) hD2.1 hD2.2 h3
   rw [wp_leaf] at h
   cases h
   exact ⟨_,_,_,rfl,pend_fin hz h2 h4⟩
 unfold fir152 at h
 rw [wp_join,w_call] at h
 obtain ⟨l,h1,_,h⟩ := h
 obtain ⟨a,b,c,d,rfl,h2,h3⟩ := h109 _ h1
 simp only [List.cons_append,List.nil_append] at h
 obtain ⟨v13,h⟩ := i1 h rfl
 rw [wp_ite] at h
 split at h
 · rw [wp_leaf] at h
   exact fin b c d h2 h3 h
 · rw [wp_leaf] at h
   exact fin l0 l1 l2 h0 hn h
end
section
open Go.RowKit
namespace AI
theorem pe_of {r : List PV} (h : AC.oks c1 r) : PE r := by
 obtain ⟨q0,q1,q2,rfl⟩ := len3 (AC.oks_length h)
 obtain ⟨⟨s,rfl,_⟩,⟨b,rfl,_⟩,⟨p,rfl,hp,_⟩,_⟩ := (show AC.ok (.str 9) q0 ∧ AC.ok (.sl 2097152 [.int .u8 0 255]) q1 ∧ AC.ok (.sl 0 []) q2 ∧ AC.oks [] [] from h)
 have : p.length = 0 := by omega
 rw [List.eq_nil_of_length_eq_zero this]
 exact ⟨s,b,rfl⟩
theorem pe_to {r : List PV} (h : AC.oks c5 r) (hp : PE r) : AC.oks c1 r := by
 obtain ⟨s,b,rfl⟩ := hp
 obtain ⟨h1,h2,_,_⟩ := (show AC.ok (.str 9) (.sc (.string s)) ∧ AC.ok (.sl 2097152 [.int .u8 0 255]) (.sl b) ∧ AC.ok (.sl 1 c2) (.sl []) ∧ AC.oks [] [] from h)
 exact (show AC.ok (.str 9) (.sc (.string s)) ∧ AC.ok (.sl 2097152 [.int .u8 0 255]) (.sl b) ∧ AC.ok (.sl 0 []) (.sl []) ∧ AC.oks [] [] from ⟨h1,h2,⟨[],rfl,by simp,fun r hr => by cases hr⟩,trivial⟩)
theorem len9 {α : Type} : ∀ {r : List α},r.length = 9 → ∃ a b c d e f g h i,r = [a,b,c,d,e,f,g,h,i]
 | [a,b,c,d,e,f,g,h,i],_ => ⟨a,b,c,d,e,f,g,h,i,rfl⟩
theorem so138 : sm138.ok F138 := by
 intro ls hl hp
 obtain ⟨o,h1,h2,T,hT,hok⟩ := so138r ls hl hp
 obtain ⟨l0,l1,l2,l3,l4,l5,l6,l7,l8,rfl⟩ := len9 hl
 have b1 := hp.rw (2,some c1) (by simp [sm138])
 have a1 := hp.fs ⟨8,0,512⟩ (by simp [sm138])
 have a2 := hp.fs ⟨1,0,0⟩ (by simp [sm138])
 have a3 := hp.fs ⟨0,1,0⟩ (by simp [sm138])
 have a4 := hp.fs ⟨4,0,0⟩ (by simp [sm138])
 have a5 := hp.fs ⟨0,4,1⟩ (by simp [sm138])
 have a6 := hp.fs ⟨24,0,9⟩ (by simp [sm138])
 simp [Fa.holds,tmV] at a1 a2 a3 a4 a5 a6
 have h0 : ∀ r ∈ l2.asR,PE r := fun r hr => pe_of (b1 r hr)
 have h109 : ∀ o,F109 [l0,l1,l2,l7] = some o → ∃ a b c d,o = [a,b,c,d] ∧ (∀ r ∈ d.asR,PE r) ∧ d.asR.length ≤ 1000000 := fun o ho => by
   obtain ⟨o',k1,k2,T,kT,kok⟩ := so109 [l0,l1,l2,l7] rfl ⟨fun f hf => (by simp [sm109] at hf; rcases hf with rfl | rfl | rfl | rfl | rfl | rfl | rfl <;> simp [Fa.holds,tmV] <;> omega),fun x hx => (by simp [sm109] at hx; subst hx; exact b1),fun x hx => (by cases hx),fun x hx => (by cases hx)⟩
   rw [ho] at k1; cases k1
   obtain ⟨a,b,c,d,rfl⟩ := len4 k2
   refine ⟨a,b,c,d,rfl,?_⟩
   simp only [sm109,List.mem_cons,List.not_mem_nil,or_false] at kT
   rcases kT with rfl | rfl
   · have := kok.rw (7,none) (by simp)
     have this : d.asR = [] := this
     rw [this]; exact ⟨fun r hr => (by cases hr),by simp⟩
   · have q1 := kok.rw (7,some c1) (by simp)
     have q2 := kok.fs ⟨23,8,1⟩ (by simp)
     simp [Fa.holds,tmV] at q2
     exact ⟨fun r hr => pe_of (q1 r hr),by omega⟩
 obtain ⟨a,b,c,rfl,hPE⟩ := write_law138 h0 (by omega) h109 h1
 refine ⟨_,h1,rfl,?_⟩
 simp only [sm138r,List.mem_cons,List.not_mem_nil,or_false] at hT
 rcases hT with rfl | rfl
 · exact ⟨_,(show _ ∈ sm138.cases from List.mem_cons_self),hok⟩
 · refine ⟨_,(show _ ∈ sm138.cases from List.mem_cons_of_mem _ List.mem_cons_self),⟨hok.fs,fun x hx => ?_,hok.bs,hok.pr⟩⟩
   rw [List.mem_singleton.1 hx]
   intro r hr
   exact pe_to (hok.rw (11,some c5) (by simp) r hr) (hPE r hr)
theorem so152 : sm152.ok F152 := by
 intro ls hl hp
 obtain ⟨o,h1,h2,T,hT,hok⟩ := so152r ls hl hp
 obtain ⟨l0,l1,l2,l3,l4,l5,l6,l7,l8,rfl⟩ := len9 hl
 have b1 := hp.rw (2,some c1) (by simp [sm152])
 have a1 := hp.fs ⟨8,0,512⟩ (by simp [sm152])
 have a2 := hp.fs ⟨1,0,0⟩ (by simp [sm152])
 have a3 := hp.fs ⟨0,1,0⟩ (by simp [sm152])
 have a4 := hp.fs ⟨4,0,0⟩ (by simp [sm152])
 have a5 := hp.fs ⟨0,4,1⟩ (by simp [sm152])
 have a6 := hp.fs ⟨24,0,9⟩ (by simp [sm152])
 simp [Fa.holds,tmV] at a1 a2 a3 a4 a5 a6
 have h0 : ∀ r ∈ l2.asR,PE r := fun r hr => pe_of (b1 r hr)
 have h109 : ∀ o,F109 [l0,l1,l2,l7] = some o → ∃ a b c d,o = [a,b,c,d] ∧ (∀ r ∈ d.asR,PE r) ∧ d.asR.length ≤ 1000000 := fun o ho => by
   obtain ⟨o',k1,k2,T,kT,kok⟩ := so109 [l0,l1,l2,l7] rfl ⟨fun f hf => (by simp [sm109] at hf; rcases hf with rfl | rfl | rfl | rfl | rfl | rfl | rfl <;> simp [Fa.holds,tmV] <;> omega),fun x hx => (by simp [sm109] at hx; subst hx; exact b1),fun x hx => (by cases hx),fun x hx => (by cases hx)⟩
   rw [ho] at k1; cases k1
   obtain ⟨a,b,c,d,rfl⟩ := len4 k2
   refine ⟨a,b,c,d,rfl,?_⟩
   simp only [sm109,List.mem_cons,List.not_mem_nil,or_false] at kT
   rcases kT with rfl | rfl
   · have := kok.rw (7,none) (by simp)
     have this : d.asR = [] := this
     rw [this]; exact ⟨fun r hr => (by cases hr),by simp⟩
   · have q1 := kok.rw (7,some c1) (by simp)
     have q2 := kok.fs ⟨23,8,1⟩ (by simp)
     simp [Fa.holds,tmV] at q2
     exact ⟨fun r hr => pe_of (q1 r hr),by omega⟩
 obtain ⟨a,b,c,rfl,hPE⟩ := write_law152 h0 (by omega) h109 h1
 refine ⟨_,h1,rfl,?_⟩
 simp only [sm152r,List.mem_cons,List.not_mem_nil,or_false] at hT
 rcases hT with rfl | rfl
 · exact ⟨_,(show _ ∈ sm152.cases from List.mem_cons_self),hok⟩
 · refine ⟨_,(show _ ∈ sm152.cases from List.mem_cons_of_mem _ List.mem_cons_self),⟨hok.fs,fun x hx => ?_,hok.bs,hok.pr⟩⟩
   rw [List.mem_singleton.1 hx]
   intro r hr
   exact pe_to (hok.rw (11,some c5) (by simp) r hr) (hPE r hr)
end AI
end
section
set_option maxRecDepth 100000
open Go.RowKit
namespace AI
def sm141 : Summ := ⟨8,3,⟨[f 1 0 0,f 0 1 0,f 4 0 0,f 0 4 1,f 8 0 512,f 0 8 0,f 10 0 1,f 0 10 0,f 13 0 9000,f 0 13 0,f 20 0 9,f 0 20 0],[(2,some c1),(6,some c8)],[(5,false)],[]⟩,[⟨[f 25 0 0,f 0 25 0,f 28 0 0,f 0 28 0,f 32 0 0,f 0 32 0],[(10,none)],[],[]⟩,⟨[f 25 0 0,f 0 25 0,f 28 0 (-1),f 0 28 1,f 0 32 (-1),f 32 8 1,f 8 0 256],[(10,some c1)],[],[]⟩]⟩
def an141 : Ann := .e
theorem so141 : sm141.ok F141 := soK [(73,sm73),(56,sm56),(138,sm138)] [(73,F73),(56,F56),(138,F138)] an141 (by kernel_rfl) (by kernel_rfl) ⟨tbk rfl so73,tbk rfl so56,tbk rfl so138,trivial⟩
def sm149 : Summ := ⟨2,6,⟨[f 1 0 1,f 0 1 (-1),f 4 0 9000,f 0 4 (-9000)],[],[],[]⟩,[⟨[f 7 0 0,f 0 7 0,f 10 0 0,f 0 10 1,f 13 0 1,f 0 13 0,f 16 0 9000,f 0 16 0,f 20 0 1,f 0 20 0,f 23 0 1,f 0 23 0],[(6,some c7),(7,some c1)],[],[]⟩]⟩
def an149 : Ann := .e
theorem so149 : sm149.ok F149 := soK [(104,sm104),(35,sm35),(141,sm141)] [(104,F104),(35,F35),(141,F141)] an149 (by kernel_rfl) (by kernel_rfl) ⟨tbk rfl so104,tbk rfl so35,tbk rfl so141,trivial⟩
def sm150 : Summ := ⟨8,8,⟨[f 1 0 0,f 0 1 0,f 4 0 0,f 0 4 1,f 8 0 512,f 0 8 0,f 10 0 1,f 0 10 0,f 13 0 9000,f 0 13 0,f 20 0 9,f 0 20 0,f 23 0 1],[(2,some c1),(6,some c8),(7,some c3)],[(5,false)],[]⟩,[⟨[f 28 0 0,f 0 28 0,f 31 0 0,f 35 0 512,f 0 35 0,f 37 0 1,f 0 37 0,f 40 0 9000,f 0 40 0,f 47 0 9,f 0 47 0,f 4 31 0],[(11,some c1),(15,some c8)],[(14,false)],[]⟩]⟩
def an150 : Ann := .b (.e) (.b (.e) (.b (.l ⟨[],[⟨[f 0 133 0,f 136 0 0,f 0 136 0,f 139 0 0,f 143 0 512,f 0 143 0,f 4 139 0],[(47,some c1)],[],[]⟩],133,true,0,0⟩ (.b (.j [] [⟨[f 151 0 0,f 0 151 0,f 154 0 0,f 0 154 0,f 158 0 0,f 0 158 0],[(52,none)],[],[]⟩,⟨[f 151 0 0,f 0 151 0,f 154 0 (-1),f 0 154 1,f 158 0 256,f 0 158 (-1),f 139 0 (-1)],[(52,some c1)],[],[]⟩] (.e) (.e)) (.e))) (.e)))
theorem so150 : sm150.ok F150 := soK [(116,sm116),(114,sm114),(118,sm118),(74,sm74),(56,sm56),(138,sm138)] [(116,F116),(114,F114),(118,F118),(74,F74),(56,F56),(138,F138)] an150 (by kernel_rfl) (by kernel_rfl) ⟨tbk rfl so116,tbk rfl so114,tbk rfl so118,tbk rfl so74,tbk rfl so56,tbk rfl so138,trivial⟩
def sm151 : Summ := ⟨8,7,⟨[f 1 0 0,f 0 1 0,f 4 0 0,f 0 4 1,f 8 0 512,f 0 8 0,f 10 0 1,f 0 10 0,f 13 0 9000,f 0 13 0,f 20 0 9,f 0 20 0,f 22 0 7,f 0 22 0],[(2,some c1),(6,some c8)],[(5,false)],[]⟩,[⟨[f 25 0 0,f 0 25 0,f 28 0 0,f 0 28 1,f 32 0 512,f 0 32 0,f 34 0 1,f 0 34 0,f 37 0 9000,f 0 37 0,f 44 0 9,f 0 44 0],[(10,some c1),(14,some c8)],[(13,false)],[]⟩]⟩
def an151 : Ann := .b (.l ⟨[6],[⟨[f 0 28 0,f 31 0 0,f 0 31 0,f 34 0 0,f 38 0 512,f 0 38 0,f 40 0 1,f 0 40 0,f 43 0 9000,f 0 43 0,f 50 0 9,f 0 50 0,f 4 34 0],[(12,some c1),(16,some c8)],[(15,false)],[]⟩],28,true,0,6⟩ (.b (.b (.l ⟨[3],[⟨[f 0 58 0,f 61 0 1,f 0 61 0,f 64 0 9000,f 0 64 0,f 71 0 9,f 0 71 0],[(23,some c8)],[(22,false)],[]⟩],58,true,0,8⟩ (.b (.j [2] [⟨[f 79 0 1,f 0 79 0,f 82 0 9000,f 0 82 0,f 89 0 9,f 0 89 0],[(29,some c8)],[(28,false)],[]⟩] (.e) (.e)) (.e))) (.e)) (.e))) (.e)
def tb151 : Nat → Option Summ := tbl [(117,sm117),(113,sm113),(118,sm118),(56,sm56),(69,sm69),(138,sm138),(116,sm116),(99,sm99),(150,sm150)]
theorem ch151 : fcheck tb151 fir151 an151 sm151 [5] = true := by kernel_rfl
theorem so151 : sm151.ok F151 := fcheck_ok ch151 (callsOk (cs := [(117,F117),(113,F113),(118,F118),(56,F56),(69,F69),(138,F138),(116,F116),(99,F99),(150,F150)]) (by kernel_rfl) ⟨tbk rfl so117,tbk rfl so113,tbk rfl so118,tbk rfl so56,tbk rfl so69,tbk rfl so138,tbk rfl so116,tbk rfl so99,tbk rfl so150,trivial⟩)
def sm155 : Summ := ⟨7,8,⟨[f 1 0 0,f 0 1 0,f 4 0 0,f 0 4 1,f 8 0 512,f 0 8 0,f 10 0 1,f 0 10 0,f 13 0 9000,f 0 13 0,f 20 0 9,f 0 20 0],[(2,some c1),(6,some c8)],[(5,false)],[]⟩,[⟨[f 25 0 0,f 0 25 0,f 28 0 0,f 0 28 1,f 32 0 512,f 0 32 0,f 34 0 1,f 0 34 0,f 37 0 9000,f 0 37 0,f 44 0 9,f 0 44 0],[(10,some c1),(14,some c8)],[(13,false)],[]⟩]⟩
def an155 : Ann := .e
theorem so155 : sm155.ok F155 := soK [(120,sm120),(141,sm141),(56,sm56),(152,sm152)] [(120,F120),(141,F141),(56,F56),(152,F152)] an155 (by kernel_rfl) (by kernel_rfl) ⟨tbk rfl so120,tbk rfl so141,tbk rfl so56,tbk rfl so152,trivial⟩
end AI
end
section
set_option maxRecDepth 100000
open Go.RowKit
namespace AI
def sm153 : Summ := ⟨7,8,⟨[f 1 0 0,f 0 1 0,f 4 0 0,f 0 4 1,f 8 0 512,f 0 8 0,f 10 0 1,f 0 10 0,f 13 0 9000,f 0 13 0,f 20 0 9,f 0 20 0],[(2,some c1),(6,some c8)],[(5,false)],[]⟩,[⟨[f 25 0 0,f 0 25 0,f 28 0 0,f 0 28 1,f 32 0 512,f 0 32 0,f 34 0 1,f 0 34 0,f 37 0 9000,f 0 37 0,f 44 0 9,f 0 44 0],[(10,some c1),(14,some c8)],[(13,false)],[]⟩]⟩
def an153 : Ann := .b (.l ⟨[],[⟨[f 0 22 0],[],[],[]⟩],22,true,0,8⟩ (.b (.b (.e) (.b (.l ⟨[],[⟨[f 0 142 0,f 145 0 0,f 0 145 0,f 148 0 0,f 0 148 1,f 152 0 512,f 0 152 0],[(50,some c1)],[],[]⟩],142,true,0,5⟩ (.e)) (.e))) (.e))) (.e)
theorem so153 : sm153.ok F153 := soK [(56,sm56),(143,sm143),(72,sm72),(79,sm79),(126,sm126),(68,sm68),(152,sm152),(95,sm95),(129,sm129),(101,sm101),(118,sm118)] [(56,F56),(143,F143),(72,F72),(79,F79),(126,F126),(68,F68),(152,F152),(95,F95),(56,F56),(152,F152),(129,F129),(101,F101),(118,F118)] an153 (by kernel_rfl) (by kernel_rfl) ⟨tbk rfl so56,tbk rfl so143,tbk rfl so72,tbk rfl so79,tbk rfl so126,tbk rfl so68,tbk rfl so152,tbk rfl so95,tbk rfl so56,tbk rfl so152,tbk rfl so129,tbk rfl so101,tbk rfl so118,trivial⟩
end AI
end
section
set_option maxRecDepth 100000
open Go.RowKit
namespace AI
def sm156 : Summ := ⟨2,7,⟨[⟨4,0,8⟩],[(0,some [.int .i64 (-9223372036854775808) 9223372036854775807,.sl 9223372036854775807 c6,.int .i64 (-9223372036854775808) 9223372036854775807,.sl 9223372036854775807 [.int .u64 0 18446744073709551615]])],[],[]⟩,[⟨[⟨7,0,0⟩,⟨0,7,0⟩,⟨10,0,0⟩,⟨0,10,1⟩,⟨14,0,512⟩,⟨0,14,0⟩,⟨16,0,1⟩,⟨0,16,0⟩,⟨19,0,9000⟩,⟨0,19,0⟩,⟨26,0,9⟩,⟨0,26,0⟩],[(4,some c1),(8,some c8)],[(7,false)],[]⟩]⟩
def an156 : Ann := .b (.l ⟨[6],[⟨[f 0 25 0,f 28 0 0,f 0 28 0,f 31 0 0,f 0 31 1,f 35 0 512,f 0 35 0,f 37 0 1,f 0 37 0,f 40 0 9000,f 0 40 0,f 47 0 9,f 0 47 0],[(11,some c1),(15,some c8)],[(14,false)],[]⟩],25,true,0,7⟩ (.b (.e) (.b (.j [5] [⟨[f 52 0 0,f 0 52 0,f 55 0 0,f 0 55 1,f 59 0 512,f 0 59 0,f 61 0 1,f 0 61 0,f 64 0 9000,f 0 64 0,f 71 0 9,f 0 71 0],[(19,some c1),(23,some c8)],[(22,false)],[]⟩] (.b (.e) (.b (.l ⟨[6],[⟨[f 0 76 0,f 79 0 0,f 0 79 0,f 82 0 0,f 0 82 1,f 86 0 512,f 0 86 0,f 88 0 1,f 0 88 0,f 91 0 9000,f 0 91 0,f 98 0 9,f 0 98 0],[(28,some c1),(32,some c8)],[(31,false)],[]⟩],76,true,0,3⟩ (.e)) (.b (.e) (.b (.e) (.b (.l ⟨[6],[⟨[f 0 79 0,f 82 0 0,f 0 82 0,f 85 0 0,f 0 85 1,f 89 0 512,f 0 89 0,f 91 0 1,f 0 91 0,f 94 0 9000,f 0 94 0,f 101 0 9,f 0 101 0],[(29,some c1),(33,some c8)],[(32,false)],[]⟩],79,true,0,2⟩ (.e)) (.e)))))) (.e)) (.e)))) (.e)
def tb156 : Nat → Option Summ := tbl [(149,sm149),(2004,sm2004),(151,sm151),(150,sm150),(155,sm155),(153,sm153)]
theorem ch156 : fcheck tb156 fir156 an156 sm156 [5] = true := by kernel_rfl
theorem so156 : sm156.ok F156 := fcheck_ok ch156 (callsOk (cs := [(149,F149),(2004,F2004),(151,F151),(150,F150),(155,F155),(151,F151),(153,F153)]) (by kernel_rfl) ⟨tbk rfl so149,tbk rfl so2004,tbk rfl so151,tbk rfl so150,tbk rfl so155,tbk rfl so151,tbk rfl so153,trivial⟩)
end AI
end
section
set_option maxHeartbeats 4000000
open Go.RowKit Pl AI
attribute [local irreducible] Fir.wp
theorem st_of {q : PV} (h : AC.ok (.sl 8 c4) q) : ∃ l : List It,q = .sl (l.map itR) ∧ l.length ≤ 8 ∧ ∀ x ∈ l,0 ≤ x.key ∧ x.key ≤ 7 := by
 obtain ⟨rows,rfl,h1,h2⟩ := h
 obtain ⟨l,rfl,h3⟩ := its_of (rows := rows) h2
 rw [List.length_map] at h1
 exact ⟨l,rfl,by omega,fun x hx => (h3 x hx).1⟩
def stF (a0 a1 a2 a3 a4 a5 a6 a7 : List It) : Nat → List It
 | 0 => a0
 | 1 => a1
 | 2 => a2
 | 3 => a3
 | 4 => a4
 | 5 => a5
 | 6 => a6
 | 7 => a7
 | _ => []
theorem gens_of : ∀ {rows : List (List PV)},AC.rows c8 rows → ∃ l : List Gn,rows = l.map gnR ∧ ∀ g ∈ l,WG g
 | [],_ => ⟨[],rfl,fun x hx => by cases hx⟩
 | r :: rows,h => by
  obtain ⟨l,rfl,h3⟩ := gens_of (rows := rows) fun r hr => h r (List.mem_cons_of_mem _ hr)
  have h0 := h r List.mem_cons_self
  have hlen := AC.oks_length h0
  match r,hlen,h0 with
  | [q0,q1,q2,q3,q4,q5,q6,q7,q8,q9,q10,q11,q12,q13],_,h0 =>
   obtain ⟨⟨n0,rfl,-,-⟩,⟨n1,rfl,-,-⟩,⟨n2,rfl,-,-⟩,⟨n3,rfl,-,-⟩,k0,k1,k2,k3,k4,k5,k6,k7,⟨n12,rfl,-,-⟩,⟨n13,rfl,-,-⟩,_⟩ := h0
   obtain ⟨a0,rfl,b0,c0⟩ := st_of k0
   obtain ⟨a1,rfl,b1,c1⟩ := st_of k1
   obtain ⟨a2,rfl,b2,c2⟩ := st_of k2
   obtain ⟨a3,rfl,b3,c3⟩ := st_of k3
   obtain ⟨a4,rfl,b4,c4⟩ := st_of k4
   obtain ⟨a5,rfl,b5,c5⟩ := st_of k5
   obtain ⟨a6,rfl,b6,c6⟩ := st_of k6
   obtain ⟨a7,rfl,b7,c7⟩ := st_of k7
   refine ⟨⟨n0,n1,n2,n3,⟨stF a0 a1 a2 a3 a4 a5 a6 a7,n12,n13⟩⟩ :: l,rfl,fun x hx => ?_⟩
   rcases List.mem_cons.1 hx with rfl | hx
   · refine ⟨fun s => ?_,fun s x hx => ?_⟩
     · show (stF a0 a1 a2 a3 a4 a5 a6 a7 s).length ≤ 8
       unfold stF
       split <;> first | assumption | simp
     · have hx : x ∈ stF a0 a1 a2 a3 a4 a5 a6 a7 s := hx
       unfold stF at hx
       split at hx
       · exact c0 x hx
       · exact c1 x hx
       · exact c2 x hx
       · exact c3 x hx
       · exact c4 x hx
       · exact c5 x hx
       · exact c6 x hx
       · exact c7 x hx
       · cases hx
   · exact h3 x hx
theorem and7 (n : Int) : ∃ k : Int,binI .and .u64 n 7 = some (.i k) ∧ 0 ≤ k ∧ k ≤ 7 := by
 have := and_ok .u64 n (c := 7) (by omega) (by decide)
 exact ⟨_,rfl,this.1,this.2⟩
theorem disk_P (l0 l1 l2 : L) (h : AC.rows c1 l2.asR) (hn : l2.asR.length ≤ 512) : ∃ r : List (List PV),F18 [l0,l1,l2] = some [.r r] := by
 suffices h : ∃ o,Fo fir18 [l0,l1,l2] = some o ∧ ∃ r : List (List PV),o = [.r r] by
   obtain ⟨o,h1,r,rfl⟩ := h
   exact ⟨r,h1⟩
 refine outO_of_wp ?_
 unfold fir18
 repeat ((first | refine sN rfl ?_ | refine s_join ?_); (try dsimp only [At.ev,d1,d2,d3,d4,d5,d6,d7,d8,d9,e0]))
 refine wp_loop (I := fun a => ∃ (i : Nat) (d : List (List PV)),a = [.i i,.r d] ∧ i ≤ l2.asR.length ∧ d.length ≤ i ∧ rectB 3 d = true) (mu := fun a => match a with | [.i i,_] => l2.asR.length - i.toNat | _ => 0) ⟨0,[],rfl,by omega,by simp,rfl⟩ ?_
 rintro a ⟨i,d,rfl,e1,e2,e3⟩
 dsimp only [At.ev,d1,d2,d3,d4,d5,d6,d7,d8,d9,e0]
 repeat ((first | refine sN rfl ?_ | refine s_join ?_); (try dsimp only [At.ev,d1,d2,d3,d4,d5,d6,d7,d8,d9,e0]))
 refine s_ite (fun hc => ?_) (fun hc => ?_)
 rotate_left
 · exact s_leaf (s_leaf ⟨d,rfl⟩)
 have hc : (i : Int) < l2.asR.length := of_decide_eq_true hc
 have hi : i < l2.asR.length := by omega
 have hr := h _ (List.getElem_mem hi)
 have hlen := AC.oks_length hr
 have hat : l2.asR[((i : Int)).toNat]? = some l2.asR[i] := by rw [Int.toNat_natCast]; exact List.getElem?_eq_getElem hi
 refine s_row (r := l2.asR[i]) (Int.natCast_nonneg i) hat hlen ?_
 dsimp only [At.ev,d1,d2,d3,d4,d5,d6,d7,d8,d9,e0]
 generalize l2.asR[i] = r at *
 match r,hlen,hr with
 | [q0,q1,q2],_,hr =>
   obtain ⟨⟨s,rfl,-⟩,⟨b,rfl,-,-⟩,⟨c,rfl,hcl,-⟩,_⟩ := hr
   have hc0 : c = [] := List.eq_nil_of_length_eq_zero (by omega)
   subst hc0
   repeat ((first | refine sN rfl ?_ | refine s_join ?_); (try dsimp only [At.ev,d1,d2,d3,d4,d5,d6,d7,d8,d9,e0]))
   refine wp_loop (I := fun a => a = [.i 0,.r []]) (mu := fun _ => 0) rfl ?_
   rintro a rfl
   dsimp only [At.ev,d1,d2,d3,d4,d5,d6,d7,d8,d9,e0]
   repeat ((first | refine sN rfl ?_ | refine s_join ?_); (try dsimp only [At.ev,d1,d2,d3,d4,d5,d6,d7,d8,d9,e0]))
   refine s_else rfl (s_leaf ?_)
   show Fir.wp (Fir.op _ _) [l0,l1,l2,.i (l2.asR.length : Int),.i (i : Int),.r d,.b (decide ((i : Int) < l2.asR.length)),.c [.sc (.string s),.sl b,.sl []],.s s,.r b,.r [],.r []] _
   repeat ((first | refine sN rfl ?_ | refine s_join ?_); (try dsimp only [At.ev,d1,d2,d3,d4,d5,d6,d7,d8,d9,e0]))
   refine s_app ⟨?_,?_,e3,rfl⟩ ?_
   · show d.length + 1 ≤ 9223372036854775807
     omega
   · show (d.length + 1) * 64 ≤ 140737488355328
     omega
   dsimp only [At.ev,d1,d2,d3,d4,d5,d6,d7,d8,d9,e0]
   repeat ((first | refine sN rfl ?_ | refine s_join ?_); (try dsimp only [At.ev,d1,d2,d3,d4,d5,d6,d7,d8,d9,e0]))
   refine s_leaf ⟨⟨i + 1,d ++ [[.sc (.string s),.sl b,.sl []]],?_,by omega,?_,?_⟩,?_⟩
   · show [L.i (IntKind.wrap .i64 ((i : Int) + 1)),L.r (d ++ [[.sc (.string s),.sl b,.sl []]])] = _
     rw [wrap_up (by omega)]
   · rw [List.length_append]; simp; omega
   · rw [rectB_iff] at e3 ⊢
     intro r hr
     rcases List.mem_append.1 hr with hr | hr
     · exact e3 r hr
     · rw [List.mem_singleton.1 hr]; rfl
   · show l2.asR.length - (IntKind.wrap .i64 ((i : Int) + 1)).toNat < l2.asR.length - i
     rw [wrap_up (by omega)]; omega
theorem scan_mode {l0 l1 : Int} {gens : List Gn} (hv : SlotV l0 l1 gens) {key : Int} {g : Gn} {x : It} : ∀ k,scanG gens key k = some (g,x) → 1 ≤ g.mode
 | 0,h => by cases h
 | k + 1,h => by
  rw [scanG] at h
  split at h
  · rename_i g' hg
    split at h
    · rename_i x' hx
      cases h
      obtain ⟨hk,rfl⟩ := List.getElem?_eq_some_iff.1 hg
      exact (hv.2.2.2.1 k hk hk).1.1.2.2.2.2.1
    · exact scan_mode hv k h
  · cases h
theorem power_law (l0 lk : L) (h : AC.rows [.int .i64 (-9223372036854775808) 9223372036854775807,.sl 9223372036854775807 c6,.int .i64 (-9223372036854775808) 9223372036854775807,.sl 9223372036854775807 [.int .u64 0 18446744073709551615]] l0.asR) : F196 [l0,lk] = some [.b true] := by
 obtain ⟨o,h1,h2,T,hT,h3⟩ := so156 [l0,.i 8] rfl ⟨fun f hf => by
   simp [sm156] at hf
   subst hf; simp [Fa.holds,tmV,asI_i],fun x hx => by
   simp [sm156] at hx
   subst hx; exact h,fun x hx => (by cases hx),fun x hx => (by cases hx)⟩
 have hT := List.mem_singleton.1 hT
 subst hT
 match o,h2 with
 | [m0,m1,m2,m3,m4,m5,m6],_ =>
 have r4 : AC.rows c1 m2.asR := h3.rw (4,some c1) (by simp)
 have r8 : AC.rows c8 m6.asR := h3.rw (8,some c8) (by simp)
 have f4 := h3.fs ⟨14,0,512⟩ (by simp)
 have f8 := h3.fs ⟨26,0,9⟩ (by simp)
 simp [Fa.holds,tmV] at f4 f8
 obtain ⟨gens,hg,hw⟩ := gens_of r8
 have hn : gens.length ≤ 9 := by rw [hg,List.length_map] at f8; omega
 obtain ⟨key,hk,k0,k7⟩ := and7 lk.asI
 refine eq_of_wp ?_
 unfold fir196
 refine s_call h1 rfl rfl ?_
 dsimp only [At.ev,d1,d2,d3,d4,d5,d6,d7,d8,d9,e0]
 refine s_bi hk ?_
 dsimp only [At.ev,d1,d2,d3,d4,d5,d6,d7,d8,d9,e0]
 by_cases hv : SlotV m3.asI m4.asI gens
 rotate_left
 · refine s_call (slotFind_no hg hw (by omega) hv) rfl rfl ?_
   dsimp only [plc]
   dsimp only [At.ev,d1,d2,d3,d4,d5,d6,d7,d8,d9,e0]
   repeat ((first | refine sN rfl ?_ | refine s_join ?_); (try dsimp only [At.ev,d1,d2,d3,d4,d5,d6,d7,d8,d9,e0]))
   refine s_if rfl (s_call awake_law rfl rfl (s_leaf ?_))
   rfl
 have hf : F115 [m3,m4,m5,m6,.i key] = some (plc (scanG gens key gens.length)) := slotFind_R hg hw (by omega) hv
 cases hs : scanG gens key gens.length with
 | none =>
   rw [hs] at hf
   refine s_call hf rfl rfl ?_
   dsimp only [plc]
   dsimp only [At.ev,d1,d2,d3,d4,d5,d6,d7,d8,d9,e0]
   repeat ((first | refine sN rfl ?_ | refine s_join ?_); (try dsimp only [At.ev,d1,d2,d3,d4,d5,d6,d7,d8,d9,e0]))
   refine s_if rfl (s_call awake_law rfl rfl (s_leaf ?_))
   rfl
 | some p =>
   obtain ⟨g,x⟩ := p
   rw [hs] at hf
   refine s_call hf rfl rfl ?_
   dsimp only [plc]
   dsimp only [At.ev,d1,d2,d3,d4,d5,d6,d7,d8,d9,e0]
   repeat ((first | refine sN rfl ?_ | refine s_join ?_); (try dsimp only [At.ev,d1,d2,d3,d4,d5,d6,d7,d8,d9,e0]))
   refine s_else rfl ?_
   obtain ⟨fr,hfr⟩ := disk_P m0 (.i 0) m2 r4 (by omega)
   refine s_call (arm_P _ _ _) rfl rfl ?_
   dsimp only [At.ev,d1,d2,d3,d4,d5,d6,d7,d8,d9,e0]
   refine s_call hfr rfl rfl ?_
   dsimp only [At.ev,d1,d2,d3,d4,d5,d6,d7,d8,d9,e0]
   refine s_call (slot_P hg (by omega)) rfl rfl ?_
   dsimp only [At.ev,d1,d2,d3,d4,d5,d6,d7,d8,d9,e0]
   refine s_bi hk ?_
   dsimp only [At.ev,d1,d2,d3,d4,d5,d6,d7,d8,d9,e0]
   refine s_call (new_P _ _) rfl rfl ?_
   dsimp only [At.ev,d1,d2,d3,d4,d5,d6,d7,d8,d9,e0]
   refine s_call (step1_P hw hv k0 (by omega) hs) rfl rfl ?_
   dsimp only [At.ev,d1,d2,d3,d4,d5,d6,d7,d8,d9,e0]
   refine s_call (slot_P hg (by omega)) rfl rfl ?_
   dsimp only [At.ev,d1,d2,d3,d4,d5,d6,d7,d8,d9,e0]
   refine s_call (step2_P hw hv) rfl rfl ?_
   dsimp only [At.ev,d1,d2,d3,d4,d5,d6,d7,d8,d9,e0]
   repeat ((first | refine sN rfl ?_ | refine s_join ?_); (try dsimp only [At.ev,d1,d2,d3,d4,d5,d6,d7,d8,d9,e0]))
   refine s_if rfl ?_
   repeat ((first | refine sN rfl ?_ | refine s_join ?_); (try dsimp only [At.ev,d1,d2,d3,d4,d5,d6,d7,d8,d9,e0]))
   refine s_if rfl ?_
   repeat ((first | refine sN rfl ?_ | refine s_join ?_); (try dsimp only [At.ev,d1,d2,d3,d4,d5,d6,d7,d8,d9,e0]))
   refine s_if rfl ?_
   repeat ((first | refine sN rfl ?_ | refine s_join ?_); (try dsimp only [At.ev,d1,d2,d3,d4,d5,d6,d7,d8,d9,e0]))
   have hm : decide (1 ≤ g.mode) = true := decide_eq_true (scan_mode hv _ hs)
   refine s_if hm (s_call awake_law rfl rfl (s_leaf (s_leaf ?_)))
   rfl
end
section
set_option maxHeartbeats 1000000
attribute [local irreducible] F196
open Go.ChangeShapes Go.WideShapes Go.ChangeAt Go.RowKit AI
theorem ownK : ownKnob Tryz.prog.godebug = none := by kernel_rfl
def cAct : List AC := [.int .i64 (-9223372036854775808) 9223372036854775807,.sl 9223372036854775807 c6,.int .i64 (-9223372036854775808) 9223372036854775807,.sl 9223372036854775807 [.int .u64 0 18446744073709551615]]
section
variable {H : Type} {enc : TypeId × Value → H} {w : World} {base : Nat} {spare : Nat → Bool} {held : Bool}
def M0 : Bad := fun _ => False
theorem fl_bytes : Fl enc Tryz.prog w base spare held M0 71 (.sl 9223372036854775807 [.int .u8 0 255]) :=
 fl_slice Tryz.underlying71 (by kernel_rfl) (by decide) (fun _ h => h) (el_one (fl_int Tryz.underlying5 fun _ => bounds_u8))
theorem fl_keys : Fl enc Tryz.prog w base spare held M0 81 (.sl 9223372036854775807 [.int .u64 0 18446744073709551615]) :=
 fl_slice Tryz.underlying81 (by kernel_rfl) (by decide) (fun _ h => h) (el_one (fl_int Tryz.underlying22 fun _ => bounds_u64))
theorem el_needle : El enc Tryz.prog w base spare held M0 73 4 c6 :=
 el_four Tryz.underlying73 (by kernel_rfl) rfl rfl rfl rfl (by kernel_rfl) (by kernel_rfl) (by kernel_rfl) (by kernel_rfl) (fl_int Tryz.underlying22 fun _ => bounds_u64) (fl_int Tryz.underlying23 fun _ => bounds_u32) (fl_bool Tryz.underlying4) fl_bytes
theorem fl_needles : Fl enc Tryz.prog w base spare held M0 80 (.sl 9223372036854775807 c6) :=
 fl_slice Tryz.underlying80 (by kernel_rfl) (by decide) (fun _ h => h) el_needle
theorem el_act : El enc Tryz.prog w base spare held M0 83 4 cAct :=
 el_four Tryz.underlying83 (by kernel_rfl) rfl rfl rfl rfl (by kernel_rfl) (by kernel_rfl) (by kernel_rfl) (by kernel_rfl) (fl_int Tryz.underlying3 fun _ => bounds_i64) fl_needles (fl_int Tryz.underlying3 fun _ => bounds_i64) fl_keys
theorem fl_acts : Fl enc Tryz.prog w base spare held M0 30 (.sl 9223372036854775807 cAct) :=
 fl_slice Tryz.underlying30 (by kernel_rfl) (by decide) (fun _ h => h) el_act
end
theorem calls7 {w : World} {v0 : Value} {rows : List (List PV)} {key : Int} (h0 : RP M0 w (.sl rows) v0) (hr : AC.rows cAct rows) :
   Calls Tryz.prog 7 #[v0,.int .u64 key] w fun e w' => e = .returned (.bool true) ∧ Below w.heap.size w w' := by
 have eF : s196.F = F196 := rfl
 have hp : F196 [.r rows,.i key] = some [.b true] := power_law (.r rows) (.i key) hr
 have hA := ok196 [.r rows,.i key] [.b true] rfl (by rw [eF]; exact hp) rfl
 have hb : bad M0 ⟨fun _ => none,[]⟩ = M0 := by
   funext g
   simp [bad,M0]
 refine (hA.call w M0 (fun _ => none) #[v0,.int .u64 key] (fun g h => h.elim) (fun n x h => by cases h) (fun n x g h => by cases h) (fun n m x y g h => by cases h) (fun n b h => by simp [s196] at h) rfl (fun i x hi => ?_)).mono ?_
 · match i with
   | 0 =>
    cases hi
    refine ⟨v0,rfl,?_⟩
    show RP (bad M0 _) w (.sl rows) v0
    rw [hb]; exact h0
   | 1 =>
    cases hi
    refine ⟨_,rfl,?_⟩
    show RP (bad M0 _) w (.sc (.int .u64 key)) _
    exact .sc rfl
   | i + 2 => simp [s196] at hi
 · rintro e w' ⟨v,E',rfl,hF,-,-,hv⟩
   have hv : RP _ w' (.sc (.bool true)) v := hv
   cases hv
   exact ⟨rfl,hF.os,hF.tape,hF.output,hF.size,fun k hk => hF.block k hk (fun ⟨n,x,h,_⟩ => by cases h)⟩
end
section
set_option maxHeartbeats 4000000
set_option maxRecDepth 100000
open Go.ChangeShapes Go.WideShapes Go.ChangeAt Go.RowKit AI
theorem laidOut7 : laidOutB Tryz.prog = true := by kernel_rfl
def laid5 : List (String × DataW Unit) := Rows.readerPowerRow.laid
theorem lifted_of (wit : ∀ (os : Os) (H : Type) (enc : TypeId × Value → H),∃ (w : World) (tape : Tape) (i : Input),w.os = os ∧ (w.forCall tape i).Shaped Tryz.prog ∧ i.vars = [] ∧ Input.okWide Tryz.prog (w.forCall tape i) .any w.heap.size 7 i ∧
   ((Rows.readerPowerSpec.pre enc Tryz.prog Tryz.f7 [] false (w.forCall tape i).memory i.args ∧ laidMetH Tryz.prog laid5 (w.forCall tape i).memory) ∧ sizedMet enc Tryz.prog Tryz.f7 (OpenSpec.ofChange Rows.readerPowerSpec) false (w.forCall tape i).memory i.args) ∧ Assume.holds {} Tryz.prog (lone (Frame.enter Tryz.prog 7 i.args .normal) [] (w.forCall tape i)))
  (os : Os) (started : os.Started) (H : Type) (enc : TypeId × Value → H) :
  ReturnsInHanded {} Tryz.checked os 7 .any (fun w args => (Rows.readerPowerSpec.pre enc Tryz.prog Tryz.f7 [] false w args ∧ laidMetH Tryz.prog laid5 w) ∧ sizedMet enc Tryz.prog Tryz.f7 (OpenSpec.ofChange Rows.readerPowerSpec) false w args)
   (Rows.readerPowerSpec.post enc Tryz.prog Tryz.f7 false true false false) := by
 refine returnsInHanded_of_change_and (C := Tryz.checked) (X := fun w _ => laidMetH Tryz.prog laid5 w) (fun _ _ _ hh h => h.of_heap hh) ownK started (by kernel_rfl) Tryz.func7 (wit os H enc) ?_
 intro W base args ds gs before hval0 hW _ _ hL _
 have hval : ∀ (j : Nat) t v,Tryz.f7.params[j]? = some t → args[j]? = some v → Value.okWide Tryz.prog W .any base t v := hval0
 have hW' := hW
 obtain ⟨p,q,hA0,hV,rfl,hfz,hnd⟩ := hW
 have hA : DataW.TrodAll enc Tryz.prog W 0 (fun _ => true) true Tryz.f7.params.toList args.toList ds p := hA0
 rw [Tryz.params7] at hA hval
 obtain ⟨v0,vs0,d0,ds0,p0,q0,hargs,rfl,rfl,h0,r0⟩ := trodAll_cons hA
 obtain ⟨v1,vs1,d1,ds1,p1,q1,rfl,rfl,rfl,h1,r1⟩ := trodAll_cons r0
 obtain ⟨rfl,rfl,rfl⟩ := trodAll_nil r1
 obtain rfl : args = #[v0,v1] := by cases args; simp_all
 obtain ⟨rfl,rfl⟩ := trodVars_none hV
 obtain ⟨a0,len0,cap0,rfl⟩ := okWide_slice Tryz.underlying30 (hval 0 30 v0 rfl rfl)
 obtain ⟨key,rfl,rfl,rfl,w1⟩ := open_int Tryz.underlying22 (hval 1 22 v1 rfl rfl) h1
 have k0 := h0
 have lt0 : ∀ x ∈ p0,x.block < W.heap.size := by obtain ⟨m,hm⟩ := k0; exact DataW.trod_lt m _ _ _ hm
 obtain ⟨fuel,hf⟩ := h0
 obtain ⟨v,pv,e1,⟨rows,rfl,-,hr⟩,hR⟩ := fl_acts _ _ _ hf
 have e1 : [Value.slice a0 len0 cap0] = [v] := e1
 cases e1
 clear hA0 hval0
 refine (calls7 (key := key) hR hr).mono fun e W' ⟨he,bel⟩ => ?_
 subst he
 exact ⟨_,rfl,_,_,_,[],_,[],hW',trodAll_mk1 (shut_bool Tryz.underlying4 _),(trodAll_cons_mk (Below.trod laidOut7 (by kernel_rfl) (of_decide_eq_true (by kernel_rfl)) k0 bel lt0) (trodAll_cons_mk (shut_int Tryz.underlying22 w1) trodAll_mk0)),rfl,bel.frame _,fun h => by cases h⟩
end
end Go.Proofs.YtndegphojkiblaaGreatDoor
