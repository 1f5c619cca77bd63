/- Towards the last file's theorem: part 18. -/
import Derived.Test.YtndegphojkiblaaGreatDoorG17
set_option linter.unusedSimpArgs false
set_option linter.unusedVariables false
namespace Go.Proofs.YtndegphojkiblaaGreatDoor
section
open Go.RowKit
namespace AI
def fLi (x y : Li) (c : Int) : Fa := ⟨x.1,y.1,c + y.2 - x.2⟩
theorem fLi_ok {τ : List L} {x y : Li} {c : Int} (h : liV τ x - liV τ y ≤ c) : (fLi x y c).holds τ := by
 unfold Fa.holds fLi; unfold liV at h; simp only; omega
def cant (fs : List Fa) (x y : Li) (c : Int) : Bool := match bndL fs y x with
 | some d => decide (d + c < 0)
 | none => false
theorem cant_ok {fs : List Fa} {τ : List L} (hf : ∀ f ∈ fs,f.holds τ) {x y : Li} {c : Int} (h : cant fs x y c = true) (h1 : liV τ x - liV τ y ≤ c) : False := by
 unfold cant at h
 split at h
 · rename_i d hd
   have := bndL_ok hf hd
   simp at h; omega
 · cases h
def cmpFs (fs : List Fa) (op : BinOp) (x y : Li) (r : Bool) : List (Li × Li × Int) := match op,r with
 | .eql,true => [(x,y,0),(y,x,0)]
 | .neq,false => [(x,y,0),(y,x,0)]
 | .eql,false => if leL fs x y 0 then [(x,y,-1)] else if leL fs y x 0 then [(y,x,-1)] else []
 | .neq,true => if leL fs x y 0 then [(x,y,-1)] else if leL fs y x 0 then [(y,x,-1)] else []
 | .lss,true => [(x,y,-1)]
 | .lss,false => [(y,x,0)]
 | .leq,true => [(x,y,0)]
 | .leq,false => [(y,x,-1)]
 | .gtr,true => [(y,x,-1)]
 | .gtr,false => [(x,y,0)]
 | .geq,true => [(y,x,0)]
 | .geq,false => [(x,y,-1)]
 | _,_ => []
theorem cmpFs_ok {fs : List Fa} {τ : List L} (hf : ∀ f ∈ fs,f.holds τ) {op : BinOp} {x y : Li} {r : Bool} (h : cmpV op (liV τ x) (liV τ y) = r) : ∀ z ∈ cmpFs fs op x y r,liV τ z.1 - liV τ z.2.1 ≤ z.2.2 := by
 have ne : liV τ x ≠ liV τ y → ∀ z ∈ (if leL fs x y 0 = true then [(x,y,(-1 : Int))] else if leL fs y x 0 = true then [(y,x,-1)] else []),liV τ z.1 - liV τ z.2.1 ≤ z.2.2 := fun hne z hz => by
  split at hz
  · rename_i h1
    have := leL_ok hf h1
    rw [List.mem_singleton.1 hz]; simp only; omega
  · split at hz
    · rename_i h1
      have := leL_ok hf h1
      rw [List.mem_singleton.1 hz]; simp only; omega
    · cases hz
 have eq : liV τ x = liV τ y → ∀ z ∈ [(x,y,(0 : Int)),(y,x,0)],liV τ z.1 - liV τ z.2.1 ≤ z.2.2 := fun he z hz => by
  simp only [List.mem_cons,List.not_mem_nil,or_false] at hz
  rcases hz with rfl | rfl <;> simp only <;> omega
 intro z hz
 cases op <;> cases r <;> simp only [cmpFs,List.not_mem_nil] at hz <;> simp only [cmpV,decide_eq_true_eq,decide_eq_false_iff_not] at h
 case eql.true => exact eq h z hz
 case eql.false => exact ne h z hz
 case neq.true => exact ne h z hz
 case neq.false => exact eq (by omega) z hz
 all_goals (rw [List.mem_singleton.1 hz]; simp only; omega)
def AS.setB (S : AS) (c : At) (t : Bool) : AS := match c with
 | .v i => match S.env[i]? with
  | some g => { S with bd := (g,.con t) :: S.bd }
  | none => S
 | _ => S
def AS.assume (S : AS) (c : At) (t : Bool) : Option AS := match S.bo c with
 | some (.con b) => if b == t then some S else none
 | some (.cmp op x y p) =>
  let zs := cmpFs S.fs op x y (p == t)
  if zs.any (fun z => cant S.fs z.1 z.2.1 z.2.2) then none else some { (S.setB c t) with fs := zs.map (fun z => fLi z.1 z.2.1 z.2.2) ++ S.fs }
 | none => some (S.setB c t)
theorem Ga.setB {S : AS} {τ ρ : List L} (h : Ga S τ ρ) {c : At} {t : Bool} (ht : (c.ev ρ).asB = t) : Ga (S.setB c t) τ ρ := by
 cases c with
 | v i =>
  rw [h.ev] at ht
  simp only [AS.setB]
  cases hg : S.env[i]? with
  | none => exact h
  | some g =>
   rw [hg] at ht
   have hbd : ∀ x ∈ (g,BD.con t) :: S.bd,x.1 < S.n ∧ x.2.in S.n = true ∧ (at' τ x.1).asB = x.2.val τ := fun x hx => by
    rcases List.mem_cons.1 hx with rfl | hx
    · exact ⟨h.lt g (List.mem_of_getElem? hg),rfl,ht⟩
    · exact h.bd x hx
   exact ⟨h.n,h.env,h.lt,h.fs,h.rw,h.cl,hbd,h.al,h.ll,h.sm,h.pr⟩
 | _ => exact h
theorem setB_fs (S : AS) (c : At) (t : Bool) : (S.setB c t).n = S.n ∧ (S.setB c t).env = S.env ∧ (S.setB c t).rw = S.rw ∧ (S.setB c t).cl = S.cl := by
 cases c with
 | v i => simp only [AS.setB]; cases S.env[i]? <;> exact ⟨rfl,rfl,rfl,rfl⟩
 | _ => exact ⟨rfl,rfl,rfl,rfl⟩
theorem cmpFs_in {fs : List Fa} {op : BinOp} {x y : Li} {r : Bool} {z : Li × Li × Int} (hz : z ∈ cmpFs fs op x y r) : (z.1 = x ∧ z.2.1 = y) ∨ (z.1 = y ∧ z.2.1 = x) := by
 have e : ∀ l : List (Li × Li × Int),(∀ w ∈ l,(w.1 = x ∧ w.2.1 = y) ∨ (w.1 = y ∧ w.2.1 = x)) → z ∈ l → (z.1 = x ∧ z.2.1 = y) ∨ (z.1 = y ∧ z.2.1 = x) := fun l h hz => h z hz
 have s1 : ∀ c,∀ w ∈ [(x,y,(c : Int))],(w.1 = x ∧ w.2.1 = y) ∨ (w.1 = y ∧ w.2.1 = x) := fun c w hw => by rw [List.mem_singleton.1 hw]; exact .inl ⟨rfl,rfl⟩
 have s2 : ∀ c,∀ w ∈ [(y,x,(c : Int))],(w.1 = x ∧ w.2.1 = y) ∨ (w.1 = y ∧ w.2.1 = x) := fun c w hw => by rw [List.mem_singleton.1 hw]; exact .inr ⟨rfl,rfl⟩
 have s3 : ∀ w ∈ [(x,y,(0 : Int)),(y,x,0)],(w.1 = x ∧ w.2.1 = y) ∨ (w.1 = y ∧ w.2.1 = x) := fun w hw => by
  rcases List.mem_cons.1 hw with rfl | hw
  · exact .inl ⟨rfl,rfl⟩
  · exact s2 _ w hw
 have s4 : ∀ w ∈ (if leL fs x y 0 = true then [(x,y,(-1 : Int))] else if leL fs y x 0 = true then [(y,x,-1)] else []),(w.1 = x ∧ w.2.1 = y) ∨ (w.1 = y ∧ w.2.1 = x) := fun w hw => by
  split at hw
  · exact s1 _ w hw
  · split at hw
    · exact s2 _ w hw
    · cases hw
 cases op <;> cases r <;> simp only [cmpFs,List.not_mem_nil] at hz <;> first
  | exact s1 _ z hz
  | exact s2 _ z hz
  | exact s3 z hz
  | exact s4 z hz
theorem Ga.assume {S : AS} {τ ρ : List L} (h : Ga S τ ρ) {c : At} {t : Bool} (ht : (c.ev ρ).asB = t) : ∃ S',S.assume c t = some S' ∧ S'.env = S.env ∧ Ga S' τ ρ := by
 have hf : ∀ f ∈ S.fs,f.holds τ := fun f hf => h.holds hf
 unfold AS.assume
 split
 · rename_i b hb
   have := h.bo hb
   rw [ht] at this
   have this : t = b := this
   subst this
   exact ⟨S,by simp,rfl,h⟩
 · rename_i op x y p hb
   have hv := h.bo hb
   rw [ht] at hv
   have hv : t = (cmpV op (liV τ x) (liV τ y) == p) := hv
   have hcv : cmpV op (liV τ x) (liV τ y) = (p == t) := by
    rw [hv]; cases cmpV op (liV τ x) (liV τ y) <;> cases p <;> rfl
   have hz := cmpFs_ok hf hcv
   have hany : (cmpFs S.fs op x y (p == t)).any (fun z => cant S.fs z.1 z.2.1 z.2.2) = false := by
    rw [List.any_eq_false]
    intro z hm hc
    exact cant_ok hf hc (hz z hm)
   simp only [hany,Bool.false_eq_true,if_false]
   obtain ⟨e1,e2,e3,e4⟩ := setB_fs S c t
   have hin : BD.in S.n (.cmp op x y p) = true := by
    cases c with
    | v i =>
      simp only [AS.bo] at hb
      cases hg : S.env[i]? with
      | none => rw [hg] at hb; cases hb
      | some g => rw [hg] at hb; exact (h.bd _ (lk_mem hb)).2.1
    | b => cases hb
    | _ => cases hb
   simp only [BD.in,Bool.and_eq_true] at hin
   refine ⟨_,rfl,e2,?_⟩
   have hB := h.setB ht
   have hfs : ∀ f ∈ (cmpFs S.fs op x y (p == t)).map (fun z => fLi z.1 z.2.1 z.2.2) ++ S.fs,f.ok τ := fun f hm => by
    rcases List.mem_append.1 hm with hm | hm
    · obtain ⟨z,hzm,rfl⟩ := List.mem_map.1 hm
      refine ⟨?_,fLi_ok (hz z hzm)⟩
      rcases cmpFs_in hzm with ⟨a1,a2⟩ | ⟨a1,a2⟩ <;> simp only [Fa.in,fLi,a1,a2,h.n,hin.1,hin.2,Bool.and_self]
    · exact h.fs f hm
   exact ⟨hB.n,hB.env,hB.lt,hfs,hB.rw,hB.cl,hB.bd,hB.al,hB.ll,hB.sm,hB.pr⟩
 · exact ⟨_,rfl,(setB_fs S c t).2.1,h.setB ht⟩
def AS.tr (S : AS) (ats : List At) (t : Nat) : Option Li := match t with
 | 0 => some (0,0)
 | t + 1 => match ats[t / 3]? with
  | none => some (0,0)
  | some x => if t % 3 = 0 then some (S.li x) else if t % 3 = 1 then some (S.le x) else S.ls x
theorem Ga.tr {S : AS} {τ ρ : List L} (h : Ga S τ ρ) {ats : List At} {t : Nat} {x : Li} (hx : S.tr ats t = some x) : liV τ x = tmV (ats.map (At.ev ρ)) t ∧ tmIn τ.length x.1 = true := by
 cases t with
 | zero => cases hx; exact ⟨by simp [liV,tmV_zero],rfl⟩
 | succ t =>
  simp only [AS.tr] at hx
  simp only [tmV,List.getElem?_map]
  cases ha : ats[t / 3]? with
  | none => rw [ha] at hx; cases hx; refine ⟨?_,rfl⟩; simp only [liV,tmV_zero,Option.map_none,Option.getD_none,L.asI,L.asR,L.asS]; split <;> (try split) <;> rfl
  | some y =>
   rw [ha] at hx
   simp only [Option.map_some,Option.getD_some] at hx ⊢
   split at hx
   · rename_i h0
     cases hx
     rw [if_pos h0]; exact ⟨(h.li y).symm,h.li_in y⟩
   · rename_i h0
     rw [if_neg h0]
     split at hx
     · rename_i h1
       cases hx
       rw [if_pos h1]; exact ⟨(h.le y).symm,h.le_in y⟩
     · rename_i h1
       rw [if_neg h1]
       exact ⟨(h.ls hx).symm,h.ls_in hx⟩
structure Tell where
 fs : List Fa := []
 rw : List (Nat × RS) := []
 bs : List (Nat × Bool) := []
 pr : List (Nat × List Nat) := []
deriving Inhabited
structure Tell.ok (T : Tell) (vs : List L) : Prop where
 fs : ∀ f ∈ T.fs,f.holds vs
 rw : ∀ x ∈ T.rw,rsOk x.2 (at' vs x.1).asR
 bs : ∀ x ∈ T.bs,(at' vs x.1).asB = x.2
 pr : ∀ x ∈ T.pr,Prp x.1 (x.2.map (at' vs))
def AS.gids (S : AS) (ats : List At) : List Nat → Option (List Nat)
 | [] => some []
 | p :: ps => match ats[p]? with
  | some (.v i) => match S.env[i]?,S.gids ats ps with
   | some g,some gs => some (g :: gs)
   | _,_ => none
  | _ => none
def hasP (id : Nat) (gs : List Nat) : List (Nat × List Nat) → Bool
 | [] => false
 | (i,l) :: r => if i == id && l == gs then true else hasP id gs r
theorem hasP_mem {id : Nat} {gs : List Nat} : ∀ {l : List (Nat × List Nat)},hasP id gs l = true → (id,gs) ∈ l
 | [],h => by cases h
 | (i,l) :: r,h => by
  simp only [hasP] at h
  split at h
  · rename_i hk
    simp only [Bool.and_eq_true] at hk
    rw [eq_of_beq hk.1,eq_of_beq hk.2]; exact List.mem_cons_self
  · exact List.mem_cons_of_mem _ (hasP_mem h)
theorem Ga.gids {S : AS} {τ ρ : List L} (h : Ga S τ ρ) {ats : List At} : ∀ {ps gs : List Nat},S.gids ats ps = some gs → ps.map (at' (ats.map (At.ev ρ))) = gs.map (at' τ)
 | [],gs,he => by cases he; rfl
 | p :: ps,gs,he => by
  simp only [AS.gids] at he
  split at he
  · rename_i i hi
    split at he
    · rename_i g gs' hg hgs
      cases he
      simp only [List.map_cons,h.gids hgs]
      congr 1
      simp only [at',List.getElem?_map,hi,Option.map_some,Option.getD_some]
      rw [h.ev,hg]; rfl
    · cases he
  · cases he
def AS.chk (S : AS) (ats : List At) (T : Tell) : Bool :=
 T.fs.all (fun f => match S.tr ats f.a,S.tr ats f.b with
  | some x,some y => leL S.fs x y f.c
  | _,_ => false) &&
 T.rw.all (fun x => match ats[x.1]? with
  | some y => match S.rs y with
   | some z => rsLe z x.2
   | none => (match S.bo y with | _ => false)
  | none => false) &&
 T.bs.all (fun x => match ats[x.1]? with
  | some y => match S.bo y with
   | some (.con b) => b == x.2
   | _ => false
  | none => false) &&
 T.pr.all (fun x => match S.gids ats x.2 with
  | some gs => hasP x.1 gs S.pr
  | none => false)
theorem at_map {ats : List At} {ρ : List L} {p : Nat} {y : At} (h : ats[p]? = some y) : at' (ats.map (At.ev ρ)) p = y.ev ρ := by simp [at',h]
theorem Ga.chk {S : AS} {τ ρ : List L} (h : Ga S τ ρ) {ats : List At} {T : Tell} (hc : S.chk ats T = true) : T.ok (ats.map (At.ev ρ)) := by
 have hf : ∀ f ∈ S.fs,f.holds τ := fun f hf => h.holds hf
 simp only [AS.chk,Bool.and_eq_true,List.all_eq_true] at hc
 obtain ⟨⟨⟨c1,c2⟩,c3⟩,c4⟩ := hc
 refine ⟨fun f hm => ?_,fun x hm => ?_,fun x hm => ?_,fun x hm => ?_⟩
 rotate_left 3
 · have := c4 x hm
   split at this
   · rename_i gs hgs
     rw [h.gids hgs]
     exact (h.pr _ (hasP_mem this)).2
   · cases this
 · have := c1 f hm
   split at this
   · rename_i x y hx hy
     have := leL_ok hf this
     unfold Fa.holds
     rw [← (h.tr hx).1,← (h.tr hy).1]; exact this
   · cases this
 · have := c2 x hm
   split at this
   · rename_i y hy
     split at this
     · rename_i z hz
       rw [at_map hy]; exact rsLe_ok this (h.rs hz)
     · cases this
   · cases this
 · have := c3 x hm
   split at this
   · rename_i y hy
     split at this
     · rename_i b hb
       rw [at_map hy,h.bo hb]
       have := eq_of_beq this
       exact this
     · cases this
   · cases this
def AS.ext (S : AS) (ats : List At) (m : Nat) (T : Tell) : Option AS :=
 let k := ats.length
 let tr := fun t => match t with
  | 0 => some ((0,0) : Li)
  | t + 1 => if t / 3 < k then S.tr ats (t + 1) else some (3 * (S.n + (t / 3 - k)) + t % 3 + 1,0)
 let fs := T.fs.mapM fun f => match tr f.a,tr f.b with
  | some x,some y => some (fLi x y f.c)
  | _,_ => none
 let ps := fun p => if p < k then match ats[p]? with
   | some (.v i) => S.env[i]?
   | _ => none
  else if p < k + m then some (S.n + (p - k)) else none
 let psL := fun (l : List Nat) => l.mapM ps
 match fs with
 | some fs => if fs.all (Fa.in (S.n + m)) = true then some ⟨S.env ++ (List.range m).map (S.n + ·),S.n + m,fs ++ S.fs,(T.rw.filterMap fun x => (ps x.1).map fun g => (g,x.2)) ++ S.rw,S.cl,(T.bs.filterMap fun x => (ps x.1).map fun g => (g,.con x.2)) ++ S.bd,S.al,S.ll,S.sm,(T.pr.filterMap fun x => (psL x.2).map fun gs => (x.1,gs)) ++ S.pr⟩ else none
 | none => none
end AI
end
section
open Go.RowKit
namespace AI
theorem mapM_mem {α β : Type} {g : α → Option β} : ∀ {l : List α} {ys : List β} {y : β},l.mapM g = some ys → y ∈ ys → ∃ x ∈ l,g x = some y
 | [],ys,y,h,hy => by simp at h; subst h; cases hy
 | a :: l,ys,y,h,hy => by
  simp only [List.mapM_cons] at h
  cases h1 : g a with
  | none => simp [h1] at h
  | some z =>
   cases h2 : l.mapM g with
   | none => simp [h1,h2] at h
   | some zs =>
    simp [h1,h2] at h
    subst h
    rcases List.mem_cons.1 hy with rfl | hy
    · exact ⟨a,List.mem_cons_self,h1⟩
    · obtain ⟨x,hx,he⟩ := mapM_mem h2 hy
      exact ⟨x,List.mem_cons_of_mem _ hx,he⟩
theorem tmV_same {τ1 τ2 : List L} {g1 g2 t : Nat} (h : τ1[g1]? = τ2[g2]?) (ht : t / 3 = g2) : tmV τ1 (3 * g1 + t % 3 + 1) = tmV τ2 (t + 1) := by
 simp only [tmV]
 rw [show (3 * g1 + t % 3) / 3 = g1 by omega,show (3 * g1 + t % 3) % 3 = t % 3 by omega,h,ht]
theorem Ga.ext {S S' : AS} {τ ρ : List L} (h : Ga S τ ρ) {ats : List At} {m : Nat} {T : Tell} (hx : S.ext ats m T = some S') {o : List L} (ho : o.length = m) (hT : T.ok (ats.map (At.ev ρ) ++ o)) : Ga S' (τ ++ o) (ρ ++ o) := by
 subst ho
 unfold AS.ext at hx
 simp only at hx
 split at hx
 · rename_i fs hfs
   split at hx
   · rename_i hin
     injection hx with hx
     subst hx
     have hn := h.n
     have hat : ∀ g,g < S.n → at' (τ ++ o) g = at' τ g := fun g hg => at_append (by omega)
     have hnew : ∀ j,at' (τ ++ o) (S.n + j) = at' o j := fun j => by
      unfold at'; rw [List.getElem?_append_right (by omega)]; congr 2; omega
     have hvl : ∀ p,ats.length ≤ p → at' (ats.map (At.ev ρ) ++ o) p = at' o (p - ats.length) := fun p hp => by
      unfold at'; rw [List.getElem?_append_right (by simpa using hp)]; simp
     have hvs : ∀ p,p < ats.length → at' (ats.map (At.ev ρ) ++ o) p = at' (ats.map (At.ev ρ)) p := fun p hp => at_append (by simpa using hp)
     have htr : ∀ (t : Nat) (x : Li),(match t with
        | 0 => some ((0,0) : Li)
        | t + 1 => if t / 3 < ats.length then S.tr ats (t + 1) else some (3 * (S.n + (t / 3 - ats.length)) + t % 3 + 1,0)) = some x → liV (τ ++ o) x = tmV (ats.map (At.ev ρ) ++ o) t := fun t x ht => by
      cases t with
      | zero => cases ht; simp [liV,tmV_zero]
      | succ t =>
        simp only at ht
        split at ht
        · rename_i hlt
          obtain ⟨e1,e2⟩ := h.tr ht
          rw [liV_append e2,e1,tmV_append]
          simp only [tmIn,List.length_map,decide_eq_true_eq]; omega
        · rename_i hge
          cases ht
          simp only [liV,Int.add_zero]
          refine tmV_same ?_ rfl
          rw [List.getElem?_append_right (by omega),List.getElem?_append_right (by simp; omega)]
          congr 1
          simp; omega
     have hps : ∀ (p g : Nat),(if p < ats.length then match ats[p]? with
        | some (.v i) => S.env[i]?
        | _ => none
      else if p < ats.length + o.length then some (S.n + (p - ats.length)) else none) = some g → g < S.n + o.length ∧ at' (τ ++ o) g = at' (ats.map (At.ev ρ) ++ o) p := fun p g hp => by
      split at hp
      · rename_i hlt
        split at hp
        · rename_i i hi
          have hg := h.lt g (List.mem_of_getElem? hp)
          refine ⟨by omega,?_⟩
          rw [hat g hg,hvs p hlt,at_map hi,h.ev,hp]
        · cases hp
      · rename_i hge
        split at hp
        · rename_i hlt
          cases hp
          exact ⟨by omega,by rw [hnew,hvl p (by omega)]⟩
        · cases hp
     exact {
      n := by simp [hn]
      env := by
        rw [h.env,List.map_append]
        congr 1
        · exact List.map_congr_left fun g hg => (hat g (h.lt g hg)).symm
        · apply List.ext_getElem?
          intro j
          rw [List.map_map,List.getElem?_map]
          by_cases hj : j < o.length
          · rw [List.getElem?_range hj,List.getElem?_eq_getElem hj]
            simp only [Option.map_some,Function.comp]
            rw [hnew j]; simp [at',hj]
          · rw [List.getElem?_eq_none (by omega),List.getElem?_eq_none (by simp; omega)]; rfl
      lt := fun g hg => by
        rcases List.mem_append.1 hg with hg | hg
        · have := h.lt g hg; show g < S.n + o.length; omega
        · obtain ⟨j,hj,rfl⟩ := List.mem_map.1 hg
          have := List.mem_range.1 hj
          show S.n + j < S.n + o.length; omega
      fs := fun f hf => by
        rcases List.mem_append.1 hf with hf | hf
        · refine ⟨by simp only [List.length_append,hn]; exact List.all_eq_true.1 hin f hf,?_⟩
          obtain ⟨f0,hf0,he⟩ := mapM_mem hfs hf
          split at he
          · rename_i x y hx hy
            cases he
            refine fLi_ok ?_
            rw [htr _ _ hx,htr _ _ hy]
            exact hT.fs f0 hf0
          · cases he
        · exact (h.fs f hf).append
      rw := fun x hx => by
        rcases List.mem_append.1 hx with hx | hx
        · obtain ⟨x0,hx0,he⟩ := List.mem_filterMap.1 hx
          simp only [Option.map_eq_some_iff] at he
          obtain ⟨g,hg,rfl⟩ := he
          obtain ⟨k1,k2⟩ := hps _ _ hg
          exact ⟨k1,by simp only; rw [k2]; exact hT.rw x0 hx0⟩
        · obtain ⟨h1,h2⟩ := h.rw x hx
          exact ⟨by show x.1 < S.n + o.length; omega,by rw [hat _ h1]; exact h2⟩
      cl := fun x hx => by
        obtain ⟨h1,h2⟩ := h.cl x hx
        exact ⟨by show x.1 < S.n + o.length; omega,by rw [hat _ h1]; exact h2⟩
      bd := fun x hx => by
        rcases List.mem_append.1 hx with hx | hx
        · obtain ⟨x0,hx0,he⟩ := List.mem_filterMap.1 hx
          simp only [Option.map_eq_some_iff] at he
          obtain ⟨g,hg,rfl⟩ := he
          obtain ⟨k1,k2⟩ := hps _ _ hg
          exact ⟨k1,rfl,by simp only; rw [k2]; exact hT.bs x0 hx0⟩
        · obtain ⟨h1,h2,h3⟩ := h.bd x hx
          exact ⟨by show x.1 < S.n + o.length; omega,BD.in_mono h2 (by show S.n ≤ S.n + o.length; omega),by rw [hat _ h1,BD.val_append (by rw [hn]; exact h2)]; exact h3⟩
      al := fun x hx => by
        obtain ⟨h1,h2,h3⟩ := h.al x hx
        exact ⟨by show x.1 < S.n + o.length; omega,tmIn_mono h2 (by show S.n ≤ S.n + o.length; omega),by rw [hat _ h1,liV_append (by rw [hn]; exact h2)]; exact h3⟩
      ll := fun x hx => by
        obtain ⟨h1,h2,h3⟩ := h.ll x hx
        exact ⟨by show x.1 < S.n + o.length; omega,tmIn_mono h2 (by show S.n ≤ S.n + o.length; omega),by rw [hat _ h1,liV_append (by rw [hn]; exact h2)]; exact h3⟩
      sm := fun x hx => by
        obtain ⟨h1,h2,h3⟩ := h.sm x hx
        exact ⟨by show x.2 < S.n + o.length; omega,smIn_mono h2 (by show S.n ≤ S.n + o.length; omega),by rw [hat _ h1,selV_append (by rw [hn]; exact h2)]; exact h3⟩
      pr := fun x hx => by
        rcases List.mem_append.1 hx with hx | hx
        · obtain ⟨x0,hx0,he⟩ := List.mem_filterMap.1 hx
          simp only [Option.map_eq_some_iff] at he
          obtain ⟨gs,hgs,rfl⟩ := he
          have key : ∀ (l gs : List Nat),l.mapM (fun p => if p < ats.length then match ats[p]? with
             | some (.v i) => S.env[i]?
             | _ => none
            else if p < ats.length + o.length then some (S.n + (p - ats.length)) else none) = some gs → (∀ g ∈ gs,g < S.n + o.length) ∧ gs.map (at' (τ ++ o)) = l.map (at' (ats.map (At.ev ρ) ++ o)) := by
            intro l
            induction l with
            | nil => intro gs hg; simp at hg; subst hg; exact ⟨fun g hg => (by cases hg),rfl⟩
            | cons p l ih =>
             intro gs hg
             simp only [List.mapM_cons,Option.bind_eq_bind,Option.bind_eq_some_iff] at hg
             obtain ⟨g,hg1,gs',hg2,hg3⟩ := hg
             cases hg3
             obtain ⟨k1,k2⟩ := hps _ _ hg1
             obtain ⟨k3,k4⟩ := ih gs' hg2
             exact ⟨fun g' hg' => by rcases List.mem_cons.1 hg' with rfl | hg'; exact k1; exact k3 g' hg',by simp only [List.map_cons,k2,k4]⟩
          obtain ⟨k1,k2⟩ := key _ _ hgs
          exact ⟨k1,by simp only; rw [k2]; exact hT.pr x0 hx0⟩
        · obtain ⟨h1,h2⟩ := h.pr x hx
          exact ⟨fun g hg => (by have := h1 g hg; show g < S.n + o.length; omega),by rw [List.map_congr_left (g := at' τ) fun g hg => hat g (h1 g hg)]; exact h2⟩ }
   · exact absurd hx (by simp)
 · exact absurd hx (by simp)
structure Summ where
 nin : Nat
 nout : Nat
 pre : Tell
 cases : List Tell
deriving Inhabited
def Summ.ok (F : List L → Option (List L)) (s : Summ) : Prop := ∀ ls,ls.length = s.nin → s.pre.ok ls → ∃ o,F ls = some o ∧ o.length = s.nout ∧ ∃ T ∈ s.cases,T.ok (ls ++ o)
def AC.bare : AC → Bool
 | .int .. => true
 | .bool => true
 | .str _ => true
 | .sl hi _ => decide (hi ≤ 0)
 | .any => false
theorem AC.bare_ok {c : AC} {q : PV} (h : AC.bare c = true) (hq : AC.ok c q) : q.bare = true := by
 cases c with
 | int k lo hi => obtain ⟨n,rfl,_⟩ := hq; rfl
 | bool => obtain ⟨b,rfl⟩ := hq; rfl
 | str hi => obtain ⟨s,rfl,_⟩ := hq; rfl
 | sl hi cs =>
  obtain ⟨rows,rfl,h1,_⟩ := hq
  simp only [AC.bare,decide_eq_true_eq] at h
  have : rows.length = 0 := by omega
  rw [List.eq_nil_of_length_eq_zero this]; rfl
 | any => cases h
theorem AC.bares_ok : ∀ {cs : List AC} {r : List PV},cs.all AC.bare = true → AC.oks cs r → r.all PV.bare = true
 | [],[],_,_ => rfl
 | c :: cs,q :: r,h,hq => by
  simp only [List.all_cons,Bool.and_eq_true] at h ⊢
  exact ⟨AC.bare_ok h.1 hq.1,AC.bares_ok h.2 hq.2⟩
 | [],_ :: _,_,h => by cases h
 | _ :: _,[],_,h => by cases h
def bareIn (T : Tell) (p : Nat) : Bool := match lk T.rw p with
 | some none => true
 | some (some cs) => cs.all AC.bare
 | none => false
def AS.cantT (S : AS) (ats : List At) (T : Tell) : Bool := T.fs.any fun f => decide (f.a ≤ 3 * ats.length) && decide (f.b ≤ 3 * ats.length) && match S.tr ats f.a,S.tr ats f.b with
 | some x,some y => cant S.fs x y f.c
 | _,_ => false
theorem cantT_ok {S : AS} {τ ρ o : List L} (h : Ga S τ ρ) {ats : List At} {T : Tell} (hT : T.ok (ats.map (At.ev ρ) ++ o)) : S.cantT ats T = false := by
 have hf : ∀ f ∈ S.fs,f.holds τ := fun f hf => h.holds hf
 cases hc : S.cantT ats T with
 | false => rfl
 | true =>
  simp only [AS.cantT,List.any_eq_true,Bool.and_eq_true,decide_eq_true_eq] at hc
  obtain ⟨f,hm,⟨ha,hb⟩,hc⟩ := hc
  split at hc
  · rename_i x y hx hy
    refine (cant_ok hf hc ?_).elim
    have := hT.fs f hm
    unfold Fa.holds at this
    rw [tmV_append (by simpa [tmIn] using ha),tmV_append (by simpa [tmIn] using hb)] at this
    rw [(h.tr hx).1,(h.tr hy).1]; exact this
  · cases hc
def callN (S : AS) (s : Summ) (args : List At) (n : Nat) (us : List Nat) : Option (List AS) :=
 if args.length = s.nin ∧ n = s.nout ∧ S.chk args s.pre = true ∧ s.cases.all (fun T => us.all fun u => bareIn T (s.nin + u)) = true then (s.cases.filter fun T => !S.cantT args T).mapM fun T => S.ext args n T else none
theorem callN_ok {S : AS} {τ ρ : List L} (h : Ga S τ ρ) {s : Summ} {F : List L → Option (List L)} (hs : s.ok F) {tag : Nat} {args : List At} {n : Nat} {us : List Nat} {Ss : List AS} (hc : callN S s args n us = some Ss) :
   ∃ o,Nd.ev ρ (.call tag F args n us) = some o ∧ ∃ S' ∈ Ss,Ga S' (τ ++ o) (ρ ++ o) := by
 unfold callN at hc
 split at hc
 · rename_i hcc
   obtain ⟨c1,c2,c3,c4⟩ := hcc
   obtain ⟨o,h1,h2,T,hT,h3⟩ := hs (args.map (At.ev ρ)) (by simpa using c1) (h.chk c3)
   have hbare : us.all (fun i => ((o[i]?).getD (.b false)).asR.all (·.all PV.bare)) = true := by
     rw [List.all_eq_true]
     intro u hu
     have := List.all_eq_true.1 (List.all_eq_true.1 c4 T hT) u hu
     unfold bareIn at this
     have hat : at' (args.map (At.ev ρ) ++ o) (s.nin + u) = (o[u]?).getD (.b false) := by
       unfold at'; rw [List.getElem?_append_right (by simp; omega)]; congr 2; simp; omega
     split at this
     · rename_i hlk
       have := h3.rw _ (lk_mem hlk)
       simp only [hat] at this
       have this : ((o[u]?).getD (.b false)).asR = [] := this
       rw [this]; rfl
     · rename_i cs hlk
       have hr := h3.rw _ (lk_mem hlk)
       simp only [hat] at hr
       rw [List.all_eq_true]
       intro r hr1
       exact AC.bares_ok this (hr r hr1)
     · cases this
   refine ⟨o,?_,?_⟩
   · simp only [Nd.ev,h1]
     rw [if_pos ⟨h2.trans c2.symm,hbare⟩]
   · have key : ∀ (l : List Tell) (Ss : List AS),l.mapM (fun T => S.ext args n T) = some Ss → T ∈ l → ∃ S' ∈ Ss,S.ext args n T = some S' := by
       intro l
       induction l with
       | nil => intro _ _ hm; cases hm
       | cons a l ih =>
        intro Ss hm hT
        simp only [List.mapM_cons] at hm
        cases e1 : S.ext args n a with
        | none => simp [e1] at hm
        | some z =>
         cases e2 : l.mapM (fun T => S.ext args n T) with
         | none => simp [e1,e2] at hm
         | some zs =>
          simp [e1,e2] at hm
          subst hm
          rcases List.mem_cons.1 hT with rfl | hT
          · exact ⟨z,List.mem_cons_self,e1⟩
          · obtain ⟨S',q1,q2⟩ := ih zs e2 hT
            exact ⟨S',List.mem_cons_of_mem _ q1,q2⟩
     obtain ⟨S',q1,q2⟩ := key _ _ hc (List.mem_filter.2 ⟨hT,by rw [cantT_ok h h3]; rfl⟩)
     exact ⟨S',q1,h.ext q2 (by rw [h2,c2]) h3⟩
 · cases hc
end AI
end
end Go.Proofs.YtndegphojkiblaaGreatDoor
