/- Towards the last file's theorem: part 19. -/
import Derived.Test.YtndegphojkiblaaGreatDoorG18
set_option linter.unusedSimpArgs false
set_option linter.unusedVariables false
namespace Go.Proofs.YtndegphojkiblaaGreatDoor
section
open Go.RowKit
open Classical
def SC.clear (g : List Nat) (c : SC) : SC := if c.names.any (g.contains ·) then .dead else c
def SB.clear (g : List Nat) : SB → SB
 | .box cs => .box (cs.map (SC.clear g))
 | b => b
def SSt.settle (S : SSt) : SSt := match S.gone with
 | [] => S
 | g => { S with tmps := S.tmps.map (SV.onS (SC.clear g)),heap := (S.heap.filter fun x => !g.contains x.1).map fun x => (x.1,x.2.clear g),gone := [] }
theorem SC.clear_den {ρ : List L} {g : List Nat} (c : SC) : (c.clear g).den ρ = (c.den ρ).clear g := by
 unfold SC.clear C.clear
 rw [SC.names_den]
 split <;> rfl
theorem onS_den {ρ : List L} {f : SC → SC} {f' : C → C} (hf : ∀ c,(f c).den ρ = f' (c.den ρ)) (x : SV) : (x.onS f).den ρ = (x.den ρ).on f' := by
 have h1 : ∀ x : SV1,(x.onS f).den ρ = (x.den ρ).on f' := by
  intro x
  cases x with
  | c c => simp only [SV1.onS,SV1.den,V1.on,hf]
  | agg cs => simp only [SV1.onS,SV1.den,V1.on,List.map_map]; congr 1; apply List.map_congr_left; intro c _; exact hf c
 cases x with
 | v x => simp only [SV.onS,SV.den,V.on,h1]
 | tup xs => simp only [SV.onS,SV.den,V.on,List.map_map]; congr 1; apply List.map_congr_left; intro c _; exact h1 c
theorem SB.clear_den {ρ : List L} {g : List Nat} (b : SB) : (b.clear g).den ρ = (b.den ρ).on (C.clear g) := by
 cases b with
 | box cs => simp only [SB.clear,SB.den,Blk.on,List.map_map]; congr 1; apply List.map_congr_left; intro c _; exact SC.clear_den c
 | row => rfl
 | map => rfl
theorem settle_den {ρ : List L} {S : SSt} : (S.settle).den ρ = (S.den ρ).settle := by
 unfold SSt.settle ASt.settle
 have hg : (S.den ρ).gone = S.gone := rfl
 rw [hg]
 cases S.gone with
 | nil => rfl
 | cons t U =>
  simp only [SSt.den,ASt.mk.injEq,List.map_map,and_true,true_and]
  refine ⟨List.map_congr_left fun x _ => onS_den (fun c => SC.clear_den c) x,?_⟩
  simp only [SHp.den,List.map_map,List.filter_map]
  refine List.map_congr_left fun x _ => ?_
  simp only [Function.comp,SB.clear_den]
theorem settle_gone (S : SSt) : S.settle.gone = [] := by
 unfold SSt.settle
 split
 · assumption
 · rfl
theorem settle_nv (S : SSt) : S.settle.nv = S.nv := by
 unfold SSt.settle
 split <;> rfl
def SC.in (m : Nat) : SC → Bool
 | .p _ x => x.in m
 | .sub _ a b => a.in m && b.in m
 | .aptr _ _ _ _ i => i.in m
 | .eptr _ i _ => i.in m
 | .ref x _ => x.in m
 | _ => true
def SV1.in (m : Nat) : SV1 → Bool
 | .c x => x.in m
 | .agg xs => xs.all (SC.in m)
def SV.in (m : Nat) : SV → Bool
 | .v x => x.in m
 | .tup xs => xs.all (SV1.in m)
def SB.in (m : Nat) : SB → Bool
 | .box cs => cs.all (SC.in m)
 | .row _ x => x.in m
 | .map => true
def SSt.in (m : Nat) (S : SSt) : Bool := S.tmps.all (SV.in m) && S.heap.all fun x => x.2.in m
theorem SC.in_den {m : Nat} {ρ ys : List L} {c : SC} (h : c.in m = true) (hm : m ≤ ρ.length) : c.den (ρ ++ ys) = c.den ρ := by
 cases c <;> simp only [SC.in,Bool.and_eq_true] at h <;> simp only [SC.den] <;> first
  | rfl
  | (rw [At.ev_app h hm]; done)
  | (rw [At.ev_app h.1 hm,At.ev_app h.2 hm]; done)
theorem SV1.in_den {m : Nat} {ρ ys : List L} {x : SV1} (h : x.in m = true) (hm : m ≤ ρ.length) : x.den (ρ ++ ys) = x.den ρ := by
 cases x with
 | c c => simp only [SV1.den]; rw [SC.in_den h hm]
 | agg cs =>
  simp only [SV1.in,List.all_eq_true] at h
  simp only [SV1.den]; congr 1; exact List.map_congr_left fun c hc => SC.in_den (h c hc) hm
theorem SV.in_den {m : Nat} {ρ ys : List L} {x : SV} (h : x.in m = true) (hm : m ≤ ρ.length) : x.den (ρ ++ ys) = x.den ρ := by
 cases x with
 | v x => simp only [SV.den]; rw [SV1.in_den h hm]
 | tup xs =>
  simp only [SV.in,List.all_eq_true] at h
  simp only [SV.den]; congr 1; exact List.map_congr_left fun c hc => SV1.in_den (h c hc) hm
theorem SB.in_den {m : Nat} {ρ ys : List L} {b : SB} (h : b.in m = true) (hm : m ≤ ρ.length) : b.den (ρ ++ ys) = b.den ρ := by
 cases b with
 | box cs =>
  simp only [SB.in,List.all_eq_true] at h
  simp only [SB.den]; congr 1; exact List.map_congr_left fun c hc => SC.in_den (h c hc) hm
 | row e x => simp only [SB.den]; rw [At.ev_app h hm]
 | map => rfl
theorem SSt.in_den {m : Nat} {ρ ys : List L} {S : SSt} (h : S.in m = true) (hm : m ≤ ρ.length) : S.den (ρ ++ ys) = S.den ρ := by
 simp only [SSt.in,Bool.and_eq_true,List.all_eq_true] at h
 simp only [SSt.den,ASt.mk.injEq,and_true,true_and]
 refine ⟨List.map_congr_left fun c hc => SV.in_den (h.1 c hc) hm,?_⟩
 simp only [SHp.den]
 exact List.map_congr_left fun c hc => by rw [SB.in_den (h.2 c hc) hm]
def RT.toFir (f : SSt → Feet → Option Fir) : RT → Option Fir
 | .leaf S ts => f S ts
 | .ops nds k => (RT.toFir f k).map fun k => nds.foldr .op k
 | .ite a x y => match RT.toFir f x,RT.toFir f y with
  | some x,some y => some (.ite a x y)
  | _,_ => none
 | .stuck => some (.op (.bnd (.i 0) 0) (.leaf (.jump 0 [])))
theorem foldr_den : ∀ {nds : List Nd} {k : Fir} {ρ : List L},(nds.foldr Fir.op k).den ρ = match evNds ρ nds with | some ρ' => k.den ρ' | none => none
 | [],_,_ => rfl
 | nd :: nds,k,ρ => by
  simp only [List.foldr_cons,Fir.den,evNds]
  cases nd.ev ρ with
  | none => rfl
  | some ls => exact foldr_den
theorem toFir_den {f : SSt → Feet → Option Fir} : ∀ {t : RT} {u : Fir} {ρ : List L} {o : Lf × List L},t.toFir f = some u → u.den ρ = some o → ∃ S ts ρ' v,t.den ρ = some ((S,ts),ρ') ∧ f S ts = some v ∧ v.den ρ' = some o
 | .leaf S ts,u,ρ,o,h,hd => ⟨S,ts,ρ,u,rfl,h,hd⟩
 | .ops nds k,u,ρ,o,h,hd => by
  simp only [RT.toFir,Option.map_eq_some_iff] at h
  obtain ⟨v,hv,rfl⟩ := h
  rw [foldr_den] at hd
  split at hd
  · rename_i ρ1 he
    obtain ⟨S,ts,ρ',w,h1,h2,h3⟩ := toFir_den hv hd
    exact ⟨S,ts,ρ',w,by simp only [RT.den,he]; exact h1,h2,h3⟩
  · cases hd
 | .stuck,u,ρ,o,h,hd => by
  cases h
  simp [Fir.den,Nd.ev,At.ev,L.asI] at hd
 | .ite a x y,u,ρ,o,h,hd => by
  simp only [RT.toFir] at h
  split at h
  · rename_i u1 u2 h1 h2
    cases h
    simp only [Fir.den] at hd
    split at hd
    · rename_i hc
      obtain ⟨S,ts,ρ',w,k1,k2,k3⟩ := toFir_den h1 hd
      exact ⟨S,ts,ρ',w,by simp only [RT.den]; rw [if_pos hc]; exact k1,k2,k3⟩
    · rename_i hc
      obtain ⟨S,ts,ρ',w,k1,k2,k3⟩ := toFir_den h2 hd
      exact ⟨S,ts,ρ',w,by simp only [RT.den]; rw [if_neg hc]; exact k1,k2,k3⟩
  · cases h
def execRegion (T : TTab) (C : CTab) (ops : Array Oper) (draw : Bool) (S : SSt) : Option Fir :=
 if S.in S.nv = true ∧ S.gone = [] ∧ (!draw || forwardOk ops) = true then
  (symReg T C S.next ops (4 * ops.size + 8) ops.toList 0 { S with next := S.next + 8 * ops.size } []).bind fun t => RT.toFir (fun S' ts =>
   if (if draw then pairsOk ops ts && freshOk S.next ops ts else seqOk S.next 0 ts) = true then some (.leaf (.st .normal S'.settle)) else none) t
 else none
def Good (P : Program) (k0 : Nat) (c : Code) (S : SSt) (ρ : List L) (x : Lf) (ρ' : List L) : Prop :=
 ∃ e S',x = .st e S' ∧ S'.nv = ρ'.length ∧ (∃ ys,ρ' = ρ ++ ys) ∧ S'.gone = [] ∧ ∀ X : Fx,X.P = P → X.k0 = k0 → ∀ Q : Exit → ASt → Prop,Q e.to (S'.den ρ') → Aw X c Q (S.den ρ)
theorem execRegion_ok {P : Program} {T : TTab} {C : CTab} {k0 : Nat} (hT : TTab.ok P T) (hC : CTab.ok P C) (hm : P.follows .mixedOrders = true) {id : Nat} {ops : Array Oper} {draw : Bool} {S : SSt} {u : Fir} {ρ ρ' : List L} {x : Lf}
   (h : execRegion T C ops draw S = some u) (hl : ρ.length = S.nv) (hd : u.den ρ = some (x,ρ')) : Good P k0 (.region id ops draw) S ρ x ρ' := by
 unfold execRegion at h
 split at h
 · rename_i hc
   obtain ⟨hin,hg,hf⟩ := hc
   simp only [Option.bind_eq_some_iff] at h
   obtain ⟨t,ht,h⟩ := h
   obtain ⟨S1,ts,ρ1,v,k1,k2,k3⟩ := toFir_den h hd
   replace k2 : (if (if draw then pairsOk ops ts && freshOk S.next ops ts else seqOk S.next 0 ts) = true then some (Fir.leaf (Lf.st Ex.normal S1.settle)) else none) = some v := k2
   have hok : (if draw then pairsOk ops ts && freshOk S.next ops ts else seqOk S.next 0 ts) = true := by
     apply Classical.byContradiction; intro hn; rw [if_neg hn] at k2; cases k2
   rw [if_pos hok] at k2
   · cases k2
     cases k3
     obtain ⟨e1,⟨ys,e2⟩,rs,ts',Sp,e3,e4⟩ := symReg_ok hT hC ht (by exact hl) k1
     simp only [List.reverse_nil,List.nil_append] at e4
     subst e4
     refine ⟨.normal,S1.settle,rfl,by rw [settle_nv]; exact e1,⟨ys,e2⟩,settle_gone S1,fun X hXP hXk Q hQ => ?_⟩
     have hden : S.den ρ' = S.den ρ := by rw [e2]; exact SSt.in_den hin (by omega)
     have hb : SSt.den ρ' { S with next := S.next + 8 * ops.size } = (S.den ρ).bump ops.toList.length := by
      rw [← hden]; simp [SSt.den,ASt.bump]
     rw [hb] at e3
     rw [settle_den] at hQ
     have hops : ops.toList.toArray = ops := by simp
     subst hXP
     cases draw with
     | false =>
      simp only [Bool.false_eq_true,if_false] at hok
      have := aw_region (X := X) (Sp := Sp) (Q := Q) (id := id) (ops := ops.toList) (st := S.den ρ) (rs := rs) (ts := ts) (by rw [hops]; exact e3) hok hQ
      rw [hops] at this; exact this
     | true =>
      simp only [if_true,Bool.and_eq_true] at hok
      have := aw_draw (X := X) (Sp := Sp) (Q := Q) hm (id := id) (ops := ops.toList) (st := S.den ρ) (rs := rs) (ts := ts) (by rw [hops]; simpa using hf) (by rw [hops]; exact e3) (by rw [hops]; exact hok.1) (by rw [hops]; exact hok.2) hQ
      rw [hops] at this; exact this
 · cases h
def At.par (nv0 : Nat) (as : List At) : At → At
 | .v j => if j < nv0 then .v j else (as[j - nv0]?).getD (.b false)
 | x => x
theorem At.par_ev {nv0 : Nat} {as : List At} {ρ ys : List L} (hl : ρ.length = nv0) (x : At) : (x.par nv0 as).ev (ρ ++ ys) = x.ev (ρ ++ as.map (At.ev (ρ ++ ys))) := by
 cases x with
 | v j =>
  simp only [At.par]
  split
  · rename_i hj
    simp only [At.ev]
    rw [List.getElem?_append_left (by omega),List.getElem?_append_left (by omega)]
  · rename_i hj
    simp only [At.ev]
    rw [List.getElem?_append_right (by omega),hl,List.getElem?_map]
    cases as[j - nv0]? <;> rfl
 | _ => rfl
abbrev Told4 := List (Nat × At × At × At)
def leChkC (D : Told4) (S : SSt) (nv0 : Nat) (as : List At) (ι : Ren) (Z : List Nat) : SC → SC → Bool
 | _,.dead => true
 | .p k x,.p k' y => decide (k = k') && (y.par nv0 as).same x
 | .nil,.p .sl y => (y.par nv0 as).same .r0
 | .sub n a b,.p .sl y => !ι.old.contains n && D.any fun z => z.1 == n && z.2.1.same a && z.2.2.1.same b && (y.par nv0 as).same z.2.2.2
 | .own n,.p .sl y => match List.lookup n S.heap with
  | some (.row _ x) => (y.par nv0 as).same x && !ι.old.contains n
  | _ => false
 | .nil,.nil => true
 | .nil,.own n' => Z.contains n'
 | .nil,.sub n' (.i 0) (.i 0) => Z.contains n'
 | .own n,.own n' => List.lookup n ι == some n'
 | .sub n a b,.sub n' a' b' => List.lookup n ι == some n' && (a'.par nv0 as).same a && (b'.par nv0 as).same b
 | .ptr n o,.ptr n' o' => List.lookup n ι == some n' && o == o'
 | .aptr n o c m i,.aptr n' o' c' m' i' => List.lookup n ι == some n' && o == o' && c == c' && m == m' && (i'.par nv0 as).same i
 | .eptr n i j,.eptr n' i' j' => List.lookup n ι == some n' && (i'.par nv0 as).same i && j == j'
 | .ref x j,.ref x' j' => (x'.par nv0 as).same x && j == j'
 | .fn f ns,.fn f' ns' => f == f' && ns.map (fun n => List.lookup n ι) == ns'.map some
 | .mp n,.mp n' => List.lookup n ι == some n'
 | _,_ => false
theorem look_old {ι : Ren} {n n' : Nat} (h : (List.lookup n ι == some n') = true) : ι.to n = n' ∧ n ∈ ι.old := by
 have h' : List.lookup n ι = some n' := by simpa using h
 refine ⟨by simp [Ren.to,h'],?_⟩
 clear h
 induction ι with
 | nil => cases h'
 | cons x ι ih =>
  obtain ⟨k,k'⟩ := x
  rw [List.lookup_cons] at h'
  split at h'
  · rename_i heq; simp at heq; subst heq; simp [Ren.old]
  · have := ih h'; simp only [Ren.old,List.map_cons,List.mem_cons] at this ⊢; exact .inr this
section
variable {D : Told4} {S : SSt} {nv0 : Nat} {as : List At} {ι : Ren} {Z : List Nat} {ρ ys : List L}
def Told4.ok (D : Told4) (S : SSt) (ρ : List L) : Prop := ∀ z ∈ D,(S.den ρ).view ((SC.sub z.1 z.2.1 z.2.2.1).den ρ) = some (z.2.2.2.ev ρ).asR
theorem leChkC_ok (hl : ρ.length = nv0) (hD : D.ok S (ρ ++ ys)) {c c' : SC} (h : leChkC D S nv0 as ι Z c c' = true) : leC (S.den (ρ ++ ys)) ι Z (c.den (ρ ++ ys)) (c'.den (ρ ++ as.map (At.ev (ρ ++ ys)))) := by
 have same : ∀ {x y : At},(y.par nv0 as).same x = true → y.ev (ρ ++ as.map (At.ev (ρ ++ ys))) = x.ev (ρ ++ ys) := fun hs => by rw [← At.par_ev hl,At.same_eq hs]
 unfold leChkC at h
 split at h
 · rename_i c; cases c <;> trivial
 · simp only [Bool.and_eq_true,decide_eq_true_eq] at h
   obtain ⟨rfl,h2⟩ := h
   exact .inl (by simp only [SC.den,same h2])
 · exact .inr ⟨[],by simp only [Kd.pv,same h]; rfl,rfl,fun k hk => by simp [SC.den,C.names] at hk⟩
 · rename_i n a b y
   simp only [Bool.and_eq_true,Bool.not_eq_true',List.contains_eq_mem,decide_eq_false_iff_not,List.any_eq_true,beq_iff_eq] at h
   obtain ⟨h1,⟨m,a',b',z⟩,h2,⟨⟨h3,h4⟩,h5⟩,h6⟩ := h
   simp only at h3 h4 h5 h6
   subst h3
   have hv := hD _ h2
   simp only [SC.den,At.same_eq h4,At.same_eq h5] at hv
   refine .inr ⟨(z.ev (ρ ++ ys)).asR,by simp only [Kd.pv,same h6],hv,fun k hk => ?_⟩
   simp [SC.den,C.names] at hk
   subst hk; exact h1
 · rename_i n y
   split at h
   · rename_i e x hx
     simp only [Bool.and_eq_true,Bool.not_eq_true',List.contains_eq_mem,decide_eq_false_iff_not] at h
     refine .inr ⟨(x.ev (ρ ++ ys)).asR,by simp only [Kd.pv,same h.1],by simp only [SC.den,ASt.view,den_heap,hx,Option.map_some,SB.den],fun k hk => ?_⟩
     simp [SC.den,C.names] at hk
     subst hk; exact h.2
   · cases h
 · exact ⟨rfl,by simp [SC.den,C.names]⟩
 · rename_i n'; exact (by simpa using h : n' ∈ Z)
 · rename_i n'; exact ⟨(by simpa using h : n' ∈ Z),rfl,rfl⟩
 · obtain ⟨h1,h2⟩ := look_old h
   exact ⟨by simp only [SC.den,C.ren,h1],by simpa [SC.den,C.names] using h2⟩
 · simp only [Bool.and_eq_true] at h
   obtain ⟨h1,h2⟩ := look_old h.1.1
   exact ⟨by simp only [SC.den,C.ren,h1,same h.1.2,same h.2],by simpa [SC.den,C.names] using h2⟩
 · simp only [Bool.and_eq_true] at h
   obtain ⟨h1,h2⟩ := look_old h.1
   have h3 := h.2; simp only [beq_iff_eq] at h3
   exact ⟨by simp only [SC.den,C.ren,h1,h3],by simpa [SC.den,C.names] using h2⟩
 · simp only [Bool.and_eq_true] at h
   obtain ⟨h1,h2⟩ := look_old h.1.1.1.1
   have h3 := h.1.1.1.2; have h4 := h.1.2; simp only [beq_iff_eq] at h3 h4
   exact ⟨by simp only [SC.den,C.ren,h1,h3,h4,same h.2],by simpa [SC.den,C.names] using h2⟩
 · simp only [Bool.and_eq_true] at h
   obtain ⟨h1,h2⟩ := look_old h.1.1
   have h3 := h.2; simp only [beq_iff_eq] at h3
   exact ⟨by simp only [SC.den,C.ren,h1,h3,same h.1.2],by simpa [SC.den,C.names] using h2⟩
 · simp only [Bool.and_eq_true,beq_iff_eq] at h
   exact ⟨by simp only [SC.den,C.ren,h.2,same h.1],by simp [SC.den,C.names]⟩
 · rename_i f ns f' ns'
   simp only [Bool.and_eq_true,beq_iff_eq] at h
   obtain ⟨rfl,h2⟩ := h
   have h3 : ns' = ns.map ι.to ∧ ∀ m ∈ ns,m ∈ ι.old := by
     clear same
     induction ns generalizing ns' with
     | nil => cases ns' with
      | nil => exact ⟨rfl,by simp⟩
      | cons => simp at h2
     | cons m ms ih =>
      cases ns' with
      | nil => simp at h2
      | cons n ns =>
       simp only [List.map_cons,List.cons.injEq] at h2
       obtain ⟨h4,h5⟩ := ih ns h2.2
       obtain ⟨h6,h7⟩ := look_old (ι := ι) (n := m) (n' := n) (by simpa using h2.1)
       refine ⟨by simp only [List.map_cons,h6,← h4],?_⟩
       intro k hk
       rcases List.mem_cons.1 hk with rfl | hk
       · exact h7
       · exact h5 k hk
   exact ⟨by simp only [SC.den,C.ren,← h3.1],by simpa [SC.den,C.names] using h3.2⟩
 · obtain ⟨h1,h2⟩ := look_old h
   exact ⟨by simp only [SC.den,C.ren,h1],by simpa [SC.den,C.names] using h2⟩
 · cases h
def leChkCs (D : Told4) (S : SSt) (nv0 : Nat) (as : List At) (ι : Ren) (Z : List Nat) : List SC → List SC → Bool
 | [],[] => true
 | c :: cs,c' :: cs' => leChkC D S nv0 as ι Z c c' && leChkCs D S nv0 as ι Z cs cs'
 | _,_ => false
def leChkV1 (D : Told4) (S : SSt) (nv0 : Nat) (as : List At) (ι : Ren) (Z : List Nat) : SV1 → SV1 → Bool
 | _,.c .dead => true
 | .c c,.c c' => leChkC D S nv0 as ι Z c c'
 | .agg cs,.agg cs' => leChkCs D S nv0 as ι Z cs cs'
 | _,_ => false
def leChkV1s (D : Told4) (S : SSt) (nv0 : Nat) (as : List At) (ι : Ren) (Z : List Nat) : List SV1 → List SV1 → Bool
 | [],[] => true
 | c :: cs,c' :: cs' => leChkV1 D S nv0 as ι Z c c' && leChkV1s D S nv0 as ι Z cs cs'
 | _,_ => false
def leChkV (D : Told4) (S : SSt) (nv0 : Nat) (as : List At) (ι : Ren) (Z : List Nat) : SV → SV → Bool
 | _,.v (.c .dead) => true
 | .v x,.v x' => leChkV1 D S nv0 as ι Z x x'
 | .tup xs,.tup xs' => leChkV1s D S nv0 as ι Z xs xs'
 | _,_ => false
def leChkL (D : Told4) (S : SSt) (nv0 : Nat) (as : List At) (ι : Ren) (Z : List Nat) : List SV → List SV → Bool
 | [],[] => true
 | c :: cs,c' :: cs' => leChkV D S nv0 as ι Z c c' && leChkL D S nv0 as ι Z cs cs'
 | _,_ => false
def leChkB (D : Told4) (S : SSt) (nv0 : Nat) (as : List At) (ι : Ren) (Z : List Nat) : SB → SB → Bool
 | .box cs,.box cs' => leChkCs D S nv0 as ι Z cs cs'
 | .row e x,.row e' x' => e == e' && (x'.par nv0 as).same x
 | .map,.map => true
 | _,_ => false
theorem leChkCs_ok (hl : ρ.length = nv0) (hD : D.ok S (ρ ++ ys)) : ∀ {cs cs' : List SC},leChkCs D S nv0 as ι Z cs cs' = true → leCs (S.den (ρ ++ ys)) ι Z (cs.map (SC.den (ρ ++ ys))) (cs'.map (SC.den (ρ ++ as.map (At.ev (ρ ++ ys)))))
 | [],[],_ => trivial
 | c :: cs,c' :: cs',h => by
  simp only [leChkCs,Bool.and_eq_true] at h
  exact ⟨leChkC_ok hl hD h.1,leChkCs_ok hl hD h.2⟩
 | [],_ :: _,h => by cases h
 | _ :: _,[],h => by cases h
theorem leChkV1_ok (hl : ρ.length = nv0) (hD : D.ok S (ρ ++ ys)) {x x' : SV1} (h : leChkV1 D S nv0 as ι Z x x' = true) : leV1 (S.den (ρ ++ ys)) ι Z (x.den (ρ ++ ys)) (x'.den (ρ ++ as.map (At.ev (ρ ++ ys)))) := by
 unfold leChkV1 at h
 split at h
 · rename_i x; cases x <;> (simp only [SV1.den,SC.den]; unfold leV1; trivial)
 · rename_i c c' _
   have := leChkC_ok (ys := ys) hl hD h
   simp only [SV1.den]
   revert this
   generalize SC.den (ρ ++ as.map (At.ev (ρ ++ ys))) c' = C'
   intro this
   cases C' <;> first | exact this | trivial
 · exact leChkCs_ok hl hD h
 · cases h
theorem leChkV1s_ok (hl : ρ.length = nv0) (hD : D.ok S (ρ ++ ys)) : ∀ {cs cs' : List SV1},leChkV1s D S nv0 as ι Z cs cs' = true → leV1s (S.den (ρ ++ ys)) ι Z (cs.map (SV1.den (ρ ++ ys))) (cs'.map (SV1.den (ρ ++ as.map (At.ev (ρ ++ ys)))))
 | [],[],_ => trivial
 | c :: cs,c' :: cs',h => by
  simp only [leChkV1s,Bool.and_eq_true] at h
  exact ⟨leChkV1_ok hl hD h.1,leChkV1s_ok hl hD h.2⟩
 | [],_ :: _,h => by cases h
 | _ :: _,[],h => by cases h
theorem leChkV_ok (hl : ρ.length = nv0) (hD : D.ok S (ρ ++ ys)) {x x' : SV} (h : leChkV D S nv0 as ι Z x x' = true) : leV (S.den (ρ ++ ys)) ι Z (x.den (ρ ++ ys)) (x'.den (ρ ++ as.map (At.ev (ρ ++ ys)))) := by
 unfold leChkV at h
 split at h
 · rename_i x; cases x <;> (simp only [SV.den,SV1.den,SC.den]; unfold leV; trivial)
 · rename_i y y' _
   have := leChkV1_ok (ys := ys) hl hD h
   simp only [SV.den]
   revert this
   generalize SV1.den (ρ ++ as.map (At.ev (ρ ++ ys))) y' = C'
   intro this
   cases C' with
   | c C' => cases C' <;> first | exact this | trivial
   | agg _ => exact this
 · exact leChkV1s_ok hl hD h
 · cases h
theorem leChkL_ok (hl : ρ.length = nv0) (hD : D.ok S (ρ ++ ys)) : ∀ {cs cs' : List SV},leChkL D S nv0 as ι Z cs cs' = true → leL (S.den (ρ ++ ys)) ι Z (cs.map (SV.den (ρ ++ ys))) (cs'.map (SV.den (ρ ++ as.map (At.ev (ρ ++ ys)))))
 | [],[],_ => trivial
 | c :: cs,c' :: cs',h => by
  simp only [leChkL,Bool.and_eq_true] at h
  exact ⟨leChkV_ok hl hD h.1,leChkL_ok hl hD h.2⟩
 | [],_ :: _,h => by cases h
 | _ :: _,[],h => by cases h
theorem leChkB_ok (hl : ρ.length = nv0) (hD : D.ok S (ρ ++ ys)) {b b' : SB} (h : leChkB D S nv0 as ι Z b b' = true) : leB (S.den (ρ ++ ys)) ι Z (b.den (ρ ++ ys)) (b'.den (ρ ++ as.map (At.ev (ρ ++ ys)))) := by
 cases b with
 | box cs =>
  cases b' with
  | box cs' => exact leChkCs_ok hl hD h
  | _ => cases h
 | row e x =>
  cases b' with
  | row e' x' =>
   simp only [leChkB,Bool.and_eq_true,beq_iff_eq] at h
   refine ⟨h.1,?_⟩
   rw [← At.par_ev (ys := ys) hl,At.same_eq h.2]
  | _ => cases h
 | map =>
  cases b' with
  | map => rfl
  | _ => cases h
end
def leChk (D : Told4) (T : TTab) (k0 : Nat) (S S' : SSt) (nv0 : Nat) (as : List At) (ι : Ren) (Z : List Nat) : Bool :=
 S'.gone.isEmpty && decide ι.old.Nodup && decide ι.new.Nodup && decide (k0 ≤ S'.next) && decide (S'.nv = nv0 + as.length) &&
 (Z.all fun n => !ι.new.contains n && decide (k0 ≤ n) && decide (n < S'.next) && match List.lookup n S'.heap with
  | some (.row e x) => (x.par nv0 as).same .r0 && match List.lookup e T with
   | some r => decide (0 < r.size)
   | none => false
  | _ => false) &&
 (ι.all fun x => decide (x.2 < S'.next) && (decide (k0 ≤ x.2) || x.1 == x.2)) &&
 leChkL D S nv0 as ι Z S.tmps S'.tmps &&
 S'.heap.all fun x => Z.contains x.1 || ι.any fun y => y.2 == x.1 && match List.lookup y.1 S.heap with
  | some b => leChkB D S nv0 as ι Z b x.2
  | none => false
theorem leChk_ok {D : Told4} {P : Program} {T : TTab} {k0 : Nat} (hT : TTab.ok P T) {S S' : SSt} {nv0 : Nat} {as : List At} {ι : Ren} {Z : List Nat} {ρ ys : List L} (hl : ρ.length = nv0) (hD : D.ok S (ρ ++ ys)) (h : leChk D T k0 S S' nv0 as ι Z = true) (hg : S.gone = []) :
  S'.gone = [] ∧ S'.nv = (ρ ++ as.map (At.ev (ρ ++ ys))).length ∧ ∀ X : Fx,X.P = P → X.k0 = k0 → Le X (S.den (ρ ++ ys)) (S'.den (ρ ++ as.map (At.ev (ρ ++ ys)))) := by
 unfold leChk at h
 simp only [Bool.and_eq_true,decide_eq_true_eq,List.isEmpty_iff] at h
 obtain ⟨⟨⟨⟨⟨⟨⟨⟨h1,h2⟩,h3⟩,h4⟩,h5⟩,h6⟩,h7⟩,h8⟩,h9⟩ := h
 refine ⟨h1,by simp [h5,hl],fun X hXP hXk => ?_⟩
 subst hXP hXk
 refine LeS.le (ι := ι) (Z := Z) hg ?_
 exact {
  gone := h1
  old := h2
  new := h3
  k0 := h4
  zs := fun n hn => by
   simp only [List.all_eq_true,Bool.and_eq_true,Bool.not_eq_true',List.contains_eq_mem,decide_eq_false_iff_not,decide_eq_true_eq] at h6
   obtain ⟨⟨⟨a1,a2⟩,a3⟩,a4⟩ := h6 n hn
   refine ⟨a1,a2,a3,?_⟩
   split at a4
   · rename_i e x hx
     simp only [Bool.and_eq_true] at a4
     obtain ⟨b1,b2⟩ := a4
     split at b2
     · rename_i r hr
       have := hT _ _ hr; subst this
       have b3 : 0 < (tyRow X.P e).size := by simpa using b2
       refine ⟨e,?_,b3⟩
       rw [den_heap,hx]
       simp only [Option.map_some,SB.den]
       rw [← At.par_ev (ys := ys) hl,At.same_eq b1]; rfl
     · cases b2
   · cases a4
  lt := fun x hx => by
   simp only [List.all_eq_true,Bool.and_eq_true,Bool.or_eq_true,decide_eq_true_eq,beq_iff_eq] at h7
   obtain ⟨a1,a2⟩ := h7 x hx
   exact ⟨a1,fun hlt => a2.resolve_left (by omega)⟩
  tmps := leChkL_ok hl hD h8
  heap := fun n' b' hb => by
   rw [den_heap] at hb
   simp only [Option.map_eq_some_iff] at hb
   obtain ⟨b0,hb0,rfl⟩ := hb
   simp only [List.all_eq_true,Bool.or_eq_true,List.contains_eq_mem,decide_eq_true_eq,List.any_eq_true,Bool.and_eq_true,beq_iff_eq] at h9
   rcases h9 _ (lookup_mem hb0) with a1 | ⟨y,a1,a2,a3⟩
   · exact .inl a1
   · right
     split at a3
     · rename_i b hb
       obtain ⟨n,m⟩ := y
       simp only at a2 hb
       subst a2
       exact ⟨n,b.den (ρ ++ ys),a1,by rw [den_heap,hb]; rfl,leChkB_ok hl hD a3⟩
     · cases a3 }
end
section
open Go.RowKit
def bitOf : Operand → Nat
 | .tmp t => 1 <<< t
 | _ => 0
def opLv (n : Nat) (o : Oper) : Nat :=
 let n := match o.dst,o.guard with
  | some t,none => n ^^^ (n &&& (1 <<< t))
  | _,_ => n
 o.op.operands.toList.foldl (fun n x => n ||| bitOf x) n
def lv : Code → Nat → List (Nat × Nat) → Nat → Nat
 | .skip,n,_,_ => n
 | .region _ ops _,n,_,_ => ops.toList.reverse.foldl opLv n
 | .seq a b,n,ex,r => lv a (lv b n ex r) ex r
 | .cond c a b,n,ex,r => bitOf c ||| lv a n ex r ||| lv b n ex r
 | .block id c,n,ex,r => lv c n ((id,n) :: ex) r
 | .loop c,_,ex,r => lv c 0 ex r
 | .exit id,_,ex,_ => (List.lookup id ex).getD 0
 | .ret,_,_,r => r
 | .scope c,n,ex,r => lv c n ex r
 | _,_,_,_ => 0
structure MG where
 np : Nat
 ps : List (List At × Nat)
 ns : List (List (Option Nat) × Nat)
 next : Nat
def sameAts : List At → List At → Bool
 | [],[] => true
 | x :: xs,y :: ys => x.same y && sameAts xs ys
 | _,_ => false
def mAt (nv0 : Nat) (xs : List At) (g : MG) : At × MG := match xs with
 | x :: r => if x.in nv0 && r.all (x.same ·) then (x,g)
  else match g.ps.find? (fun p => sameAts p.1 xs) with
   | some p => (.v (nv0 + p.2),g)
   | none => (.v (nv0 + g.np),{ g with np := g.np + 1,ps := (xs,g.np) :: g.ps })
 | [] => (.b false,g)
def mName (k0 : Nat) (xs : List (Option Nat)) (g : MG) : Option (Nat × MG) :=
 match g.ns.find? (fun p => p.1 == xs) with
 | some p => some (p.2,g)
 | none =>
  if g.ns.any fun p => (p.1.zip xs).any fun ab => ab.1.isSome && ab.1 == ab.2 then none
  else if xs.any fun x => match x with
    | some m => decide (m < k0)
    | none => false then
   match xs with
   | some m :: r => if r.all (· == some m) then some (m,{ g with ns := (xs,m) :: g.ns }) else none
   | _ => none
  else some (g.next,{ g with ns := (xs,g.next) :: g.ns,next := g.next + 1 })
def mNames (k0 : Nat) : List (List (Option Nat)) → MG → Option (List Nat × MG)
 | [],g => some ([],g)
 | xs :: r,g => match mName k0 xs g with
  | some (n,g) => match mNames k0 r g with
   | some (ns,g) => some (n :: ns,g)
   | none => none
  | none => none
def firstP : List SC → Option Kd
 | [] => none
 | .p k _ :: _ => some k
 | _ :: r => firstP r
def emptyCut : SC → Bool
 | .nil => true
 | .sub _ (.i 0) (.i 0) => true
 | _ => false
def ownCuts (k0 : Nat) (cs : List SC) : Bool := cs.all (fun c => match c with | .nil => true | .own n => decide (k0 ≤ n) | .sub n (.i 0) _ => decide (k0 ≤ n) | _ => false) && cs.any (fun c => match c with | .sub _ _ _ => true | _ => false) && cs.any (fun c => match c with | .sub _ _ _ => false | _ => true)
def firstK (k0 : Nat) (cs : List SC) : Option Kd := if cs.all emptyCut || ownCuts k0 cs then none else match firstP cs with
 | some k => some k
 | none => if cs.any (fun c => match c with | .sub _ _ _ => true | _ => false) && cs.any (fun c => match c with | .sub _ _ _ => false | _ => true) then some .sl else none
def column : Nat → List (List Nat) → List (List (Option Nat))
 | 0,_ => []
 | n + 1,xs => xs.map List.head? :: column n (xs.map List.tail)
def mC (k0 nv0 : Nat) (hs : List SHp) (cs : List SC) (g : MG) : SC × MG :=
 match firstK k0 cs with
 | some k => match (cs.zip hs).mapM (fun (x : SC × SHp) => match x.1 with
   | .p k' x => if k = k' then some x else none
   | .own n => if k = .sl then match List.lookup n x.2 with
     | some (.row _ y) => some y
     | _ => none
    else none
   | .nil => if k = .sl then some .r0 else none
   | .sub n _ _ => if k = .sl then some (.v (nv0 + 1000000 + 1000 * g.np + n)) else none
   | _ => none) with
  | some xs => let (x,g) := mAt nv0 xs g; (.p k x,g)
  | none => (.dead,g)
 | none =>
  let named (f : SC → Option (Option Nat)) (k : Nat → MG → SC × MG) : SC × MG := match cs.mapM f with
   | some ns => match mName k0 ns g with
    | some (n,g) => k n g
    | none => (.dead,g)
   | none => (.dead,g)
  let ats (f : SC → At) (g : MG) : At × MG := mAt nv0 (cs.map f) g
  if cs.all (fun c => match c with | .nil => true | _ => false) then (.nil,g)
  else if ownCuts k0 cs && !cs.all emptyCut then
   named (fun c => match c with | .own n => some (some n) | .sub n _ _ => some (some n) | .nil => some none | _ => none) fun n g => (.own n,g)
  else if cs.any (fun c => match c with | .own _ => true | _ => false) then
   named (fun c => match c with | .own n => some (some n) | .nil => some none | _ => none) fun n g => (.own n,g)
  else if cs.all emptyCut then named (fun c => match c with | .sub n _ _ => some (some n) | .nil => some none | _ => none) fun n g => (.sub n (.i 0) (.i 0),g)
  else match cs with
   | .sub _ _ _ :: _ => named (fun c => match c with | .sub n _ _ => some (some n) | _ => none) fun n g =>
    let (a,g) := ats (fun c => match c with | .sub _ a _ => a | _ => .b false) g
    let (b,g) := ats (fun c => match c with | .sub _ _ b => b | _ => .b false) g
    (.sub n a b,g)
   | .ptr _ o :: _ => named (fun c => match c with | .ptr n o' => if o = o' then some (some n) else none | _ => none) fun n g => (.ptr n o,g)
   | .aptr _ o ct m _ :: _ => named (fun c => match c with | .aptr n o' c' m' _ => if o = o' ∧ ct = c' ∧ m = m' then some (some n) else none | _ => none) fun n g =>
    let (i,g) := ats (fun c => match c with | .aptr _ _ _ _ i => i | _ => .b false) g
    (.aptr n o ct m i,g)
   | .eptr _ _ j :: _ => named (fun c => match c with | .eptr n _ j' => if j = j' then some (some n) else none | _ => none) fun n g =>
    let (i,g) := ats (fun c => match c with | .eptr _ i _ => i | _ => .b false) g
    (.eptr n i j,g)
   | .ref _ j :: _ => match cs.mapM (fun c => match c with | .ref x j' => if j = j' then some x else none | _ => none) with
    | some xs => let (x,g) := mAt nv0 xs g; (.ref x j,g)
    | none => (.dead,g)
   | .fn f ns :: _ => match cs.mapM (fun c => match c with | .fn f' ns' => if f == f' && ns'.length == ns.length then some ns' else none | _ => none) with
    | some nss => match mNames k0 (column ns.length nss) g with
     | some (ns,g) => (.fn f ns,g)
     | none => (.dead,g)
    | none => (.dead,g)
   | .mp _ :: _ => named (fun c => match c with | .mp n => some (some n) | _ => none) fun n g => (.mp n,g)
   | _ => (.dead,g)
def mCs (k0 nv0 : Nat) (hs : List SHp) : Nat → List (List SC) → MG → List SC × MG
 | 0,_,g => ([],g)
 | n + 1,xss,g =>
  let (c,g) := mC k0 nv0 hs (xss.map fun xs => xs.headD .dead) g
  let (cs,g) := mCs k0 nv0 hs n (xss.map List.tail) g
  (c :: cs,g)
def mV1 (k0 nv0 : Nat) (hs : List SHp) (xs : List SV1) (g : MG) : SV1 × MG :=
 match xs.mapM (fun x => match x with | .c c => some c | _ => none) with
 | some cs => let (c,g) := mC k0 nv0 hs cs g; (.c c,g)
 | none => match xs.mapM (fun x => match x with | .agg cs => some cs | _ => none) with
  | some (cs :: css) => if css.all (fun c => c.length == cs.length) then
    let (cs,g) := mCs k0 nv0 hs cs.length (cs :: css) g; (.agg cs,g)
   else (.c .dead,g)
  | _ => (.c .dead,g)
def mV1s (k0 nv0 : Nat) (hs : List SHp) : Nat → List (List SV1) → MG → List SV1 × MG
 | 0,_,g => ([],g)
 | n + 1,xss,g =>
  let (c,g) := mV1 k0 nv0 hs (xss.map fun xs => xs.headD (.c .dead)) g
  let (cs,g) := mV1s k0 nv0 hs n (xss.map List.tail) g
  (c :: cs,g)
def mV (k0 nv0 : Nat) (hs : List SHp) (xs : List SV) (g : MG) : SV × MG :=
 match xs.mapM (fun x => match x with | .v c => some c | _ => none) with
 | some cs => let (c,g) := mV1 k0 nv0 hs cs g; (.v c,g)
 | none => match xs.mapM (fun x => match x with | .tup cs => some cs | _ => none) with
  | some (cs :: css) => if css.all (fun c => c.length == cs.length) then
    let (cs,g) := mV1s k0 nv0 hs cs.length (cs :: css) g; (.tup cs,g)
   else (.v (.c .dead),g)
  | _ => (.v (.c .dead),g)
def mVs (k0 nv0 : Nat) (hs : List SHp) (live : Nat) : Nat → Nat → List (List SV) → MG → List SV × MG
 | 0,_,_,g => ([],g)
 | n + 1,i,xss,g =>
  let (c,g) := if live.testBit i then mV k0 nv0 hs (xss.map fun xs => xs.headD (.v (.c .dead))) g else (.v (.c .dead),g)
  let (cs,g) := mVs k0 nv0 hs live n (i + 1) (xss.map List.tail) g
  (c :: cs,g)
def firstB : List (Option Nat) → List SHp → Option SB
 | some n :: _,h :: _ => List.lookup n h
 | none :: r,_ :: hs => firstB r hs
 | _,_ => none
def mB (k0 nv0 : Nat) (hs : List SHp) (ns : List (Option Nat)) (g : MG) : Option (SB × MG) :=
 match firstB ns hs with
 | some (.box cs) => match (ns.zip hs).mapM (fun (x : Option Nat × SHp) => match x.1 with
   | some n => match List.lookup n x.2 with
    | some (.box cs') => if cs'.length == cs.length then some cs' else none
    | _ => none
   | none => none) with
  | some xss => let (cs,g) := mCs k0 nv0 hs cs.length xss g; some (.box cs,g)
  | none => none
 | some (.row e _) => match (ns.zip hs).mapM (fun (x : Option Nat × SHp) => match x.1 with
   | some n => match List.lookup n x.2 with
    | some (.row e' y) => if e == e' then some y else none
    | _ => none
   | none => some .r0) with
  | some xs => let (x,g) := mAt nv0 xs g; some (.row e x,g)
  | none => none
 | some .map => if (ns.zip hs).all (fun (x : Option Nat × SHp) => match x.1 with
   | some n => match List.lookup n x.2 with
    | some .map => true
    | _ => false
   | none => false) then some (.map,g) else none
 | none => none
def mBs (k0 nv0 : Nat) (hs : List SHp) : Nat → Nat → MG → SHp → SHp × MG
 | 0,_,g,acc => (acc,g)
 | fuel + 1,i,g,acc => if i < g.ns.length then
   match g.ns[g.ns.length - 1 - i]? with
   | some (xs,n) => match mB k0 nv0 hs xs g with
    | some (b,g) => mBs k0 nv0 hs fuel (i + 1) g ((n,b) :: acc)
    | none => mBs k0 nv0 hs fuel (i + 1) g acc
   | none => (acc,g)
  else (acc,g)
def merge (live k0 nv0 : Nat) (Ss : List SSt) : Option SSt := match Ss with
 | [] => none
 | S :: _ =>
  let hs := Ss.map SSt.heap
  let old := ((S.heap.map (·.1)).filter (fun n => decide (n < k0))).eraseDups
  let g : MG := ⟨0,[],old.map fun m => (Ss.map fun _ => some m,m),k0⟩
  let (tmps,g) := mVs k0 nv0 hs live S.tmps.length 0 (Ss.map SSt.tmps) g
  let (heap,g) := mBs k0 nv0 hs 300 0 g []
  some ⟨tmps,heap.reverse,[],g.next,nv0 + g.np⟩
structure FG where
 as : List (Nat × At)
 ι : Ren
 Z : List Nat
def fAt (nv0 : Nat) (x y : At) (g : FG) : FG := match y with
 | .v j => if nv0 ≤ j then
   (match List.lookup (j - nv0) g.as with
   | some _ => g
   | none => { g with as := (j - nv0,x) :: g.as })
  else g
 | _ => g
def fN (n n' : Nat) (g : FG) : FG := match List.lookup n g.ι with
 | some _ => g
 | none => { g with ι := (n,n') :: g.ι }
def fC (D : Told4) (nv0 : Nat) (h : SHp) (c c' : SC) (g : FG) : FG := match c,c' with
 | .p _ x,.p _ y => fAt nv0 x y g
 | .own n,.p _ y => match List.lookup n h with
  | some (.row _ x) => fAt nv0 x y g
  | _ => g
 | .nil,.p _ y => fAt nv0 .r0 y g
 | .sub n a b,.p _ y => match D.find? (fun z => z.1 == n && z.2.1.same a && z.2.2.1.same b) with
  | some z => fAt nv0 z.2.2.2 y g
  | none => g
 | .nil,.own n' => if g.Z.contains n' then g else { g with Z := n' :: g.Z }
 | .nil,.sub n' _ _ => if g.Z.contains n' then g else { g with Z := n' :: g.Z }
 | .own n,.own n' => fN n n' g
 | .sub n a b,.sub n' a' b' => fAt nv0 b b' (fAt nv0 a a' (fN n n' g))
 | .ptr n _,.ptr n' _ => fN n n' g
 | .aptr n _ _ _ i,.aptr n' _ _ _ i' => fAt nv0 i i' (fN n n' g)
 | .eptr n i _,.eptr n' i' _ => fAt nv0 i i' (fN n n' g)
 | .ref x _,.ref y _ => fAt nv0 x y g
 | .fn _ ns,.fn _ ns' => (ns.zip ns').foldl (fun g x => fN x.1 x.2 g) g
 | .mp n,.mp n' => fN n n' g
 | _,_ => g
def fCs (D : Told4) (nv0 : Nat) (h : SHp) (xs ys : List SC) (g : FG) : FG := (xs.zip ys).foldl (fun g x => fC D nv0 h x.1 x.2 g) g
def fV1 (D : Told4) (nv0 : Nat) (h : SHp) (x y : SV1) (g : FG) : FG := match x,y with
 | .c x,.c y => fC D nv0 h x y g
 | .agg x,.agg y => fCs D nv0 h x y g
 | _,_ => g
def fV (D : Told4) (nv0 : Nat) (h : SHp) (x y : SV) (g : FG) : FG := match x,y with
 | .v x,.v y => fV1 D nv0 h x y g
 | .tup xs,.tup ys => (xs.zip ys).foldl (fun g x => fV1 D nv0 h x.1 x.2 g) g
 | _,_ => g
def fB (D : Told4) (nv0 : Nat) (h : SHp) (x y : SB) (g : FG) : FG := match x,y with
 | .box xs,.box ys => fCs D nv0 h xs ys g
 | .row _ x,.row _ y => fAt nv0 x y g
 | _,_ => g
def fBs (D : Told4) (nv0 : Nat) (h h' : SHp) : Nat → Nat → FG → FG
 | 0,_,g => g
 | fuel + 1,i,g => if i < g.ι.length then
   match g.ι[g.ι.length - 1 - i]? with
   | some (n,n') => match List.lookup n h,List.lookup n' h' with
    | some b,some b' => fBs D nv0 h h' fuel (i + 1) (fB D nv0 h b b' g)
    | _,_ => fBs D nv0 h h' fuel (i + 1) g
   | none => g
  else g
def findLe (D : Told4) (k0 nv0 : Nat) (S' S : SSt) : List At × Ren × List Nat :=
 let old := ((S'.heap.map (·.1)).filter (fun n => decide (n < k0))).eraseDups
 let g : FG := ⟨[],old.map fun n => (n,n),[]⟩
 let g := (S.tmps.zip S'.tmps).foldl (fun g x => fV D nv0 S.heap x.1 x.2 g) g
 let g := fBs D nv0 S.heap S'.heap 300 0 g
 let g := g.Z.foldl (fun g n => match List.lookup n S'.heap with
  | some (.row _ y) => fAt nv0 .r0 y g
  | _ => g) g
 ((List.range (S'.nv - nv0)).map fun p => (List.lookup p g.as).getD (.b false),g.ι,g.Z)
end
end Go.Proofs.YtndegphojkiblaaGreatDoor
