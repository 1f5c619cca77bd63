/- Towards the last file's theorem: part 20. -/
import Derived.Test.YtndegphojkiblaaGreatDoorG19
set_option linter.unusedSimpArgs false
set_option linter.unusedVariables false
namespace Go.Proofs.YtndegphojkiblaaGreatDoor
section
open Go.RowKit
open Classical
def Fir.norms : Fir → List SSt
 | .leaf (.st .normal S) => [S]
 | .leaf _ => []
 | .op _ k => k.norms
 | .ite _ a b => a.norms ++ b.norms
 | .join a b => a.norms ++ b.norms
 | .loop _ b => b.norms
def Fir.inLoop : Bool → Fir → Bool
 | u,.leaf (.st .normal _) => u
 | _,.leaf _ => false
 | u,.op _ k => k.inLoop u
 | u,.ite _ a b => a.inLoop u || b.inLoop u
 | u,.join a b => a.inLoop u || b.inLoop u
 | _,.loop _ b => b.inLoop true
def thaw (S : SSt) : Nat → List (SV × SV) → List Nd × Told4
 | _,[] => ([],[])
 | m,(x,y) :: r => match x,y with
  | .v (.c (.sub n a b)),.v (.c (.p .sl _)) => match S.view m (.sub n a b) with
   | some (nds,z) => match thaw S (m + ndsN nds) r with
    | (us,D) => (nds ++ us,(n,a,b,z) :: D)
   | none => thaw S m r
  | _,_ => thaw S m r
theorem thaw_ok {S : SSt} {ρ : List L} : ∀ {l : List (SV × SV)} {m : Nat},Sat ρ m (thaw S m l).1 → (thaw S m l).2.ok S ρ
 | [],_,_ => fun z hz => by cases hz
 | (x,y) :: r,m,h => by
  unfold thaw at h ⊢
  split at h
  · rename_i n a b _
    split at h
    · rename_i nds z hv
      obtain ⟨h1,h2⟩ := Sat.app h
      intro w hw
      rcases List.mem_cons.1 hw with rfl | hw
      · exact view_den hv h1
      · exact thaw_ok h2 w hw
    · rename_i hv
      exact thaw_ok h
  · exact thaw_ok h
def jmp0 (T : TTab) (k0 nv0 : Nat) (S' : SSt) (d : Nat) (e : Ex) (S : SSt) : Option Fir := match e with
 | .normal => match thaw S S.nv (S.tmps.zip S'.tmps) with
  | (nds,D) => match findLe D k0 nv0 S' S with
   | (as,ι,Z) => if (leChk D T k0 S S' nv0 as ι Z && ndsIn S.nv nds && (nds.isEmpty || S.in S.nv)) = true then some (nds.foldr .op (.leaf (.jump d as))) else none
 | e => some (.leaf (.st e S))
def SC.cut (n : Nat) (b : At) : SC → SC
 | .sub m (.i 0) b' => if m = n then (if b'.same b then .own n else .dead) else .sub m (.i 0) b'
 | c => if c.names.contains n then .dead else c
def SB.cut (n : Nat) (b : At) : SB → SB
 | .box cs => .box (cs.map (SC.cut n b))
 | x => x
def SSt.cut (S : SSt) (n : Nat) (b : At) (e : TypeId) (v : At) : SSt := { S with
 tmps := S.tmps.map (SV.onS (SC.cut n b))
 heap := S.heap.map fun x => (x.1,if x.1 = n then .row e v else x.2.cut n b) }
def cutAt (k0 : Nat) (h : SHp) : Nat → List (SV × SV) → Option (Nat × Nat × At × TypeId × At)
 | _,[] => none
 | i,(x,y) :: r => match x,y with
  | .v (.c (.sub n (.i 0) b)),.v (.c (.own _)) => if k0 ≤ n then match List.lookup n h with
    | some (.row e x) => some (i,n,b,e,x)
    | _ => cutAt k0 h (i + 1) r
   else cutAt k0 h (i + 1) r
  | _,_ => cutAt k0 h (i + 1) r
def cutChk (k0 : Nat) (S : SSt) (i n : Nat) (b : At) (ty : TypeId) (x : At) : Bool := S.in S.nv && ndsIn S.nv [.tk x b] && (match S.tmps[i]? with
 | some (.v (.c (.sub n' (.i 0) b'))) => n' == n && b'.same b
 | _ => false) && decide (k0 ≤ n) && (match List.lookup n S.heap with
 | some (.row e' x') => e' == ty && x'.same x
 | _ => false)
def jmp (T : TTab) (k0 nv0 : Nat) (S' : SSt) (d : Nat) (e : Ex) (S : SSt) : Option Fir := match e with
 | .normal => match cutAt k0 S.heap 0 (S.tmps.zip S'.tmps) with
  | some (i,n,b,ty,x) => if cutChk k0 S i n b ty x = true then (jmp0 T k0 nv0 S' d .normal ((S.cut n b ty (.v S.nv)).more 1)).map (.op (.tk x b)) else none
  | none => jmp0 T k0 nv0 S' d .normal S
 | e => jmp0 T k0 nv0 S' d e S
def inl (k : SSt → Option Fir) (_ : Nat) (e : Ex) (S : SSt) : Option Fir := match e with
 | .normal => k S
 | e => some (.leaf (.st e S))
def cont (T : TTab) (k0 live nv0 : Nat) (k : SSt → Option Fir) (t : Fir) : Option Fir :=
 if decide (t.norms.length ≤ 1) && !t.inLoop false then t.bind (inl k) 0
 else match merge live k0 nv0 t.norms with
  | some S' => match t.bind (jmp T k0 nv0 S') 0,k S' with
   | some u,some rest => some (.join u rest)
   | _,_ => none
  | none => none
def loopN (T : TTab) (k0 live : Nat) (body : SSt → Option Fir) (S : SSt) : Nat → List SSt → Option Fir
 | 0,_ => none
 | fuel + 1,Ss => match merge live k0 S.nv Ss with
  | some S' => match body S' with
   | some t => match jmp T k0 S.nv S' 0 .normal S,t.bind (jmp T k0 S.nv S') 0 with
    | some (.leaf (.jump _ as)),some u => if S'.gone.isEmpty then some (.loop as u) else none
    | _,_ => loopN T k0 live body S fuel (S :: t.norms)
   | none => none
  | none => none
def exec (T : TTab) (C : CTab) (k0 : Nat) : Code → Nat → List (Nat × Nat) → Nat → SSt → Option Fir
 | .skip,_,_,_,S => some (.leaf (.st .normal S))
 | .region _ ops draw,_,_,_,S => execRegion T C ops draw S
 | .seq a b,n,ex,r,S => match exec T C k0 a (lv b n ex r) ex r S with
  | some t => cont T k0 (lv b n ex r) S.nv (exec T C k0 b n ex r) t
  | none => none
 | .cond c a b,n,ex,r,S => match S.arg c with
  | some (.v (.c (.p .bool (.b true)))) => exec T C k0 a n ex r S
  | some (.v (.c (.p .bool (.b false)))) => exec T C k0 b n ex r S
  | some (.v (.c (.p .bool x))) => match exec T C k0 a n ex r S,exec T C k0 b n ex r S with
   | some u,some v => some (.ite x u v)
   | _,_ => none
  | _ => none
 | .block id c,n,ex,r,S => match exec T C k0 c n ((id,n) :: ex) r S with
  | some t => t.bind (fun _ e S => some (.leaf (.st (if e = .exit id then .normal else e) S))) 0
  | none => none
 | .loop c,_,ex,r,S => loopN T k0 (lv c 0 ex r) (exec T C k0 c (lv c 0 ex r) ex r) S 5 [S]
 | .exit id,_,_,_,S => some (.leaf (.st (.exit id) S))
 | .ret,_,_,_,S => some (.leaf (.st .ret S))
 | _,_,_,_,_ => none
def GoodF (P : Program) (k0 : Nat) (c : Code) (S : SSt) (t : Fir) : Prop := ∀ ρ x ρ',ρ.length = S.nv → t.den ρ = some (x,ρ') → Good P k0 c S ρ x ρ'
theorem bind_bare {f : Nat → Ex → SSt → Option Fir} {t u : Fir} {ρ : List L} {o : Lf × List L}
  (hb : ∀ x ρ1,t.den ρ = some (x,ρ1) → ∃ e S,x = .st e S)
  (H : ∀ e S ρ1,t.den ρ = some (.st e S,ρ1) → ∀ d u1,f d e S = some u1 → u1.den ρ1 = ((f 0 e S).bind (·.den ρ1)).map (lift d))
  (h : t.bind f 0 = some u) (hd : u.den ρ = some o) : ∃ e S ρ1 v,t.den ρ = some (.st e S,ρ1) ∧ f 0 e S = some v ∧ v.den ρ1 = some o := by
 have h1 := bind_den (f := f) (R := fun e S ρ1 => (f 0 e S).bind (·.den ρ1)) (t := t) (u := u) (d := 0) (ρ := ρ) H h
 rw [hd] at h1
 cases ht : t.den ρ with
 | none => rw [ht] at h1; cases h1
 | some y =>
  obtain ⟨x,ρ1⟩ := y
  obtain ⟨e,S,rfl⟩ := hb x ρ1 ht
  rw [ht] at h1
  simp only [after] at h1
  cases hf : f 0 e S with
  | none => rw [hf] at h1; cases h1
  | some v =>
   refine ⟨e,S,ρ1,v,rfl,hf,?_⟩
   rw [hf] at h1
   simp only [Option.bind_some] at h1
   cases hv : v.den ρ1 with
   | none => rw [hv] at h1; cases h1
   | some z =>
    rw [hv] at h1
    obtain ⟨lf,ρ2⟩ := z
    cases lf <;> (simp only [Option.map_some,lift,Nat.add_zero] at h1; exact h1.symm)
theorem Good.bare {P : Program} {k0 : Nat} {c : Code} {S : SSt} {ρ ρ' : List L} {x : Lf} (h : Good P k0 c S ρ x ρ') : ∃ e S',x = .st e S' := by
 obtain ⟨e,S',h1,_⟩ := h; exact ⟨e,S',h1⟩
theorem lift_bare {d : Nat} {o : Option (Lf × List L)} (h : ∀ x ρ,o = some (x,ρ) → ∃ e S,x = .st e S) : o = o.map (lift d) := by
 cases o with
 | none => rfl
 | some y =>
  obtain ⟨x,ρ⟩ := y
  obtain ⟨e,S,rfl⟩ := h x ρ rfl
  rfl
theorem jmp0_lift {T : TTab} {k0 nv0 : Nat} {S' : SSt} {d : Nat} {e : Ex} {S : SSt} {u1 : Fir} {ρ1 : List L} (h : jmp0 T k0 nv0 S' d e S = some u1) : u1.den ρ1 = ((jmp0 T k0 nv0 S' 0 e S).bind (·.den ρ1)).map (lift d) := by
 cases e with
 | normal =>
  simp only [jmp0] at h ⊢
  split at h
  · rename_i hc
    cases h
    rw [if_pos hc]
    simp only [Option.bind_some,foldr_den]
    split
    · simp only [Fir.den,Option.map_some,lift,Nat.zero_add]
    · rfl
  · cases h
 | _ => cases h; rfl
theorem jmp_lift {T : TTab} {k0 nv0 : Nat} {S' : SSt} {d : Nat} {e : Ex} {S : SSt} {u1 : Fir} {ρ1 : List L} (h : jmp T k0 nv0 S' d e S = some u1) : u1.den ρ1 = ((jmp T k0 nv0 S' 0 e S).bind (·.den ρ1)).map (lift d) := by
 cases e with
 | normal =>
  simp only [jmp] at h ⊢
  split at h
  · rename_i i n b ty x hcut
    split at h
    · rename_i hc
      rw [if_pos hc]
      simp only [Option.map_eq_some_iff] at h
      obtain ⟨u,hu,rfl⟩ := h
      have key : ∀ ρ2,u.den ρ2 = ((jmp0 T k0 nv0 S' 0 .normal ((S.cut n b ty (.v S.nv)).more 1)).bind (·.den ρ2)).map (lift d) := fun ρ2 => jmp0_lift hu
      cases h0 : jmp0 T k0 nv0 S' 0 .normal ((S.cut n b ty (.v S.nv)).more 1) with
      | none =>
       simp only [h0,Option.bind_none,Option.map_none] at key
       simp only [Fir.den,key,Option.map_none,Option.bind_none]
       split <;> rfl
      | some u0 =>
       simp only [h0,Option.bind_some] at key
       simp only [Option.map_some,Option.bind_some,Fir.den,key]
       split <;> rfl
    · cases h
  · exact jmp0_lift h
 | _ => simp only [jmp] at h ⊢; exact jmp0_lift h
theorem jmp0_ok {P : Program} {T : TTab} (hT : TTab.ok P T) {k0 : Nat} {S S' : SSt} {ρ ys : List L} {nv0 : Nat} (hl : ρ.length = nv0) (hl2 : S.nv = (ρ ++ ys).length) {v : Fir} {o : Lf × List L} (hg : S.gone = []) (h : jmp0 T k0 nv0 S' 0 .normal S = some v) (hd : v.den (ρ ++ ys) = some o) :
   ∃ as zs,o = (.jump 0 as,ρ ++ ys ++ zs) ∧ S'.gone = [] ∧ S'.nv = (ρ ++ as.map (At.ev (ρ ++ ys ++ zs))).length ∧ ∀ X : Fx,X.P = P → X.k0 = k0 → Le X (S.den (ρ ++ ys)) (S'.den (ρ ++ as.map (At.ev (ρ ++ ys ++ zs)))) := by
 simp only [jmp0] at h
 split at h
 · rename_i hc
   cases h
   simp only [Bool.and_eq_true,Bool.or_eq_true] at hc
   obtain ⟨⟨h1,h2⟩,h3⟩ := hc
   rw [foldr_den] at hd
   split at hd
   · rename_i ρ' he
     cases hd
     obtain ⟨zs,e1,e2⟩ := evNds_app he
     subst e1
     have hsat := evNds_sat (ys := []) (by rw [← hl2]; exact h2) he
     rw [List.append_nil,← hl2] at hsat
     have hin : S.den (ρ ++ ys ++ zs) = S.den (ρ ++ ys) := by
      rcases h3 with h3 | h3
      · have : (thaw S S.nv (S.tmps.zip S'.tmps)).1 = [] := by simpa using h3
        rw [this] at e2
        have : zs = [] := List.eq_nil_of_length_eq_zero (by simpa [ndsN] using e2)
        rw [this,List.append_nil]
      · exact SSt.in_den h3 (by omega)
     have hD := thaw_ok (S := S) hsat
     rw [List.append_assoc] at hD
     have := leChk_ok hT hl hD h1 hg
     rw [← List.append_assoc,hin] at this
     exact ⟨_,zs,rfl,this⟩
   · cases hd
 · cases h
theorem SC.cut_den {ρ : List L} {n : Nat} {b : At} (c : SC) : CutC n (b.ev ρ).asI.toNat (c.den ρ) ((c.cut n b).den ρ) := by
 have gen : ∀ c : SC,CutC n (b.ev ρ).asI.toNat (c.den ρ) ((if c.names.contains n then SC.dead else c).den ρ) := by
   intro c
   split
   · exact .inl rfl
   · rename_i hn
     exact .inr (.inl ⟨rfl,by rw [SC.names_den]; simpa using hn⟩)
 unfold SC.cut
 split
 · rename_i m b'
   split
   · rename_i hm
     subst hm
     split
     · rename_i hs
       rw [At.same_eq hs]
       exact .inr (.inr ⟨rfl,rfl⟩)
     · exact .inl rfl
   · rename_i hm
     exact .inr (.inl ⟨rfl,by simp only [SC.den,C.names,List.mem_singleton]; exact fun h => hm h.symm⟩)
 · exact gen _
theorem SV1.cut_den {ρ : List L} {n : Nat} {b : At} (x : SV1) : CutV1 n (b.ev ρ).asI.toNat (x.den ρ) ((x.onS (SC.cut n b)).den ρ) := by
 cases x with
 | c c =>
  have := SC.cut_den (ρ := ρ) (n := n) (b := b) c
  simp only [SV1.onS,SV1.den]
  revert this
  generalize SC.den ρ (SC.cut n b c) = c'
  intro h
  cases c' <;> first | trivial | exact h
 | agg cs =>
  refine ⟨by simp,fun i c' hi => ?_⟩
  simp only [List.getElem?_map,Option.map_map,Option.map_eq_some_iff,Function.comp] at hi
  obtain ⟨c,hc,rfl⟩ := hi
  exact ⟨c.den ρ,by simp [hc],SC.cut_den c⟩
theorem SV.cut_den {ρ : List L} {n : Nat} {b : At} (x : SV) : CutV n (b.ev ρ).asI.toNat (x.den ρ) ((x.onS (SC.cut n b)).den ρ) := by
 cases x with
 | v x =>
  have := SV1.cut_den (ρ := ρ) (n := n) (b := b) x
  simp only [SV.onS,SV.den]
  revert this
  generalize SV1.den ρ (SV1.onS (SC.cut n b) x) = y
  intro h
  cases y with
  | c c => cases c <;> first | trivial | exact h
  | agg => exact h
 | tup xs =>
  refine ⟨by simp,fun i c' hi => ?_⟩
  simp only [List.getElem?_map,Option.map_map,Option.map_eq_some_iff,Function.comp] at hi
  obtain ⟨c,hc,rfl⟩ := hi
  exact ⟨c.den ρ,by simp [hc],SV1.cut_den c⟩
theorem SB.cut_den {ρ : List L} {n : Nat} {b : At} (x : SB) : CutB n (b.ev ρ).asI.toNat (x.den ρ) ((x.cut n b).den ρ) := by
 cases x with
 | box cs =>
  refine ⟨by simp,fun i c' hi => ?_⟩
  simp only [List.getElem?_map,Option.map_map,Option.map_eq_some_iff,Function.comp] at hi
  obtain ⟨c,hc,rfl⟩ := hi
  exact ⟨c.den ρ,by simp [hc],SC.cut_den c⟩
 | row e x => exact ⟨rfl,rfl⟩
 | map => rfl
theorem lookup_mapk {f : Nat → SB → SB} {m : Nat} : ∀ {h : SHp},List.lookup m (h.map fun x => (x.1,f x.1 x.2)) = (List.lookup m h).map (f m)
 | [] => rfl
 | (k,b) :: h => by
  simp only [List.map_cons,List.lookup_cons]
  split
  · rename_i hk; simp at hk; subst hk; rfl
  · exact lookup_mapk
theorem cut_ok {ρ : List L} {S : SSt} {k0 n i : Nat} {b v x : At} {e : TypeId} (hg : S.gone = []) (hk : k0 ≤ n) (hi : S.tmps[i]? = some (.v (.c (.sub n (.i 0) b)))) (hl : List.lookup n S.heap = some (.row e x)) (hv : (v.ev ρ).asR = (x.ev ρ).asR.take (b.ev ρ).asI.toNat) :
  CutS k0 (S.den ρ) ((S.cut n b e v).den ρ) n (b.ev ρ).asI.toNat e (x.ev ρ).asR := {
 k0 := hk
 gone := hg
 next := rfl
 row := by rw [den_heap,hl]; rfl
 told := ⟨i,by simp only [SSt.den,List.getElem?_map,hi]; rfl⟩
 len := by simp [SSt.den,SSt.cut]
 tmps := fun j v' hj => by
  simp only [SSt.den,SSt.cut,List.getElem?_map,Option.map_map,Option.map_eq_some_iff,Function.comp] at hj
  obtain ⟨y,hy,rfl⟩ := hj
  exact ⟨y.den ρ,by simp [SSt.den,hy],SV.cut_den y⟩
 heap := fun m b' hb => by
  rw [den_heap] at hb
  simp only [Option.map_eq_some_iff] at hb
  obtain ⟨b0,hb0,rfl⟩ := hb
  have hb0 : List.lookup m (S.heap.map fun x => (x.1,(fun m b1 => if m = n then SB.row e v else b1.cut n b) x.1 x.2)) = some b0 := hb0
  rw [lookup_mapk (f := fun m b1 => if m = n then SB.row e v else b1.cut n b)] at hb0
  simp only [Option.map_eq_some_iff] at hb0
  obtain ⟨b1,hb1,rfl⟩ := hb0
  by_cases hm : m = n
  · left
    subst hm
    exact ⟨rfl,by simp only [if_true,SB.den,hv]⟩
  · right
    refine ⟨hm,b1.den ρ,by rw [den_heap,hb1]; rfl,?_⟩
    simp only [if_neg hm]
    exact SB.cut_den b1
 }
theorem jmp_ok {P : Program} {T : TTab} (hT : TTab.ok P T) {k0 : Nat} {S S' : SSt} {ρ ys : List L} {nv0 : Nat} (hl : ρ.length = nv0) (hl2 : S.nv = (ρ ++ ys).length) {v : Fir} {o : Lf × List L} (hg : S.gone = []) (h : jmp T k0 nv0 S' 0 .normal S = some v) (hd : v.den (ρ ++ ys) = some o) :
   ∃ as zs,o = (.jump 0 as,ρ ++ ys ++ zs) ∧ S'.gone = [] ∧ S'.nv = (ρ ++ as.map (At.ev (ρ ++ ys ++ zs))).length ∧ ∀ X : Fx,X.P = P → X.k0 = k0 → Le X (S.den (ρ ++ ys)) (S'.den (ρ ++ as.map (At.ev (ρ ++ ys ++ zs)))) := by
 simp only [jmp] at h
 split at h
 · rename_i i n b ty x hcut
   split at h
   · rename_i hc
     simp only [cutChk,Bool.and_eq_true,decide_eq_true_eq] at hc
     obtain ⟨⟨⟨⟨c1,c2⟩,c3⟩,c4⟩,c5⟩ := hc
     simp only [Option.map_eq_some_iff] at h
     obtain ⟨u,hu,rfl⟩ := h
     have hi : S.tmps[i]? = some (.v (.c (.sub n (.i 0) b))) := by
       split at c3
       · rename_i n' b' hx
         simp only [Bool.and_eq_true,beq_iff_eq] at c3
         obtain ⟨rfl,hs⟩ := c3
         rw [hx,At.same_eq hs]
       · cases c3
     have hlk : List.lookup n S.heap = some (.row ty x) := by
       split at c5
       · rename_i e' x' hx
         simp only [Bool.and_eq_true,beq_iff_eq] at c5
         obtain ⟨rfl,hs⟩ := c5
         rw [hx,At.same_eq hs]
       · cases c5
     simp only [Fir.den,Nd.ev] at hd
     let r : L := .r (((x.ev (ρ ++ ys)).asR).take (b.ev (ρ ++ ys)).asI.toNat)
     have hd' : u.den (ρ ++ (ys ++ [r])) = some o := by rw [← List.append_assoc]; exact hd
     obtain ⟨as,zs,j1,j2,j3,j4⟩ := jmp0_ok (S := (S.cut n b ty (.v S.nv)).more 1) hT hl (by simp only [SSt.more,SSt.cut,hl2,List.length_append,List.length_cons,List.length_nil]; omega) hg hu hd'
     simp only [ndsIn,Nd.in,Bool.and_eq_true,Bool.and_true] at c2
     have e1 : ∀ y : At,y.in S.nv = true → y.ev (ρ ++ (ys ++ [r])) = y.ev (ρ ++ ys) := fun y hy => by
       rw [← List.append_assoc]; exact At.ev_app hy (by omega)
     have hv : ((At.v S.nv).ev (ρ ++ (ys ++ [r]))).asR = ((x.ev (ρ ++ (ys ++ [r]))).asR).take (b.ev (ρ ++ (ys ++ [r]))).asI.toNat := by
       rw [e1 x c2.1,e1 b c2.2]
       have : (ρ ++ (ys ++ [r]))[S.nv]? = some r := by
         rw [← List.append_assoc,List.getElem?_append_right (by omega),hl2,Nat.sub_self]; rfl
       show (((ρ ++ (ys ++ [r]))[S.nv]?).getD (.b false)).asR = _
       rw [this]; rfl
     have hcs := cut_ok (ρ := ρ ++ (ys ++ [r])) (k0 := k0) (v := .v S.nv) hg c4 hi hlk hv
     have hsin : S.den (ρ ++ (ys ++ [r])) = S.den (ρ ++ ys) := by rw [← List.append_assoc]; exact SSt.in_den c1 (by omega)
     rw [hsin] at hcs
     refine ⟨as,r :: zs,?_,j2,?_,fun X hXP hXk => ?_⟩
     · rw [j1]; simp
     · simpa using j3
     · have := j4 X hXP hXk
       subst hXk
       have h2 : ρ ++ ys ++ r :: zs = ρ ++ (ys ++ [r]) ++ zs := by simp
       rw [h2]
       exact fun a w ht => this a w (hcs.le hg a w ht)
   · cases h
 · exact jmp0_ok hT hl hl2 hg h hd
theorem cont_ok {P : Program} {T : TTab} (hT : TTab.ok P T) {k0 live : Nat} {a b : Code} {k : SSt → Option Fir} {S : SSt} {t u : Fir} (ha : GoodF P k0 a S t)
   (hk : ∀ S2 u,S2.gone = [] → k S2 = some u → GoodF P k0 b S2 u) (h : cont T k0 live S.nv k t = some u) : GoodF P k0 (.seq a b) S u := by
 intro ρ x ρ' hl hd
 unfold cont at h
 split at h
 · obtain ⟨e,S1,ρ1,v,h1,h2,h3⟩ := bind_bare (fun x ρ1 hx => (ha ρ x ρ1 hl hx).bare) (fun e S1 ρ1 ht d u1 hf => by
     cases e with
     | normal =>
       simp only [inl] at hf ⊢
       rw [hf]
       simp only [Option.bind_some]
       obtain ⟨e',S1',g1,g2,g3,g4,g5⟩ := ha ρ _ _ hl ht
       cases g1
       exact lift_bare fun x ρ2 hx => (hk S1 u1 g4 hf ρ1 x ρ2 g2.symm hx).bare
     | _ => cases hf; rfl) h hd
   obtain ⟨e',S1',g1,g2,⟨ys,g3⟩,g4,g5⟩ := ha ρ _ _ hl h1
   cases g1
   cases e with
   | normal =>
     obtain ⟨e2,S2,k1,k2,⟨zs,k3⟩,k4,k5⟩ := hk S1 v g4 h2 ρ1 x ρ' g2.symm h3
     exact ⟨e2,S2,k1,k2,⟨ys ++ zs,by rw [k3,g3,List.append_assoc]⟩,k4,fun X hP hk0 Q hQ => aw_seq (g5 X hP hk0 _ (k5 X hP hk0 Q hQ))⟩
   | exit id => cases h2; cases h3; exact ⟨.exit id,S1,rfl,g2,⟨ys,g3⟩,g4,fun X hP hk0 Q hQ => aw_seq (g5 X hP hk0 _ hQ)⟩
   | ret => cases h2; cases h3; exact ⟨.ret,S1,rfl,g2,⟨ys,g3⟩,g4,fun X hP hk0 Q hQ => aw_seq (g5 X hP hk0 _ hQ)⟩
 · split at h
   · rename_i S' hS'
     split at h
     · rename_i w rest hw hrest
       cases h
       simp only [Fir.den] at hd
       cases hwd : w.den ρ with
       | none => rw [hwd] at hd; cases hd
       | some o =>
        obtain ⟨e,S1,ρ1,v,h1,h2,h3⟩ := bind_bare (fun x ρ1 hx => (ha ρ x ρ1 hl hx).bare) (fun e S1 ρ1 ht d u1 hf => jmp_lift hf) hw hwd
        obtain ⟨e',S1',g1,g2,⟨ys,g3⟩,g4,g5⟩ := ha ρ _ _ hl h1
        cases g1
        cases e with
        | normal =>
         subst g3
         obtain ⟨as,zs',j1,j2,j3,j4⟩ := jmp_ok hT hl g2 g4 h2 h3
         subst j1
         rw [hwd] at hd
         simp only at hd
         obtain ⟨e2,S2,k1,k2,⟨zs,k3⟩,k4,k5⟩ := hk S' rest j2 hrest _ x ρ' j3.symm hd
         exact ⟨e2,S2,k1,k2,⟨_,by rw [k3,List.append_assoc]⟩,k4,fun X hP hk0 Q hQ => aw_seq (g5 X hP hk0 _ (aw_le (j4 X hP hk0) (k5 X hP hk0 Q hQ)))⟩
        | exit id =>
         cases h2; cases h3; rw [hwd] at hd; cases hd
         exact ⟨.exit id,S1,rfl,g2,⟨ys,g3⟩,g4,fun X hP hk0 Q hQ => aw_seq (g5 X hP hk0 _ hQ)⟩
        | ret =>
         cases h2; cases h3; rw [hwd] at hd; cases hd
         exact ⟨.ret,S1,rfl,g2,⟨ys,g3⟩,g4,fun X hP hk0 Q hQ => aw_seq (g5 X hP hk0 _ hQ)⟩
     · cases h
   · cases h
theorem loop_ok {P : Program} {T : TTab} (hT : TTab.ok P T) {k0 : Nat} {c : Code} {S S' : SSt} {t u : Fir} {as : List At} {n : Nat} (hg : S.gone = []) (hc : GoodF P k0 c S' t)
  (hi : jmp T k0 S.nv S' 0 .normal S = some (.leaf (.jump n as))) (hu : t.bind (jmp T k0 S.nv S') 0 = some u) : GoodF P k0 (.loop c) S (.loop as u) := by
 intro ρ x ρ' hl hd
 simp only [Fir.den] at hd
 obtain ⟨N,hN⟩ := iterO_some hd
 obtain ⟨as',zs0,i1,i2,i3,i4⟩ := jmp_ok (ys := []) hT hl (by simpa using hl.symm) hg hi rfl
 injection i1 with i1 i1'
 cases i1
 rw [← i1'] at i3 i4
 simp only [List.append_nil] at i3 i4
 have step : ∀ (n : Nat) (a : List L),S'.nv = (ρ ++ a).length → iterN (fun a => loopStep (u.den (ρ ++ a))) (n + 1) a = some (x,ρ') →
    ∃ e S1 ys,S1.nv = (ρ ++ a ++ ys).length ∧ S1.gone = [] ∧
      (∀ X : Fx,X.P = P → X.k0 = k0 → ∀ Q : Exit → ASt → Prop,Q e.to (S1.den (ρ ++ a ++ ys)) → Aw X c Q (S'.den (ρ ++ a))) ∧
      ((e = .normal ∧ ∃ a',S'.nv = (ρ ++ a').length ∧ iterN (fun a => loopStep (u.den (ρ ++ a))) n a' = some (x,ρ') ∧ ∀ X : Fx,X.P = P → X.k0 = k0 → Le X (S1.den (ρ ++ a ++ ys)) (S'.den (ρ ++ a'))) ∨
       (e ≠ .normal ∧ x = .st e S1 ∧ ρ' = ρ ++ a ++ ys)) := by
  intro n a ha hn
  simp only [iterN] at hn
  cases hwd : u.den (ρ ++ a) with
  | none => rw [hwd] at hn; cases hn
  | some o =>
    obtain ⟨e,S1,ρ1,v,h1,h2,h3⟩ := bind_bare (fun x ρ1 hx => (hc (ρ ++ a) x ρ1 ha.symm hx).bare) (fun e S1 ρ1 ht d u1 hf => jmp_lift hf) hu hwd
    obtain ⟨e',S1',g1,g2,⟨ys,g3⟩,g4,g5⟩ := hc (ρ ++ a) _ _ ha.symm h1
    cases g1
    subst g3
    refine ⟨e,S1,ys,g2,g4,g5,?_⟩
    cases e with
    | normal =>
      rw [List.append_assoc] at h3
      obtain ⟨as,zs',j1,j2,j3,j4⟩ := jmp_ok hT hl (by rw [g2,List.append_assoc]) g4 h2 h3
      subst j1
      rw [hwd] at hn
      simp only [loopStep] at hn
      exact .inl ⟨rfl,_,j3,hn,by rw [List.append_assoc]; exact j4⟩
    | exit id => cases h2; cases h3; rw [hwd] at hn; cases hn; exact .inr ⟨(by intro h; cases h),rfl,rfl⟩
    | ret => cases h2; cases h3; rw [hwd] at hn; cases hn; exact .inr ⟨(by intro h; cases h),rfl,rfl⟩
 have fin : ∀ (n : Nat) (a : List L),S'.nv = (ρ ++ a).length → iterN (fun a => loopStep (u.den (ρ ++ a))) n a = some (x,ρ') →
    ∃ e S1,x = .st e S1 ∧ S1.nv = ρ'.length ∧ (∃ ys,ρ' = ρ ++ ys) ∧ S1.gone = [] ∧ e ≠ .normal := by
  intro n
  induction n with
  | zero => intro a _ h; cases h
  | succ n ih =>
    intro a ha hn
    obtain ⟨e,S1,ys,h1,h2,_,h4⟩ := step n a ha hn
    rcases h4 with ⟨_,a',k1,k2,_⟩ | ⟨k1,k2,k3⟩
    · exact ih a' k1 k2
    · subst k2 k3
      exact ⟨e,S1,rfl,h1,⟨a ++ ys,List.append_assoc ..⟩,h2,k1⟩
 obtain ⟨e,S1,f1,f2,f3,f4,f5⟩ := fin N _ i3 hN
 refine ⟨e,S1,f1,f2,f3,f4,fun X hP hk0 Q hQ => ?_⟩
 refine aw_loop (α := Nat × List L) (fun p st => st = S'.den (ρ ++ p.2) ∧ S'.nv = (ρ ++ p.2).length ∧ iterN (fun a => loopStep (u.den (ρ ++ a))) p.1 p.2 = some (x,ρ')) (fun p => p.1)
  (x0 := (N,as.map (At.ev ρ))) ⟨_,i4 X hP hk0,rfl,i3,hN⟩ ?_
 rintro ⟨n,a⟩ st ⟨rfl,ha,hn⟩
 cases n with
 | zero => cases hn
 | succ n =>
  obtain ⟨e1,S2,ys,h1,h2,h3,h4⟩ := step n a ha hn
  refine h3 X hP hk0 _ ?_
  rcases h4 with ⟨rfl,a',k1,k2,k3⟩ | ⟨k1,k2,k3⟩
  · exact ⟨(n,a'),_,k3 X hP hk0,⟨rfl,k1,k2⟩,Nat.lt_succ_self n⟩
  · subst f1
    cases k2
    subst k3
    cases e with
    | normal => exact absurd rfl k1
    | exit id => exact hQ
    | ret => exact hQ
theorem loopN_ok {P : Program} {T : TTab} (hT : TTab.ok P T) {k0 live : Nat} {c : Code} {body : SSt → Option Fir} {S : SSt} (hg : S.gone = []) (hb : ∀ S2 u,S2.gone = [] → body S2 = some u → GoodF P k0 c S2 u) :
  ∀ {fuel : Nat} {Ss : List SSt} {u : Fir},loopN T k0 live body S fuel Ss = some u → GoodF P k0 (.loop c) S u
 | 0,_,_,h => by cases h
 | fuel + 1,Ss,u,h => by
  simp only [loopN] at h
  split at h
  · rename_i S' hS'
    split at h
    · rename_i t ht
      split at h
      · rename_i n as w h1 h2
        split at h
        · rename_i hgo
          cases h
          exact loop_ok hT hg (hb S' t (by simpa using hgo) ht) h1 h2
        · cases h
      · exact loopN_ok hT hg hb h
    · cases h
  · cases h
theorem exec_ok {P : Program} {T : TTab} {C : CTab} {k0 : Nat} (hT : TTab.ok P T) (hC : CTab.ok P C) (hm : P.follows .mixedOrders = true) : ∀ (c : Code) {n : Nat} {ex : List (Nat × Nat)} {r : Nat} {S : SSt} {u : Fir},
  S.gone = [] → exec T C k0 c n ex r S = some u → GoodF P k0 c S u
 | .skip,n,ex,r,S,u,hg,h => by
  simp only [exec] at h
  cases h
  intro ρ x ρ' hl hd
  cases hd
  exact ⟨.normal,S,rfl,hl.symm,⟨[],by simp⟩,hg,fun X _ _ Q hQ => aw_skip hQ⟩
 | .exit id,n,ex,r,S,u,hg,h => by
  simp only [exec] at h
  cases h
  intro ρ x ρ' hl hd
  cases hd
  exact ⟨.exit id,S,rfl,hl.symm,⟨[],by simp⟩,hg,fun X _ _ Q hQ => aw_exit hQ⟩
 | .ret,n,ex,r,S,u,hg,h => by
  simp only [exec] at h
  cases h
  intro ρ x ρ' hl hd
  cases hd
  exact ⟨.ret,S,rfl,hl.symm,⟨[],by simp⟩,hg,fun X _ _ Q hQ => aw_ret hQ⟩
 | .region id ops draw,n,ex,r,S,u,hg,h => by
  simp only [exec] at h
  intro ρ x ρ' hl hd
  exact execRegion_ok hT hC hm h hl hd
 | .seq a b,n,ex,r,S,u,hg,h => by
  simp only [exec] at h
  split at h
  · rename_i t ht
    exact cont_ok hT (exec_ok hT hC hm a hg ht) (fun S2 u hg2 hu => exec_ok hT hC hm b hg2 hu) h
  · cases h
 | .block id c,n,ex,r,S,u,hg,h => by
  simp only [exec] at h
  split at h
  · rename_i t ht
    intro ρ x ρ' hl hd
    have hc := exec_ok hT hC hm c hg ht
    obtain ⟨e,S1,ρ1,v,h1,h2,h3⟩ := bind_bare (fun x ρ1 hx => (hc ρ x ρ1 hl hx).bare) (fun e S1 ρ1 ht d u1 hf => by cases hf; rfl) h hd
    obtain ⟨e',S1',g1,g2,g3,g4,g5⟩ := hc ρ _ _ hl h1
    cases g1
    cases h2
    cases h3
    refine ⟨_,S1,rfl,g2,g3,g4,fun X hP hk0 Q hQ => aw_block (g5 X hP hk0 _ ?_)⟩
    cases e with
    | normal => exact hQ
    | ret => exact hQ
    | exit id' =>
      simp only [Ex.to,inBlockA]
      by_cases hid : id' = id
      · subst hid; rw [if_pos rfl]; rw [if_pos rfl] at hQ; exact hQ
      · rw [if_neg hid]; rw [if_neg (by intro h; cases h; exact hid rfl)] at hQ; exact hQ
  · cases h
 | .loop c,n,ex,r,S,u,hg,h => by
  simp only [exec] at h
  exact loopN_ok hT hg (fun S2 u hg2 hu => exec_ok hT hC hm c hg2 hu) h
 | .cond c a b,n,ex,r,S,u,hg,h => by
  simp only [exec] at h
  have key : ∀ (y : At),S.arg c = some (.v (.c (.p .bool y))) → ∀ ρ,(S.den ρ).arg c = some (.sc (.bool (y.ev ρ).asB)) := fun y hy ρ => SSt.arg_den ρ hy
  split at h
  · rename_i hc
    intro ρ x ρ' hl hd
    obtain ⟨e,S',g1,g2,g3,g4,g5⟩ := exec_ok hT hC hm a hg h ρ x ρ' hl hd
    exact ⟨e,S',g1,g2,g3,g4,fun X hP hk0 Q hQ => aw_cond (t := true) (key _ hc ρ) (fun _ => g5 X hP hk0 Q hQ) (fun h => by cases h)⟩
  · rename_i hc
    intro ρ x ρ' hl hd
    obtain ⟨e,S',g1,g2,g3,g4,g5⟩ := exec_ok hT hC hm b hg h ρ x ρ' hl hd
    exact ⟨e,S',g1,g2,g3,g4,fun X hP hk0 Q hQ => aw_cond (t := false) (key _ hc ρ) (fun h => by cases h) (fun _ => g5 X hP hk0 Q hQ)⟩
  · rename_i y _ _ hc
    split at h
    · rename_i u1 u2 h1 h2
      cases h
      intro ρ x ρ' hl hd
      simp only [Fir.den] at hd
      split at hd
      · rename_i ht
        obtain ⟨e,S',g1,g2,g3,g4,g5⟩ := exec_ok hT hC hm a hg h1 ρ x ρ' hl hd
        exact ⟨e,S',g1,g2,g3,g4,fun X hP hk0 Q hQ => aw_cond (key _ hc ρ) (fun _ => g5 X hP hk0 Q hQ) (fun h => by rw [ht] at h; cases h)⟩
      · rename_i ht
        obtain ⟨e,S',g1,g2,g3,g4,g5⟩ := exec_ok hT hC hm b hg h2 ρ x ρ' hl hd
        exact ⟨e,S',g1,g2,g3,g4,fun X hP hk0 Q hQ => aw_cond (key _ hc ρ) (fun h => absurd h ht) (fun _ => g5 X hP hk0 Q hQ)⟩
    · cases h
  · cases h
 | .rangeFunc ..,_,_,_,_,_,_,h => by simp only [exec] at h; cases h
 | .scope ..,_,_,_,_,_,_,h => by simp only [exec] at h; cases h
 | .label ..,_,_,_,_,_,_,h => by simp only [exec] at h; cases h
 | .goto ..,_,_,_,_,_,_,h => by simp only [exec] at h; cases h
 | .refuse ..,_,_,_,_,_,_,h => by simp only [exec] at h; cases h
end
section
open Go.RowKit
open Classical
def resMask : List ResultVar → Nat
 | [] => 0
 | .tmp t :: r => (1 <<< t) ||| resMask r
 | .cell t _ :: r => (1 <<< t) ||| resMask r
def Fir.rets : Fir → List SSt
 | .leaf (.st .normal S) => [S]
 | .leaf (.st .ret S) => [S]
 | .leaf _ => []
 | .op _ k => k.rets
 | .ite _ a b => a.rets ++ b.rets
 | .join a b => a.rets ++ b.rets
 | .loop _ b => b.rets
def fin (T : TTab) (k0 nv0 : Nat) (S' : SSt) (d : Nat) (e : Ex) (S : SSt) : Option Fir := match e with
 | .exit _ => none
 | _ => jmp T k0 nv0 S' d .normal S
def SV.one : SV → Option SV1
 | .v x => some x
 | .tup _ => none
def sRes1 (T : TTab) (S : SSt) : ResultVar → Option SV1
 | .tmp t => (S.tmps[t]?).bind SV.one
 | .cell t ty => match S.tmps[t]? with
  | some (.v (.c (.ptr n off))) => match List.lookup n S.heap,List.lookup ty T with
   | some (.box cs),some r => (sRead r (cs.drop off)).bind SV.one
   | _,_ => none
  | _ => none
def sPackA : List SV1 → SV
 | [x] => .v x
 | xs => .tup xs
def sResA (T : TTab) (rs : List ResultVar) (S : SSt) : Option SV := (rs.mapM (sRes1 T S)).map sPackA
theorem one_den {ρ : List L} {v : SV} {x : SV1} (h : v.one = some x) : (v.den ρ).one = some (x.den ρ) := by
 cases v with
 | v y => cases h; rfl
 | tup => cases h
theorem sRes1_den {P : Program} {T : TTab} (hT : TTab.ok P T) {S : SSt} {ρ : List L} {rv : ResultVar} {x : SV1} (h : sRes1 T S rv = some x) : res1 P (S.den ρ) rv = some (x.den ρ) := by
 have ht : ∀ t : Nat,(S.den ρ).tmps[t]? = (S.tmps[t]?).map (SV.den ρ) := fun t => by simp [SSt.den]
 cases rv with
 | tmp t =>
  simp only [sRes1,Option.bind_eq_some_iff] at h
  obtain ⟨v,h1,h2⟩ := h
  simp only [res1,ht,h1,Option.map_some,Option.bind_some,one_den h2]
 | cell t ty =>
  simp only [sRes1] at h
  split at h
  · rename_i n off h1
    split at h
    · rename_i cs r h2 h3
      simp only [Option.bind_eq_some_iff] at h
      obtain ⟨v,h4,h5⟩ := h
      have := hT _ _ h3; subst this
      have h6 := sRead_den ρ h4
      have hb : (S.den ρ).heap.lookup n = some (.box (cs.map (SC.den ρ))) := by
       rw [den_heap,h2]; rfl
      simp only [res1,ht,h1,Option.map_some,SV.den,SV1.den,SC.den,hb]
      rw [← List.map_drop,h6]
      exact one_den h5
    · cases h
  · cases h
theorem sResA_den {P : Program} {T : TTab} (hT : TTab.ok P T) {S : SSt} {ρ : List L} {rs : List ResultVar} {x : SV} (h : sResA T rs S = some x) : resA P rs (S.den ρ) = some (x.den ρ) := by
 simp only [sResA,Option.map_eq_some_iff] at h
 obtain ⟨xs,h1,rfl⟩ := h
 have key : ∀ {rs : List ResultVar} {xs : List SV1},rs.mapM (sRes1 T S) = some xs → rs.mapM (res1 P (S.den ρ)) = some (xs.map (SV1.den ρ)) := by
  intro rs
  induction rs with
  | nil => intro xs h; cases h; rfl
  | cons r rs ih =>
   intro xs h
   rw [List.mapM_cons] at h ⊢
   cases h1 : sRes1 T S r with
   | none => rw [h1] at h; cases h
   | some y =>
    cases h2 : rs.mapM (sRes1 T S) with
    | none => rw [h1,h2] at h; cases h
    | some ys =>
     rw [h1,h2] at h; cases h
     rw [sRes1_den hT h1,ih h2]
     rfl
 simp only [resA,key h1,Option.map_some]
 congr 1
 cases xs with
 | nil => rfl
 | cons x xs =>
  cases xs with
  | nil => rfl
  | cons => rfl
structure Out1 where
 fir : Fir
 res : SV
 out : SHp
 nout : Nat
def sStart (n nin : Nat) (params : List SV1) (H : List SB) : SSt := ⟨params.map SV.v ++ List.replicate (n - params.length) (.tup []),H.zipIdx.map fun x => (x.2,x.1),[],H.length,nin⟩
def SC.to (f : Nat → Nat) : SC → SC
 | .own n => .own (f n)
 | .sub n a b => .sub (f n) a b
 | .ptr n o => .ptr (f n) o
 | .aptr n o c m i => .aptr (f n) o c m i
 | .eptr n i j => .eptr (f n) i j
 | .fn g ns => .fn g (ns.map f)
 | .mp n => .mp (f n)
 | c => c
def SSt.order (k0 : Nat) (S : SSt) : SSt :=
 let tops := S.tmps.filterMap fun x => match x with
  | .v (.c (.ptr n _)) => if k0 ≤ n then some n else none
  | _ => none
 let ns := (List.range (S.next - k0)).map (· + k0)
 let ord := ns.filter (fun n => !tops.contains n) ++ ns.filter (fun n => tops.contains n)
 let f := fun n => if n < k0 then n else k0 + (ord.findIdx (· == n))
 { S with tmps := S.tmps.map (SV.onS (SC.to f)),heap := S.heap.map fun x => (f x.1,x.2.onS (SC.to f) id) }
def reach (h : SHp) : Nat → List Nat → List Nat
 | 0,ns => ns
 | fuel + 1,ns => reach h fuel (ns ++ (ns.flatMap fun n => match List.lookup n h with
  | some (.box cs) => (cs.flatMap SC.names).filter fun m => !ns.contains m
  | _ => []).eraseDups)
def execFn (T : TTab) (C : CTab) (c : Code) (n : Nat) (rs : List ResultVar) (nin : Nat) (params : List SV1) (H : List SB) : Option Out1 :=
 match exec T C H.length c (resMask rs) [] (resMask rs) (sStart n nin params H) with
 | some t => match (merge (resMask rs) H.length nin t.rets).map (SSt.order H.length) with
  | some S' => match t.bind (fin T H.length nin S') 0,sResA T rs S' with
   | some u,some r => some ⟨u,r,S'.heap.filter (fun x => (reach S'.heap 4 (List.range H.length ++ r.names)).contains x.1),S'.nv - nin⟩
   | _,_ => none
  | none => none
 | none => none
def outO (o : Out) : Option (List L) := match o with
 | some (.jump _ as,ρ) => some (as.map (At.ev ρ))
 | _ => none
noncomputable def Out1.sig (o : Out1) (f : FuncId) (nin : Nat) (params : List SV1) (H : List SB) (F : List L → Option (List L)) (tag : Nat) : Sig := ⟨f,params,H,nin,o.nout,o.res,o.out,F,tag⟩
theorem aw_post {X : Fx} {c : Code} {Q : Exit → ASt → Prop} {st : ASt} (h : Aw X c (fun e st => ∃ st',Le X st st' ∧ Q e st') st) : Aw X c Q st := fun a w ht =>
 wp_mono (h a w ht) fun _ _ _ ⟨_,⟨st',h1,h2⟩,h3⟩ => ⟨st',h2,h1 _ _ h3⟩
theorem sStart_den {n nin : Nat} {params : List SV1} {H : List SB} {ρ : List L} : (sStart n nin params H).den ρ = startA n (params.map (SV1.den ρ)) (H.map (SB.den ρ)) := by
 unfold sStart startA SSt.den
 congr 1
 · simp only [List.map_append,List.map_map,List.map_replicate,List.length_map]
   rfl
 · simp only [SHp.den,hp,List.map_map,List.zipIdx_map]
   rfl
 · simp
theorem fin_lift {T : TTab} {k0 nv0 : Nat} {S' : SSt} {d : Nat} {e : Ex} {S : SSt} {u1 : Fir} {ρ1 : List L} (h : fin T k0 nv0 S' d e S = some u1) : u1.den ρ1 = ((fin T k0 nv0 S' 0 e S).bind (·.den ρ1)).map (lift d) := by
 cases e with
 | exit => cases h
 | _ =>
  simp only [fin] at h ⊢
  exact jmp_lift h
theorem lookup_filter_some {g : Nat → Bool} {n : Nat} {b : SB} : ∀ {h : SHp},List.lookup n (h.filter fun x => g x.1) = some b → List.lookup n h = some b
 | [],h1 => by cases h1
 | (k,b') :: h,h1 => by
  rw [List.filter_cons] at h1
  rw [List.lookup_cons]
  split at h1
  · rw [List.lookup_cons] at h1
    split
    · rename_i hk; rw [hk] at h1; exact h1
    · rename_i hk; rw [hk] at h1; exact lookup_filter_some h1
  · rename_i hg
    split
    · rename_i hk
      simp at hk
      subst hk
      exfalso
      have : ∀ {h : SHp},List.lookup n (h.filter fun x => g x.1) = some b → g n = true := by
       intro h h2
       have := List.mem_filter.1 (lookup_mem h2)
       exact this.2
      exact hg (this h1)
    · exact lookup_filter_some h1
theorem execFn_ok {P : Program} {T : TTab} {C : CTab} (hT : TTab.ok P T) (hC : CTab.ok P C) (hm : P.follows .mixedOrders = true) {f : FuncId} {fn : Func} {c : Code} (hf : P.funcs[f]? = some fn) (hname : (fn.name == "runtime.NumGoroutine") = false)
   (hb : fn.body = some c) {n : Nat} (hn : fn.ntmps = n) {rs : List ResultVar} (hrs : fn.results = rs.toArray) {nin : Nat} {params : List SV1} {H : List SB} {o : Out1} (h : execFn T C c n rs nin params H = some o)
   {F : List L → Option (List L)} (hF : ∀ ls,F ls = outO (o.fir.den ls)) (tag : Nat) : (o.sig f nin params H F tag).ok P := by
 intro ls os hl hFo hlo
 unfold execFn at h
 split at h
 · rename_i t ht
   split at h
   · rename_i S' hS'
     split at h
     · rename_i u r hu hr
       cases h
       have hgf := exec_ok hT hC hm c (S := sStart n nin params H) rfl ht
       replace hFo : F ls = some os := hFo
       rw [hF] at hFo
       simp only [outO] at hFo
       split at hFo
       · rename_i k as ρ' hd
         cases hFo
         have hl' : ls.length = (sStart n nin params H).nv := hl
         obtain ⟨e,S1,ρ1,v,h1,h2,h3⟩ := bind_bare (fun x ρ1 hx => (hgf ls x ρ1 hl' hx).bare) (fun e S1 ρ1 ht d u1 hf => fin_lift hf) hu hd
         obtain ⟨e',S1',g1,g2,⟨ys,g3⟩,g4,g5⟩ := hgf ls _ _ hl' h1
         cases g1
         subst g3
         have key : (e = .normal ∨ e = .ret) ∧ ∀ X : Fx,X.P = P → X.k0 = H.length → Le X (S1.den (ls ++ ys)) (S'.den (ls ++ as.map (At.ev ρ'))) := by
           cases e with
           | exit => cases h2
           | _ =>
            obtain ⟨as',zs,j1,_,_,j4⟩ := jmp_ok hT hl g2 g4 h2 h3
            cases j1
            exact ⟨by simp,j4⟩
         obtain ⟨he,hle⟩ := key
         refine ACalls.intro hf hname hb hn hrs (fun X hP hk0 => ?_)
         rw [List.length_map] at hk0
         rw [← sStart_den]
         refine aw_post (g5 X hP hk0 _ ⟨_,hle X hP hk0,?_⟩)
         refine ⟨?_,sResA_den hT hr,fun n b hnb => ?_⟩
         rotate_left
         · rw [den_heap]
           rw [SHp.lookup_den] at hnb
           simp only [Option.map_eq_some_iff] at hnb
           obtain ⟨b0,hb0,rfl⟩ := hnb
           rw [lookup_filter_some hb0]; rfl
         rcases he with rfl | rfl <;> trivial
       · cases hFo
     · cases h
   · cases h
 · cases h
def execF (T : TTab) (C : CTab) (fn : Func) (nin : Nat) (params : List SV1) (H : List SB) : Option Out1 := match fn.body with
 | some c => execFn T C c fn.ntmps fn.results.toList nin params H
 | none => none
theorem execF_ok {P : Program} {T : TTab} {C : CTab} (hT : TTab.ok P T) (hC : CTab.ok P C) (hm : P.follows .mixedOrders = true) {f : FuncId} {fn : Func} (hf : P.funcs[f]? = some fn) (hname : (fn.name == "runtime.NumGoroutine") = false)
   {nin : Nat} {params : List SV1} {H : List SB} {o : Out1} (h : execF T C fn nin params H = some o) {F : List L → Option (List L)} (hF : ∀ ls,F ls = outO (o.fir.den ls)) (tag : Nat) : (o.sig f nin params H F tag).ok P := by
 unfold execF at h
 split at h
 · rename_i c hc
   exact execFn_ok hT hC hm hf hname hc rfl (by simp) h hF tag
 · cases h
noncomputable def Fo (x : Fir) : List L → Option (List L) := fun ls => outO (x.den ls)
end
end Go.Proofs.YtndegphojkiblaaGreatDoor
