/- Towards the last file's theorem: part 13. -/
import Derived.Test.YtndegphojkiblaaGreatDoorG12
set_option linter.unusedSimpArgs false
set_option linter.unusedVariables false
namespace Go.Proofs.YtndegphojkiblaaGreatDoor
section
open Go.RowKit
open Classical
structure Sig where
 f : FuncId
 params : List SV1
 H : List SB
 nin : Nat
 nout : Nat
 res : SV
 out : SHp
 F : List L → Option (List L)
 tag : Nat := 0
def Sig.ok (P : Program) (s : Sig) : Prop := ∀ ls o,ls.length = s.nin → s.F ls = some o → o.length = s.nout →
 ACalls P s.f (s.params.map (SV1.den ls)) (s.H.map (SB.den ls)) (s.res.den (ls ++ o)) (s.out.den (ls ++ o))
def At.sub (σ : List At) : At → At
 | .v n => (σ[n]?).getD (.b false)
 | x => x
theorem At.sub_ev {σ : List At} {ρ : List L} (x : At) : (x.sub σ).ev ρ = x.ev (σ.map (At.ev ρ)) := by
 cases x with
 | v n =>
  simp only [At.sub,At.ev,List.getElem?_map]
  cases σ[n]? with
  | none => rfl
  | some y => rfl
 | _ => rfl
def SC.put (σ : List At) (ρ : Nat → Nat) : SC → SC
 | .p k x => .p k (x.sub σ)
 | .nil => .nil
 | .own n => .own (ρ n)
 | .sub n lo ln => .sub (ρ n) (lo.sub σ) (ln.sub σ)
 | .ptr n off => .ptr (ρ n) off
 | .aptr n off c m i => .aptr (ρ n) off c m (i.sub σ)
 | .eptr n i j => .eptr (ρ n) (i.sub σ) j
 | .ref x j => .ref (x.sub σ) j
 | .fn f caps => .fn f (caps.map ρ)
 | .mp n => .mp (ρ n)
 | .dead => .dead
def SV1.onS (f : SC → SC) : SV1 → SV1
 | .c y => .c (f y)
 | .agg ys => .agg (ys.map f)
def SV.onS (f : SC → SC) : SV → SV
 | .v x => .v (x.onS f)
 | .tup xs => .tup (xs.map (SV1.onS f))
def SB.onS (f : SC → SC) (g : At → At) : SB → SB
 | .box cs => .box (cs.map f)
 | .row e x => .row e (g x)
 | .map => .map
theorem SC.put_den {σ : List At} {ρ : List L} {κ : Nat → Nat} (c : SC) : (c.put σ κ).den ρ = (c.den (σ.map (At.ev ρ))).ren κ := by
 cases c <;> simp only [SC.put,SC.den,C.ren,At.sub_ev]
theorem SV1.sub_den {σ : List At} {ρ : List L} {κ : Nat → Nat} (x : SV1) : (x.onS (SC.put σ κ)).den ρ = (x.den (σ.map (At.ev ρ))).on (C.ren κ) := by
 cases x with
 | c c => simp only [SV1.onS,SV1.den,V1.on,SC.put_den]
 | agg cs => simp only [SV1.onS,SV1.den,V1.on,List.map_map]; congr 1; apply List.map_congr_left; intro c _; exact SC.put_den c
theorem SV.sub_den {σ : List At} {ρ : List L} {κ : Nat → Nat} (x : SV) : (x.onS (SC.put σ κ)).den ρ = (x.den (σ.map (At.ev ρ))).on (C.ren κ) := by
 cases x with
 | v x => simp only [SV.onS,SV.den,V.on,SV1.sub_den]
 | tup xs => simp only [SV.onS,SV.den,V.on,List.map_map]; congr 1; apply List.map_congr_left; intro c _; exact SV1.sub_den c
theorem SB.sub_den {σ : List At} {ρ : List L} {κ : Nat → Nat} (x : SB) : (x.onS (SC.put σ κ) (At.sub σ)).den ρ = (x.den (σ.map (At.ev ρ))).on (C.ren κ) := by
 cases x with
 | box cs => simp only [SB.onS,SB.den,Blk.on,List.map_map]; congr 1; apply List.map_congr_left; intro c _; exact SC.put_den c
 | row e x => simp only [SB.onS,SB.den,Blk.on,At.sub_ev]
 | map => rfl
def SC.bare : SC → Bool
 | .p .sl _ => false
 | .ref _ _ => false
 | _ => true
def SV1.bare : SV1 → Bool
 | .c x => x.bare
 | .agg xs => xs.all SC.bare
def SV.bare : SV → Bool
 | .v x => x.bare
 | .tup xs => xs.all SV1.bare
def SB.bare (T : TTab) : SB → Bool
 | .box cs => cs.all SC.bare
 | .row _ _ => false
 | .map => true
theorem SC.bare_den {ρ : List L} {c : SC} (h : c.bare = true) : (c.den ρ).bare = true := by
 cases c with
 | p k x => cases k <;> first | rfl | cases h
 | ref => cases h
 | _ => rfl
structure Acc where
 σ : List (Option At)
 ι : List (Option Nat)
 lent : List Nat
def Acc.atom (a : Acc) (i : Nat) (x : At) : Acc := { a with σ := a.σ.set i (some x) }
def Acc.name (a : Acc) (m n : Nat) : Acc := { a with ι := a.ι.set m (some n) }
def findC (S : SSt) (a : Acc) : SC → SC → Acc
 | .p _ (.v i),.p _ x => a.atom i x
 | .p _ (.v i),.nil => a.atom i .r0
 | .p _ (.v i),.own n => match List.lookup n S.heap with
  | some (.row _ x) => { a.atom i x with lent := if a.lent.contains n then a.lent else n :: a.lent }
  | _ => a
 | .own m,.own n => a.name m n
 | .sub m (.v i) (.v j),.sub n lo ln => ((a.name m n).atom i lo).atom j ln
 | .ptr m _,.ptr n _ => a.name m n
 | .fn _ ms,.fn _ ns => (ms.zip ns).foldl (fun a x => a.name x.1 x.2) a
 | .mp m,.mp n => a.name m n
 | .ref (.v i) _,.ref x _ => a.atom i x
 | _,_ => a
def findCs (S : SSt) : Acc → List SC → List SC → Acc
 | a,c' :: cs',c :: cs => findCs S (findC S a c' c) cs' cs
 | a,_,_ => a
def findV1 (S : SSt) (a : Acc) : SV1 → SV1 → Acc
 | .c c',.c c => findC S a c' c
 | .agg cs',.agg cs => findCs S a cs' cs
 | _,_ => a
def findV1s (S : SSt) : Acc → List SV1 → List SV1 → Acc
 | a,c' :: cs',c :: cs => findV1s S (findV1 S a c' c) cs' cs
 | a,_,_ => a
def findBs (S : SSt) : Acc → Nat → List SB → Acc
 | a,_,[] => a
 | a,m,b :: bs => match a.ι[m]? with
  | some (some n) => match b,List.lookup n S.heap with
   | .box cs',some (.box cs) => findBs S (findCs S a cs' cs) (m + 1) bs
   | .row _ (.v i),some (.row _ x) => findBs S (a.atom i x) (m + 1) bs
   | _,_ => findBs S a (m + 1) bs
  | _ => findBs S a (m + 1) bs
def chkC (S : SSt) (σ : List At) (ι lent : List Nat) : SC → SC → Bool
 | .dead,_ => true
 | .p k x,.p k' y => decide (k = k') && (x.sub σ).same y
 | .p .sl x,.nil => (x.sub σ).same .r0
 | .p .sl x,.own n => match List.lookup n S.heap with
  | some (.row _ y) => (x.sub σ).same y && lent.contains n
  | _ => false
 | .nil,.nil => true
 | .own m,.own n => ι[m]? == some n
 | .sub m lo ln,.sub n lo' ln' => ι[m]? == some n && (lo.sub σ).same lo' && (ln.sub σ).same ln'
 | .ptr m off,.ptr n off' => ι[m]? == some n && off == off'
 | .ref x j,.ref y j' => (x.sub σ).same y && j == j'
 | .fn f ms,.fn f' ns => f == f' && ms.map (fun m => ι[m]?) == ns.map some
 | .mp m,.mp n => ι[m]? == some n
 | _,_ => false
def chkCs (S : SSt) (σ : List At) (ι lent : List Nat) : List SC → List SC → Bool
 | [],[] => true
 | c' :: cs',c :: cs => chkC S σ ι lent c' c && chkCs S σ ι lent cs' cs
 | _,_ => false
def chkV1 (S : SSt) (σ : List At) (ι lent : List Nat) : SV1 → SV1 → Bool
 | .c c',.c c => chkC S σ ι lent c' c
 | .agg cs',.agg cs => chkCs S σ ι lent cs' cs
 | _,_ => false
def chkV1s (S : SSt) (σ : List At) (ι lent : List Nat) : List SV1 → List SV1 → Bool
 | [],[] => true
 | c' :: cs',c :: cs => chkV1 S σ ι lent c' c && chkV1s S σ ι lent cs' cs
 | _,_ => false
def chkB (S : SSt) (σ : List At) (ι lent : List Nat) : SB → SB → Bool
 | .box cs',.box cs => chkCs S σ ι lent cs' cs
 | .row e x,.row e' y => e == e' && (x.sub σ).same y
 | .map,.map => true
 | _,_ => false
def chkBs (S : SSt) (σ : List At) (ι lent : List Nat) : List Nat → List SB → Bool
 | [],[] => true
 | n :: ns,b' :: bs => (match List.lookup n S.heap with | some b => chkB S σ ι lent b' b | none => false) && chkBs S σ ι lent ns bs
 | _,_ => false
section
variable {S : SSt} {ρ : List L} {σ : List At} {ι lent : List Nat}
theorem ren_some {m n : Nat} (h : (ι[m]? == some n) = true) : (ι[m]?).getD 0 = n ∧ m < ι.length := by
 have h' : ι[m]? = some n := by simpa using h
 exact ⟨by rw [h']; rfl,(List.getElem?_eq_some_iff.1 h').1⟩
theorem chkC_ok {c' c : SC} (h : chkC S σ ι lent c' c = true) : fitC (S.den ρ) ι lent (c'.den (σ.map (At.ev ρ))) (c.den ρ) := by
 have same : ∀ {x y : At},(x.sub σ).same y = true → x.ev (σ.map (At.ev ρ)) = y.ev ρ := fun hs => by rw [← At.sub_ev,At.same_eq hs]
 unfold chkC at h
 split at h
 · trivial
 · simp only [Bool.and_eq_true,decide_eq_true_eq] at h
   obtain ⟨rfl,h2⟩ := h
   exact .inl (by simp only [SC.den,same h2])
 · exact .inr ⟨[],by simp only [Kd.pv,same h]; rfl,rfl,fun k hk => by simp [SC.den,C.names] at hk⟩
 · rename_i x n
   split at h
   · rename_i e y hl
     simp only [Bool.and_eq_true,List.contains_eq_mem,decide_eq_true_eq] at h
     refine .inr ⟨(y.ev ρ).asR,by simp only [Kd.pv,same h.1],by simp only [SC.den,ASt.view,den_heap,hl,Option.map_some,SB.den],fun k hk => ?_⟩
     simp [SC.den,C.names] at hk
     subst hk; exact h.2
   · cases h
 · exact ⟨rfl,by simp [SC.den,C.names]⟩
 · obtain ⟨h1,h2⟩ := ren_some h
   exact ⟨by simp only [SC.den,C.ren,h1],by simpa [SC.den,C.names] using h2⟩
 · simp only [Bool.and_eq_true] at h
   obtain ⟨h1,h2⟩ := ren_some h.1.1
   exact ⟨by simp only [SC.den,C.ren,h1,same h.1.2,same h.2],by simpa [SC.den,C.names] using h2⟩
 · simp only [Bool.and_eq_true,beq_iff_eq] at h
   obtain ⟨h1,h2⟩ := ren_some (by simpa using h.1)
   exact ⟨by simp only [SC.den,C.ren,h1,h.2],by simpa [SC.den,C.names] using h2⟩
 · simp only [Bool.and_eq_true,beq_iff_eq] at h
   exact ⟨by simp only [SC.den,C.ren,same h.1,h.2],by simp [SC.den,C.names]⟩
 · rename_i f ms f' ns
   simp only [Bool.and_eq_true,beq_iff_eq] at h
   obtain ⟨rfl,h2⟩ := h
   have h3 : ns = ms.map (fun m => (ι[m]?).getD 0) ∧ ∀ m ∈ ms,m < ι.length := by
     clear same
     induction ms generalizing ns with
     | nil => cases ns with
      | nil => exact ⟨rfl,by simp⟩
      | cons => simp at h2
     | cons m ms ih =>
      cases ns with
      | nil => simp at h2
      | cons n ns =>
       simp only [List.map_cons,List.cons.injEq] at h2
       obtain ⟨h4,h5⟩ := ih ns h2.2
       refine ⟨by simp only [List.map_cons,h2.1,Option.getD_some,← h4],?_⟩
       intro k hk
       rcases List.mem_cons.1 hk with rfl | hk
       · exact (List.getElem?_eq_some_iff.1 h2.1).1
       · exact h5 k hk
   exact ⟨by simp only [SC.den,C.ren,← h3.1],by simpa [SC.den,C.names] using h3.2⟩
 · obtain ⟨h1,h2⟩ := ren_some h
   exact ⟨by simp only [SC.den,C.ren,h1],by simpa [SC.den,C.names] using h2⟩
 · cases h
theorem chkCs_ok : ∀ {cs' cs : List SC},chkCs S σ ι lent cs' cs = true → cs.length = cs'.length ∧ ∀ (i : Nat) (c' : C),(cs'.map (SC.den (σ.map (At.ev ρ))))[i]? = some c' → ∃ c,(cs.map (SC.den ρ))[i]? = some c ∧ fitC (S.den ρ) ι lent c' c
 | [],[],_ => ⟨rfl,by simp⟩
 | c' :: cs',c :: cs,h => by
  simp only [chkCs,Bool.and_eq_true] at h
  obtain ⟨h1,h2⟩ := chkCs_ok h.2
  refine ⟨by simp [h1],fun i d hd => ?_⟩
  cases i with
  | zero => simp at hd; subst hd; exact ⟨_,rfl,chkC_ok h.1⟩
  | succ i => simpa using h2 i d (by simpa using hd)
 | [],_ :: _,h => by cases h
 | _ :: _,[],h => by cases h
theorem chkV1_ok {x' x : SV1} (h : chkV1 S σ ι lent x' x = true) : fitV (S.den ρ) ι lent (x'.den (σ.map (At.ev ρ))) (x.den ρ) := by
 cases x' with
 | c c' =>
  cases x with
  | c c => exact chkC_ok h
  | agg => cases h
 | agg cs' =>
  cases x with
  | c => cases h
  | agg cs =>
   obtain ⟨h1,h2⟩ := chkCs_ok (ρ := ρ) h
   exact ⟨by simpa using h1,h2⟩
theorem chkV1s_ok : ∀ {xs' xs : List SV1},chkV1s S σ ι lent xs' xs = true → xs.length = xs'.length ∧ ∀ (i : Nat) (x' : V1),(xs'.map (SV1.den (σ.map (At.ev ρ))))[i]? = some x' → ∃ x,(xs.map (SV1.den ρ))[i]? = some x ∧ fitV (S.den ρ) ι lent x' x
 | [],[],_ => ⟨rfl,by simp⟩
 | c' :: cs',c :: cs,h => by
  simp only [chkV1s,Bool.and_eq_true] at h
  obtain ⟨h1,h2⟩ := chkV1s_ok h.2
  refine ⟨by simp [h1],fun i d hd => ?_⟩
  cases i with
  | zero => simp at hd; subst hd; exact ⟨_,rfl,chkV1_ok h.1⟩
  | succ i => simpa using h2 i d (by simpa using hd)
 | [],_ :: _,h => by cases h
 | _ :: _,[],h => by cases h
theorem chkB_ok {b' b : SB} (h : chkB S σ ι lent b' b = true) : fitB (S.den ρ) ι lent (b'.den (σ.map (At.ev ρ))) (b.den ρ) := by
 cases b' with
 | box cs' =>
  cases b with
  | box cs =>
   obtain ⟨h1,h2⟩ := chkCs_ok (ρ := ρ) h
   exact ⟨by simpa using h1,h2⟩
  | _ => cases h
 | row e x =>
  cases b with
  | row e' y =>
   simp only [chkB,Bool.and_eq_true,beq_iff_eq] at h
   exact ⟨h.1,by rw [← At.sub_ev,At.same_eq h.2]⟩
  | _ => cases h
 | map =>
  cases b with
  | map => rfl
  | _ => cases h
theorem chkBs_ok : ∀ {ns : List Nat} {bs : List SB},chkBs S σ ι lent ns bs = true → ns.length = bs.length ∧ ∀ (i : Nat) (b' : Blk),(bs.map (SB.den (σ.map (At.ev ρ))))[i]? = some b' → ∃ n b,ns[i]? = some n ∧ (S.den ρ).heap.lookup n = some b ∧ fitB (S.den ρ) ι lent b' b
 | [],[],_ => ⟨rfl,by simp⟩
 | n :: ns,b :: bs,h => by
  simp only [chkBs,Bool.and_eq_true] at h
  obtain ⟨h1,h2⟩ := chkBs_ok h.2
  refine ⟨by simp [h1],fun i d hd => ?_⟩
  cases i with
  | zero =>
   simp at hd; subst hd
   have h3 := h.1
   split at h3
   · rename_i b0 hb0
     exact ⟨n,b0.den ρ,rfl,by rw [den_heap,hb0]; rfl,chkB_ok h3⟩
   · cases h3
  | succ i => simpa using h2 i d (by simpa using hd)
 | [],_ :: _,h => by cases h
 | _ :: _,[],h => by cases h
end
def allSome {α : Type} : List (Option α) → Option (List α)
 | [] => some []
 | some x :: l => (allSome l).map (x :: ·)
 | none :: _ => none
def Sig.bare (T : TTab) (s : Sig) : Bool := s.res.bare && s.out.all fun x => match x.2 with
 | .box cs => cs.all SC.bare
 | .row e (.v i) => decide (s.nin ≤ i) && match (List.lookup e T).bind Ty.kds with
  | some ks => ks.all fun k => decide (k ≠ .sl)
  | none => false
 | .map => true
 | _ => false
def Sig.look (s : Sig) : List Nat := s.out.filterMap fun x => match x.2 with
 | .row _ (.v i) => some (i - s.nin)
 | _ => none
def namesOk (k : Nat) (o : SHp) (ns : List Nat) : Bool := ns.all fun n => decide (n < k + 8) && (decide (k ≤ n) || (List.lookup n o).isSome)
def sCallSig (T : TTab) (S : SSt) (d : Nat) (xs : List SV1) (s : Sig) : Option SRes :=
 let a := findBs S (findV1s S ⟨List.replicate s.nin none,List.replicate s.H.length none,[]⟩ s.params xs) 0 s.H
 match allSome a.σ,allSome a.ι with
 | some σ,some ι =>
  let lent := a.lent
  let bare := s.bare T && !lent.isEmpty
  let gone := (if bare then [] else lent) ++ (ι.zipIdx.filterMap fun x => if (List.lookup x.2 s.out).isNone then some x.1 else none)
  let κ := renO ι d
  let σ' := σ ++ (List.range s.nout).map fun i => .v (S.nv + i)
  if σ.length = s.nin ∧ decide ι.Nodup = true ∧ chkV1s S σ ι lent s.params xs = true ∧ chkBs S σ ι lent ι s.H = true ∧ (ι.all fun n => !S.gone.contains n && !lent.contains n) = true ∧ (lent.all fun n => !S.gone.contains n) = true ∧
   namesOk ι.length s.out s.res.names = true ∧ (s.out.all fun x => decide (x.1 < ι.length + 8) && namesOk ι.length s.out x.2.names) = true ∧ (gone.all fun n => decide (n < d)) = true
  then some ⟨[.call s.tag s.F σ s.nout (if bare then s.look else [])],s.res.onS (SC.put σ' κ),⟨s.out.map fun x => (κ x.1,x.2.onS (SC.put σ' κ) (At.sub σ')),gone⟩,ι ++ lent⟩ else none
 | _,_ => none
theorem SC.names_densB (ρ : List L) (b : SB) : (b.den ρ).names = b.names := by
 cases b with
 | box cs => exact SC.names_dens ρ cs
 | row => rfl
 | map => rfl
theorem lookup_mem {l : SHp} {n : Nat} {b : SB} (h : List.lookup n l = some b) : (n,b) ∈ l := by
 induction l with
 | nil => cases h
 | cons x l ih =>
  obtain ⟨k,c⟩ := x
  rw [List.lookup_cons] at h
  split at h
  · rename_i heq; simp at heq; subst heq; cases h; simp
  · exact List.mem_cons_of_mem _ (ih h)
theorem sCallSig_ok {P : Program} {T : TTab} {S : SSt} {ρ : List L} {d : Nat} {xs : List SV1} {s : Sig} {r : SRes} (hs : s.ok P) (h : sCallSig T S d xs s = some r) (hsat : Sat ρ S.nv r.nds) :
   CallOK P (S.den ρ) d s.f (xs.map (SV1.den ρ)) (r.v.den ρ) (r.e.den ρ) r.rd := by
 unfold sCallSig at h
 simp only at h
 generalize findBs S (findV1s S ⟨List.replicate s.nin none,List.replicate s.H.length none,[]⟩ s.params xs) 0 s.H = a at h
 split at h
 · rename_i σ ι hσ hι
   generalize hlent : a.lent = lent at h
   generalize hbare : (s.bare T && !lent.isEmpty) = bare at h
   generalize hgone : (if bare = true then [] else lent) ++ (ι.zipIdx.filterMap fun x => if (List.lookup x.2 s.out).isNone then some x.1 else none) = gone at h
   by_cases hc : σ.length = s.nin ∧ decide ι.Nodup = true ∧ chkV1s S σ ι lent s.params xs = true ∧ chkBs S σ ι lent ι s.H = true ∧ (ι.all fun n => !S.gone.contains n && !lent.contains n) = true ∧ (lent.all fun n => !S.gone.contains n) = true ∧
     namesOk ι.length s.out s.res.names = true ∧ (s.out.all fun x => decide (x.1 < ι.length + 8) && namesOk ι.length s.out x.2.names) = true ∧ (gone.all fun n => decide (n < d)) = true
   · rw [if_pos hc] at h
     simp only [Option.some.injEq] at h
     subst h
     subst hgone
     obtain ⟨hc1,hc2,hc3,hc4,hc5,hc6,hc7,hc8,hc9⟩ := hc
     simp only [decide_eq_true_eq] at hc2
     simp only [List.all_eq_true,Bool.and_eq_true,Bool.not_eq_true',List.contains_eq_mem,decide_eq_false_iff_not] at hc5 hc6
     simp only [List.all_eq_true,decide_eq_true_eq] at hc9
     obtain ⟨⟨o,ho1,ho2⟩,_⟩ := hsat
     simp only [Nd.ev] at ho1
     generalize hus : (if bare = true then s.look else []) = us at ho1
     split at ho1
     · rename_i l hF
       split at ho1
       · rename_i hn
         cases ho1
         obtain ⟨hol,hlook⟩ := hn
         have hls : (σ.map (At.ev ρ)).length = s.nin := by simp [hc1]
         have hA := hs (σ.map (At.ev ρ)) o hls hF hol
         have hσ' : (σ ++ (List.range s.nout).map fun i => At.v (S.nv + i)).map (At.ev ρ) = σ.map (At.ev ρ) ++ o := by
           rw [List.map_append]
           congr 1
           apply List.ext_getElem?
           intro i
           simp only [List.map_map,List.getElem?_map]
           by_cases hi : i < s.nout
           · have hi' : i < o.length := by omega
             have h3 := ho2 i (by simpa [Nd.n] using hi)
             rw [List.getElem?_range hi,List.getElem?_eq_getElem hi']
             rw [List.getElem?_eq_getElem hi'] at h3
             simp only [Option.map_some,Function.comp,At.ev,h3,Option.getD_some]
           · rw [List.getElem?_eq_none (by simp; omega),List.getElem?_eq_none (by omega)]; rfl
         obtain ⟨hf1,hf2⟩ := chkV1s_ok (ρ := ρ) hc3
         obtain ⟨hb1,hb2⟩ := chkBs_ok (ρ := ρ) hc4
         have hlk : ∀ n,List.lookup n (SHp.den (σ.map (At.ev ρ) ++ o) s.out) = (List.lookup n s.out).map (SB.den (σ.map (At.ev ρ) ++ o)) := SHp.lookup_den _ s.out
         have hnm : ∀ ns,namesOk ι.length s.out ns = true → ∀ n ∈ ns,n < ι.length + 8 ∧ (n < ι.length → List.lookup n s.out ≠ none) := by
           intro ns hns n hn
           simp only [namesOk,List.all_eq_true,Bool.and_eq_true,Bool.or_eq_true,decide_eq_true_eq] at hns
           obtain ⟨h1,h2⟩ := hns n hn
           refine ⟨h1,fun h3 h4 => ?_⟩
           rcases h2 with h2 | h2
           · omega
           · rw [h4] at h2; cases h2
         refine ⟨_,_,_,_,ι,lent,hA,by simpa using hb1,hc2,by simpa using hf1,hf2,hb2,fun n hn => ⟨(hc5 n hn).1,(hc5 n hn).2⟩,hc6,?_,?_,?_,?_,?_,?_,?_,hc9,?_,?_,rfl⟩
         · intro n hn
           rw [SV.names_den] at hn
           exact (hnm _ hc7 n hn).1
         · intro n b hl
           rw [hlk] at hl
           simp only [Option.map_eq_some_iff] at hl
           obtain ⟨b0,hb0,rfl⟩ := hl
           simp only [List.all_eq_true,Bool.and_eq_true,decide_eq_true_eq] at hc8
           obtain ⟨h1,h2⟩ := hc8 _ (lookup_mem hb0)
           exact ⟨h1,fun m hm => (hnm _ h2 m (by rw [SC.names_densB] at hm; exact hm)).1⟩
         · intro n hn hlt
           rw [SV.names_den] at hn
           rw [hlk]
           have := (hnm _ hc7 n hn).2 hlt
           cases hx : List.lookup n s.out with
           | none => exact absurd hx this
           | some _ => simp
         · intro n b hl m hm hlt
           rw [hlk] at hl
           simp only [Option.map_eq_some_iff] at hl
           obtain ⟨b0,hb0,rfl⟩ := hl
           simp only [List.all_eq_true,Bool.and_eq_true,decide_eq_true_eq] at hc8
           obtain ⟨h1,h2⟩ := hc8 _ (lookup_mem hb0)
           rw [hlk]
           have := (hnm _ h2 m (by rw [SC.names_densB] at hm; exact hm)).2 hlt
           cases hx : List.lookup m s.out with
           | none => exact absurd hx this
           | some _ => simp
         ·
           cases hbr : bare with
           | false => left; intro n hn; simp only [SEff.den]; simp [hn]
           | true =>
             right
             rw [hbr] at hbare hus
             simp only [if_true] at hus
             rw [← hus] at hlook
             simp only [Bool.and_eq_true] at hbare
             have hb := hbare.1
             unfold Sig.bare at hb
             simp only [Bool.and_eq_true,List.all_eq_true] at hb
             refine ⟨?_,fun n b hl => ?_⟩
             · have hb1 := hb.1
               generalize s.res = res at hb1
               cases res with
               | v x =>
                 cases x with
                 | c c => exact SC.bare_den hb1
                 | agg cs =>
                  simp only [SV.bare,SV1.bare,List.all_eq_true] at hb1
                  simp only [SV.den,SV1.den,V.bare,V1.bare,List.all_eq_true,List.mem_map]
                  rintro _ ⟨c,hc',rfl⟩
                  exact SC.bare_den (hb1 c hc')
               | tup ys =>
                 simp only [SV.bare,List.all_eq_true] at hb1
                 simp only [SV.den,V.bare,List.all_eq_true,List.mem_map]
                 rintro _ ⟨y,hy,rfl⟩
                 have := hb1 y hy
                 cases y with
                 | c c => exact SC.bare_den this
                 | agg cs =>
                  simp only [SV1.bare,List.all_eq_true] at this
                  simp only [SV1.den,V1.bare,List.all_eq_true,List.mem_map]
                  rintro _ ⟨c,hc',rfl⟩
                  exact SC.bare_den (this c hc')
             · rw [hlk] at hl
               simp only [Option.map_eq_some_iff] at hl
               obtain ⟨b0,hb0,rfl⟩ := hl
               have hmem := lookup_mem hb0
               have h1 := hb.2 _ hmem
               cases b0 with
               | box cs =>
                 simp only [List.all_eq_true] at h1
                 simp only [SB.den,Blk.bare,List.all_eq_true,List.mem_map]
                 rintro _ ⟨c,hc',rfl⟩
                 exact SC.bare_den (h1 c hc')
               | row e x =>
                 cases x with
                 | v i =>
                  simp only [Bool.and_eq_true,decide_eq_true_eq] at h1
                  have hin : i - s.nin ∈ s.look := by
                    unfold Sig.look
                    exact List.mem_filterMap.2 ⟨_,hmem,rfl⟩
                  simp only [List.all_eq_true] at hlook
                  have h2 := hlook _ hin
                  simp only [SB.den,Blk.bare,At.ev]
                  rw [List.getElem?_append_right (by omega),hls]
                  simp only [List.all_eq_true]
                  exact h2
                 | _ => cases h1
               | map => rfl
         ·
           intro i n hi
           rw [hlk]
           simp only [SEff.den,List.mem_append,List.mem_filterMap]
           constructor
           · rintro (h1 | ⟨⟨m,j⟩,h1,h2⟩)
             · exfalso
               split at h1
               · cases h1
               · exact (hc5 n (List.mem_of_getElem? hi)).2 h1
             · split at h2
               · rename_i h3
                 cases h2
                 rw [List.mem_zipIdx_iff_getElem?] at h1
                 have h4 := List.pairwise_iff_getElem.1 hc2
                 have : i = j := by
                  obtain ⟨i1,i2⟩ := List.getElem?_eq_some_iff.1 hi
                  obtain ⟨j1,j2⟩ := List.getElem?_eq_some_iff.1 h1
                  rcases Nat.lt_trichotomy i j with hlt | heq | hlt
                  · exact absurd (i2.trans j2.symm) (h4 i j i1 j1 hlt)
                  · exact heq
                  · exact absurd (j2.trans i2.symm) (h4 j i j1 i1 hlt)
                 subst this
                 simp only [Option.isNone_iff_eq_none] at h3
                 rw [h3]; rfl
               · cases h2
           · intro h1
             right
             refine ⟨(n,i),by rw [List.mem_zipIdx_iff_getElem?]; exact hi,?_⟩
             have : List.lookup i s.out = none := by
               cases hx : List.lookup i s.out with
               | none => rfl
               | some _ => rw [hx] at h1; cases h1
             rw [this]; rfl
         · intro n hn
           simp only [SEff.den,List.mem_append,List.mem_filterMap] at hn
           rcases hn with h1 | ⟨⟨m,j⟩,h1,h2⟩
           · split at h1
             · cases h1
             · exact .inr h1
           · split at h2
             · cases h2
               rw [List.mem_zipIdx_iff_getElem?] at h1
               exact .inl (List.mem_of_getElem? h1)
             · cases h2
         · rw [SV.sub_den,hσ']
         · simp only [SEff.den,SHp.den,Hp.ren,List.map_map]
           apply List.map_congr_left
           intro x _
           simp only [Function.comp,SB.sub_den,hσ']
       · cases ho1
     · cases ho1
   · rw [if_neg hc] at h
     cases h
 · cases h
end
end Go.Proofs.YtndegphojkiblaaGreatDoor
