/- Towards the last file's theorem: part 16. -/
import Derived.Test.YtndegphojkiblaaGreatDoorG15
import Derived.Laws.Closers25b
import Derived.IntWalk
set_option linter.unusedSimpArgs false
set_option linter.unusedVariables false
namespace Go.Proofs.YtndegphojkiblaaGreatDoor
section
open Go.RowKit
namespace AI
theorem wrap_in (k : IntKind) {n : Int} (h0 : k.min ≤ n) (h1 : n ≤ k.max) : k.wrap n = n := by
 cases k <;> simp [IntKind.min,IntKind.max,IntKind.bits,IntKind.signed] at h0 h1 <;> simp [IntKind.wrap,IntKind.bits,IntKind.signed] <;> (try split) <;> omega
def cmpV (op : BinOp) (a b : Int) : Bool := match op with
 | .eql => decide (a = b)
 | .neq => decide (a ≠ b)
 | .lss => decide (a < b)
 | .leq => decide (a ≤ b)
 | .gtr => decide (b < a)
 | .geq => decide (b ≤ a)
 | _ => false
inductive BD where
 | cmp (op : BinOp) (x y : Li) (p : Bool)
 | con (b : Bool)
deriving Inhabited
def BD.val (τ : List L) : BD → Bool
 | .cmp op x y p => cmpV op (liV τ x) (liV τ y) == p
 | .con b => b
def BD.in (n : Nat) : BD → Bool
 | .cmp _ x y _ => tmIn n x.1 && tmIn n y.1
 | .con _ => true
def BD.neg : BD → BD
 | .cmp op x y p => .cmp op x y (!p)
 | .con b => .con (!b)
theorem BD.neg_val (τ : List L) (b : BD) : b.neg.val τ = !(b.val τ) := by
 cases b with
 | cmp op x y p => simp only [BD.neg,BD.val]; cases cmpV op (liV τ x) (liV τ y) <;> cases p <;> rfl
 | con => rfl
theorem liV_append {τ ys : List L} {x : Li} (h : tmIn τ.length x.1 = true) : liV (τ ++ ys) x = liV τ x := by simp only [liV,tmV_append h]
theorem BD.val_append {τ ys : List L} {b : BD} (h : b.in τ.length = true) : b.val (τ ++ ys) = b.val τ := by
 cases b with
 | cmp op x y p =>
  simp only [BD.in,Bool.and_eq_true] at h
  simp only [BD.val,liV_append h.1,liV_append h.2]
 | con => rfl
theorem tmIn_mono {n m t : Nat} (h : tmIn n t = true) (hm : n ≤ m) : tmIn m t = true := by simp only [tmIn,decide_eq_true_eq] at h ⊢; omega
theorem BD.in_mono {n m : Nat} {b : BD} (h : b.in n = true) (hm : n ≤ m) : b.in m = true := by
 cases b with
 | cmp op x y p =>
  simp only [BD.in,Bool.and_eq_true] at h ⊢
  exact ⟨tmIn_mono h.1 hm,tmIn_mono h.2 hm⟩
 | con => rfl
abbrev RS := Option (List AC)
def rsOk (x : RS) (rows : List (List PV)) : Prop := match x with
 | none => rows = []
 | some cs => AC.rows cs rows
def lk {α : Type} : List (Nat × α) → Nat → Option α
 | [],_ => none
 | (k,x) :: r,g => cond (Nat.beq k g) (some x) (lk r g)
theorem lk_mem {α : Type} : ∀ {l : List (Nat × α)} {g : Nat} {x : α},lk l g = some x → (g,x) ∈ l
 | [],_,_,h => by cases h
 | (k,y) :: r,g,x,h => by
  simp only [lk] at h
  cases hk : Nat.beq k g with
  | true =>
   rw [hk] at h
   have := nbeq hk; subst this
   cases h; exact List.mem_cons_self
  | false => rw [hk] at h; exact List.mem_cons_of_mem _ (lk_mem h)
structure AS where
 env : List Nat
 n : Nat
 fs : List Fa
 rw : List (Nat × RS)
 cl : List (Nat × List AC)
 bd : List (Nat × BD)
 al : List (Nat × Li)
 ll : List (Nat × Li)
 sm : List ((List Nat × Nat) × Nat)
 pr : List (Nat × List Nat)
deriving Inhabited
def Prp : Nat → List L → Prop
 | 0,[l] => ∃ n,∀ r ∈ l.asR,∃ q,r = [.sl q] ∧ q.length = n
 | _,_ => True
def at' (τ : List L) (g : Nat) : L := (τ[g]?).getD (.b false)
def selV (τ : List L) (k : List Nat × Nat) : Option L := (k.1[(at' τ k.2).asI.toNat]?).map (at' τ)
def smIn (n : Nat) (k : List Nat × Nat) : Bool := k.1.all (fun g => decide (g < n)) && decide (k.2 < n)
structure Ga (S : AS) (τ ρ : List L) : Prop where
 n : τ.length = S.n
 env : ρ = S.env.map (at' τ)
 lt : ∀ g ∈ S.env,g < S.n
 fs : ∀ f ∈ S.fs,f.ok τ
 rw : ∀ x ∈ S.rw,x.1 < S.n ∧ rsOk x.2 (at' τ x.1).asR
 cl : ∀ x ∈ S.cl,x.1 < S.n ∧ AC.oks x.2 (at' τ x.1).asC
 bd : ∀ x ∈ S.bd,x.1 < S.n ∧ x.2.in S.n = true ∧ (at' τ x.1).asB = x.2.val τ
 al : ∀ x ∈ S.al,x.1 < S.n ∧ tmIn S.n x.2.1 = true ∧ (at' τ x.1).asI = liV τ x.2
 ll : ∀ x ∈ S.ll,x.1 < S.n ∧ tmIn S.n x.2.1 = true ∧ ((at' τ x.1).asR.length : Int) = liV τ x.2
 sm : ∀ x ∈ S.sm,x.2 < S.n ∧ smIn S.n x.1 = true ∧ selV τ x.1 = some (at' τ x.2)
 pr : ∀ x ∈ S.pr,(∀ g ∈ x.2,g < S.n) ∧ Prp x.1 (x.2.map (at' τ))
theorem at_append {τ ys : List L} {g : Nat} (h : g < τ.length) : at' (τ ++ ys) g = at' τ g := by
 unfold at'; rw [List.getElem?_append_left h]
theorem smIn_mono {n m : Nat} {k : List Nat × Nat} (h : smIn n k = true) (hm : n ≤ m) : smIn m k = true := by
 simp only [smIn,Bool.and_eq_true,List.all_eq_true,decide_eq_true_eq] at h ⊢
 exact ⟨fun g hg => Nat.lt_of_lt_of_le (h.1 g hg) hm,Nat.lt_of_lt_of_le h.2 hm⟩
theorem selV_append {τ ys : List L} {k : List Nat × Nat} (h : smIn τ.length k = true) : selV (τ ++ ys) k = selV τ k := by
 simp only [smIn,Bool.and_eq_true,List.all_eq_true,decide_eq_true_eq] at h
 unfold selV
 rw [at_append h.2]
 cases hg : k.1[(at' τ k.2).asI.toNat]? with
 | none => rfl
 | some g => simp only [Option.map_some]; rw [at_append (h.1 g (List.mem_of_getElem? hg))]
theorem at_new (τ : List L) (l : L) : at' (τ ++ [l]) τ.length = l := by simp [at']
structure New where
 fs : List Fa := []
 rw : Option RS := none
 cl : Option (List AC) := none
 bd : Option BD := none
 al : Option Li := none
 ll : Option Li := none
 sm : Option (List Nat × Nat) := none
structure New.ok (N : New) (τ : List L) (l : L) : Prop where
 fs : ∀ f ∈ N.fs,f.holds (τ ++ [l])
 rw : ∀ x,N.rw = some x → rsOk x l.asR
 cl : ∀ x,N.cl = some x → AC.oks x l.asC
 bd : ∀ x,N.bd = some x → l.asB = x.val τ
 al : ∀ x,N.al = some x → l.asI = liV τ x
 ll : ∀ x,N.ll = some x → (l.asR.length : Int) = liV τ x
 sm : ∀ x,N.sm = some x → selV τ x = some l
def oCons {α : Type} (g : Nat) : Option α → List (Nat × α) → List (Nat × α)
 | some x,l => (g,x) :: l
 | none,l => l
def liIn (n : Nat) : Option Li → Bool
 | some x => tmIn n x.1
 | none => true
def New.in (n : Nat) (N : New) : Bool := N.fs.all (Fa.in (n + 1)) && (match N.bd with | some b => b.in n | none => true) && liIn n N.al && liIn n N.ll && (match N.sm with | some k => smIn n k | none => true)
def smCons (g : Nat) : Option (List Nat × Nat) → List ((List Nat × Nat) × Nat) → List ((List Nat × Nat) × Nat)
 | some k,l => (k,g) :: l
 | none,l => l
theorem smCons_mem {g : Nat} {o : Option (List Nat × Nat)} {l : List ((List Nat × Nat) × Nat)} {x : (List Nat × Nat) × Nat} (h : x ∈ smCons g o l) : (o = some x.1 ∧ x.2 = g) ∨ x ∈ l := by
 cases o with
 | none => exact .inr h
 | some y =>
  rcases List.mem_cons.1 h with rfl | h
  · exact .inl ⟨rfl,rfl⟩
  · exact .inr h
def AS.push (S : AS) (N : New) : Option AS :=
 if N.in S.n = true then
  some ⟨S.env ++ [S.n],S.n + 1,N.fs ++ S.fs,oCons S.n N.rw S.rw,oCons S.n N.cl S.cl,oCons S.n N.bd S.bd,oCons S.n N.al S.al,oCons S.n N.ll S.ll,smCons S.n N.sm S.sm,S.pr⟩
 else none
theorem oCons_mem {α : Type} {g : Nat} {o : Option α} {l : List (Nat × α)} {x : Nat × α} (h : x ∈ oCons g o l) : (∃ y,o = some y ∧ x = (g,y)) ∨ x ∈ l := by
 cases o with
 | none => exact .inr h
 | some y =>
  rcases List.mem_cons.1 h with h | h
  · exact .inl ⟨y,rfl,h⟩
  · exact .inr h
theorem Ga.push {S S' : AS} {τ ρ : List L} {N : New} {l : L} (h : Ga S τ ρ) (hp : S.push N = some S') (hN : N.ok τ l) : Ga S' (τ ++ [l]) (ρ ++ [l]) := by
 unfold AS.push at hp
 split at hp
 · rename_i hc
   simp only [New.in,Bool.and_eq_true,List.all_eq_true] at hc
   injection hp with hp
   subst hp
   have hn := h.n
   have hat : ∀ g,g < S.n → at' (τ ++ [l]) g = at' τ g := fun g hg => at_append (by omega)
   have hnew : at' (τ ++ [l]) S.n = l := by rw [← hn]; exact at_new τ l
   exact {
    n := by simp [hn]
    env := by
     rw [h.env,List.map_append,List.map_singleton,hnew]
     congr 1
     exact List.map_congr_left fun g hg => (hat g (h.lt g hg)).symm
    lt := fun g hg => by
     rcases List.mem_append.1 hg with hg | hg
     · have := h.lt g hg; show g < S.n + 1; omega
     · rw [List.mem_singleton.1 hg]; show S.n < S.n + 1; omega
    fs := fun f hf => by
     rcases List.mem_append.1 hf with hf | hf
     · exact ⟨by simp only [List.length_append,List.length_singleton,hn]; exact hc.1.1.1.1 f hf,hN.fs f hf⟩
     · exact (h.fs f hf).append
    rw := fun x hx => by
     rcases oCons_mem hx with ⟨y,hy,rfl⟩ | hx
     · exact ⟨Nat.lt_succ_self _,by simp only [hnew]; exact hN.rw y hy⟩
     · obtain ⟨h1,h2⟩ := h.rw x hx
       exact ⟨Nat.lt_succ_of_lt h1,by rw [hat _ h1]; exact h2⟩
    cl := fun x hx => by
     rcases oCons_mem hx with ⟨y,hy,rfl⟩ | hx
     · exact ⟨Nat.lt_succ_self _,by simp only [hnew]; exact hN.cl y hy⟩
     · obtain ⟨h1,h2⟩ := h.cl x hx
       exact ⟨Nat.lt_succ_of_lt h1,by rw [hat _ h1]; exact h2⟩
    bd := fun x hx => by
     rcases oCons_mem hx with ⟨y,hy,rfl⟩ | hx
     · have hb := hc.1.1.1.2
       rw [hy] at hb
       exact ⟨Nat.lt_succ_self _,BD.in_mono hb (Nat.le_succ _),by simp only [hnew]; rw [BD.val_append (by rw [hn]; exact hb)]; exact hN.bd y hy⟩
     · obtain ⟨h1,h2,h3⟩ := h.bd x hx
       exact ⟨Nat.lt_succ_of_lt h1,BD.in_mono h2 (Nat.le_succ _),by rw [hat _ h1,BD.val_append (by rw [hn]; exact h2)]; exact h3⟩
    al := fun x hx => by
     rcases oCons_mem hx with ⟨y,hy,rfl⟩ | hx
     · have hb := hc.1.1.2
       rw [hy] at hb
       exact ⟨Nat.lt_succ_self _,tmIn_mono hb (Nat.le_succ _),by simp only [hnew]; rw [liV_append (by rw [hn]; exact hb)]; exact hN.al y hy⟩
     · obtain ⟨h1,h2,h3⟩ := h.al x hx
       exact ⟨Nat.lt_succ_of_lt h1,tmIn_mono h2 (Nat.le_succ _),by rw [hat _ h1,liV_append (by rw [hn]; exact h2)]; exact h3⟩
    ll := fun x hx => by
     rcases oCons_mem hx with ⟨y,hy,rfl⟩ | hx
     · have hb := hc.1.2
       rw [hy] at hb
       exact ⟨Nat.lt_succ_self _,tmIn_mono hb (Nat.le_succ _),by simp only [hnew]; rw [liV_append (by rw [hn]; exact hb)]; exact hN.ll y hy⟩
     · obtain ⟨h1,h2,h3⟩ := h.ll x hx
       exact ⟨Nat.lt_succ_of_lt h1,tmIn_mono h2 (Nat.le_succ _),by rw [hat _ h1,liV_append (by rw [hn]; exact h2)]; exact h3⟩
    sm := fun x hx => by
     rcases smCons_mem hx with ⟨hy,hg⟩ | hx
     · have hb := hc.2
       rw [hy] at hb
       exact ⟨by rw [hg]; exact Nat.lt_succ_self _,smIn_mono hb (Nat.le_succ _),by rw [hg,hnew,selV_append (by rw [hn]; exact hb)]; exact hN.sm _ hy⟩
     · obtain ⟨h1,h2,h3⟩ := h.sm x hx
       exact ⟨Nat.lt_succ_of_lt h1,smIn_mono h2 (Nat.le_succ _),by rw [hat _ h1,selV_append (by rw [hn]; exact h2)]; exact h3⟩
    pr := fun x hx => by
     obtain ⟨h1,h2⟩ := h.pr x hx
     exact ⟨fun g hg => Nat.lt_succ_of_lt (h1 g hg),by rw [List.map_congr_left (g := at' τ) fun g hg => hat g (h1 g hg)]; exact h2⟩ }
 · exact absurd hp (by simp)
def AS.li (S : AS) : At → Li
 | .v i => match S.env[i]? with
  | some g => (match lk S.al g with
   | some x => x
   | none => (3 * g + 1,0))
  | none => (0,0)
 | .i c => (0,c)
 | _ => (0,0)
def AS.le (S : AS) : At → Li
 | .v i => match S.env[i]? with
  | some g => (match lk S.ll g with
   | some x => x
   | none => (3 * g + 2,0))
  | none => (0,0)
 | _ => (0,0)
def AS.ls (S : AS) : At → Option Li
 | .v i => match S.env[i]? with
  | some g => some (3 * g + 3,0)
  | none => some (0,0)
 | .s x => some (0,x.size)
 | _ => some (0,0)
theorem tm_i (τ : List L) (g : Nat) : tmV τ (3 * g + 1) = (at' τ g).asI := by
 simp only [tmV,show 3 * g / 3 = g by omega,show 3 * g % 3 = 0 by omega,if_true,at']
theorem tm_l (τ : List L) (g : Nat) : tmV τ (3 * g + 2) = ((at' τ g).asR.length : Int) := by
 simp only [tmV,show (3 * g + 1) / 3 = g by omega,show (3 * g + 1) % 3 = 1 by omega,at']; simp
theorem tm_s (τ : List L) (g : Nat) : tmV τ (3 * g + 3) = ((at' τ g).asS.size : Int) := by
 simp only [tmV,show (3 * g + 2) / 3 = g by omega,show (3 * g + 2) % 3 = 2 by omega,at']; simp
section
variable {S : AS} {τ ρ : List L} (h : Ga S τ ρ)
include h
theorem Ga.holds {f : Fa} (hf : f ∈ S.fs) : f.holds τ := (h.fs f hf).2
theorem Ga.ev {i : Nat} : (At.v i).ev ρ = match S.env[i]? with | some g => at' τ g | none => .b false := by
 simp only [At.ev,h.env,List.getElem?_map]
 cases S.env[i]? <;> rfl
theorem Ga.li (x : At) : (x.ev ρ).asI = liV τ (S.li x) := by
 cases x with
 | v i =>
  rw [h.ev]
  simp only [AS.li]
  cases S.env[i]? with
  | none => rfl
  | some g =>
   simp only
   split
   · rename_i x hx
     exact (h.al _ (lk_mem hx)).2.2
   · simp only [liV,tm_i]; omega
 | i c => simp [At.ev,L.asI,AS.li,liV,tmV]
 | b => rfl
 | s => rfl
 | r0 => rfl
theorem Ga.le (x : At) : ((x.ev ρ).asR.length : Int) = liV τ (S.le x) := by
 cases x with
 | v i =>
  rw [h.ev]
  simp only [AS.le]
  cases S.env[i]? with
  | none => rfl
  | some g =>
   simp only
   split
   · rename_i x hx
     exact (h.ll _ (lk_mem hx)).2.2
   · simp only [liV,tm_l]; omega
 | i c => rfl
 | b => rfl
 | s => rfl
 | r0 => rfl
theorem Ga.li_in (x : At) : tmIn τ.length (S.li x).1 = true := by
 cases x with
 | v i =>
  simp only [AS.li]
  cases hg : S.env[i]? with
  | none => rfl
  | some g =>
   simp only
   split
   · rename_i x hx
     rw [h.n]; exact (h.al _ (lk_mem hx)).2.1
   · have := h.lt g (List.mem_of_getElem? hg)
     simp only [tmIn,h.n,decide_eq_true_eq]; omega
 | _ => rfl
theorem Ga.le_in (x : At) : tmIn τ.length (S.le x).1 = true := by
 cases x with
 | v i =>
  simp only [AS.le]
  cases hg : S.env[i]? with
  | none => rfl
  | some g =>
   simp only
   split
   · rename_i x hx
     rw [h.n]; exact (h.ll _ (lk_mem hx)).2.1
   · have := h.lt g (List.mem_of_getElem? hg)
     simp only [tmIn,h.n,decide_eq_true_eq]; omega
 | _ => rfl
end
def fLe (t : Nat) (x : Li) (c : Int) : Fa := ⟨t,x.1,x.2 + c⟩
def fGe (t : Nat) (x : Li) (c : Int) : Fa := ⟨x.1,t,c - x.2⟩
def fEq (t : Nat) (x : Li) : List Fa := [fLe t x 0,fGe t x 0]
def fRg (t : Nat) (lo hi : Int) : List Fa := [fLe t (0,0) hi,fGe t (0,0) (-lo)]
theorem fLe_ok {τ : List L} {t : Nat} {x : Li} {c : Int} (h : tmV τ t - liV τ x ≤ c) : (fLe t x c).holds τ := by
 unfold Fa.holds fLe; unfold liV at h; simp only; omega
theorem fGe_ok {τ : List L} {t : Nat} {x : Li} {c : Int} (h : liV τ x - tmV τ t ≤ c) : (fGe t x c).holds τ := by
 unfold Fa.holds fGe; unfold liV at h; simp only; omega
theorem fEq_ok {τ : List L} {t : Nat} {x : Li} (h : tmV τ t = liV τ x) : ∀ f ∈ fEq t x,f.holds τ := fun f hf => by
 simp only [fEq,List.mem_cons,List.not_mem_nil,or_false] at hf
 rcases hf with rfl | rfl
 · exact fLe_ok (by omega)
 · exact fGe_ok (by omega)
theorem fRg_ok {τ : List L} {t : Nat} {lo hi : Int} (h0 : lo ≤ tmV τ t) (h1 : tmV τ t ≤ hi) : ∀ f ∈ fRg t lo hi,f.holds τ := fun f hf => by
 have hz : liV τ (0,0) = 0 := by simp [liV,tmV_zero]
 simp only [fRg,List.mem_cons,List.not_mem_nil,or_false] at hf
 rcases hf with rfl | rfl
 · exact fLe_ok (by rw [hz]; omega)
 · exact fGe_ok (by rw [hz]; omega)
theorem holds_append {l1 l2 : List Fa} {τ : List L} (h1 : ∀ f ∈ l1,f.holds τ) (h2 : ∀ f ∈ l2,f.holds τ) : ∀ f ∈ l1 ++ l2,f.holds τ := fun f hf => by
 rcases List.mem_append.1 hf with h | h
 · exact h1 f h
 · exact h2 f h
theorem holds_cons {f : Fa} {l2 : List Fa} {τ : List L} (h1 : f.holds τ) (h2 : ∀ f ∈ l2,f.holds τ) : ∀ g ∈ f :: l2,g.holds τ := fun g hg => by
 rcases List.mem_cons.1 hg with rfl | h
 · exact h1
 · exact h2 g h
theorem holds_nil {τ : List L} : ∀ f ∈ ([] : List Fa),f.holds τ := fun f hf => by cases hf
theorem new_i (τ : List L) (l : L) : tmV (τ ++ [l]) (3 * τ.length + 1) = l.asI := by rw [tm_i,at_new]
theorem new_l (τ : List L) (l : L) : tmV (τ ++ [l]) (3 * τ.length + 2) = (l.asR.length : Int) := by rw [tm_l,at_new]
theorem new_s (τ : List L) (l : L) : tmV (τ ++ [l]) (3 * τ.length + 3) = (l.asS.size : Int) := by rw [tm_s,at_new]
def kFits (k : Option IntKind) (lo hi : Int) : Bool := match k with
 | some k => decide (k.min ≤ lo) && decide (hi ≤ k.max)
 | none => true
def kRg (k : Option IntKind) (t : Nat) : List Fa := match k with
 | some k => fRg t k.min k.max
 | none => []
def kWrap (k : Option IntKind) (n : Int) : Int := match k with
 | some k => k.wrap n
 | none => n
theorem kFits_ok {k : Option IntKind} {lo hi n : Int} (h : kFits k lo hi = true) (h0 : lo ≤ n) (h1 : n ≤ hi) : kWrap k n = n := by
 cases k with
 | none => rfl
 | some k =>
  simp only [kFits,Bool.and_eq_true,decide_eq_true_eq] at h
  exact wrap_in k (by omega) (by omega)
theorem kRg_ok {k : Option IntKind} {τ : List L} {t : Nat} {n : Int} (h : tmV τ t = kWrap k n) : ∀ f ∈ kRg k t,f.holds τ := by
 cases k with
 | none => exact holds_nil
 | some k =>
  have := Go.wrap_within k n
  exact fRg_ok (by rw [h]; exact this.1) (by rw [h]; exact this.2)
def addFs (fs : List Fa) (k : Option IntKind) (t : Nat) (x y : Li) : List Fa := match hiL fs x,loL fs x,hiL fs y,loL fs y with
 | some hx,some lx,some hy,some ly => if kFits k (lx + ly) (hx + hy) = true then [fLe t x hy,fGe t x (-ly),fLe t y hx,fGe t y (-lx)] else kRg k t
 | _,_,_,_ => kRg k t
theorem addFs_ok {fs : List Fa} {τ τ' : List L} (hf : ∀ f ∈ fs,f.holds τ) {k : Option IntKind} {t : Nat} {x y : Li} (hx : liV τ' x = liV τ x) (hy : liV τ' y = liV τ y)
   (h : tmV τ' t = kWrap k (liV τ x + liV τ y)) : ∀ f ∈ addFs fs k t x y,f.holds τ' := by
 have hr := kRg_ok h
 unfold addFs
 split
 · rename_i a b c d h1 h2 h3 h4
   have h1 := hiL_ok hf h1
   have h2 := loL_ok hf h2
   have h3 := hiL_ok hf h3
   have h4 := loL_ok hf h4
   split
   · rename_i hc
     have he : tmV τ' t = liV τ x + liV τ y := by rw [h]; exact kFits_ok hc (by omega) (by omega)
     exact holds_cons (fLe_ok (by omega)) (holds_cons (fGe_ok (by omega)) (holds_cons (fLe_ok (by omega)) (holds_cons (fGe_ok (by omega)) holds_nil)))
   · exact hr
 · exact hr
def addAl (fs : List Fa) (k : Option IntKind) (x y : Li) : Option Li :=
 if y.1 = 0 then match hiL fs x,loL fs x with
  | some hx,some lx => if kFits k (lx + y.2) (hx + y.2) = true then some (x.1,x.2 + y.2) else none
  | _,_ => none
 else if x.1 = 0 then match hiL fs y,loL fs y with
  | some hy,some ly => if kFits k (x.2 + ly) (x.2 + hy) = true then some (y.1,y.2 + x.2) else none
  | _,_ => none
 else none
theorem addAl_ok {fs : List Fa} {τ : List L} (hf : ∀ f ∈ fs,f.holds τ) {k : Option IntKind} {x y z : Li} (h : addAl fs k x y = some z) : kWrap k (liV τ x + liV τ y) = liV τ z := by
 unfold addAl at h
 split at h
 · rename_i hy
   have e : liV τ y = y.2 := by unfold liV; rw [hy,tmV_zero]; omega
   split at h
   · rename_i a b h1 h2
     have h1 := hiL_ok hf h1
     have h2 := loL_ok hf h2
     split at h
     · rename_i hc
       cases h
       rw [e,kFits_ok hc (by omega) (by omega)]; unfold liV; simp only; omega
     · cases h
   · cases h
 · split at h
   · rename_i hx
     have e : liV τ x = x.2 := by unfold liV; rw [hx,tmV_zero]; omega
     split at h
     · rename_i a b h1 h2
       have h1 := hiL_ok hf h1
       have h2 := loL_ok hf h2
       split at h
       · rename_i hc
         cases h
         rw [e,kFits_ok hc (by omega) (by omega)]; unfold liV; simp only; omega
       · cases h
     · cases h
   · cases h
def subAl (fs : List Fa) (k : Option IntKind) (x y : Li) : Option Li :=
 if y.1 = 0 then match hiL fs x,loL fs x with
  | some hx,some lx => if kFits k (lx - y.2) (hx - y.2) = true then some (x.1,x.2 - y.2) else none
  | _,_ => none
 else if x.1 = y.1 then (if kFits k (x.2 - y.2) (x.2 - y.2) = true then some (0,x.2 - y.2) else none)
 else none
theorem subAl_ok {fs : List Fa} {τ : List L} (hf : ∀ f ∈ fs,f.holds τ) {k : Option IntKind} {x y z : Li} (h : subAl fs k x y = some z) : kWrap k (liV τ x - liV τ y) = liV τ z := by
 unfold subAl at h
 split at h
 · rename_i hy
   have e : liV τ y = y.2 := by unfold liV; rw [hy,tmV_zero]; omega
   split at h
   · rename_i a b h1 h2
     have h1 := hiL_ok hf h1
     have h2 := loL_ok hf h2
     split at h
     · rename_i hc
       cases h
       rw [e,kFits_ok hc (by omega) (by omega)]; unfold liV; simp only; omega
     · cases h
   · cases h
 · split at h
   · rename_i hxy
     split at h
     · rename_i hc
       cases h
       have e : liV τ x - liV τ y = x.2 - y.2 := by unfold liV; rw [hxy]; omega
       rw [e,kFits_ok hc (Int.le_refl _) (Int.le_refl _)]; unfold liV; simp only [tmV_zero]; omega
     · cases h
   · cases h
def subFs (fs : List Fa) (k : Option IntKind) (t : Nat) (x y : Li) : List Fa := match bndL fs x y,bndL fs y x with
 | some u,some d => if kFits k (-d) u = true then fRg t (-d) u ++ (match hiL fs y,loL fs y with
  | some hy,some ly => [fLe t x (-ly),fGe t x hy]
  | some hy,none => [fGe t x hy]
  | none,some ly => [fLe t x (-ly)]
  | none,none => []) else kRg k t
 | _,_ => kRg k t
theorem subFs_ok {fs : List Fa} {τ τ' : List L} (hf : ∀ f ∈ fs,f.holds τ) {k : Option IntKind} {t : Nat} {x y : Li} (hx : liV τ' x = liV τ x)
   (h : tmV τ' t = kWrap k (liV τ x - liV τ y)) : ∀ f ∈ subFs fs k t x y,f.holds τ' := by
 have hr := kRg_ok h
 unfold subFs
 split
 · rename_i u d h1 h2
   have h1 := bndL_ok hf h1
   have h2 := bndL_ok hf h2
   split
   · rename_i hc
     have he : tmV τ' t = liV τ x - liV τ y := by rw [h]; exact kFits_ok hc (by omega) (by omega)
     refine holds_append (fRg_ok (by omega) (by omega)) ?_
     split
     · rename_i a b h3 h4
       have h3 := hiL_ok hf h3
       have h4 := loL_ok hf h4
       exact holds_cons (fLe_ok (by omega)) (holds_cons (fGe_ok (by omega)) holds_nil)
     · rename_i a h3 h4
       have h3 := hiL_ok hf h3
       exact holds_cons (fGe_ok (by omega)) holds_nil
     · rename_i a h3 h4
       have h4 := loL_ok hf h4
       exact holds_cons (fLe_ok (by omega)) holds_nil
     · exact holds_nil
   · exact hr
 · exact hr
end AI
end
section
open Go.RowKit
namespace AI
def imin (a b : Int) : Int := if a ≤ b then a else b
def imax (a b : Int) : Int := if a ≤ b then b else a
def mulFs (fs : List Fa) (k : IntKind) (t : Nat) (x y : Li) : List Fa := match hiL fs x,loL fs x,hiL fs y,loL fs y with
 | some hx,some lx,some hy,some ly => if 0 ≤ lx ∧ 0 ≤ ly ∧ hx * hy ≤ k.max then fRg t (lx * ly) (hx * hy) else fRg t k.min k.max
 | _,_,_,_ => fRg t k.min k.max
theorem mulFs_ok {fs : List Fa} {τ τ' : List L} (hf : ∀ f ∈ fs,f.holds τ) {k : IntKind} {t : Nat} {x y : Li}
   (h : tmV τ' t = k.wrap (liV τ x * liV τ y)) : ∀ f ∈ mulFs fs k t x y,f.holds τ' := by
 have hr : ∀ f ∈ fRg t k.min k.max,f.holds τ' := kRg_ok (k := some k) h
 unfold mulFs
 split
 · rename_i hx lx hy ly h1 h2 h3 h4
   have h1 := hiL_ok hf h1
   have h2 := loL_ok hf h2
   have h3 := hiL_ok hf h3
   have h4 := loL_ok hf h4
   split
   · rename_i hc
     obtain ⟨c1,c2,c3⟩ := hc
     have b1 : lx * ly ≤ liV τ x * liV τ y := Int.mul_le_mul h2 h4 c2 (by omega)
     have b2 : liV τ x * liV τ y ≤ hx * hy := Int.mul_le_mul h1 h3 (by omega) (by omega)
     have hmin : k.min ≤ 0 := by cases k <;> decide
     have c4 : 0 ≤ lx * ly := Int.mul_nonneg c1 c2
     have he : tmV τ' t = liV τ x * liV τ y := by rw [h]; exact wrap_in k (by omega) (by omega)
     exact fRg_ok (by omega) (by omega)
   · exact hr
 · exact hr
def quoFs (fs : List Fa) (k : IntKind) (t : Nat) (x : Li) (c : Int) : List Fa := match hiL fs x,loL fs x with
 | some hx,some lx => if 0 ≤ lx ∧ hx ≤ k.max then fRg t (lx / c) (hx / c) else fRg t k.min k.max
 | _,_ => fRg t k.min k.max
theorem quoFs_ok {fs : List Fa} {τ τ' : List L} (hf : ∀ f ∈ fs,f.holds τ) {k : IntKind} {t : Nat} {x : Li} {c : Int} (hc : 0 < c)
   (h : tmV τ' t = k.wrap ((liV τ x).tdiv c)) : ∀ f ∈ quoFs fs k t x c,f.holds τ' := by
 have hr : ∀ f ∈ fRg t k.min k.max,f.holds τ' := kRg_ok (k := some k) h
 unfold quoFs
 split
 · rename_i hx lx h1 h2
   have h1 := hiL_ok hf h1
   have h2 := loL_ok hf h2
   split
   · rename_i hcc
     obtain ⟨c1,c3⟩ := hcc
     rw [Int.tdiv_eq_ediv_of_nonneg (by omega)] at h
     have b1 : lx / c ≤ liV τ x / c := Int.ediv_le_ediv hc h2
     have b2 : liV τ x / c ≤ hx / c := Int.ediv_le_ediv hc h1
     have hmin : k.min ≤ 0 := by cases k <;> decide
     have c4 : 0 ≤ lx / c := Int.ediv_nonneg c1 (by omega)
     have b3 : hx / c ≤ hx := Int.ediv_le_self _ (by omega)
     have he : tmV τ' t = liV τ x / c := by rw [h]; exact wrap_in k (by omega) (by omega)
     exact fRg_ok (by omega) (by omega)
   · exact hr
 · exact hr
def remFs (fs : List Fa) (t : Nat) (x : Li) (c : Int) : List Fa := match loL fs x with
 | some lx => if 0 ≤ lx then fLe t x 0 :: fRg t 0 (c - 1) else fRg t (1 - c) (c - 1)
 | none => fRg t (1 - c) (c - 1)
theorem remFs_ok {fs : List Fa} {τ τ' : List L} (hf : ∀ f ∈ fs,f.holds τ) {t : Nat} {x : Li} {c : Int} (hc : 0 < c) (hx : liV τ' x = liV τ x)
   (h : tmV τ' t = (liV τ x).tmod c) : ∀ f ∈ remFs fs t x c,f.holds τ' := by
 have hr : ∀ f ∈ fRg t (1 - c) (c - 1),f.holds τ' := by
   have h1 := Int.tmod_lt_of_pos (liV τ x) hc
   have h2 : -c < (liV τ x).tmod c := by
     have := Int.tmod_lt_of_pos (-(liV τ x)) hc
     rw [Int.neg_tmod] at this; omega
   exact fRg_ok (by omega) (by omega)
 unfold remFs
 split
 · rename_i lx h2
   have h2 := loL_ok hf h2
   split
   · have h1 := Int.tmod_lt_of_pos (liV τ x) hc
     have h3 : 0 ≤ (liV τ x).tmod c := Int.tmod_nonneg _ (by omega)
     have h4 : (liV τ x).tmod c ≤ liV τ x := by
      rw [Int.tmod_eq_emod_of_nonneg (by omega)]
      have e1 := Int.emod_add_mul_ediv (liV τ x) c
      have e2 : 0 ≤ c * (liV τ x / c) := Int.mul_nonneg (by omega) (Int.ediv_nonneg (by omega) (by omega))
      omega
     exact holds_cons (fLe_ok (by omega)) (fRg_ok (by omega) (by omega))
   · exact hr
 · exact hr
theorem and_ok (k : IntKind) (a : Int) {c : Int} (h0 : 0 ≤ c) (h1 : c ≤ k.max) : 0 ≤ k.wrap (BitVec.ofInt k.bits a &&& BitVec.ofInt k.bits c).toNat ∧ k.wrap (BitVec.ofInt k.bits a &&& BitVec.ofInt k.bits c).toNat ≤ c := by
 have h2 : (BitVec.ofInt k.bits c).toNat = c.toNat := by
  rw [BitVec.toNat_ofInt]
  have : c < 2 ^ k.bits := by cases k <;> simp [IntKind.max,IntKind.bits,IntKind.signed] at h1 ⊢ <;> omega
  rw [Int.emod_eq_of_lt h0 (by exact_mod_cast this)]
 have h3 : (BitVec.ofInt k.bits a &&& BitVec.ofInt k.bits c).toNat ≤ c.toNat := by
  rw [BitVec.toNat_and,h2]; exact Nat.and_le_right
 have hmin : k.min ≤ 0 := by cases k <;> decide
 have h4 : ((BitVec.ofInt k.bits a &&& BitVec.ofInt k.bits c).toNat : Int) ≤ c := by omega
 rw [wrap_in k (by omega) (by omega)]
 exact ⟨by omega,h4⟩
def andFs (k : IntKind) (t : Nat) (y : Li) : List Fa := if y.1 = 0 ∧ 0 ≤ y.2 ∧ y.2 ≤ k.max then fRg t 0 y.2 else fRg t k.min k.max
theorem andFs_ok {τ τ' : List L} {k : IntKind} {t : Nat} {x y : Int} {z : Li} (hz : y = liV τ z)
   (h : tmV τ' t = k.wrap (BitVec.ofInt k.bits x &&& BitVec.ofInt k.bits y).toNat) : ∀ f ∈ andFs k t z,f.holds τ' := by
 unfold andFs
 split
 · rename_i hc
   obtain ⟨h1,h2,h3⟩ := hc
   have : y = z.2 := by rw [hz]; unfold liV; rw [h1,tmV_zero]; omega
   rw [this] at h
   have := and_ok k x h2 h3
   exact fRg_ok (by rw [h]; exact this.1) (by rw [h]; exact this.2)
 · exact kRg_ok (k := some k) h
def shrFs (fs : List Fa) (k : IntKind) (t : Nat) (x y : Li) : List Fa := match hiL fs x,loL fs x with
 | some hx,some lx => if 0 ≤ lx then (if y.1 = 0 then fRg t 0 (hx / 2 ^ (min y.2.toNat k.bits)) else fRg t 0 hx) else []
 | _,_ => []
theorem shrFs_ok {fs : List Fa} {τ τ' : List L} (hf : ∀ f ∈ fs,f.holds τ) {k : IntKind} {t : Nat} {x y : Li}
   (h : tmV τ' t = (liV τ x).fdiv (2 ^ (min (liV τ y).toNat k.bits))) : ∀ f ∈ shrFs fs k t x y,f.holds τ' := by
 unfold shrFs
 split
 · rename_i hx lx h1 h2
   have h1 := hiL_ok hf h1
   have h2 := loL_ok hf h2
   split
   · have hp : (0 : Int) < 2 ^ (min (liV τ y).toNat k.bits) := Int.pow_pos (by decide)
     rw [Int.fdiv_eq_ediv_of_nonneg _ (by omega)] at h
     have b0 : 0 ≤ liV τ x / 2 ^ (min (liV τ y).toNat k.bits) := Int.ediv_nonneg (by omega) (by omega)
     split
     · rename_i hy
       have : liV τ y = y.2 := by unfold liV; rw [hy,tmV_zero]; omega
       rw [this] at h b0 hp
       have b2 := Int.ediv_le_ediv hp h1
       exact fRg_ok (by omega) (by omega)
     · have b2 := Int.ediv_le_self (a := liV τ x) (2 ^ (min (liV τ y).toNat k.bits)) (by omega)
       exact fRg_ok (by omega) (by omega)
   · exact holds_nil
 · exact holds_nil
def biN (S : AS) (op : BinOp) (k : IntKind) (x y : Li) : Option New :=
 let t := 3 * S.n + 1
 match op with
 | .add => match addAl S.fs (some k) x y with
  | some z => some { al := some z }
  | none => some { fs := addFs S.fs (some k) t x y }
 | .sub => match subAl S.fs (some k) x y with
  | some z => some { al := some z }
  | none => some { fs := subFs S.fs (some k) t x y }
 | .mul => some { fs := mulFs S.fs k t x y }
 | .quo => if y.1 = 0 ∧ 0 < y.2 then some { fs := quoFs S.fs k t x y.2 } else none
 | .rem => if y.1 = 0 ∧ 0 < y.2 then some { fs := remFs S.fs t x y.2 } else none
 | .and => some { fs := andFs k t y }
 | .or => some { fs := fRg t k.min k.max }
 | .xor => some { fs := fRg t k.min k.max }
 | .andNot => some { fs := fRg t k.min k.max }
 | .shl => match loL S.fs y with
  | some l => if 0 ≤ l then some { fs := fRg t k.min k.max } else none
  | none => none
 | .shr => match loL S.fs y with
  | some l => if 0 ≤ l then some { fs := shrFs S.fs k t x y } else none
  | none => none
 | .eql => some { bd := some (.cmp .eql x y true) }
 | .neq => some { bd := some (.cmp .neq x y true) }
 | .lss => some { bd := some (.cmp .lss x y true) }
 | .leq => some { bd := some (.cmp .leq x y true) }
 | .gtr => some { bd := some (.cmp .gtr x y true) }
 | .geq => some { bd := some (.cmp .geq x y true) }
theorem newFs {τ : List L} {l : L} {fs : List Fa} (h : ∀ f ∈ fs,f.holds (τ ++ [l])) : New.ok { fs := fs } τ l := ⟨h,fun _ h => (by cases h),fun _ h => (by cases h),fun _ h => (by cases h),fun _ h => (by cases h),fun _ h => (by cases h),fun _ h => (by cases h)⟩
theorem newBd {τ : List L} {l : L} {b : BD} (h : l.asB = b.val τ) : New.ok { bd := some b } τ l := ⟨holds_nil,fun _ h => (by cases h),fun _ h => (by cases h),fun x hx => (by cases hx; exact h),fun _ h => (by cases h),fun _ h => (by cases h),fun _ h => (by cases h)⟩
theorem newAl {τ : List L} {l : L} {z : Li} (h : l.asI = liV τ z) : New.ok { al := some z } τ l := ⟨holds_nil,fun _ h => (by cases h),fun _ h => (by cases h),fun _ h => (by cases h),fun x hx => (by cases hx; exact h),fun _ h => (by cases h),fun _ h => (by cases h)⟩
theorem biN_ok {S : AS} {τ ρ : List L} (h : Ga S τ ρ) {op : BinOp} {k : IntKind} {x y : Li} (hxi : tmIn τ.length x.1 = true) (hyi : tmIn τ.length y.1 = true) {N : New} (hN : biN S op k x y = some N) : ∃ l,binI op k (liV τ x) (liV τ y) = some l ∧ N.ok τ l := by
 have hf : ∀ f ∈ S.fs,f.holds τ := fun f hf => h.holds hf
 have ti : ∀ n : Int,tmV (τ ++ [L.i n]) (3 * S.n + 1) = n := fun n => by rw [← h.n,new_i]; rfl
 have lx : ∀ l : L,liV (τ ++ [l]) x = liV τ x := fun l => liV_append hxi
 have ly : ∀ l : L,liV (τ ++ [l]) y = liV τ y := fun l => liV_append hyi
 cases op <;> simp only [biN] at hN <;> simp only [binI]
 case add =>
  split at hN
  · rename_i z hz
    cases hN; exact ⟨_,rfl,newAl (addAl_ok hf hz)⟩
  · cases hN; exact ⟨_,rfl,newFs (addFs_ok hf (lx _) (ly _) (ti _))⟩
 case sub =>
  split at hN
  · rename_i z hz
    cases hN; exact ⟨_,rfl,newAl (subAl_ok hf hz)⟩
  · cases hN; exact ⟨_,rfl,newFs (subFs_ok hf (lx _) (ti _))⟩
 case mul => cases hN; exact ⟨_,rfl,newFs (mulFs_ok hf (ti _))⟩
 case quo =>
  split at hN
  · rename_i hc
    cases hN
    have hy : liV τ y = y.2 := by unfold liV; rw [hc.1,tmV_zero]; omega
    rw [hy,if_pos (by omega)]
    exact ⟨_,rfl,newFs (quoFs_ok hf hc.2 (ti _))⟩
  · cases hN
 case rem =>
  split at hN
  · rename_i hc
    cases hN
    have hy : liV τ y = y.2 := by unfold liV; rw [hc.1,tmV_zero]; omega
    rw [hy,if_pos (by omega)]
    exact ⟨_,rfl,newFs (remFs_ok hf hc.2 (lx _) (ti _))⟩
  · cases hN
 case and => cases hN; exact ⟨_,rfl,newFs (andFs_ok rfl (ti _))⟩
 case or => cases hN; exact ⟨_,rfl,newFs (kRg_ok (k := some k) (ti _))⟩
 case xor => cases hN; exact ⟨_,rfl,newFs (kRg_ok (k := some k) (ti _))⟩
 case andNot => cases hN; exact ⟨_,rfl,newFs (kRg_ok (k := some k) (ti _))⟩
 case shl =>
  split at hN
  · rename_i l hl
    have := loL_ok hf hl
    split at hN
    · cases hN; rw [if_pos (by omega)]; exact ⟨_,rfl,newFs (kRg_ok (k := some k) (ti _))⟩
    · cases hN
  · cases hN
 case shr =>
  split at hN
  · rename_i l hl
    have := loL_ok hf hl
    split at hN
    · cases hN; rw [if_pos (by omega)]; exact ⟨_,rfl,newFs (shrFs_ok hf (ti _))⟩
    · cases hN
  · cases hN
 all_goals (cases hN; exact ⟨_,rfl,newBd (by simp [BD.val,cmpV,L.asB])⟩)
end AI
end
end Go.Proofs.YtndegphojkiblaaGreatDoor
