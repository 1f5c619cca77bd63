/- Towards the last file's theorem: part 15. -/
import Derived.Test.YtndegphojkiblaaGreatDoorG14
import Derived.Deep.Slices
import Derived.OpenShut
set_option linter.unusedSimpArgs false
set_option linter.unusedVariables false
namespace Go.Proofs.YtndegphojkiblaaGreatDoor
section
open Go.RowKit
open Classical
section
variable {A R : Type}
def iterN (f : A → Option (A ⊕ R)) : Nat → A → Option R
 | 0,_ => none
 | n + 1,a => match f a with
  | some (.inl a') => iterN f n a'
  | some (.inr r) => some r
  | none => none
noncomputable def iterO (f : A → Option (A ⊕ R)) (a : A) : Option R := if h : ∃ n r,iterN f n a = some r then iterN f h.choose a else none
theorem iterN_mono {f : A → Option (A ⊕ R)} : ∀ {n : Nat} {a : A} {r : R} (m : Nat),iterN f n a = some r → iterN f (n + m) a = some r
 | 0,_,_,_,h => by cases h
 | n + 1,a,r,m,h => by
  rw [show n + 1 + m = (n + m) + 1 by omega]
  simp only [iterN] at h ⊢
  split at h
  · exact iterN_mono m h
  · exact h
  · cases h
theorem iterO_of {f : A → Option (A ⊕ R)} {n : Nat} {a : A} {r : R} (h : iterN f n a = some r) : iterO f a = some r := by
 have hex : ∃ n r,iterN f n a = some r := ⟨n,r,h⟩
 unfold iterO
 rw [dif_pos hex]
 obtain ⟨r',h1⟩ := hex.choose_spec
 have h2 := iterN_mono n h1
 have h3 := iterN_mono hex.choose h
 rw [Nat.add_comm] at h3
 rw [h1,← h2,h3]
theorem iterO_some {f : A → Option (A ⊕ R)} {a : A} {r : R} (h : iterO f a = some r) : ∃ n,iterN f n a = some r := by
 unfold iterO at h
 split at h
 · exact ⟨_,h⟩
 · cases h
theorem iterO_unfold (f : A → Option (A ⊕ R)) (a : A) : iterO f a = match f a with
  | some (.inl a') => iterO f a'
  | some (.inr r) => some r
  | none => none := by
 cases hf : f a with
 | none =>
  cases h : iterO f a with
  | none => rfl
  | some r =>
   obtain ⟨n,hn⟩ := iterO_some h
   cases n with
   | zero => cases hn
   | succ n => simp only [iterN,hf] at hn; cases hn
 | some x =>
  cases x with
  | inr r => exact iterO_of (n := 1) (by simp only [iterN,hf])
  | inl a' =>
   simp only
   cases h : iterO f a' with
   | some r =>
    obtain ⟨n,hn⟩ := iterO_some h
    exact iterO_of (n := n + 1) (by simp only [iterN,hf,hn])
   | none =>
    cases h' : iterO f a with
    | none => rfl
    | some r =>
     obtain ⟨n,hn⟩ := iterO_some h'
     cases n with
     | zero => cases hn
     | succ n =>
      simp only [iterN,hf] at hn
      rw [iterO_of hn] at h; cases h
theorem iterO_inl {f : A → Option (A ⊕ R)} {a a' : A} (h : f a = some (.inl a')) : iterO f a = iterO f a' := by rw [iterO_unfold,h]
theorem iterO_inr {f : A → Option (A ⊕ R)} {a : A} {r : R} (h : f a = some (.inr r)) : iterO f a = some r := by rw [iterO_unfold,h]
theorem iterO_bind {f g : A → Option (A ⊕ R)} {h : R → Option R} (hfg : ∀ a,(∀ r,f a = some (.inr r) → iterO f a = some r → g a = (h r).map .inr) → True) {G : R → Prop}
  (hg : ∀ a,(∀ r,iterO f a = some r → G r) → g a = match f a with
   | some (.inl a') => some (.inl a')
   | some (.inr r) => (h r).map .inr
   | none => none) (a : A) (ha : ∀ r,iterO f a = some r → G r) : iterO g a = (iterO f a).bind h := by
 clear hfg
 cases hx : iterO f a with
 | some r =>
  obtain ⟨n,hn⟩ := iterO_some hx
  clear hx
  induction n generalizing a with
  | zero => cases hn
  | succ n ih =>
   have hga := hg a ha
   simp only [iterN] at hn
   split at hn
   · rename_i a' hf
     rw [hf] at hga
     simp only at hga
     rw [iterO_inl hga]
     exact ih a' (by rw [← iterO_inl hf]; exact ha) hn
   · rename_i r' hf
     cases hn
     rw [hf] at hga
     simp only at hga
     rw [iterO_unfold,hga]
     simp only [Option.bind_some]
     cases h r <;> rfl
   · cases hn
 | none =>
  simp only [Option.bind_none]
  cases hy : iterO g a with
  | none => rfl
  | some r =>
   exfalso
   obtain ⟨n,hn⟩ := iterO_some hy
   clear hy
   induction n generalizing a with
   | zero => cases hn
   | succ n ih =>
     have hga := hg a ha
     cases hf : f a with
     | none => rw [hf] at hga; simp only at hga; simp only [iterN,hga] at hn; cases hn
     | some y =>
      cases y with
      | inl a' =>
       rw [hf] at hga
       simp only at hga
       simp only [iterN,hga] at hn
       exact ih a' (by rw [← iterO_inl hf]; exact ha) (by rw [← iterO_inl hf]; exact hx) hn
      | inr r' => rw [iterO_inr hf] at hx; cases hx
end
inductive Ex where
 | normal | exit (id : Nat) | ret
deriving DecidableEq,Repr,Inhabited
def Ex.to : Ex → Exit
 | .normal => .normal
 | .exit id => .exit id
 | .ret => .ret
inductive Lf where
 | st (e : Ex) (S : SSt)
 | jump (k : Nat) (args : List At)
deriving Inhabited
inductive Fir where
 | leaf (x : Lf)
 | op (nd : Nd) (k : Fir)
 | ite (c : At) (a b : Fir)
 | join (body rest : Fir)
 | loop (init : List At) (body : Fir)
deriving Inhabited
abbrev Out := Option (Lf × List L)
def loopStep (x : Out) : Option (List L ⊕ (Lf × List L)) := match x with
 | some (.jump 0 args,ρ) => some (.inl (args.map (At.ev ρ)))
 | some (.jump (k + 1) args,ρ) => some (.inr (.jump k args,ρ))
 | some (x,ρ) => some (.inr (x,ρ))
 | none => none
noncomputable def Fir.den : Fir → List L → Out
 | .leaf x,ρ => some (x,ρ)
 | .op nd k,ρ => match nd.ev ρ with
  | some ls => k.den (ρ ++ ls)
  | none => none
 | .ite c a b,ρ => if (c.ev ρ).asB then a.den ρ else b.den ρ
 | .join body rest,ρ => match body.den ρ with
  | some (.jump 0 args,ρ') => rest.den (ρ ++ args.map (At.ev ρ'))
  | some (.jump (k + 1) args,ρ') => some (.jump k args,ρ')
  | r => r
 | .loop init body,ρ => iterO (fun a => loopStep (body.den (ρ ++ a))) (init.map (At.ev ρ))
def Fir.bind (f : Nat → Ex → SSt → Option Fir) : Nat → Fir → Option Fir
 | d,.leaf (.st e S) => f d e S
 | _,.leaf x => some (.leaf x)
 | d,.op nd k => (Fir.bind f d k).map (.op nd)
 | d,.ite c a b => match Fir.bind f d a,Fir.bind f d b with
  | some a,some b => some (.ite c a b)
  | _,_ => none
 | d,.join body rest => match Fir.bind f (d + 1) body,Fir.bind f d rest with
  | some a,some b => some (.join a b)
  | _,_ => none
 | d,.loop init body => (Fir.bind f (d + 1) body).map (.loop init)
def lift (d : Nat) : Lf × List L → Lf × List L
 | (.jump k args,ρ) => (.jump (k + d) args,ρ)
 | x => x
def after (R : Ex → SSt → List L → Out) (d : Nat) (o : Out) : Out := match o with
 | some (.st e S,ρ) => (R e S ρ).map (lift d)
 | r => r
theorem bind_den {f : Nat → Ex → SSt → Option Fir} {R : Ex → SSt → List L → Out} : ∀ {t u : Fir} {d : Nat} {ρ : List L},
  (∀ e S ρ1,t.den ρ = some (.st e S,ρ1) → ∀ d u1,f d e S = some u1 → u1.den ρ1 = (R e S ρ1).map (lift d)) → t.bind f d = some u → u.den ρ = after R d (t.den ρ)
 | .leaf (.st e S),u,d,ρ,H,h => H e S ρ rfl d u h
 | .leaf (.jump k args),u,d,ρ,H,h => by cases h; rfl
 | .op nd k,u,d,ρ,H,h => by
  simp only [Fir.bind,Option.map_eq_some_iff] at h
  obtain ⟨v,hv,rfl⟩ := h
  simp only [Fir.den] at H ⊢
  cases hn : nd.ev ρ with
  | none => rfl
  | some ls =>
    rw [hn] at H
    exact bind_den H hv
 | .ite c a b,u,d,ρ,H,h => by
  simp only [Fir.bind] at h
  split at h
  · rename_i u1 u2 h1 h2
    cases h
    simp only [Fir.den] at H ⊢
    split
    · rename_i hc
      rw [if_pos hc] at H
      exact bind_den H h1
    · rename_i hc
      rw [if_neg hc] at H
      exact bind_den H h2
  · cases h
 | .join body rest,u,d,ρ,H,h => by
  simp only [Fir.bind] at h
  split at h
  · rename_i u1 u2 h1 h2
    cases h
    simp only [Fir.den] at H ⊢
    cases hb : body.den ρ with
    | none =>
      have := bind_den (R := R) (t := body) (ρ := ρ) (fun e S ρ1 hh => by rw [hb] at hh; cases hh) h1
      rw [this,hb]; rfl
    | some x =>
      obtain ⟨lf,ρ1⟩ := x
      cases lf with
      | st e S =>
       have := bind_den (R := R) (t := body) (ρ := ρ) (fun e S ρ1 hh => H e S ρ1 (by rw [hh])) h1
       rw [this,hb]
       simp only [after]
       cases R e S ρ1 with
       | none => rfl
       | some y =>
        obtain ⟨lf',ρ2⟩ := y
        cases lf' with
        | st => rfl
        | jump k args => simp only [Option.map_some,lift,Nat.add_succ]
      | jump k args =>
       have := bind_den (R := R) (t := body) (ρ := ρ) (fun e S ρ1 hh => by rw [hb] at hh; cases hh) h1
       rw [this,hb]
       cases k with
       | zero =>
        rw [hb] at H
        exact bind_den H h2
       | succ k => rfl
  · cases h
 | .loop init body,u,d,ρ,H,h => by
  simp only [Fir.bind,Option.map_eq_some_iff] at h
  obtain ⟨v,hv,rfl⟩ := h
  simp only [Fir.den] at H ⊢
  have key := iterO_bind (f := fun a => loopStep (body.den (ρ ++ a))) (g := fun a => loopStep (v.den (ρ ++ a))) (h := fun r => after R d (some r))
    (G := fun r => ∀ e S,r.1 = .st e S → ∀ d u1,f d e S = some u1 → u1.den r.2 = (R e S r.2).map (lift d)) (fun _ _ => trivial) (fun a ha => by
      have hbody := bind_den (R := R) (t := body) (ρ := ρ ++ a) (d := d + 1) (u := v) (fun e S ρ1 hh => by
       have := ha (.st e S,ρ1) (iterO_inr (by simp only [hh,loopStep]))
       exact this e S rfl) hv
      simp only [hbody]
      cases hb : body.den (ρ ++ a) with
      | none => rfl
      | some x =>
       obtain ⟨lf,ρ1⟩ := x
       cases lf with
       | st e S =>
        simp only [after,loopStep]
        cases R e S ρ1 with
        | none => rfl
        | some y =>
         obtain ⟨lf',ρ2⟩ := y
         cases lf' with
         | st => rfl
         | jump k args => simp only [Option.map_some,lift,Nat.add_succ]
       | jump k args => cases k <;> rfl) (init.map (At.ev ρ)) (fun r hr e S he => by
        obtain ⟨lf,ρ1⟩ := r
        simp only at he
        subst he
        exact H e S ρ1 hr)
  rw [key]
  cases iterO (fun a => loopStep (body.den (ρ ++ a))) (init.map (At.ev ρ)) <;> rfl
end
section
open Go.RowKit
namespace AI
def tmV (τ : List L) (t : Nat) : Int := match t with
 | 0 => 0
 | t + 1 => let l := (τ[t / 3]?).getD (.b false)
  if t % 3 = 0 then l.asI else if t % 3 = 1 then (l.asR.length : Int) else (l.asS.size : Int)
def tmIn (n t : Nat) : Bool := decide (t ≤ 3 * n)
theorem tmV_zero (τ : List L) : tmV τ 0 = 0 := rfl
theorem tmV_append {τ ys : List L} {t : Nat} (h : tmIn τ.length t = true) : tmV (τ ++ ys) t = tmV τ t := by
 cases t with
 | zero => rfl
 | succ t =>
  simp only [tmIn,decide_eq_true_eq] at h
  simp only [tmV]
  rw [List.getElem?_append_left (by omega)]
structure Fa where
 a : Nat
 b : Nat
 c : Int
deriving Inhabited,Repr
def Fa.holds (τ : List L) (f : Fa) : Prop := tmV τ f.a - tmV τ f.b ≤ f.c
def Fa.in (n : Nat) (f : Fa) : Bool := tmIn n f.a && tmIn n f.b
def Fa.ok (τ : List L) (f : Fa) : Prop := f.in τ.length = true ∧ f.holds τ
theorem Fa.ok.append {τ ys : List L} {f : Fa} (h : f.ok τ) : f.ok (τ ++ ys) := by
 obtain ⟨h1,h2⟩ := h
 simp only [Fa.in,Bool.and_eq_true] at h1
 refine ⟨?_,?_⟩
 · simp only [Fa.in,tmIn,Bool.and_eq_true,decide_eq_true_eq,List.length_append] at h1 ⊢
   omega
 · unfold Fa.holds at h2 ⊢
   rw [tmV_append h1.1,tmV_append h1.2]; exact h2
def ile (a b : Int) : Bool := match a,b with
 | .ofNat m,.ofNat n => Nat.ble m n
 | .negSucc _,.ofNat _ => true
 | .ofNat _,.negSucc _ => false
 | .negSucc m,.negSucc n => Nat.ble n m
theorem ile_eq (a b : Int) : ile a b = decide (a ≤ b) := by
 cases a <;> cases b <;> simp only [ile] <;> apply Bool.eq_iff_iff.2 <;> simp <;> omega
theorem ile_ok {a b : Int} (h : ile a b = true) : a ≤ b := by rw [ile_eq] at h; exact of_decide_eq_true h
def kN : IntKind → Nat
 | .i8 => 0 | .i16 => 1 | .i32 => 2 | .i64 => 3 | .u8 => 4 | .u16 => 5 | .u32 => 6 | .u64 => 7
def kEq (a b : IntKind) : Bool := Nat.beq (kN a) (kN b)
theorem kEq_ok {a b : IntKind} (h : kEq a b = true) : a = b := by cases a <;> cases b <;> first | rfl | cases h
theorem nbeq {a b : Nat} (h : Nat.beq a b = true) : a = b := Nat.eq_of_beq_eq_true h
def dGet : List (Nat × Int) → Nat → Option Int
 | [],_ => none
 | (k,d) :: r,t => cond (Nat.beq k t) (some d) (dGet r t)
def dPut : List (Nat × Int) → Nat → Int → List (Nat × Int)
 | [],t,d => [(t,d)]
 | (k,e) :: r,t,d => cond (Nat.beq k t) (cond (ile e d) ((k,e) :: r) ((k,d) :: r)) ((k,e) :: dPut r t d)
def relF : List Fa → List (Nat × Int) → List (Nat × Int)
 | [],D => D
 | f :: fs,D => relF fs (cond (Nat.beq f.b 0) D (cond (Nat.beq f.a 0) D (match dGet D f.a with
  | some d => dPut D f.b (d + f.c)
  | none => D)))
def relB : List Fa → List (Nat × Int) → List (Nat × Int)
 | [],D => D
 | f :: fs,D => relB fs (cond (Nat.beq f.a 0) D (cond (Nat.beq f.b 0) D (match dGet D f.b with
  | some d => dPut D f.a (d + f.c)
  | none => D)))
def oMin : Option Int → Int → Option Int
 | some x,y => cond (ile x y) (some x) (some y)
 | none,y => some y
def toZ : List Fa → List (Nat × Int) → Option Int → Option Int
 | [],_,r => r
 | f :: fs,D,r => toZ fs D (cond (Nat.beq f.b 0) (match dGet D f.a with
  | some d => oMin r (d + f.c)
  | none => r) r)
def ofZ : List Fa → List (Nat × Int) → Option Int → Option Int
 | [],_,r => r
 | f :: fs,D,r => ofZ fs D (cond (Nat.beq f.a 0) (match dGet D f.b with
  | some d => oMin r (d + f.c)
  | none => r) r)
def bnd (fs : List Fa) (a b : Nat) : Option Int :=
 cond (Nat.beq a b) (some 0)
 (cond (Nat.beq a 0) (ofZ fs (relB fs (relB fs [(b,0)])) none)
 (
  let D := relF fs (relF fs [(a,0)])
  cond (Nat.beq b 0) (toZ fs D none)
  (match toZ fs D none,ofZ fs (relB fs (relB fs [(b,0)])) none with
   | some x,some y => match dGet D b with
    | some d => oMin (some d) (x + y)
    | none => some (x + y)
   | _,_ => dGet D b)))
def dOk (τ : List L) (a : Nat) (D : List (Nat × Int)) : Prop := ∀ t d,(t,d) ∈ D → tmV τ a - tmV τ t ≤ d
def bOk (τ : List L) (b : Nat) (D : List (Nat × Int)) : Prop := ∀ t d,(t,d) ∈ D → tmV τ t - tmV τ b ≤ d
theorem dGet_mem : ∀ {D : List (Nat × Int)} {t : Nat} {d : Int},dGet D t = some d → (t,d) ∈ D
 | [],_,_,h => by cases h
 | (k,e) :: r,t,d,h => by
  simp only [dGet] at h
  cases hk : Nat.beq k t with
  | true =>
   rw [hk] at h
   cases h
   have := nbeq hk; subst this
   exact List.mem_cons_self
  | false => rw [hk] at h; exact List.mem_cons_of_mem _ (dGet_mem h)
theorem dPut_mem : ∀ {D : List (Nat × Int)} {t t' : Nat} {d d' : Int},(t',d') ∈ dPut D t d → (t',d') = (t,d) ∨ (t',d') ∈ D
 | [],t,t',d,d',h => by simp only [dPut,List.mem_singleton] at h; exact .inl h
 | (k,e) :: r,t,t',d,d',h => by
  simp only [dPut] at h
  cases hk : Nat.beq k t with
  | true =>
   rw [hk] at h
   have := nbeq hk; subst this
   cases hi : ile e d with
   | false =>
     rw [hi] at h
     rcases List.mem_cons.1 h with h | h
     · exact .inl h
     · exact .inr (List.mem_cons_of_mem _ h)
   | true => rw [hi] at h; exact .inr h
  | false =>
   rw [hk] at h
   rcases List.mem_cons.1 h with h | h
   · exact .inr (by rw [h]; exact List.mem_cons_self)
   · rcases dPut_mem h with h | h
     · exact .inl h
     · exact .inr (List.mem_cons_of_mem _ h)
theorem relF_ok {τ : List L} {a : Nat} : ∀ {fs : List Fa} {D : List (Nat × Int)},(∀ f ∈ fs,f.holds τ) → dOk τ a D → dOk τ a (relF fs D)
 | [],_,_,h => h
 | f :: fs,D,hf,h => by
  simp only [relF]
  refine relF_ok (fun g hg => hf g (List.mem_cons_of_mem _ hg)) ?_
  cases Nat.beq f.b 0 with
  | true => exact h
  | false => cases Nat.beq f.a 0 with
   | true => exact h
   | false =>
    simp only [cond_false]
    split
    · rename_i d hd
      intro t e ht
      rcases dPut_mem ht with ht | ht
      · cases ht
        have h1 := h _ _ (dGet_mem hd)
        have h2 := hf f List.mem_cons_self
        unfold Fa.holds at h2
        omega
      · exact h _ _ ht
    · exact h
theorem relB_ok {τ : List L} {b : Nat} : ∀ {fs : List Fa} {D : List (Nat × Int)},(∀ f ∈ fs,f.holds τ) → bOk τ b D → bOk τ b (relB fs D)
 | [],_,_,h => h
 | f :: fs,D,hf,h => by
  simp only [relB]
  refine relB_ok (fun g hg => hf g (List.mem_cons_of_mem _ hg)) ?_
  cases Nat.beq f.a 0 with
  | true => exact h
  | false => cases Nat.beq f.b 0 with
   | true => exact h
   | false =>
    simp only [cond_false]
    split
    · rename_i d hd
      intro t e ht
      rcases dPut_mem ht with ht | ht
      · cases ht
        have h1 := h _ _ (dGet_mem hd)
        have h2 := hf f List.mem_cons_self
        unfold Fa.holds at h2
        omega
      · exact h _ _ ht
    · exact h
theorem oMin_ok {r : Option Int} {y c : Int} (h : oMin r y = some c) : (c = y ∨ r = some c) := by
 cases r with
 | none => cases h; exact .inl rfl
 | some x =>
  simp only [oMin] at h
  cases hi : ile x y with
  | true => rw [hi] at h; exact .inr h
  | false => rw [hi] at h; cases h; exact .inl rfl
theorem toZ_ok {τ : List L} {a : Nat} {D : List (Nat × Int)} (hD : dOk τ a D) : ∀ {fs : List Fa} {r : Option Int},(∀ f ∈ fs,f.holds τ) → (∀ c,r = some c → tmV τ a ≤ c) → ∀ c,toZ fs D r = some c → tmV τ a ≤ c
 | [],_,_,hr,c,h => hr c h
 | f :: fs,r,hf,hr,c,h => by
  simp only [toZ] at h
  refine toZ_ok hD (fun g hg => hf g (List.mem_cons_of_mem _ hg)) ?_ c h
  intro e he
  cases hb : Nat.beq f.b 0 with
  | true =>
   rw [hb] at he
   simp only [cond_true] at he
   have hb := nbeq hb
   split at he
   · rename_i d hd
     rcases oMin_ok he with rfl | h2
     · have h1 := hD _ _ (dGet_mem hd)
       have h2 := hf f List.mem_cons_self
       unfold Fa.holds at h2
       rw [hb,tmV_zero] at h2
       omega
     · exact hr _ h2
   · exact hr _ he
  | false => rw [hb] at he; exact hr _ he
theorem ofZ_ok {τ : List L} {b : Nat} {D : List (Nat × Int)} (hD : bOk τ b D) : ∀ {fs : List Fa} {r : Option Int},(∀ f ∈ fs,f.holds τ) → (∀ c,r = some c → -tmV τ b ≤ c) → ∀ c,ofZ fs D r = some c → -tmV τ b ≤ c
 | [],_,_,hr,c,h => hr c h
 | f :: fs,r,hf,hr,c,h => by
  simp only [ofZ] at h
  refine ofZ_ok hD (fun g hg => hf g (List.mem_cons_of_mem _ hg)) ?_ c h
  intro e he
  cases hb : Nat.beq f.a 0 with
  | true =>
   rw [hb] at he
   simp only [cond_true] at he
   have hb := nbeq hb
   split at he
   · rename_i d hd
     rcases oMin_ok he with rfl | h2
     · have h1 := hD _ _ (dGet_mem hd)
       have h2 := hf f List.mem_cons_self
       unfold Fa.holds at h2
       rw [hb,tmV_zero] at h2
       omega
     · exact hr _ h2
   · exact hr _ he
  | false => rw [hb] at he; exact hr _ he
theorem bnd_ok {τ : List L} {fs : List Fa} (hf : ∀ f ∈ fs,f.holds τ) {a b : Nat} {c : Int} (h : bnd fs a b = some c) : tmV τ a - tmV τ b ≤ c := by
 have hD : dOk τ a (relF fs (relF fs [(a,0)])) := relF_ok hf (relF_ok hf fun t d ht => by
  rcases List.mem_singleton.1 ht with ht
  cases ht; omega)
 have hB : bOk τ b (relB fs (relB fs [(b,0)])) := relB_ok hf (relB_ok hf fun t d ht => by
  rcases List.mem_singleton.1 ht with ht
  cases ht; omega)
 have hz := toZ_ok hD hf (r := none) (fun _ h => by cases h)
 have ho := ofZ_ok hB hf (r := none) (fun _ h => by cases h)
 unfold bnd at h
 cases hk : Nat.beq a b with
 | true =>
  rw [hk] at h
  have := nbeq hk; subst this
  cases h; omega
 | false =>
  rw [hk] at h
  simp only [cond_false] at h
  cases hk : Nat.beq a 0 with
  | true =>
   rw [hk] at h
   have := nbeq hk; subst this
   have := ho _ h
   rw [tmV_zero]; omega
  | false =>
   rw [hk] at h
   simp only [cond_false] at h
   cases hk : Nat.beq b 0 with
   | true =>
    rw [hk] at h
    have := nbeq hk; subst this
    have := hz _ h
    rw [tmV_zero]; omega
   | false =>
    rw [hk] at h
    simp only [cond_false] at h
    split at h
    · rename_i x y hx hy
      have h1 := hz _ hx
      have h2 := ho _ hy
      split at h
      · rename_i d hd
        have h3 := hD _ _ (dGet_mem hd)
        rcases oMin_ok h with rfl | h4
        · omega
        · cases h4; exact h3
      · cases h; omega
    · exact hD _ _ (dGet_mem h)
abbrev Li := Nat × Int
def liV (τ : List L) (x : Li) : Int := tmV τ x.1 + x.2
def bndL (fs : List Fa) (x y : Li) : Option Int := (bnd fs x.1 y.1).map (· + (x.2 - y.2))
theorem bndL_ok {τ : List L} {fs : List Fa} (hf : ∀ f ∈ fs,f.holds τ) {x y : Li} {c : Int} (h : bndL fs x y = some c) : liV τ x - liV τ y ≤ c := by
 simp only [bndL,Option.map_eq_some_iff] at h
 obtain ⟨d,h1,rfl⟩ := h
 have := bnd_ok hf h1
 unfold liV; omega
def leL (fs : List Fa) (x y : Li) (c : Int) : Bool := match bndL fs x y with
 | some d => ile d c
 | none => false
theorem leL_ok {τ : List L} {fs : List Fa} (hf : ∀ f ∈ fs,f.holds τ) {x y : Li} {c : Int} (h : leL fs x y c = true) : liV τ x - liV τ y ≤ c := by
 unfold leL at h
 split at h
 · rename_i d hd
   have := bndL_ok hf hd
   have := ile_ok h; omega
 · cases h
def hiL (fs : List Fa) (x : Li) : Option Int := bndL fs x (0,0)
def loL (fs : List Fa) (x : Li) : Option Int := (bndL fs (0,0) x).map (- ·)
theorem hiL_ok {τ : List L} {fs : List Fa} (hf : ∀ f ∈ fs,f.holds τ) {x : Li} {c : Int} (h : hiL fs x = some c) : liV τ x ≤ c := by
 have := bndL_ok hf h
 unfold liV at this ⊢; simp only [tmV_zero] at this; omega
theorem loL_ok {τ : List L} {fs : List Fa} (hf : ∀ f ∈ fs,f.holds τ) {x : Li} {c : Int} (h : loL fs x = some c) : c ≤ liV τ x := by
 simp only [loL,Option.map_eq_some_iff] at h
 obtain ⟨d,h1,rfl⟩ := h
 have := bndL_ok hf h1
 unfold liV at this ⊢; simp only [tmV_zero] at this; omega
inductive AC where
 | int (k : IntKind) (lo hi : Int)
 | bool
 | str (hi : Int)
 | sl (hi : Int) (cs : List AC)
 | any
deriving Inhabited,Repr
mutual
def AC.ok : AC → PV → Prop
 | .int k lo hi,q => ∃ n,q = .sc (.int k n) ∧ lo ≤ n ∧ n ≤ hi
 | .bool,q => ∃ b,q = .sc (.bool b)
 | .str hi,q => ∃ s : ByteArray,q = .sc (.string s) ∧ (s.size : Int) ≤ hi
 | .sl hi cs,q => ∃ rows,q = .sl rows ∧ (rows.length : Int) ≤ hi ∧ ∀ r ∈ rows,AC.oks cs r
 | .any,_ => True
def AC.oks : List AC → List PV → Prop
 | [],[] => True
 | c :: cs,q :: qs => AC.ok c q ∧ AC.oks cs qs
 | _,_ => False
end
def AC.rows (cs : List AC) (rows : List (List PV)) : Prop := ∀ r ∈ rows,AC.oks cs r
mutual
def AC.le : AC → AC → Bool
 | .int k lo hi,.int k' lo' hi' => kEq k k' && ile lo' lo && ile hi hi'
 | .bool,.bool => true
 | .str hi,.str hi' => ile hi hi'
 | .sl hi cs,.sl hi' cs' => ile hi hi' && (AC.les cs cs' || ile hi 0)
 | _,.any => true
 | _,_ => false
def AC.les : List AC → List AC → Bool
 | [],[] => true
 | c :: cs,d :: ds => AC.le c d && AC.les cs ds
 | _,_ => false
end
mutual
theorem AC.le_ok : ∀ {x y : AC} {q : PV},AC.le x y = true → AC.ok x q → AC.ok y q
 | .int k lo hi,.int k' lo' hi',q,h,⟨n,h1,h2,h3⟩ => by
  simp only [AC.le,Bool.and_eq_true] at h
  obtain ⟨⟨h4,h5⟩,h6⟩ := h
  have h4 := kEq_ok h4; subst h4
  have h5 := ile_ok h5
  have h6 := ile_ok h6
  exact ⟨n,h1,by omega,by omega⟩
 | .bool,.bool,_,_,h => h
 | .str hi,.str hi',q,h,⟨s,h1,h2⟩ => by
  have h := ile_ok (show ile hi hi' = true from h)
  exact ⟨s,h1,by omega⟩
 | .sl hi cs,.sl hi' cs',q,h,⟨rows,h1,h2,h3⟩ => by
  simp only [AC.le,Bool.and_eq_true,Bool.or_eq_true] at h
  have h5 := ile_ok h.1
  refine ⟨rows,h1,by omega,fun r hr => ?_⟩
  rcases h.2 with h4 | h4
  · exact AC.les_ok h4 (h3 r hr)
  · have h4 := ile_ok h4
    have : rows.length = 0 := by omega
    rw [List.eq_nil_of_length_eq_zero this] at hr; cases hr
 | .any,.any,_,_,_ => trivial
 | .int ..,.any,_,_,_ => trivial
 | .bool,.any,_,_,_ => trivial
 | .str _,.any,_,_,_ => trivial
 | .sl ..,.any,_,_,_ => trivial
 | .int ..,.bool,_,h,_ => by cases h
 | .int ..,.str _,_,h,_ => by cases h
 | .int ..,.sl ..,_,h,_ => by cases h
 | .bool,.int ..,_,h,_ => by cases h
 | .bool,.str _,_,h,_ => by cases h
 | .bool,.sl ..,_,h,_ => by cases h
 | .str _,.int ..,_,h,_ => by cases h
 | .str _,.bool,_,h,_ => by cases h
 | .str _,.sl ..,_,h,_ => by cases h
 | .sl ..,.int ..,_,h,_ => by cases h
 | .sl ..,.bool,_,h,_ => by cases h
 | .sl ..,.str _,_,h,_ => by cases h
 | .any,.int ..,_,h,_ => by cases h
 | .any,.bool,_,h,_ => by cases h
 | .any,.str _,_,h,_ => by cases h
 | .any,.sl ..,_,h,_ => by cases h
theorem AC.les_ok : ∀ {xs ys : List AC} {qs : List PV},AC.les xs ys = true → AC.oks xs qs → AC.oks ys qs
 | [],[],_,_,h => h
 | c :: cs,d :: ds,[],_,h => by cases h
 | c :: cs,d :: ds,q :: qs,h,h1 => by
  simp only [AC.les,Bool.and_eq_true] at h
  exact ⟨AC.le_ok h.1 h1.1,AC.les_ok h.2 h1.2⟩
 | [],_ :: _,_,h,_ => by cases h
 | _ :: _,[],_,h,_ => by cases h
end
theorem AC.oks_length : ∀ {cs : List AC} {r : List PV},AC.oks cs r → r.length = cs.length
 | [],[],_ => rfl
 | _ :: _,_ :: _,h => by simp [AC.oks_length h.2]
 | [],_ :: _,h => by cases h
 | _ :: _,[],h => by cases h
theorem AC.oks_get : ∀ {cs : List AC} {r : List PV} {j : Nat} {c : AC},AC.oks cs r → cs[j]? = some c → ∃ q,r[j]? = some q ∧ AC.ok c q
 | c :: cs,q :: r,0,d,h,hj => by cases hj; exact ⟨q,rfl,h.1⟩
 | c :: cs,q :: r,j + 1,d,h,hj => AC.oks_get (cs := cs) (r := r) (j := j) h.2 hj
 | _ :: _,[],_,_,h,_ => by cases h
 | [],_,_,_,_,hj => by simp at hj
theorem AC.rows_rectB {cs : List AC} {rows : List (List PV)} (h : AC.rows cs rows) : rectB cs.length rows = true := by
 rw [rectB_iff]
 exact fun r hr => AC.oks_length (h r hr)
mutual
def AC.join : AC → AC → AC
 | .int k lo hi,.int k' lo' hi' => if k == k' then .int k (if lo ≤ lo' then lo else lo') (if hi ≤ hi' then hi' else hi) else .any
 | .bool,.bool => .bool
 | .str hi,.str hi' => .str (if hi ≤ hi' then hi' else hi)
 | .sl hi cs,.sl hi' cs' => if hi ≤ 0 then .sl (if hi ≤ hi' then hi' else hi) cs' else if hi' ≤ 0 then .sl (if hi ≤ hi' then hi' else hi) cs else .sl (if hi ≤ hi' then hi' else hi) (AC.joins cs cs')
 | _,_ => .any
def AC.joins : List AC → List AC → List AC
 | c :: cs,d :: ds => AC.join c d :: AC.joins cs ds
 | _,_ => []
end
end AI
end
section
open Go.RowKit Go.Deep AI
section
variable {H : Type} {enc : TypeId × Value → H} {P : Program} {w : World} {base : Nat} {spare : Nat → Bool} {held : Bool} {M : Bad}
def El (enc : TypeId × Value → H) (P : Program) (w : World) (base : Nat) (spare : Nat → Bool) (held : Bool) (M : Bad) (e : TypeId) (c : Nat) (cs : List AC) : Prop :=
 ∀ fuel cells x,DataW.trod enc P w base spare held fuel e cells = some x → cells.length = c ∧ ∃ r : List PV,r.length = c ∧ AC.oks cs r ∧ ∀ (j : Nat) (p : PV) (u : Value),r[j]? = some p → cells[j]? = some u → RP M w p u
def Fl (enc : TypeId × Value → H) (P : Program) (w : World) (base : Nat) (spare : Nat → Bool) (held : Bool) (M : Bad) (t : TypeId) (q : AC) : Prop :=
 ∀ fuel cells x,DataW.trod enc P w base spare held fuel t cells = some x → ∃ v p,cells = [v] ∧ AC.ok q p ∧ RP M w p v
theorem fl_int {t : TypeId} {k : IntKind} {lo hi : Int} (ht : P.underlying t = some (.int k)) (hb : ∀ n,(Lit.int k n).wf = true → lo ≤ n ∧ n ≤ hi) : Fl enc P w base spare held M t (.int k lo hi) := fun fuel cells x h => by
 obtain ⟨n,rfl,_,hn⟩ := DataW.trod_int ht h
 obtain ⟨h1,h2⟩ := hb n hn
 exact ⟨_,.sc (.int k n),rfl,⟨n,rfl,h1,h2⟩,.sc rfl⟩
theorem fl_bool {t : TypeId} (ht : P.underlying t = some .bool) : Fl enc P w base spare held M t .bool := fun fuel cells x h => by
 obtain ⟨b,rfl,_⟩ := DataW.trod_bool ht h
 exact ⟨_,.sc (.bool b),rfl,⟨b,rfl⟩,.sc rfl⟩
theorem el_one {t : TypeId} {q : AC} (h : Fl enc P w base spare held M t q) : El enc P w base spare held M t 1 [q] := fun fuel cells x hx => by
 obtain ⟨v,p,rfl,h1,h2⟩ := h fuel cells x hx
 refine ⟨rfl,[p],rfl,⟨h1,trivial⟩,fun j p' u hp hu => ?_⟩
 match j with
 | 0 => cases hp; cases hu; exact h2
 | j + 1 => simp at hp
theorem el_four {e : TypeId} {f0 f1 f2 f3 : Field} {q0 q1 q2 q3 : AC} (he : P.underlying e = some (.struct #[f0,f1,f2,f3])) (hc : P.cellsOf e = 4)
  (o0 : f0.offset = 0) (o1 : f1.offset = 1) (o2 : f2.offset = 2) (o3 : f3.offset = 3) (c0 : P.cellsOf f0.type = 1) (c1 : P.cellsOf f1.type = 1) (c2 : P.cellsOf f2.type = 1) (c3 : P.cellsOf f3.type = 1)
  (h0 : Fl enc P w base spare held M f0.type q0) (h1 : Fl enc P w base spare held M f1.type q1) (h2 : Fl enc P w base spare held M f2.type q2) (h3 : Fl enc P w base spare held M f3.type q3) :
  El enc P w base spare held M e 4 [q0,q1,q2,q3] := fun fuel cells x hx => by
 obtain ⟨xs,n,_,_,hl,hxl,hf⟩ := DataW.trod_struct he hx
 rw [hc] at hl
 match cells,hl,xs,hxl with
 | [v0,v1,v2,v3],_,[y0,y1,y2,y3],_ =>
  have g0 := hf 0 f0 rfl
  have g1 := hf 1 f1 rfl
  have g2 := hf 2 f2 rfl
  have g3 := hf 3 f3 rfl
  rw [o0,c0] at g0
  rw [o1,c1] at g1
  rw [o2,c2] at g2
  rw [o3,c3] at g3
  obtain ⟨u0,p0,e0,a0,r0⟩ := h0 _ _ _ g0
  obtain ⟨u1,p1,e1,a1,r1⟩ := h1 _ _ _ g1
  obtain ⟨u2,p2,e2,a2,r2⟩ := h2 _ _ _ g2
  obtain ⟨u3,p3,e3,a3,r3⟩ := h3 _ _ _ g3
  cases e0; cases e1; cases e2; cases e3
  refine ⟨rfl,[p0,p1,p2,p3],rfl,⟨a0,a1,a2,a3,trivial⟩,fun j p' u hp hu => ?_⟩
  match j with
  | 0 => cases hp; cases hu; exact r0
  | 1 => cases hp; cases hu; exact r1
  | 2 => cases hp; cases hu; exact r2
  | 3 => cases hp; cases hu; exact r3
  | j + 4 => simp at hp
theorem fl_slice {t e : TypeId} {c : Nat} {cs : List AC} (ht : P.underlying t = some (.slice e)) (hc : P.cellsOf e = c) (h0 : 0 < c) (hM : ∀ g,¬ M g) (hel : El enc P w base spare held M e c cs) :
   Fl enc P w base spare held M t (.sl 9223372036854775807 cs) := fun fuel cells x h => by
 have nilok : AC.ok (.sl 9223372036854775807 cs) (.sl []) := ⟨[],rfl,by simp,fun r hr => by cases hr⟩
 rcases open_slice ht h with ⟨rfl,_⟩ | ⟨a,len,cap,m,n,D,Pl,rfl,hb,hl,hm,hmm,rfl,hx⟩
 · exact ⟨_,_,rfl,nilok,.nil⟩
 by_cases hz : len = 0
 · subst hz; exact ⟨_,_,rfl,nilok,.nil⟩
 have hml : len ≤ m := by rw [hmm]; split <;> omega
 rw [hc] at hx
 obtain ⟨Q,hQ⟩ := choose_lt (α := List PV × List Value) (n := len) (p := fun i q => q.1.length = c ∧ AC.oks cs q.1 ∧ (∀ j,j < c → w.cell? ((a.add (i * c)).add j) = q.2[j]?) ∧ q.2.length = c ∧ ∀ (j : Nat) (p : PV) (u : Value),q.1[j]? = some p → q.2[j]? = some u → RP M w p u) (fun i hi => by
   obtain ⟨cs',k1,k2⟩ := hx i (by omega)
   obtain ⟨_,k3,k4⟩ := World.cells?_some k1
   obtain ⟨_,r,k5,k6,k7⟩ := hel _ _ _ k2
   exact ⟨(r,cs'),k5,k6,k4,k3,k7⟩)
 obtain ⟨g,o,spot⟩ := a
 have hspot : spot = none := by
   obtain ⟨_,_,k4,k3,_⟩ := hQ 0 (by omega)
   have := k4 0 h0
   rw [List.getElem?_eq_getElem (by omega)] at this
   simpa [Addr.add] using World.cell?_spot this
 subst hspot
 have hlen : ((List.range len).map fun i => (Q i).1).length = len := by simp
 refine ⟨_,.sl ((List.range len).map fun i => (Q i).1),rfl,⟨_,rfl,?_,fun r hr => ?_⟩,?_⟩
 · rw [hlen]
   have : maxLen = 9223372036854775807 := rfl
   omega
 · obtain ⟨i,hi,rfl⟩ := List.mem_map.1 hr
   exact (hQ i (List.mem_range.1 hi)).2.1
 have key : ∀ (i : Nat) (r : List PV) (j : Nat) (p : PV),((List.range len).map fun i => (Q i).1)[i]? = some r → r[j]? = some p → i < len ∧ j < c ∧ r = (Q i).1 := by
   intro i r j p hi hj
   have hil : i < len := by
    have := (List.getElem?_eq_some_iff.1 hi).1
    rwa [hlen] at this
   rw [List.getElem?_map,List.getElem?_range hil] at hi
   cases hi
   have := (List.getElem?_eq_some_iff.1 hj).1
   rw [(hQ i hil).1] at this
   exact ⟨hil,this,rfl⟩
 have hr := RP.row (M := M) (w := w) (rows := (List.range len).map fun i => (Q i).1) (g := g) (o := o) (cap := cap) (sz := c) (f := fun i j => ((Q i).2[j]?).getD .nilFunc) (by
    intro e
    rw [e] at hlen
    simp at hlen
    omega) (by rw [hlen]; exact hl) hm (fun r hr => by
    obtain ⟨i,hi,rfl⟩ := List.mem_map.1 hr
    exact (hQ i (List.mem_range.1 hi)).1) (fun i r j p hi hj => by
    obtain ⟨k1,k2,rfl⟩ := key i r j p hi hj
    have k3 := (hQ i k1).2.2.1 j k2
    have k4 : j < (Q i).2.length := by rw [(hQ i k1).2.2.2.1]; exact k2
    refine ⟨?_,hM g⟩
    show _ = some (((Q i).2[j]?).getD .nilFunc)
    rw [List.getElem?_eq_getElem k4] at k3 ⊢
    rw [Go.WideShapes.add_plain,Go.WideShapes.add_plain] at k3
    exact k3) (fun i r j p hi hj => by
    obtain ⟨k1,k2,rfl⟩ := key i r j p hi hj
    have k4 : j < (Q i).2.length := by rw [(hQ i k1).2.2.2.1]; exact k2
    show RP M w p (((Q i).2[j]?).getD .nilFunc)
    rw [List.getElem?_eq_getElem k4]
    exact (hQ i k1).2.2.2.2 j p _ hj (List.getElem?_eq_getElem k4))
 rw [hlen] at hr
 exact hr
end
end
end Go.Proofs.YtndegphojkiblaaGreatDoor
