/- Towards the last file's theorem: part 28. -/
import Derived.Test.YtndegphojkiblaaGreatDoorG27
set_option linter.unusedSimpArgs false
set_option linter.unusedVariables false
namespace Go.Proofs.YtndegphojkiblaaGreatDoor
section
open Go.RowKit
abbrev GT := Nat → Option (List L → Option (List L))
def Nd.run (tb : GT) (ρ : List L) (nd : Nd) : Option (List L) := match nd with
 | .call t _ args n us => match tb t with
  | some g => match g (args.map (At.ev ρ)) with
   | some l => if l.length = n ∧ (us.all fun i => ((l[i]?).getD (.b false)).asR.all (·.all PV.bare)) = true then some l else none
   | none => none
  | none => none
 | nd => nd.ev ρ
def Fir.run (tb : GT) (fuel : Nat) : Fir → List L → Out
 | .leaf x,ρ => some (x,ρ)
 | .op nd k,ρ => match nd.run tb ρ with
  | some ls => k.run tb fuel (ρ ++ ls)
  | none => none
 | .ite c a b,ρ => match (c.ev ρ).asB with
  | true => a.run tb fuel ρ
  | false => b.run tb fuel ρ
 | .join body rest,ρ => match body.run tb fuel ρ with
  | some (.jump 0 args,ρ') => rest.run tb fuel (ρ ++ args.map (At.ev ρ'))
  | some (.jump (k + 1) args,ρ') => some (.jump k args,ρ')
  | r => r
 | .loop init body,ρ => iterN (fun a => loopStep (body.run tb fuel (ρ ++ a))) fuel (init.map (At.ev ρ))
def CallsG (tb : GT) : Fir → Prop
 | .leaf _ => True
 | .op nd k => (match nd with | .call t F _ _ _ => ∀ g,tb t = some g → ∀ ls o,g ls = some o → F ls = some o | _ => True) ∧ CallsG tb k
 | .ite _ x y => CallsG tb x ∧ CallsG tb y
 | .join x y => CallsG tb x ∧ CallsG tb y
 | .loop _ y => CallsG tb y
theorem Nd.run_ok {tb : GT} {ρ : List L} {nd : Nd} {ls : List L} (hc : match nd with | .call t F _ _ _ => ∀ g,tb t = some g → ∀ ls o,g ls = some o → F ls = some o | _ => True) (h : nd.run tb ρ = some ls) : nd.ev ρ = some ls := by
 cases nd with
 | call t F args n us =>
  simp only [Nd.run] at h
  split at h
  · rename_i g hg
    split at h
    · rename_i l hl
      simp only [Nd.ev,hc g hg _ _ hl]
      exact h
    · cases h
  · cases h
 | _ => exact h
theorem iterN_le {A R : Type} {f g : A → Option (A ⊕ R)} (h : ∀ a x,f a = some x → g a = some x) : ∀ {n : Nat} {a : A} {r : R},iterN f n a = some r → iterN g n a = some r
 | 0,_,_,hh => by cases hh
 | n + 1,a,r,hh => by
  simp only [iterN] at hh ⊢
  split at hh
  · rename_i a' ha
    rw [h _ _ ha]; exact iterN_le h hh
  · rename_i r' ha
    rw [h _ _ ha]; exact hh
  · cases hh
theorem Fir.run_ok {tb : GT} {fuel : Nat} : ∀ {f : Fir} {ρ : List L} {r : Lf × List L},CallsG tb f → f.run tb fuel ρ = some r → f.den ρ = some r
 | .leaf x,ρ,r,_,h => h
 | .op nd k,ρ,r,hc,h => by
  simp only [Fir.run] at h
  split at h
  · rename_i ls hls
    rw [Fir.den,Nd.run_ok hc.1 hls]
    exact Fir.run_ok hc.2 h
  · cases h
 | .ite c a b,ρ,r,hc,h => by
  simp only [Fir.run] at h
  split at h
  · rename_i ht
    rw [Fir.den,ht]; exact Fir.run_ok hc.1 h
  · rename_i ht
    rw [Fir.den,ht]; exact Fir.run_ok hc.2 h
 | .join a b,ρ,r,hc,h => by
  simp only [Fir.run] at h
  split at h
  · rename_i args ρ' hb
    rw [Fir.den,Fir.run_ok hc.1 hb]
    exact Fir.run_ok hc.2 h
  · rename_i k args ρ' hb
    rw [Fir.den,Fir.run_ok hc.1 hb]
    exact h
  · rename_i h1 h2
    have := Fir.run_ok hc.1 h
    obtain ⟨lf,ρ'⟩ := r
    rw [Fir.den,this]
    cases lf with
    | st => rfl
    | jump k args => cases k with
     | zero => exact absurd h (h1 _ _)
     | succ k => exact absurd h (h2 _ _ _)
 | .loop init body,ρ,r,hc,h => by
  simp only [Fir.run] at h
  rw [Fir.den]
  refine iterO_of (n := fuel) (iterN_le (fun a x hx => ?_) h)
  cases hb : body.run tb fuel (ρ ++ a) with
  | none => rw [hb] at hx; cases hx
  | some y => rw [hb] at hx; rw [show body.den (ρ ++ a) = some y from Fir.run_ok (f := body) (fuel := fuel) hc hb]; exact hx
def ListG (tb : GT) : List (Nat × (List L → Option (List L))) → Prop
 | [] => True
 | (t,F) :: r => (∀ g,tb t = some g → ∀ ls o,g ls = some o → F ls = some o) ∧ ListG tb r
theorem ListG.left {tb : GT} : ∀ {a b : List (Nat × (List L → Option (List L)))},ListG tb (a ++ b) → ListG tb a
 | [],_,_ => trivial
 | (_,_) :: _,_,h => ⟨h.1,h.2.left⟩
theorem ListG.right {tb : GT} : ∀ {a b : List (Nat × (List L → Option (List L)))},ListG tb (a ++ b) → ListG tb b
 | [],_,h => h
 | (_,_) :: a,_,h => ListG.right (a := a) h.2
theorem callsG' {tb : GT} : ∀ {f : Fir},ListG tb (AI.Fir.calls f) → CallsG tb f
 | .leaf _,_ => trivial
 | .op nd k,h => by
  refine ⟨?_,callsG' h.right⟩
  cases nd with
  | call t F a n u => exact h.left.1
  | _ => trivial
 | .ite _ _ _,h => ⟨callsG' h.left,callsG' h.right⟩
 | .join _ _,h => ⟨callsG' h.left,callsG' h.right⟩
 | .loop _ y,h => callsG' (f := y) h
theorem callsG {tb : GT} {f : Fir} {cs : List (Nat × (List L → Option (List L)))} (e : AI.Fir.calls f = cs) (h : ListG tb cs) : CallsG tb f := callsG' (by rw [e]; exact h)
theorem tbg {tb : GT} {t : Nat} {g F : List L → Option (List L)} (e : tb t = some g) (h : ∀ ls o,g ls = some o → F ls = some o) : ∀ g,tb t = some g → ∀ ls o,g ls = some o → F ls = some o := fun g' hg => by
 rw [e] at hg; cases hg; exact h
theorem run_fn {tb : GT} {fuel : Nat} {f : Fir} (hc : CallsG tb f) : ∀ ls o,outO (f.run tb fuel ls) = some o → outO (f.den ls) = some o := fun ls o h => by
 cases hr : f.run tb fuel ls with
 | none => rw [hr] at h; cases h
 | some r => rw [hr] at h; rw [Fir.run_ok hc hr]; exact h
def tblG (l : List (Nat × (List L → Option (List L)))) : GT := fun t => AI.lk l t
noncomputable section
def g19 : List L → Option (List L) := fun ls => outO (fir19.run (tblG []) 20 ls)
theorem gk19 : ∀ ls o,g19 ls = some o → F19 ls = some o := run_fn (callsG (cs := []) (by kernel_rfl) trivial)
def g20 : List L → Option (List L) := fun ls => outO (fir20.run (tblG [(19,g19)]) 300 ls)
theorem gk20 : ∀ ls o,g20 ls = some o → F20 ls = some o := run_fn (callsG (cs := [(19,F19)]) (by kernel_rfl) ⟨tbg rfl gk19,trivial⟩)
def g22 : List L → Option (List L) := fun ls => outO (fir22.run (tblG []) 20 ls)
theorem gk22 : ∀ ls o,g22 ls = some o → F22 ls = some o := run_fn (callsG (cs := []) (by kernel_rfl) trivial)
def g24 : List L → Option (List L) := fun ls => outO (fir24.run (tblG [(22,g22)]) 20 ls)
theorem gk24 : ∀ ls o,g24 ls = some o → F24 ls = some o := run_fn (callsG (cs := [(22,F22)]) (by kernel_rfl) ⟨tbg rfl gk22,trivial⟩)
theorem inv1 : F20 [.i 1] = some [.i 1,.i 0] := gk20 _ _ (by kernel_rfl)
theorem inv6 : F20 [.i 6] = some [.i 122,.i 0] := gk20 _ _ (by kernel_rfl)
def h20 : List L → Option (List L) := fun ls => match ls with
 | [.i 1] => some [.i 1,.i 0]
 | [.i 6] => some [.i 122,.i 0]
 | _ => none
theorem hk20 : ∀ ls o,h20 ls = some o → F20 ls = some o := fun ls o h => by
 unfold h20 at h
 split at h
 · cases h; exact inv1
 · cases h; exact inv6
 · cases h
def g23 : List L → Option (List L) := fun ls => outO (fir23.run (tblG [(22,g22),(19,g19)]) 20 ls)
theorem gk23 : ∀ ls o,g23 ls = some o → F23 ls = some o := run_fn (callsG (cs := [(22,F22),(19,F19)]) (by kernel_rfl) ⟨tbg rfl gk22,tbg rfl gk19,trivial⟩)
def g25 : List L → Option (List L) := fun ls => outO (fir25.run (tblG [(24,g24),(22,g22)]) 20 ls)
theorem gk25 : ∀ ls o,g25 ls = some o → F25 ls = some o := run_fn (callsG (cs := [(24,F24),(22,F22)]) (by kernel_rfl) ⟨tbg rfl gk24,tbg rfl gk22,trivial⟩)
def g65 : List L → Option (List L) := fun ls => outO (fir65.run (tblG [(22,g22)]) 20 ls)
theorem gk65 : ∀ ls o,g65 ls = some o → F65 ls = some o := run_fn (callsG (cs := [(22,F22)]) (by kernel_rfl) ⟨tbg rfl gk22,trivial⟩)
def g66 : List L → Option (List L) := fun ls => outO (fir66.run (tblG [(24,g24),(19,g19)]) 20 ls)
theorem gk66 : ∀ ls o,g66 ls = some o → F66 ls = some o := run_fn (callsG (cs := [(24,F24),(24,F24),(19,F19)]) (by kernel_rfl) ⟨tbg rfl gk24,tbg rfl gk24,tbg rfl gk19,trivial⟩)
def g81 : List L → Option (List L) := fun ls => outO (fir81.run (tblG [(19,g19)]) 20 ls)
theorem gk81 : ∀ ls o,g81 ls = some o → F81 ls = some o := run_fn (callsG (cs := [(19,F19)]) (by kernel_rfl) ⟨tbg rfl gk19,trivial⟩)
def g93 : List L → Option (List L) := fun ls => outO (fir93.run (tblG [(24,g24),(65,g65),(81,g81),(20,h20)]) 20 ls)
theorem gk93 : ∀ ls o,g93 ls = some o → F93 ls = some o := run_fn (callsG (cs := [(24,F24),(65,F65),(81,F81),(81,F81),(20,F20),(81,F81),(81,F81),(81,F81),(81,F81)]) (by kernel_rfl) ⟨tbg rfl gk24,tbg rfl gk65,tbg rfl gk81,tbg rfl gk81,tbg rfl hk20,tbg rfl gk81,tbg rfl gk81,tbg rfl gk81,tbg rfl gk81,trivial⟩)
def b8 (n : Int) : List PV := [.sc (.int .u8 n)]
theorem vm_law : F23 [.i 6,.i 4] = some [.i 0,.i 6,.i 4,.r ([1,0,0,0,1,1,1,1,1,2,4,8,1,3,5,15,1,4,16,64,1,5,17,85].map b8)] := gk23 _ _ (by kernel_rfl)
theorem pick_law : F25 [.i 6,.i 4,.r ([1,0,0,0,1,1,1,1,1,2,4,8,1,3,5,15,1,4,16,64,1,5,17,85].map b8),.r [[.sc (.int .i64 0)],[.sc (.int .i64 1)],[.sc (.int .i64 2)],[.sc (.int .i64 3)]]] = some [.i 0,.i 4,.i 4,.r ([1,0,0,0,1,1,1,1,1,2,4,8,1,3,5,15].map b8)] := gk25 _ _ (by kernel_rfl)
theorem invert_law : F93 [.i 4,.i 4,.r ([1,0,0,0,1,1,1,1,1,2,4,8,1,3,5,15].map b8)] = some [.i 0,.i 4,.r ([1,0,0,0,123,1,142,244,0,122,244,142,122,122,122,122].map b8)] := gk93 _ _ (by kernel_rfl)
theorem mul_law : F66 [.i 6,.i 4,.r ([1,0,0,0,1,1,1,1,1,2,4,8,1,3,5,15,1,4,16,64,1,5,17,85].map b8),.i 4,.i 4,.r ([1,0,0,0,123,1,142,244,0,122,244,142,122,122,122,122].map b8)] = some [.i 0,.i 6,.i 4,.r ([1,0,0,0,0,1,0,0,0,0,1,0,0,0,0,1,27,28,18,20,28,27,20,18].map b8)] := gk66 _ _ (by kernel_rfl)
theorem code_law : F94 [] = some [.i 6,.i 4,.r ([1,0,0,0,0,1,0,0,0,0,1,0,0,0,0,1,27,28,18,20,28,27,20,18].map b8)] := by
 have h1 := vm_law
 have h2 := pick_law
 have h3 := invert_law
 have h4 := mul_law
 have hb : ∀ l : List Int,(l.map b8).all (·.all PV.bare) = true := fun l => by
  induction l with
  | nil => rfl
  | cons a l ih => simp only [List.map_cons,List.all_cons,ih]; rfl
 show outO (fir94.den []) = _
 unfold fir94
 rw [Fir.den,show Nd.ev [] (.call 23 F23 [(.i 6),(.i 4)] 4 []) = some [.i 0,.i 6,.i 4,.r ([1,0,0,0,1,1,1,1,1,2,4,8,1,3,5,15,1,4,16,64,1,5,17,85].map b8)] by simp only [Nd.ev,List.map_cons,List.map_nil,At.ev,h1]; rfl]
 simp only
 rw [Fir.den,show ∀ ρ,Nd.ev ρ (.lit [[((.int .i64),(.i 0))],[((.int .i64),(.i 1))],[((.int .i64),(.i 2))],[((.int .i64),(.i 3))]]) = some [.r [[.sc (.int .i64 0)],[.sc (.int .i64 1)],[.sc (.int .i64 2)],[.sc (.int .i64 3)]]] from fun ρ => rfl]
 simp only
 generalize ([1,0,0,0,1,1,1,1,1,2,4,8,1,3,5,15,1,4,16,64,1,5,17,85].map b8) = V at h1 h2 h4 ⊢
 have hb3 := hb [1,0,0,0,1,1,1,1,1,2,4,8,1,3,5,15]
 generalize ([1,0,0,0,1,1,1,1,1,2,4,8,1,3,5,15].map b8) = W at h2 h3 hb3 ⊢
 have hb4 := hb [1,0,0,0,123,1,142,244,0,122,244,142,122,122,122,122]
 generalize ([1,0,0,0,123,1,142,244,0,122,244,142,122,122,122,122].map b8) = R at h3 h4 hb4 ⊢
 have hb5 := hb [1,0,0,0,0,1,0,0,0,0,1,0,0,0,0,1,27,28,18,20,28,27,20,18]
 generalize ([1,0,0,0,0,1,0,0,0,0,1,0,0,0,0,1,27,28,18,20,28,27,20,18].map b8) = M at h4 hb5 ⊢
 simp [Fir.den,Nd.ev,At.ev,h2,h3,h4,hb3,hb4,hb5,asR_r,outO]
def isU8 (r : List PV) : Bool := match r with
 | [.sc (.int .u8 n)] => decide (0 ≤ n) && decide (n ≤ 255)
 | _ => false
theorem isU8_ok {rows : List (List PV)} (h : rows.all isU8 = true) : AI.AC.rows AI.bU8 rows := fun r hr => by
 have := List.all_eq_true.1 h r hr
 unfold isU8 at this
 split at this
 · rename_i n
   simp only [Bool.and_eq_true,decide_eq_true_eq] at this
   exact ⟨⟨n,rfl,this.1,this.2⟩,trivial⟩
 · cases this
end
namespace AI
def sm94 : Summ := ⟨0,3,{},[{ fs := [⟨1,0,6⟩,⟨0,1,-6⟩,⟨4,0,4⟩,⟨0,4,-4⟩,⟨8,0,24⟩,⟨0,8,-24⟩],rw := [(2,some bU8)] }]⟩
theorem so94 : sm94.ok F94 := by
 intro ls hl hp
 obtain rfl := List.eq_nil_of_length_eq_zero hl
 have h1 := code_law
 have h3 := isU8_ok (rows := [1,0,0,0,0,1,0,0,0,0,1,0,0,0,0,1,27,28,18,20,28,27,20,18].map b8) (by kernel_rfl)
 refine ⟨_,h1,rfl,_,List.mem_singleton.2 rfl,⟨fun f hf => ?_,fun x hx => ?_,fun x hx => (by cases hx),fun x hx => (by cases hx)⟩⟩
 · simp at hf
   rcases hf with rfl | rfl | rfl | rfl | rfl | rfl <;> simp [Fa.holds,tmV,asR_r,asI_i,b8]
 · simp at hx
   subst hx
   exact h3
end AI
end
end Go.Proofs.YtndegphojkiblaaGreatDoor
