/- Towards the last file's theorem: part 17. -/
import Derived.Test.YtndegphojkiblaaGreatDoorG16
set_option linter.unusedSimpArgs false
set_option linter.unusedVariables false
namespace Go.Proofs.YtndegphojkiblaaGreatDoor
section
open Go.RowKit
namespace AI
def AS.rs (S : AS) : At → Option RS
 | .v i => match S.env[i]? with
  | some g => lk S.rw g
  | none => some none
 | _ => some none
def AS.cs (S : AS) : At → Option (List AC)
 | .v i => match S.env[i]? with
  | some g => lk S.cl g
  | none => none
 | _ => none
def AS.bo (S : AS) : At → Option BD
 | .v i => match S.env[i]? with
  | some g => lk S.bd g
  | none => none
 | .b t => some (.con t)
 | _ => none
section
variable {S : AS} {τ ρ : List L} (h : Ga S τ ρ)
include h
theorem Ga.rs {x : At} {r : RS} (hr : S.rs x = some r) : rsOk r (x.ev ρ).asR := by
 cases x with
 | v i =>
  rw [h.ev]
  simp only [AS.rs] at hr
  cases hg : S.env[i]? with
  | none => rw [hg] at hr; cases hr; rfl
  | some g => rw [hg] at hr; exact (h.rw _ (lk_mem hr)).2
 | _ => cases hr; rfl
theorem Ga.cs {x : At} {r : List AC} (hr : S.cs x = some r) : AC.oks r (x.ev ρ).asC := by
 cases x with
 | v i =>
  rw [h.ev]
  simp only [AS.cs] at hr
  cases hg : S.env[i]? with
  | none => rw [hg] at hr; cases hr
  | some g => rw [hg] at hr; exact (h.cl _ (lk_mem hr)).2
 | _ => cases hr
theorem Ga.bo {x : At} {b : BD} (hr : S.bo x = some b) : (x.ev ρ).asB = b.val τ := by
 cases x with
 | v i =>
  rw [h.ev]
  simp only [AS.bo] at hr
  cases hg : S.env[i]? with
  | none => rw [hg] at hr; cases hr
  | some g => rw [hg] at hr; exact (h.bd _ (lk_mem hr)).2.2
 | b t => cases hr; rfl
 | _ => cases hr
end
def celN (n : Nat) (k : Kd) (c : AC) : Option New := match k,c with
 | .int k,.int k' lo hi => if k == k' then some { fs := fRg (3 * n + 1) lo hi } else none
 | .bool,.bool => some {}
 | .str,.str hi => some { fs := fRg (3 * n + 3) 0 hi }
 | .sl,.sl hi cs => some { fs := fRg (3 * n + 2) 0 hi,rw := some (if hi ≤ 0 then none else some cs) }
 | _,_ => none
theorem celN_ok {τ : List L} {k : Kd} {c : AC} {q : PV} {N : New} (h : AC.ok c q) (hN : celN τ.length k c = some N) : ∃ l,k.of q = some l ∧ N.ok τ l := by
 unfold celN at hN
 split at hN
 · rename_i k k' lo hi
   split at hN
   · rename_i hk
     have := eq_of_beq hk; subst this
     cases hN
     obtain ⟨n,rfl,h1,h2⟩ := h
     exact ⟨.i n,by simp [Kd.of],newFs (fRg_ok (by rw [new_i]; exact h1) (by rw [new_i]; exact h2))⟩
   · cases hN
 · cases hN
   obtain ⟨b,rfl⟩ := h
   exact ⟨.b b,rfl,newFs holds_nil⟩
 · cases hN
   obtain ⟨s,rfl,h1⟩ := h
   exact ⟨.s s,rfl,newFs (fRg_ok (by rw [new_s]; exact Int.natCast_nonneg _) (by rw [new_s]; exact h1))⟩
 · cases hN
   obtain ⟨rows,rfl,h1,h2⟩ := h
   refine ⟨.r rows,rfl,fRg_ok (by rw [new_l]; exact Int.natCast_nonneg _) (by rw [new_l]; exact h1),fun x hx => ?_,fun _ h => (by cases h),fun _ h => (by cases h),fun _ h => (by cases h),fun _ h => (by cases h),fun _ h => (by cases h)⟩
   have hx := Option.some.inj hx
   rw [← hx]
   split
   · have : rows.length = 0 := by omega
     exact List.eq_nil_of_length_eq_zero this
   · exact h2
 · cases hN
def AS.ac (S : AS) (p : Kd × At) : AC := match p.1 with
 | .int k => match loL S.fs (S.li p.2),hiL S.fs (S.li p.2) with
  | some lo,some hi => .int k lo hi
  | _,_ => .any
 | .bool => .bool
 | .sl => match hiL S.fs (S.le p.2),S.rs p.2 with
  | some hi,some (some cs) => .sl hi cs
  | _,some none => .sl 0 []
  | _,_ => .any
 | .str => match S.ls p.2 with
  | some y => match hiL S.fs y with
   | some hi => .str hi
   | none => .any
  | none => .any
 | _ => .any
theorem Ga.ls {S : AS} {τ ρ : List L} (h : Ga S τ ρ) {x : At} {y : Li} (hy : S.ls x = some y) : ((x.ev ρ).asS.size : Int) = liV τ y := by
 cases x with
 | v i =>
  rw [h.ev]
  simp only [AS.ls] at hy
  cases hg : S.env[i]? with
  | none => rw [hg] at hy; cases hy; simp [liV,tmV_zero,L.asS]
  | some g => rw [hg] at hy; cases hy; simp only [liV,tm_s]; omega
 | s x => cases hy; simp [liV,tmV_zero,At.ev,L.asS]
 | i c => cases hy; simp [liV,tmV_zero,At.ev,L.asS]
 | b t => cases hy; simp [liV,tmV_zero,At.ev,L.asS]
 | r0 => cases hy; simp [liV,tmV_zero,At.ev,L.asS]
theorem Ga.ls_in {S : AS} {τ ρ : List L} (h : Ga S τ ρ) {x : At} {y : Li} (hy : S.ls x = some y) : tmIn τ.length y.1 = true := by
 cases x with
 | v i =>
  simp only [AS.ls] at hy
  cases hg : S.env[i]? with
  | none => rw [hg] at hy; cases hy; rfl
  | some g =>
   rw [hg] at hy; cases hy
   have := h.lt g (List.mem_of_getElem? hg)
   simp only [tmIn,h.n,decide_eq_true_eq]; omega
 | _ => cases hy; rfl
theorem ac_ok {S : AS} {τ ρ : List L} (h : Ga S τ ρ) (p : Kd × At) : AC.ok (S.ac p) (p.1.pv (p.2.ev ρ)) := by
 have hf : ∀ f ∈ S.fs,f.holds τ := fun f hf => h.holds hf
 obtain ⟨k,x⟩ := p
 cases k with
 | int k =>
  simp only [AS.ac]
  split
  · rename_i lo hi h1 h2
    exact ⟨_,rfl,by rw [h.li]; exact loL_ok hf h1,by rw [h.li]; exact hiL_ok hf h2⟩
  · trivial
 | bool => exact ⟨_,rfl⟩
 | sl =>
  simp only [AS.ac]
  split
  · rename_i hi cs h1 h2
    exact ⟨_,rfl,by rw [h.le]; exact hiL_ok hf h1,h.rs h2⟩
  · rename_i h2
    have h3 : (x.ev ρ).asR = [] := h.rs h2
    exact ⟨_,rfl,by rw [h3]; decide,by rw [h3]; intro r hr; cases hr⟩
  · trivial
 | str =>
  simp only [AS.ac]
  split
  · rename_i y hy
    split
    · rename_i hi h1
      exact ⟨_,rfl,by rw [h.ls hy]; exact hiL_ok hf h1⟩
    · trivial
  · trivial
 | ptr => trivial
 | mp => trivial
 | fn => trivial
 | ifc => trivial
theorem acs_ok {S : AS} {τ ρ : List L} (h : Ga S τ ρ) : ∀ ps : List (Kd × At),AC.oks (ps.map S.ac) (pvsOf ρ ps)
 | [] => trivial
 | p :: ps => ⟨ac_ok h p,acs_ok h ps⟩
def rsJoin (x y : RS) : Option RS := match x,y with
 | none,y => some y
 | x,none => some x
 | some a,some b => if AC.les a b then some (some b) else if AC.les b a then some (some a) else
  let j := AC.joins a b
  if AC.les a j && AC.les b j then some (some j) else none
theorem rsJoin_ok {x y z : RS} (h : rsJoin x y = some z) {rows : List (List PV)} : (rsOk x rows → rsOk z rows) ∧ (rsOk y rows → rsOk z rows) := by
 have nil : ∀ z : RS,rsOk none rows → rsOk z rows := fun z hz => by
  have : rows = [] := hz
  subst this
  cases z with
  | none => rfl
  | some c => intro r hr; cases hr
 cases x with
 | none => cases h; exact ⟨nil _,id⟩
 | some a =>
  cases y with
  | none => cases h; exact ⟨id,nil _⟩
  | some b =>
   simp only [rsJoin] at h
   split at h
   · rename_i h1
     cases h
     exact ⟨fun hr r hm => AC.les_ok h1 (hr r hm),id⟩
   · split at h
     · rename_i h1
       cases h
       exact ⟨id,fun hr r hm => AC.les_ok h1 (hr r hm)⟩
     · split at h
       · rename_i h1
         simp only [Bool.and_eq_true] at h1
         cases h
         exact ⟨fun hr r hm => AC.les_ok h1.1 (hr r hm),fun hr r hm => AC.les_ok h1.2 (hr r hm)⟩
       · cases h
theorem rs_append {z : RS} {a b : List (List PV)} (h1 : rsOk z a) (h2 : rsOk z b) : rsOk z (a ++ b) := by
 cases z with
 | none => have h1 : a = [] := h1; have h2 : b = [] := h2; rw [h1,h2]; rfl
 | some cs => intro r hr; exact (List.mem_append.1 hr).elim (h1 r) (h2 r)
theorem rs_sub {z : RS} {a b : List (List PV)} (h1 : rsOk z a) (h : ∀ r ∈ b,r ∈ a) : rsOk z b := by
 cases z with
 | none =>
  have h1 : a = [] := h1
  subst h1
  cases b with
  | nil => rfl
  | cons r b => exact absurd (h r List.mem_cons_self) (by simp)
 | some cs => exact fun r hr => h1 r (h r hr)
def rsSize (n : Nat) : RS → Bool
 | none => true
 | some cs => cs.length == n
theorem rsSize_ok {n : Nat} {z : RS} {rows : List (List PV)} (h : rsSize n z = true) (hr : rsOk z rows) : rectB n rows = true := by
 cases z with
 | none => have hr : rows = [] := hr; subst hr; rfl
 | some cs =>
  have h := eq_of_beq h
  subst h
  exact AC.rows_rectB hr
theorem newRw {τ : List L} {l : L} {fs : List Fa} {z : RS} (h : ∀ f ∈ fs,f.holds (τ ++ [l])) (hz : rsOk z l.asR) : New.ok { fs := fs,rw := some z } τ l :=
 ⟨h,fun x hx => (by cases hx; exact hz),fun _ h => (by cases h),fun _ h => (by cases h),fun _ h => (by cases h),fun _ h => (by cases h),fun _ h => (by cases h)⟩
theorem newRl {τ : List L} {l : L} {fs : List Fa} {z : RS} {y : Option Li} (h : ∀ f ∈ fs,f.holds (τ ++ [l])) (hz : rsOk z l.asR) (hy : ∀ x,y = some x → (l.asR.length : Int) = liV τ x) : New.ok { fs := fs,rw := some z,ll := y } τ l :=
 ⟨h,fun x hx => (by cases hx; exact hz),fun _ h => (by cases h),fun _ h => (by cases h),fun _ h => (by cases h),hy,fun _ h => (by cases h)⟩
theorem oEq {τ : List L} {y x : Li} {v : Int} (h : v = liV τ y) (hx : some y = some x) : v = liV τ x := by cases hx; exact h
def lenN (S : AS) (x : At) : Option New := some { al := some (S.le x) }
def slenN (S : AS) (x : At) : Option New := match S.ls x with
 | some y => some { al := some y }
 | none => none
def convN (S : AS) (k : IntKind) (x : At) : Option New := match loL S.fs (S.li x),hiL S.fs (S.li x) with
 | some lo,some hi => if kFits (some k) lo hi = true then some { al := some (S.li x) } else some { fs := kRg (some k) (3 * S.n + 1) }
 | _,_ => some { fs := kRg (some k) (3 * S.n + 1) }
def notN (S : AS) (x : At) : Option New := match S.bo x with
 | some b => some { bd := some b.neg }
 | none => some {}
def AS.at (S : AS) (x i : At) : Bool := leL S.fs (0,0) (S.li i) 0 && leL S.fs (S.li i) (S.le x) (-1)
def rowN (S : AS) (x i : At) (size : Nat) : Option New := match S.rs x with
 | some (some cs) => if S.at x i = true ∧ cs.length = size then some { cl := some cs } else none
 | _ => none
def clN (S : AS) (x : At) (j : Nat) (k : Kd) : Option New := match S.cs x with
 | some cs => (cs[j]?).bind (celN S.n k)
 | none => none
def rcN (S : AS) (x i : At) (j : Nat) (k : Kd) : Option New := match S.rs x with
 | some (some cs) => if S.at x i = true then (cs[j]?).bind (celN S.n k) else none
 | _ => none
def partN (S : AS) (x lo hi : At) (size : Nat) : Option New := match S.rs x with
 | some z => if leL S.fs (0,0) (S.li lo) 0 = true ∧ leL S.fs (S.li lo) (S.li hi) 0 = true ∧ leL S.fs (S.li hi) (S.le x) 0 = true ∧ rsSize size z = true then some { fs := subFs S.fs none (3 * S.n + 2) (S.li hi) (S.li lo),rw := some z,ll := subAl S.fs none (S.li hi) (S.li lo) } else none
 | none => none
def appN (S : AS) (x y : At) (n b : Nat) : Option New := match S.rs x,S.rs y,hiL S.fs (S.le x),hiL S.fs (S.le y) with
 | some zx,some zy,some hx,some hy => if hx + hy ≤ 9223372036854775807 ∧ (hx + hy) * b ≤ 140737488355328 ∧ rsSize n zx = true ∧ rsSize n zy = true then (rsJoin zx zy).map fun z => { fs := addFs S.fs none (3 * S.n + 2) (S.le x) (S.le y),rw := some z,ll := addAl S.fs none (S.le x) (S.le y) } else none
 | _,_,_,_ => none
def litN (S : AS) (rows : List (List (Kd × At))) : Option New := match rows with
 | [] => some { rw := some none,ll := some (0,0) }
 | ps :: r => (r.foldl (fun (z : Option RS) ps => z.bind fun z => rsJoin z (some (ps.map S.ac))) (some (some (ps.map S.ac)))).bind fun z => match z with
  | some cs => if rows.all (fun ps => AC.les (ps.map S.ac) cs) = true then some { rw := some (some cs),ll := some (0,rows.length) } else none
  | none => none
def repN (S : AS) (n : At) (ps : List (Kd × At)) (b : Nat) : Option New := match hiL S.fs (S.li n) with
 | some hi => if leL S.fs (0,0) (S.li n) 0 = true ∧ hi ≤ 9223372036854775807 ∧ b * hi ≤ 281474976710656 then some { rw := some (some (ps.map S.ac)),ll := some (S.li n) } else none
 | none => none
section
variable {S : AS} {τ ρ : List L} (h : Ga S τ ρ)
include h
theorem lenN_ok {x : At} {N : New} (hN : lenN S x = some N) : ∃ l,Nd.ev ρ (.len x) = some [l] ∧ N.ok τ l := by
 cases hN
 refine ⟨_,rfl,newAl ?_⟩
 rw [← h.le x]; rfl
theorem slenN_ok {x : At} {N : New} (hN : slenN S x = some N) : ∃ l,Nd.ev ρ (.slen x) = some [l] ∧ N.ok τ l := by
 unfold slenN at hN
 split at hN
 · rename_i y hy
   cases hN
   refine ⟨_,rfl,newAl ?_⟩
   rw [← h.ls hy]; rfl
 · cases hN
theorem convN_ok {k : IntKind} {x : At} {N : New} (hN : convN S k x = some N) : ∃ l,Nd.ev ρ (.conv k x) = some [l] ∧ N.ok τ l := by
 have hf : ∀ f ∈ S.fs,f.holds τ := fun f hf => h.holds hf
 refine ⟨_,rfl,?_⟩
 have hv : tmV (τ ++ [L.i (k.wrap (x.ev ρ).asI)]) (3 * S.n + 1) = kWrap (some k) (liV τ (S.li x)) := by rw [← h.n,new_i,← h.li x]; rfl
 unfold convN at hN
 split at hN
 · rename_i lo hi h1 h2
   split at hN
   · rename_i hc
     cases hN
     refine newAl ?_
     rw [← kFits_ok hc (loL_ok hf h1) (hiL_ok hf h2),← h.li x]; rfl
   · cases hN; exact newFs (kRg_ok hv)
 · cases hN; exact newFs (kRg_ok hv)
theorem notN_ok {x : At} {N : New} (hN : notN S x = some N) : ∃ l,Nd.ev ρ (.not x) = some [l] ∧ N.ok τ l := by
 refine ⟨_,rfl,?_⟩
 unfold notN at hN
 split at hN
 · rename_i b hb
   cases hN
   refine newBd ?_
   rw [BD.neg_val,← h.bo hb]; rfl
 · cases hN; exact newFs holds_nil
theorem at_ok {x i : At} (ha : S.at x i = true) : 0 ≤ (i.ev ρ).asI ∧ (i.ev ρ).asI.toNat < (x.ev ρ).asR.length := by
 have hf : ∀ f ∈ S.fs,f.holds τ := fun f hf => h.holds hf
 simp only [AS.at,Bool.and_eq_true] at ha
 have h1 := leL_ok hf ha.1
 have h2 := leL_ok hf ha.2
 have h3 := h.li i
 have h4 := h.le x
 have hz : liV τ (0,0) = 0 := by simp [liV,tmV_zero]
 omega
theorem rowN_ok {x i : At} {size : Nat} {N : New} (hN : rowN S x i size = some N) : ∃ l,Nd.ev ρ (.row x i size) = some [l] ∧ N.ok τ l := by
 unfold rowN at hN
 split at hN
 · rename_i cs hcs
   split at hN
   · rename_i hc
     cases hN
     obtain ⟨h1,h2⟩ := at_ok h hc.1
     have hr := List.getElem?_eq_getElem h2
     have hok : AC.oks cs (x.ev ρ).asR[(i.ev ρ).asI.toNat] := h.rs hcs _ (List.getElem_mem h2)
     refine ⟨.c (x.ev ρ).asR[(i.ev ρ).asI.toNat],?_,holds_nil,fun _ h => (by cases h),fun y hy => (by cases hy; exact hok),fun _ h => (by cases h),fun _ h => (by cases h),fun _ h => (by cases h),fun _ h => (by cases h)⟩
     simp only [Nd.ev,if_pos h1,hr,AC.oks_length hok,hc.2,if_true]
   · cases hN
 · cases hN
theorem clN_ok {x : At} {j : Nat} {k : Kd} {N : New} (hN : clN S x j k = some N) : ∃ l,Nd.ev ρ (.cl x j k) = some [l] ∧ N.ok τ l := by
 unfold clN at hN
 split at hN
 · rename_i cs hcs
   simp only [Option.bind_eq_some_iff] at hN
   obtain ⟨c,hj,hN⟩ := hN
   obtain ⟨q,h1,h2⟩ := AC.oks_get (h.cs hcs) hj
   rw [← h.n] at hN
   obtain ⟨l,h3,h4⟩ := celN_ok h2 hN
   exact ⟨l,by simp only [Nd.ev,h1,h3]; rfl,h4⟩
 · cases hN
theorem rcN_ok {x i : At} {j : Nat} {k : Kd} {N : New} (hN : rcN S x i j k = some N) : ∃ l,Nd.ev ρ (.rc x i j k) = some [l] ∧ N.ok τ l := by
 unfold rcN at hN
 split at hN
 · rename_i cs hcs
   split at hN
   · rename_i hc
     simp only [Option.bind_eq_some_iff] at hN
     obtain ⟨c,hj,hN⟩ := hN
     obtain ⟨g1,g2⟩ := at_ok h hc
     have hr := List.getElem?_eq_getElem g2
     have hok : AC.oks cs (x.ev ρ).asR[(i.ev ρ).asI.toNat] := h.rs hcs _ (List.getElem_mem g2)
     obtain ⟨q,h1,h2⟩ := AC.oks_get hok hj
     rw [← h.n] at hN
     obtain ⟨l,h3,h4⟩ := celN_ok h2 hN
     exact ⟨l,by simp only [Nd.ev,hr,h1,h3]; rfl,h4⟩
   · cases hN
 · cases hN
theorem partN_ok {x lo hi : At} {size : Nat} {N : New} (hN : partN S x lo hi size = some N) : ∃ l,Nd.ev ρ (.part x lo hi size) = some [l] ∧ N.ok τ l := by
 have hf : ∀ f ∈ S.fs,f.holds τ := fun f hf => h.holds hf
 unfold partN at hN
 split at hN
 · rename_i z hz
   split at hN
   · rename_i hc
     obtain ⟨c1,c2,c3,c4⟩ := hc
     cases hN
     have c1 := leL_ok hf c1
     have c2 := leL_ok hf c2
     have c3 := leL_ok hf c3
     have e1 := h.li lo
     have e2 := h.li hi
     have e3 := h.le x
     have hz0 : liV τ (0,0) = 0 := by simp [liV,tmV_zero]
     have hlen : (((x.ev ρ).asR.take (hi.ev ρ).asI.toNat).drop (lo.ev ρ).asI.toNat).length = (hi.ev ρ).asI.toNat - (lo.ev ρ).asI.toNat := by
       rw [List.length_drop,List.length_take]; omega
     refine ⟨.r (((x.ev ρ).asR.take (hi.ev ρ).asI.toNat).drop (lo.ev ρ).asI.toNat),?_,newRl (subFs_ok hf (liV_append (h.li_in hi)) ?_) (rs_sub (h.rs hz) fun r hr => List.mem_of_mem_take (List.mem_of_mem_drop hr)) fun y hy => ?_⟩
     · simp only [Nd.ev]
       rw [if_pos ⟨by omega,by omega,by omega,rsSize_ok c4 (h.rs hz)⟩]
     · rw [← h.n,new_l]
       show ((((x.ev ρ).asR.take (hi.ev ρ).asI.toNat).drop (lo.ev ρ).asI.toNat).length : Int) = _
       rw [hlen]
       simp only [kWrap]
       omega
     · have := subAl_ok hf hy
       simp only [kWrap] at this
       rw [← this]
       show ((((x.ev ρ).asR.take (hi.ev ρ).asI.toNat).drop (lo.ev ρ).asI.toNat).length : Int) = _
       rw [hlen]; omega
   · cases hN
 · cases hN
theorem appN_ok {x y : At} {n b : Nat} {N : New} (hN : appN S x y n b = some N) : ∃ l,Nd.ev ρ (.app x y n b) = some [l] ∧ N.ok τ l := by
 have hf : ∀ f ∈ S.fs,f.holds τ := fun f hf => h.holds hf
 unfold appN at hN
 split at hN
 · rename_i zx zy hx hy h1 h2 h3 h4
   split at hN
   · rename_i hc
     obtain ⟨c1,c2,c3,c4⟩ := hc
     simp only [Option.map_eq_some_iff] at hN
     obtain ⟨z,hz,rfl⟩ := hN
     have h3 := hiL_ok hf h3
     have h4 := hiL_ok hf h4
     have e1 := h.le x
     have e2 := h.le y
     refine ⟨.r ((x.ev ρ).asR ++ (y.ev ρ).asR),?_,newRl (addFs_ok hf (liV_append (h.le_in x)) (liV_append (h.le_in y)) ?_) (rs_append ((rsJoin_ok hz).1 (h.rs h1)) ((rsJoin_ok hz).2 (h.rs h2))) fun w hw => ?_⟩
     · simp only [Nd.ev]
       have q1 : (((x.ev ρ).asR.length + (y.ev ρ).asR.length : Nat) : Int) ≤ hx + hy := by omega
       have q2 : (((x.ev ρ).asR.length + (y.ev ρ).asR.length : Nat) : Int) * (b : Int) ≤ (hx + hy) * b := Int.mul_le_mul_of_nonneg_right q1 (Int.natCast_nonneg b)
       have q3 : ((((x.ev ρ).asR.length + (y.ev ρ).asR.length) * b : Nat) : Int) ≤ 140737488355328 := by
        rw [Int.natCast_mul]; exact Int.le_trans q2 c2
       have q4 : ((x.ev ρ).asR.length + (y.ev ρ).asR.length) * b ≤ 140737488355328 := Int.ofNat_le.1 q3
       have q5 : (x.ev ρ).asR.length + (y.ev ρ).asR.length ≤ 9223372036854775807 := by omega
       rw [if_pos ⟨q5,q4,rsSize_ok c3 (h.rs h1),rsSize_ok c4 (h.rs h2)⟩]
     · rw [← h.n,new_l]
       show (((x.ev ρ).asR ++ (y.ev ρ).asR).length : Int) = _
       simp only [kWrap,List.length_append]; omega
     · have := addAl_ok hf hw
       simp only [kWrap] at this
       rw [← this]
       show (((x.ev ρ).asR ++ (y.ev ρ).asR).length : Int) = _
       simp only [List.length_append]; omega
   · cases hN
 · cases hN
theorem litN_ok {rows : List (List (Kd × At))} {N : New} (hN : litN S rows = some N) : ∃ l,Nd.ev ρ (.lit rows) = some [l] ∧ N.ok τ l := by
 refine ⟨_,rfl,?_⟩
 unfold litN at hN
 split at hN
 · cases hN
   exact newRl holds_nil rfl fun x hx => oEq (by simp [liV,tmV_zero,L.asR]) hx
 · simp only [Option.bind_eq_some_iff] at hN
   obtain ⟨z,_,hN⟩ := hN
   cases z with
   | none => cases hN
   | some cs =>
    simp only at hN
    split at hN
    · rename_i hc
      cases hN
      refine newRl holds_nil ?_ fun x hx => oEq ?_ hx
      rotate_left
      · simp [liV,tmV_zero,L.asR]
      · intro r hr
        obtain ⟨ps,hps,rfl⟩ := List.mem_map.1 hr
        exact AC.les_ok (List.all_eq_true.1 hc ps hps) (acs_ok h ps)
    · cases hN
theorem repN_ok {n : At} {ps : List (Kd × At)} {b : Nat} {N : New} (hN : repN S n ps b = some N) : ∃ l,Nd.ev ρ (.rep n ps b) = some [l] ∧ N.ok τ l := by
 have hf : ∀ f ∈ S.fs,f.holds τ := fun f hf => h.holds hf
 unfold repN at hN
 split at hN
 · rename_i hi hhi
   split at hN
   · rename_i hc
     obtain ⟨c1,c2,c3⟩ := hc
     cases hN
     have c1 := leL_ok hf c1
     have c4 := hiL_ok hf hhi
     have e1 := h.li n
     have hz0 : liV τ (0,0) = 0 := by simp [liV,tmV_zero]
     refine ⟨.r (List.replicate (n.ev ρ).asI.toNat (pvsOf ρ ps)),?_,newRl holds_nil (fun r hr => ?_) fun x hx => oEq ?_ hx⟩
     rotate_left 2
     · show ((List.replicate (n.ev ρ).asI.toNat (pvsOf ρ ps)).length : Int) = _
       rw [List.length_replicate]; omega
     · simp only [Nd.ev]
       have q : (b : Int) * ((n.ev ρ).asI.toNat : Int) ≤ b * hi := Int.mul_le_mul_of_nonneg_left (by omega) (Int.natCast_nonneg b)
       have q3 : ((b * (n.ev ρ).asI.toNat : Nat) : Int) ≤ 281474976710656 := by rw [Int.natCast_mul]; exact Int.le_trans q c3
       have q4 : b * (n.ev ρ).asI.toNat ≤ 281474976710656 := Int.ofNat_le.1 q3
       have q5 : 0 ≤ (n.ev ρ).asI := by omega
       have q6 : (n.ev ρ).asI ≤ 9223372036854775807 := by omega
       rw [if_pos ⟨q5,q6,q4⟩]
     · obtain ⟨_,rfl⟩ := List.mem_replicate.1 hr
       exact acs_ok h ps
   · cases hN
 · cases hN
end
end AI
end
section
open Go.RowKit
namespace AI
theorem head_of_rect {n : Nat} {rows : List (List PV)} (h : rectB n rows = true) : headOk n rows = true := by
 cases rows with
 | nil => rfl
 | cons r rows =>
  have := (rectB_iff.1 h) r List.mem_cons_self
  simp [headOk,this]
def cutN (S : AS) (x lo hi : At) (size : Nat) : Option New := match S.rs x with
 | some z => if leL S.fs (0,0) (S.li lo) 0 = true ∧ leL S.fs (S.li lo) (S.li hi) 0 = true ∧ leL S.fs (S.li hi) (S.le x) 0 = true ∧ rsSize size z = true then (match subAl S.fs none (S.li hi) (S.li lo) with | some z => some { al := some z } | none => some { fs := subFs S.fs none (3 * S.n + 1) (S.li hi) (S.li lo) }) else none
 | none => none
def tkN (S : AS) (x ln : At) : Option New := match S.rs x with
 | some z => some { fs := fLe (3 * S.n + 2) (S.le x) 0 :: fGe (3 * S.n + 2) (0,0) 0 :: (if leL S.fs (0,0) (S.li ln) 0 = true then fLe (3 * S.n + 2) (S.li ln) 0 :: (if leL S.fs (S.li ln) (S.le x) 0 = true then [fGe (3 * S.n + 2) (S.li ln) 0] else []) else []),rw := some z }
 | none => none
def vwN (S : AS) (x lo ln : At) : Option New := match S.rs x with
 | some z => if (S.li lo).1 = 0 ∧ 0 ≤ (S.li lo).2 ∧ leL S.fs (0,0) (S.li ln) 0 = true ∧ leL S.fs (S.li ln) (S.le x) (-(S.li lo).2) = true then some { rw := some z,ll := some (S.li ln) } else some { fs := fLe (3 * S.n + 2) (S.le x) 0 :: fGe (3 * S.n + 2) (0,0) 0 :: (if leL S.fs (0,0) (S.li ln) 0 = true then [fLe (3 * S.n + 2) (S.li ln) 0] else []),rw := some z }
 | none => none
def setN (S : AS) (x i : At) (j : Nat) (ps : List (Kd × At)) : Option New := match S.rs x with
 | some (some cs) => if S.at x i = true ∧ j + ps.length ≤ cs.length then
   let new := cs.take j ++ ps.map S.ac ++ cs.drop (j + ps.length)
   (rsJoin (some cs) (some new)).map fun z => { rw := some z,ll := some (S.le x) }
  else none
 | _ => none
def mnN (S : AS) (x y : At) : Option New := some { fs := fLe (3 * S.n + 1) (S.li x) 0 :: fLe (3 * S.n + 1) (S.li y) 0 :: (match loL S.fs (S.li x),loL S.fs (S.li y) with
 | some a,some b => [fGe (3 * S.n + 1) (0,0) (-(imin a b))]
 | _,_ => []) }
def mxN (S : AS) (x y : At) : Option New := some { fs := fGe (3 * S.n + 1) (S.li x) 0 :: fGe (3 * S.n + 1) (S.li y) 0 :: (match hiL S.fs (S.li x),hiL S.fs (S.li y) with
 | some a,some b => [fLe (3 * S.n + 1) (0,0) (imax a b)]
 | _,_ => []) }
def bsN (S : AS) (op : BinOp) (x y : At) : Option New := match op with
 | .add => match S.ls x,S.ls y with
  | some a,some b => match hiL S.fs a,hiL S.fs b with
   | some ha,some hb => if ha + hb ≤ 9223372036854775807 then some { fs := addFs S.fs none (3 * S.n + 3) a b } else none
   | _,_ => none
  | _,_ => none
 | .eql | .neq | .lss | .leq | .gtr | .geq => some {}
 | _ => none
def bbN (op : BinOp) : Option New := match op with
 | .eql | .neq => some {}
 | _ => none
def unN (S : AS) (op : UnOp) (k : IntKind) : Option New := match op with
 | .neg | .xor => some { fs := fRg (3 * S.n + 1) k.min k.max }
 | _ => none
def strN (S : AS) (x : At) : Option New := match S.rs x with
 | some none => some { fs := fEq (3 * S.n + 3) (S.le x) }
 | some (some [.int .u8 _ _]) => some { fs := fEq (3 * S.n + 3) (S.le x) }
 | _ => none
def sidxN (S : AS) (x i : At) : Option New := match S.ls x with
 | some y => if leL S.fs (0,0) (S.li i) 0 = true ∧ leL S.fs (S.li i) y (-1) = true then some { fs := fRg (3 * S.n + 1) 0 255 } else none
 | none => none
theorem z0 (τ : List L) : liV τ (0,0) = 0 := by simp [liV,tmV_zero]
section
variable {S : AS} {τ ρ : List L} (h : Ga S τ ρ)
include h
theorem cutN_ok {x lo hi : At} {size : Nat} {N : New} (hN : cutN S x lo hi size = some N) : ∃ l,Nd.ev ρ (.cut x lo hi size) = some [l] ∧ N.ok τ l := by
 have hf : ∀ f ∈ S.fs,f.holds τ := fun f hf => h.holds hf
 unfold cutN at hN
 split at hN
 · rename_i z hz
   split at hN
   · rename_i hc
     obtain ⟨c1,c2,c3,c4⟩ := hc
     have c1 := leL_ok hf c1
     have c2 := leL_ok hf c2
     have c3 := leL_ok hf c3
     have e1 := h.li lo
     have e2 := h.li hi
     have e3 := h.le x
     have hz0 := z0 τ
     refine ⟨.i (((hi.ev ρ).asI.toNat - (lo.ev ρ).asI.toNat : Nat) : Int),?_,?_⟩
     · have a1 : 0 ≤ (lo.ev ρ).asI := by omega
       have a2 : (lo.ev ρ).asI ≤ (hi.ev ρ).asI := by omega
       have a3 : (hi.ev ρ).asI.toNat ≤ (x.ev ρ).asR.length := by omega
       simp only [Nd.ev]
       rw [if_pos ⟨a1,a2,a3,head_of_rect (rsSize_ok c4 (h.rs hz))⟩]
     · split at hN
       · rename_i w hw
         cases hN
         have := subAl_ok hf hw
         simp only [kWrap] at this
         refine newAl ?_
         rw [← this]
         show (((hi.ev ρ).asI.toNat - (lo.ev ρ).asI.toNat : Nat) : Int) = _
         omega
       · cases hN
         refine newFs (subFs_ok hf (liV_append (h.li_in hi)) ?_)
         rw [← h.n,new_i]
         show (((hi.ev ρ).asI.toNat - (lo.ev ρ).asI.toNat : Nat) : Int) = _
         simp only [kWrap]
         omega
   · cases hN
 · cases hN
theorem tkN_ok {x ln : At} {N : New} (hN : tkN S x ln = some N) : ∃ l,Nd.ev ρ (.tk x ln) = some [l] ∧ N.ok τ l := by
 have hf : ∀ f ∈ S.fs,f.holds τ := fun f hf => h.holds hf
 unfold tkN at hN
 split at hN
 · rename_i z hz
   cases hN
   have e1 := h.li ln
   have e3 := h.le x
   have hz0 := z0 τ
   have hlen : tmV (τ ++ [L.r ((x.ev ρ).asR.take (ln.ev ρ).asI.toNat)]) (3 * S.n + 2) = ((min (ln.ev ρ).asI.toNat (x.ev ρ).asR.length : Nat) : Int) := by
     rw [← h.n,new_l,← List.length_take]; rfl
   have l1 := liV_append (ys := [L.r ((x.ev ρ).asR.take (ln.ev ρ).asI.toNat)]) (h.li_in ln)
   have l2 := liV_append (ys := [L.r ((x.ev ρ).asR.take (ln.ev ρ).asI.toNat)]) (h.le_in x)
   refine ⟨_,rfl,newRw (holds_cons (fLe_ok ?_) (holds_cons (fGe_ok ?_) ?_)) (rs_sub (h.rs hz) fun r hr => List.mem_of_mem_take hr)⟩
   · rw [hlen,l2]; omega
   · rw [hlen,z0]; omega
   · split
     · rename_i h1
       have h1 := leL_ok hf h1
       refine holds_cons (fLe_ok (by rw [hlen,l1]; omega)) ?_
       split
       · rename_i h2
         have h2 := leL_ok hf h2
         exact holds_cons (fGe_ok (by rw [hlen,l1]; omega)) holds_nil
       · exact holds_nil
     · exact holds_nil
 · cases hN
theorem vwN_ok {x lo ln : At} {N : New} (hN : vwN S x lo ln = some N) : ∃ l,Nd.ev ρ (.vw x lo ln) = some [l] ∧ N.ok τ l := by
 have hf : ∀ f ∈ S.fs,f.holds τ := fun f hf => h.holds hf
 unfold vwN at hN
 split at hN
 · rename_i z hz
   have e1 := h.li ln
   have e3 := h.le x
   have hz0 := z0 τ
   by_cases hcc : (S.li lo).1 = 0 ∧ 0 ≤ (S.li lo).2 ∧ leL S.fs (0,0) (S.li ln) 0 = true ∧ leL S.fs (S.li ln) (S.le x) (-(S.li lo).2) = true
   · rw [if_pos hcc] at hN
     cases hN
     obtain ⟨c1,c2,c3,c4⟩ := hcc
     have e2 := h.li lo
     have c3 := leL_ok hf c3
     have c4 := leL_ok hf c4
     have e4 : liV τ (S.li lo) = (S.li lo).2 := by unfold liV; rw [c1,tmV_zero]; omega
     refine ⟨_,rfl,newRl holds_nil (rs_sub (h.rs hz) fun r hr => List.mem_of_mem_drop (List.mem_of_mem_take hr)) fun y hy => oEq ?_ hy⟩
     show (((((x.ev ρ).asR.drop (lo.ev ρ).asI.toNat).take (ln.ev ρ).asI.toNat).length : Nat) : Int) = _
     rw [List.length_take,List.length_drop]
     omega
   rw [if_neg hcc] at hN
   cases hN
   have hlen : tmV (τ ++ [L.r (((x.ev ρ).asR.drop (lo.ev ρ).asI.toNat).take (ln.ev ρ).asI.toNat)]) (3 * S.n + 2) = ((min (ln.ev ρ).asI.toNat ((x.ev ρ).asR.length - (lo.ev ρ).asI.toNat) : Nat) : Int) := by
     rw [← h.n,new_l,← List.length_drop,← List.length_take]; rfl
   have l1 := liV_append (ys := [L.r (((x.ev ρ).asR.drop (lo.ev ρ).asI.toNat).take (ln.ev ρ).asI.toNat)]) (h.li_in ln)
   have l2 := liV_append (ys := [L.r (((x.ev ρ).asR.drop (lo.ev ρ).asI.toNat).take (ln.ev ρ).asI.toNat)]) (h.le_in x)
   refine ⟨_,rfl,newRw (holds_cons (fLe_ok ?_) (holds_cons (fGe_ok ?_) ?_)) (rs_sub (h.rs hz) fun r hr => List.mem_of_mem_drop (List.mem_of_mem_take hr))⟩
   · rw [hlen,l2]; omega
   · rw [hlen,z0]; omega
   · split
     · rename_i h1
       have h1 := leL_ok hf h1
       exact holds_cons (fLe_ok (by rw [hlen,l1]; omega)) holds_nil
     · exact holds_nil
 · cases hN
theorem mnN_ok {x y : At} {N : New} (hN : mnN S x y = some N) : ∃ l,Nd.ev ρ (.mn x y) = some [l] ∧ N.ok τ l := by
 have hf : ∀ f ∈ S.fs,f.holds τ := fun f hf => h.holds hf
 cases hN
 have e1 := h.li x
 have e2 := h.li y
 refine ⟨_,rfl,?_⟩
 generalize hv : (if (y.ev ρ).asI < (x.ev ρ).asI then (y.ev ρ).asI else (x.ev ρ).asI) = v
 have hv1 : tmV (τ ++ [L.i v]) (3 * S.n + 1) = v := by rw [← h.n,new_i]; rfl
 have l1 := liV_append (ys := [L.i v]) (h.li_in x)
 have l2 := liV_append (ys := [L.i v]) (h.li_in y)
 refine newFs (holds_cons (fLe_ok ?_) (holds_cons (fLe_ok ?_) ?_))
 · rw [hv1,l1]; split at hv <;> omega
 · rw [hv1,l2]; split at hv <;> omega
 · split
   · rename_i a b h1 h2
     have h1 := loL_ok hf h1
     have h2 := loL_ok hf h2
     refine holds_cons (fGe_ok ?_) holds_nil
     rw [hv1,z0]; unfold imin; split <;> split at hv <;> omega
   · exact holds_nil
theorem mxN_ok {x y : At} {N : New} (hN : mxN S x y = some N) : ∃ l,Nd.ev ρ (.mx x y) = some [l] ∧ N.ok τ l := by
 have hf : ∀ f ∈ S.fs,f.holds τ := fun f hf => h.holds hf
 cases hN
 have e1 := h.li x
 have e2 := h.li y
 refine ⟨_,rfl,?_⟩
 generalize hv : (if (y.ev ρ).asI > (x.ev ρ).asI then (y.ev ρ).asI else (x.ev ρ).asI) = v
 have hv1 : tmV (τ ++ [L.i v]) (3 * S.n + 1) = v := by rw [← h.n,new_i]; rfl
 have l1 := liV_append (ys := [L.i v]) (h.li_in x)
 have l2 := liV_append (ys := [L.i v]) (h.li_in y)
 refine newFs (holds_cons (fGe_ok ?_) (holds_cons (fGe_ok ?_) ?_))
 · rw [hv1,l1]; split at hv <;> omega
 · rw [hv1,l2]; split at hv <;> omega
 · split
   · rename_i a b h1 h2
     have h1 := hiL_ok hf h1
     have h2 := hiL_ok hf h2
     refine holds_cons (fLe_ok ?_) holds_nil
     rw [hv1,z0]; unfold imax; split <;> split at hv <;> omega
   · exact holds_nil
theorem setN_ok {x i : At} {j : Nat} {ps : List (Kd × At)} {N : New} (hN : setN S x i j ps = some N) : ∃ l,Nd.ev ρ (.set x i j ps) = some [l] ∧ N.ok τ l := by
 unfold setN at hN
 split at hN
 · rename_i cs hcs
   split at hN
   · rename_i hc
     obtain ⟨c1,c2⟩ := hc
     simp only [Option.map_eq_some_iff] at hN
     obtain ⟨z,hz,rfl⟩ := hN
     obtain ⟨g1,g2⟩ := at_ok h c1
     have hr := List.getElem?_eq_getElem g2
     have hok : AC.oks cs (x.ev ρ).asR[(i.ev ρ).asI.toNat] := h.rs hcs _ (List.getElem_mem g2)
     generalize (x.ev ρ).asR[(i.ev ρ).asI.toNat] = r at hr hok
     have hl := AC.oks_length hok
     have app : ∀ {a b : List AC} {p q : List PV},AC.oks a p → AC.oks b q → AC.oks (a ++ b) (p ++ q) := by
       intro a
       induction a with
       | nil => intro b p q h1 h2; cases p with | nil => exact h2 | cons => cases h1
       | cons c a ih => intro b p q h1 h2; cases p with | nil => cases h1 | cons p ps => exact ⟨h1.1,ih h1.2 h2⟩
     have tk : ∀ {a : List AC} {p : List PV} (n : Nat),AC.oks a p → AC.oks (a.take n) (p.take n) ∧ AC.oks (a.drop n) (p.drop n) := by
       intro a
       induction a with
       | nil => intro p n h1; cases p with | nil => simp [AC.oks] | cons => cases h1
       | cons c a ih => intro p n h1; cases p with
        | nil => cases h1
        | cons q ps => cases n with
          | zero => exact ⟨trivial,h1⟩
          | succ n => exact ⟨⟨h1.1,(ih n h1.2).1⟩,(ih n h1.2).2⟩
     have hnew : AC.oks (cs.take j ++ ps.map S.ac ++ cs.drop (j + ps.length)) (r.take j ++ pvsOf ρ ps ++ r.drop (j + ps.length)) := app (app (tk j hok).1 (acs_ok h ps)) (tk _ hok).2
     refine ⟨.r ((x.ev ρ).asR.set (i.ev ρ).asI.toNat (r.take j ++ pvsOf ρ ps ++ r.drop (j + ps.length))),?_,newRl holds_nil ?_ fun y hy => oEq ?_ hy⟩
     rotate_left 2
     · rw [← h.le x]
       show ((List.set _ _ _).length : Int) = _
       rw [List.length_set]
     · have c3 : j + ps.length ≤ r.length := by omega
       simp only [Nd.ev,hr]
       rw [if_pos c3]
     · have o1 := (rsJoin_ok hz (rows := (x.ev ρ).asR)).1 (h.rs hcs)
       have o2 := (rsJoin_ok hz (rows := [r.take j ++ pvsOf ρ ps ++ r.drop (j + ps.length)])).2 (fun q hq => by rw [List.mem_singleton.1 hq]; exact hnew)
       cases z with
       | none =>
        have : (x.ev ρ).asR = [] := o1
        rw [this] at g2; exact absurd g2 (by simp)
       | some d =>
        intro q hq
        rcases List.mem_or_eq_of_mem_set hq with hq | rfl
        · exact o1 q hq
        · exact o2 _ List.mem_cons_self
   · cases hN
 · cases hN
end
end AI
end
section
open Go.RowKit
namespace AI
def rsLe : RS → RS → Bool
 | none,_ => true
 | some a,some b => AC.les a b
 | some _,none => false
theorem rsLe_ok {x y : RS} (h : rsLe x y = true) {rows : List (List PV)} (hr : rsOk x rows) : rsOk y rows := by
 cases x with
 | none =>
  have : rows = [] := hr
  subst this
  cases y with
  | none => rfl
  | some c => intro r hr; cases hr
 | some a => cases y with
  | none => cases h
  | some b => exact fun r hm => AC.les_ok h (hr r hm)
def gidsOf (S : AS) : List At → Option (List Nat)
 | [] => some []
 | .v i :: xs => match S.env[i]?,gidsOf S xs with
  | some g,some gs => some (g :: gs)
  | _,_ => none
 | _ :: _ => none
def selK (S : AS) (xs : List At) (i : At) : Option (List Nat × Nat) := match i,gidsOf S xs with
 | .v i,some gs => match S.env[i]? with
  | some g => some (gs,g)
  | none => none
 | _,_ => none
def lkS (k : List Nat × Nat) : List ((List Nat × Nat) × Nat) → Option Nat
 | [] => none
 | (k',r) :: l => if k'.2 == k.2 && k'.1 == k.1 then some r else lkS k l
theorem lkS_mem {k : List Nat × Nat} : ∀ {l : List ((List Nat × Nat) × Nat)} {r : Nat},lkS k l = some r → (k,r) ∈ l
 | [],_,h => by cases h
 | (k',r') :: l,r,h => by
  simp only [lkS] at h
  split at h
  · rename_i hk
    simp only [Bool.and_eq_true] at hk
    have h1 := eq_of_beq hk.1
    have h2 := eq_of_beq hk.2
    cases h
    obtain ⟨a,b⟩ := k
    obtain ⟨c,d⟩ := k'
    simp only at h1 h2
    subst h1; subst h2
    exact List.mem_cons_self
  · exact List.mem_cons_of_mem _ (lkS_mem h)
def selL (S : AS) (xs : List At) (i : At) : Option Li := match selK S xs i with
 | some k => match lkS k S.sm with
  | some r => some (match lk S.ll r with | some x => x | none => (3 * r + 2,0))
  | none => none
 | none => none
theorem gidsOf_ok {S : AS} {τ ρ : List L} (h : Ga S τ ρ) : ∀ {xs : List At} {gs : List Nat},gidsOf S xs = some gs → xs.map (At.ev ρ) = gs.map (at' τ) ∧ gs.all (fun g => decide (g < S.n)) = true
 | [],gs,he => by cases he; exact ⟨rfl,rfl⟩
 | x :: xs,gs,he => by
  cases x with
  | v i =>
   simp only [gidsOf] at he
   split at he
   · rename_i g gs' hg hgs
     cases he
     obtain ⟨h1,h2⟩ := gidsOf_ok h hgs
     refine ⟨?_,?_⟩
     · simp only [List.map_cons,h1,h.ev,hg]
     · simp only [List.all_cons,h2,Bool.and_true,decide_eq_true_eq]; exact h.lt g (List.mem_of_getElem? hg)
   · cases he
  | _ => cases he
theorem selK_ok {S : AS} {τ ρ : List L} (h : Ga S τ ρ) {xs : List At} {i : At} {k : List Nat × Nat} (hk : selK S xs i = some k) : smIn S.n k = true ∧ selV τ k = (xs[(i.ev ρ).asI.toNat]?).map (At.ev ρ) := by
 unfold selK at hk
 split at hk
 · rename_i j gs hgs
   split at hk
   · rename_i g hg
     cases hk
     obtain ⟨h1,h2⟩ := gidsOf_ok h hgs
     refine ⟨by simp only [smIn,h2,Bool.true_and,decide_eq_true_eq]; exact h.lt g (List.mem_of_getElem? hg),?_⟩
     unfold selV
     simp only
     rw [h.ev,hg,← List.getElem?_map,← List.getElem?_map,h1]
   · cases hk
 · cases hk
theorem selL_ok {S : AS} {τ ρ : List L} (h : Ga S τ ρ) {xs : List At} {i : At} {x : Li} (hx : selL S xs i = some x) {y : At} (hy : xs[(i.ev ρ).asI.toNat]? = some y) : ((y.ev ρ).asR.length : Int) = liV τ x := by
 unfold selL at hx
 split at hx
 · rename_i k hk
   obtain ⟨_,h1⟩ := selK_ok h hk
   split at hx
   · rename_i r hr
     have h2 := (h.sm _ (lkS_mem hr)).2.2
     simp only at h2
     rw [h1,hy] at h2
     simp only [Option.map_some,Option.some.injEq] at h2
     rw [h2]
     cases hx
     split
     · rename_i x hl
       exact (h.ll _ (lk_mem hl)).2.2
     · simp only [liV,tm_l]; omega
   · cases hx
 · cases hx
def selN' (S : AS) (xs : List At) (i : At) : Option New :=
 if leL S.fs (0,0) (S.li i) 0 = true ∧ leL S.fs (S.li i) (0,xs.length) (-1) = true then
  match xs.foldl (fun (z : Option (RS × Int)) x => match z,S.rs x,hiL S.fs (S.le x) with
   | some (z,m),some y,some hi => (rsJoin z y).map fun w => (w,imax m hi)
   | _,_,_ => none) (some (none,0)) with
  | some (z,m) => if xs.all (fun x => match S.rs x,hiL S.fs (S.le x) with
    | some y,some hi => rsLe y z && decide (hi ≤ m)
    | _,_ => false) = true then some { fs := [fLe (3 * S.n + 2) (0,0) m,fGe (3 * S.n + 2) (0,0) 0],rw := some z,ll := selL S xs i,sm := selK S xs i } else none
  | none => some {}
 else none
section
variable {S : AS} {τ ρ : List L} (h : Ga S τ ρ)
include h
theorem selN_ok {xs : List At} {i : At} {N : New} (hN : selN' S xs i = some N) : ∃ l,Nd.ev ρ (.sel xs i) = some [l] ∧ N.ok τ l := by
 have hf : ∀ f ∈ S.fs,f.holds τ := fun f hf => h.holds hf
 unfold selN' at hN
 split at hN
 · rename_i hc
   obtain ⟨c1,c2⟩ := hc
   have c1 := leL_ok hf c1
   have c2 := leL_ok hf c2
   have e1 := h.li i
   rw [z0] at c1
   have hlen : liV τ ((0 : Nat),(xs.length : Int)) = xs.length := by simp [liV,tmV_zero]
   rw [hlen] at c2
   have hlt : (i.ev ρ).asI.toNat < xs.length := by omega
   split at hN
   · rename_i z m hz
     split at hN
     · rename_i hall
       cases hN
       have hx := List.all_eq_true.1 hall xs[(i.ev ρ).asI.toNat] (List.getElem_mem hlt)
       have hg : xs[(i.ev ρ).asI.toNat]? = some xs[(i.ev ρ).asI.toNat] := List.getElem?_eq_getElem hlt
       generalize xs[(i.ev ρ).asI.toNat] = x at hx hg
       split at hx
       · rename_i y hi hy hhi
         simp only [Bool.and_eq_true,decide_eq_true_eq] at hx
         have h3 := hiL_ok hf hhi
         have h4 := h.le x
         have hv : tmV (τ ++ [x.ev ρ]) (3 * S.n + 2) = ((x.ev ρ).asR.length : Int) := by rw [← h.n,new_l]
         refine ⟨x.ev ρ,by simp only [Nd.ev,hg],holds_cons (fLe_ok ?_) (holds_cons (fGe_ok ?_) holds_nil),fun w hw => (by cases hw; exact rsLe_ok hx.1 (h.rs hy)),fun _ h => (by cases h),fun _ h => (by cases h),fun _ h => (by cases h),fun w hw => selL_ok h hw hg,fun w hw => by rw [(selK_ok h hw).2,hg]; rfl⟩
         · rw [hv,z0]; omega
         · rw [hv,z0]; omega
       · cases hx
     · cases hN
   · cases hN
     exact ⟨xs[(i.ev ρ).asI.toNat].ev ρ,by simp only [Nd.ev,List.getElem?_eq_getElem hlt],newFs holds_nil⟩
 · cases hN
theorem bsN_ok {op : BinOp} {x y : At} {N : New} (hN : bsN S op x y = some N) : ∃ l,Nd.ev ρ (.bs op x y) = some [l] ∧ N.ok τ l := by
 have hf : ∀ f ∈ S.fs,f.holds τ := fun f hf => h.holds hf
 cases op <;> simp only [bsN] at hN
 case add =>
  split at hN
  · rename_i a b ha hb
    split at hN
    · rename_i ma mb hma hmb
      split at hN
      · rename_i hc
        cases hN
        have h1 := hiL_ok hf hma
        have h2 := hiL_ok hf hmb
        have e1 := h.ls ha
        have e2 := h.ls hb
        have hc2 : (((x.ev ρ).asS.size + (y.ev ρ).asS.size : Nat) : Int) ≤ 9223372036854775807 := by omega
        refine ⟨.s ((x.ev ρ).asS ++ (y.ev ρ).asS),by simp only [Nd.ev,binS,if_pos hc2]; rfl,newFs (addFs_ok hf (liV_append (h.ls_in ha)) (liV_append (h.ls_in hb)) ?_)⟩
        rw [← h.n,new_s]
        show (((x.ev ρ).asS ++ (y.ev ρ).asS).size : Int) = _
        rw [ByteArray.size_append]
        simp only [kWrap]; omega
      · cases hN
    · cases hN
  · cases hN
 all_goals first | (cases hN; done) | (cases hN; exact ⟨_,rfl,newFs holds_nil⟩)
theorem unN_ok {op : UnOp} {k : IntKind} {x : At} {N : New} (hN : unN S op k = some N) : ∃ l,Nd.ev ρ (.un op k x) = some [l] ∧ N.ok τ l := by
 cases op <;> simp only [unN] at hN
 case neg =>
  cases hN
  exact ⟨_,rfl,newFs (kRg_ok (k := some k) (by rw [← h.n,new_i]; rfl))⟩
 case xor =>
  cases hN
  exact ⟨_,rfl,newFs (kRg_ok (k := some k) (by rw [← h.n,new_i]; rfl))⟩
 all_goals cases hN
theorem sidxN_ok {x i : At} {N : New} (hN : sidxN S x i = some N) : ∃ l,Nd.ev ρ (.sidx x i) = some [l] ∧ N.ok τ l := by
 have hf : ∀ f ∈ S.fs,f.holds τ := fun f hf => h.holds hf
 unfold sidxN at hN
 split at hN
 · rename_i y hy
   split at hN
   · rename_i hc
     cases hN
     have c1 := leL_ok hf hc.1
     have c2 := leL_ok hf hc.2
     have e1 := h.li i
     have e2 := h.ls hy
     rw [z0] at c1
     have g1 : 0 ≤ (i.ev ρ).asI := by omega
     have g2 : (i.ev ρ).asI.toNat < (x.ev ρ).asS.size := by omega
     obtain ⟨b,hb⟩ : ∃ b,(x.ev ρ).asS[(i.ev ρ).asI.toNat]? = some b := ⟨_,getElem?_pos (x.ev ρ).asS (i.ev ρ).asI.toNat g2⟩
     have hlt : b.toNat < 256 := b.toNat_lt
     refine ⟨.i b.toNat,by simp only [Nd.ev,if_pos g1,hb],newFs (fRg_ok ?_ ?_)⟩
     · rw [← h.n,new_i]; show (0 : Int) ≤ (b.toNat : Int); omega
     · rw [← h.n,new_i]; show (b.toNat : Int) ≤ 255; omega
   · cases hN
 · cases hN
theorem strN_ok {x : At} {N : New} (hN : strN S x = some N) : ∃ l,Nd.ev ρ (.str x) = some [l] ∧ N.ok τ l := by
 have fin : ∀ b : List Int,byIs (x.ev ρ).asR = some b → b.length = (x.ev ρ).asR.length → N = { fs := fEq (3 * S.n + 3) (S.le x) } → ∃ l,Nd.ev ρ (.str x) = some [l] ∧ N.ok τ l := fun b hb hl hN => by
   subst hN
   refine ⟨.s (strOfNums b),by simp only [Nd.ev,hb]; rfl,newFs (fEq_ok ?_)⟩
   rw [← h.n,new_s,liV_append (h.le_in x),← h.le x,← hl]
   show ((strOfNums b).size : Int) = _
   simp [strOfNums,ByteArray.size]
 unfold strN at hN
 split at hN
 · rename_i hz
   have h0 : (x.ev ρ).asR = [] := h.rs hz
   cases hN
   exact fin [] (by rw [h0]; rfl) (by rw [h0]; rfl) rfl
 · rename_i lo hi hz
   have h0 : AC.rows [.int .u8 lo hi] (x.ev ρ).asR := h.rs hz
   cases hN
   have key : ∀ rows : List (List PV),AC.rows [.int .u8 lo hi] rows → ∃ b,byIs rows = some b ∧ b.length = rows.length := by
    intro rows
    induction rows with
    | nil => exact fun _ => ⟨[],rfl,rfl⟩
    | cons r rows ih =>
     intro hr
     obtain ⟨b,hb,hl⟩ := ih fun q hq => hr q (List.mem_cons_of_mem _ hq)
     have h1 := hr r List.mem_cons_self
     cases r with
     | nil => cases h1
     | cons q r =>
      cases r with
      | cons => cases h1.2
      | nil =>
       obtain ⟨n,rfl,_,_⟩ := h1.1
       refine ⟨n :: b,?_,by simp [hl]⟩
       unfold byIs at hb ⊢
       simp [List.mapM_cons,byI,hb]
   obtain ⟨b,h1,h2⟩ := key _ h0
   exact fin b h1 h2 rfl
 · cases hN
end
def News.ok (τ : List L) : List New → List L → Prop
 | [],[] => True
 | N :: Ns,l :: ls => N.ok τ l ∧ News.ok (τ ++ [l]) Ns ls
 | _,_ => False
def AS.pushL (S : AS) : List New → Option AS
 | [] => some S
 | N :: Ns => (S.push N).bind fun S' => S'.pushL Ns
theorem Ga.pushL : ∀ {Ns : List New} {S S' : AS} {τ ρ ls : List L},Ga S τ ρ → S.pushL Ns = some S' → News.ok τ Ns ls → Ga S' (τ ++ ls) (ρ ++ ls)
 | [],S,S',τ,ρ,[],h,hp,_ => by cases hp; simpa using h
 | N :: Ns,S,S',τ,ρ,l :: ls,h,hp,hN => by
  simp only [AS.pushL,Option.bind_eq_some_iff] at hp
  obtain ⟨S1,h1,h2⟩ := hp
  have := Ga.pushL (h.push h1 hN.1) h2 hN.2
  simpa using this
 | [],_,_,_,_,_ :: _,_,_,h => by cases h
 | _ :: _,_,_,_,_,[],_,_,h => by cases h
def one (x : Option New) : Option (List New) := x.map fun N => [N]
def ndN (S : AS) : Nd → Option (List New)
 | .bi op k x y => one (biN S op k (S.li x) (S.li y))
 | .bs op x y => one (bsN S op x y)
 | .bb op _ _ => one (bbN op)
 | .not x => one (notN S x)
 | .un op k _ => one (unN S op k)
 | .conv k x => one (convN S k x)
 | .len x => one (lenN S x)
 | .slen x => one (slenN S x)
 | .row x i size => one (rowN S x i size)
 | .rc x i j k => one (rcN S x i j k)
 | .cl x j k => one (clN S x j k)
 | .bnd i cnt => if leL S.fs (0,0) (S.li i) 0 = true ∧ leL S.fs (S.li i) (0,cnt) (-1) = true then some [] else none
 | .sel xs i => one (selN' S xs i)
 | .part x lo hi size => one (partN S x lo hi size)
 | .cut x lo hi size => one (cutN S x lo hi size)
 | .vw x lo ln => one (vwN S x lo ln)
 | .tk x ln => one (tkN S x ln)
 | .app x y n b => one (appN S x y n b)
 | .set x i j ps => one (setN S x i j ps)
 | .lit rows => one (litN S rows)
 | .rep n ps b => one (repN S n ps b)
 | .str x => one (strN S x)
 | .sidx x i => one (sidxN S x i)
 | .mn x y => one (mnN S x y)
 | .mx x y => one (mxN S x y)
 | _ => none
theorem one_ok {τ ρ : List L} {x : Option New} {Ns : List New} {nd : Nd} (hN : one x = some Ns) (h : ∀ N,x = some N → ∃ l,nd.ev ρ = some [l] ∧ N.ok τ l) : ∃ ls,nd.ev ρ = some ls ∧ News.ok τ Ns ls := by
 simp only [one,Option.map_eq_some_iff] at hN
 obtain ⟨N,h1,rfl⟩ := hN
 obtain ⟨l,h2,h3⟩ := h N h1
 exact ⟨[l],h2,h3,trivial⟩
theorem ndN_ok {S : AS} {τ ρ : List L} (h : Ga S τ ρ) {nd : Nd} {Ns : List New} (hN : ndN S nd = some Ns) : ∃ ls,nd.ev ρ = some ls ∧ News.ok τ Ns ls := by
 cases nd <;> simp only [ndN] at hN
 case bi op k x y =>
  refine one_ok hN fun N hx => ?_
  obtain ⟨l,h1,h2⟩ := biN_ok h (h.li_in x) (h.li_in y) hx
  exact ⟨l,by simp only [Nd.ev,h.li x,h.li y,h1]; rfl,h2⟩
 case bs op x y => exact one_ok hN fun N hx => bsN_ok h hx
 case bb op x y =>
  refine one_ok hN fun N hx => ?_
  cases op <;> simp only [bbN] at hx <;> first | (cases hx; done) | (cases hx; exact ⟨_,rfl,newFs holds_nil⟩)
 case not x => exact one_ok hN fun N hx => notN_ok h hx
 case un op k x => exact one_ok hN fun N hx => unN_ok h hx
 case conv k x => exact one_ok hN fun N hx => convN_ok h hx
 case len x => exact one_ok hN fun N hx => lenN_ok h hx
 case slen x => exact one_ok hN fun N hx => slenN_ok h hx
 case row x i size => exact one_ok hN fun N hx => rowN_ok h hx
 case rc x i j k => exact one_ok hN fun N hx => rcN_ok h hx
 case cl x j k => exact one_ok hN fun N hx => clN_ok h hx
 case bnd i cnt =>
  split at hN
  · rename_i hc
    cases hN
    have hf : ∀ f ∈ S.fs,f.holds τ := fun f hf => h.holds hf
    have c1 := leL_ok hf hc.1
    have c2 := leL_ok hf hc.2
    have e1 := h.li i
    have hc0 : liV τ ((0 : Nat),(cnt : Int)) = cnt := by simp [liV,tmV_zero]
    rw [z0] at c1
    rw [hc0] at c2
    have g1 : 0 ≤ (i.ev ρ).asI := by omega
    have g2 : (i.ev ρ).asI < cnt := by omega
    exact ⟨[],by simp only [Nd.ev,if_pos (And.intro g1 g2)],trivial⟩
  · cases hN
 case sel xs i => exact one_ok hN fun N hx => selN_ok h hx
 case part x lo hi size => exact one_ok hN fun N hx => partN_ok h hx
 case cut x lo hi size => exact one_ok hN fun N hx => cutN_ok h hx
 case vw x lo ln => exact one_ok hN fun N hx => vwN_ok h hx
 case tk x ln => exact one_ok hN fun N hx => tkN_ok h hx
 case app x y n b => exact one_ok hN fun N hx => appN_ok h hx
 case set x i j ps => exact one_ok hN fun N hx => setN_ok h hx
 case lit rows => exact one_ok hN fun N hx => litN_ok h hx
 case rep n ps b => exact one_ok hN fun N hx => repN_ok h hx
 case str x => exact one_ok hN fun N hx => strN_ok h hx
 case sidx x i => exact one_ok hN fun N hx => sidxN_ok h hx
 case mn x y => exact one_ok hN fun N hx => mnN_ok h hx
 case mx x y => exact one_ok hN fun N hx => mxN_ok h hx
 all_goals cases hN
end AI
end
end Go.Proofs.YtndegphojkiblaaGreatDoor
