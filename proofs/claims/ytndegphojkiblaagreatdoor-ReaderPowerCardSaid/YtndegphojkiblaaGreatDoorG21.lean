/- Towards the last file's theorem: part 21. -/
import Derived.Test.YtndegphojkiblaaGreatDoorG20
set_option linter.unusedSimpArgs false
set_option linter.unusedVariables false
namespace Go.Proofs.YtndegphojkiblaaGreatDoor
section
open Go.RowKit
namespace AI
structure Inv where
 sp : List Nat
 ts : List Tell
 t : Nat
 up : Bool
 b : Nat
 c : Int
deriving Inhabited
inductive Ann where
 | e
 | b (x y : Ann)
 | j (sp : List Nat) (ts : List Tell) (x y : Ann)
 | l (i : Inv) (x : Ann)
deriving Inhabited
def Ann.fst : Ann → Ann
 | .b x _ => x
 | .j _ _ x _ => x
 | _ => .e
def Ann.snd : Ann → Ann
 | .b _ y => y
 | .j _ _ _ y => y
 | _ => .e
def Ann.tells : Ann → Option (List Nat × List Tell)
 | .j sp ts _ _ => some (sp,ts)
 | _ => none
structure Lv where
 k : Nat
 S : AS
 xs : List At
deriving Inhabited
def flatM {α β : Type} (f : α → Option (List β)) : List α → Option (List β)
 | [] => some []
 | x :: r => match f x,flatM f r with
  | some a,some b => some (a ++ b)
  | _,_ => none
theorem flatM_ok {α β : Type} {f : α → Option (List β)} : ∀ {l : List α} {ys : List β} {x : α},flatM f l = some ys → x ∈ l → ∃ zs,f x = some zs ∧ ∀ z ∈ zs,z ∈ ys
 | a :: l,ys,x,h,hx => by
  simp only [flatM] at h
  split at h
  · rename_i p q h1 h2
    cases h
    rcases List.mem_cons.1 hx with rfl | hx
    · exact ⟨p,h1,fun z hz => List.mem_append_left _ hz⟩
    · obtain ⟨zs,h3,h4⟩ := flatM_ok h2 hx
      exact ⟨zs,h3,fun z hz => List.mem_append_right _ (h4 z hz)⟩
  · cases h
def atoms (n : Nat) : List At := (List.range n).map At.v
def atG (n : Nat) (xs : List At) (p : Nat) : Option At := cond (Nat.blt p n) (some (.v p)) xs[p - n]?
theorem atG_eq (n : Nat) (xs : List At) (p : Nat) : (atoms n ++ xs)[p]? = atG n xs p := by
 unfold atG atoms
 cases h : Nat.blt p n with
 | true =>
  have h : p < n := by simpa [Nat.blt_eq] using h
  rw [List.getElem?_append_left (by simpa using h)]
  simp [h]
 | false =>
  have h : ¬ p < n := by
   intro hh
   have : Nat.blt p n = true := by simpa [Nat.blt_eq] using hh
   rw [h] at this; cases this
  rw [List.getElem?_append_right (by simp; omega)]
  simp
def AS.trA (S : AS) (n : Nat) (xs : List At) (t : Nat) : Option Li := match t with
 | 0 => some (0,0)
 | t + 1 => match atG n xs (t / 3) with
  | none => some (0,0)
  | some x => match t % 3 with
   | 0 => some (S.li x)
   | 1 => some (S.le x)
   | _ => S.ls x
theorem trA_eq (S : AS) (n : Nat) (xs : List At) (t : Nat) : S.trA n xs t = S.tr (atoms n ++ xs) t := by
 cases t with
 | zero => rfl
 | succ t =>
  simp only [AS.trA,AS.tr,atG_eq]
  cases atG n xs (t / 3) with
  | none => rfl
  | some x =>
   simp only
   split
   · rename_i h; rw [if_pos h]
   · rename_i h; rw [if_neg (by omega),if_pos h]
   · rename_i h1 h2; rw [if_neg h1,if_neg h2]
def AS.gidsA (S : AS) (n : Nat) (xs : List At) : List Nat → Option (List Nat)
 | [] => some []
 | p :: ps => match atG n xs p with
  | some (.v i) => match S.env[i]?,S.gidsA n xs ps with
   | some g,some gs => some (g :: gs)
   | _,_ => none
  | _ => none
theorem gidsA_eq (S : AS) (n : Nat) (xs : List At) : ∀ ps : List Nat,S.gidsA n xs ps = S.gids (atoms n ++ xs) ps
 | [] => rfl
 | p :: ps => by simp only [AS.gidsA,AS.gids,atG_eq,gidsA_eq S n xs ps]; rfl
def AS.chkA (S : AS) (n : Nat) (xs : List At) (T : Tell) : Bool :=
 T.fs.all (fun f => match S.trA n xs f.a,S.trA n xs f.b with
  | some x,some y => leL S.fs x y f.c
  | _,_ => false) &&
 T.rw.all (fun x => match atG n xs x.1 with
  | some y => match S.rs y with
   | some z => rsLe z x.2
   | none => (match S.bo y with | _ => false)
  | none => false) &&
 T.bs.all (fun x => match atG n xs x.1 with
  | some y => match S.bo y with
   | some (.con b) => b == x.2
   | _ => false
  | none => false) &&
 T.pr.all (fun x => match S.gidsA n xs x.2 with
  | some gs => hasP x.1 gs S.pr
  | none => false)
theorem chkA_eq (S : AS) (n : Nat) (xs : List At) (T : Tell) : S.chkA n xs T = S.chk (atoms n ++ xs) T := by
 simp only [AS.chkA,AS.chk,trA_eq,atG_eq,gidsA_eq]; rfl
def mapO {α β : Type} (f : α → Option β) : List α → Option (List β)
 | [] => some []
 | x :: l => match f x with
  | some y => match mapO f l with
   | some r => some (y :: r)
   | none => none
  | none => none
theorem mapO_eq {α β : Type} (f : α → Option β) : ∀ l : List α,mapO f l = l.mapM f
 | [] => rfl
 | x :: l => by
  simp only [mapO,List.mapM_cons,mapO_eq f l]
  cases f x with
  | none => rfl
  | some y => cases l.mapM f <;> rfl
def AS.extA (S : AS) (k m : Nat) (T : Tell) : Option AS :=
 let tr := fun t => match t with
  | 0 => some ((0,0) : Li)
  | t + 1 => if t / 3 < k then S.trA k [] (t + 1) else some (3 * (S.n + (t / 3 - k)) + t % 3 + 1,0)
 let fs := mapO (fun f => match tr f.a,tr f.b with
  | some x,some y => some (fLi x y f.c)
  | _,_ => none) T.fs
 let ps := fun p => if p < k then match atG k [] p with
   | some (.v i) => S.env[i]?
   | _ => none
  else if p < k + m then some (S.n + (p - k)) else none
 let psL := fun (l : List Nat) => mapO ps l
 match fs with
 | some fs => if fs.all (Fa.in (S.n + m)) = true then some ⟨S.env ++ (List.range m).map (S.n + ·),S.n + m,fs ++ S.fs,(T.rw.filterMap fun x => (ps x.1).map fun g => (g,x.2)) ++ S.rw,S.cl,(T.bs.filterMap fun x => (ps x.1).map fun g => (g,.con x.2)) ++ S.bd,S.al,S.ll,S.sm,(T.pr.filterMap fun x => (psL x.2).map fun gs => (x.1,gs)) ++ S.pr⟩ else none
 | none => none
theorem extA_eq (S : AS) (n m : Nat) (T : Tell) : S.extA n m T = S.ext (atoms n) m T := by
 have h : ∀ p,(atoms n)[p]? = atG n [] p := fun p => by rw [← atG_eq,List.append_nil]
 have h2 : ∀ t,S.trA n [] t = S.tr (atoms n) t := fun t => by rw [trA_eq,List.append_nil]
 have h3 : (atoms n).length = n := by simp [atoms]
 unfold AS.extA AS.ext
 simp only [mapO_eq,h,h2,h3]
 rfl
def AS.hide (S : AS) (N : New) : Option AS := (S.push N).map fun S' => { S' with env := S.env }
theorem Ga.hide {S S' : AS} {τ ρ : List L} (h : Ga S τ ρ) {N : New} {l : L} (hp : S.hide N = some S') (hN : N.ok τ l) : Ga S' (τ ++ [l]) ρ ∧ S'.env = S.env := by
 simp only [AS.hide,Option.map_eq_some_iff] at hp
 obtain ⟨S1,h1,rfl⟩ := hp
 have k := h.push h1 hN
 have hn : S1.n = S.n + 1 := by
   unfold AS.push at h1
   split at h1
   · injection h1 with h1; subst h1; rfl
   · exact absurd h1 (by simp)
 refine ⟨⟨k.n,?_,fun g hg => ?_,k.fs,k.rw,k.cl,k.bd,k.al,k.ll,k.sm,k.pr⟩,rfl⟩
 · rw [h.env]
   exact List.map_congr_left fun g hg => (at_append (by rw [h.n]; exact h.lt g hg)).symm
 · have := h.lt g hg
   show g < S1.n
   omega
def AS.names (S : AS) : List At → Option (List Nat × AS)
 | [] => some ([],S)
 | x :: xs => match x with
  | .v i => match S.env[i]? with
   | some g => (S.names xs).map fun y => (g :: y.1,y.2)
   | none => none
  | .i c => (S.hide { al := some (0,c) }).bind fun S' => (S'.names xs).map fun y => (S.n :: y.1,y.2)
  | .b t => (S.hide { bd := some (.con t) }).bind fun S' => (S'.names xs).map fun y => (S.n :: y.1,y.2)
  | .s x => (S.hide { fs := fEq (3 * S.n + 3) (0,x.size) }).bind fun S' => (S'.names xs).map fun y => (S.n :: y.1,y.2)
  | .r0 => (S.hide { rw := some none,ll := some (0,0) }).bind fun S' => (S'.names xs).map fun y => (S.n :: y.1,y.2)
def AS.roots (S : AS) (g : Nat) : List Nat :=
 (match lk S.al g with | some x => x.1 | none => 3 * g + 1) :: (match lk S.ll g with | some x => x.1 | none => 3 * g + 2) :: (3 * g + 3) :: (match lk S.bd g with | some (.cmp _ x y _) => [x.1,y.1] | _ => [])
def hasN : List Nat → Nat → Bool
 | [],_ => false
 | x :: r,t => cond (Nat.beq x t) true (hasN r t)
def AS.gc (S : AS) (n0 : Nat) (gs : List Nat) : AS :=
 let ks := gs.flatMap S.roots
 let kt := fun t => Nat.ble t (3 * n0) || hasN ks t
 let kn := fun g => Nat.blt g n0 || hasN gs g
 { S with fs := S.fs.filter fun f => kt f.a && kt f.b,rw := S.rw.filter fun x => kn x.1,cl := S.cl.filter fun x => kn x.1,bd := S.bd.filter fun x => kn x.1,al := S.al.filter fun x => kn x.1,ll := S.ll.filter fun x => kn x.1,sm := S.sm.filter fun x => kn x.2,pr := S.pr.filter fun x => x.2.all kn }
theorem Ga.gc {S : AS} {τ ρ : List L} (h : Ga S τ ρ) (n0 : Nat) (gs : List Nat) : Ga (S.gc n0 gs) τ ρ :=
 ⟨h.n,h.env,h.lt,fun f hf => h.fs f (List.mem_filter.1 hf).1,fun x hx => h.rw x (List.mem_filter.1 hx).1,fun x hx => h.cl x (List.mem_filter.1 hx).1,fun x hx => h.bd x (List.mem_filter.1 hx).1,fun x hx => h.al x (List.mem_filter.1 hx).1,fun x hx => h.ll x (List.mem_filter.1 hx).1,fun x hx => h.sm x (List.mem_filter.1 hx).1,fun x hx => h.pr x (List.mem_filter.1 hx).1⟩
def AS.meet (S : AS) (n n0 : Nat) (xs : List At) : Option AS := (S.names xs).map fun y => ({ y.2 with env := S.env.take n ++ y.1 } : AS).gc n0 y.1
theorem names_ok : ∀ {xs : List At} {S S' : AS} {τ ρ : List L} {gs : List Nat},Ga S τ ρ → S.names xs = some (gs,S') → ∃ zs,Ga S' (τ ++ zs) ρ ∧ S'.env = S.env ∧ (∀ g ∈ gs,g < S'.n) ∧ gs.map (at' (τ ++ zs)) = xs.map (At.ev ρ)
 | [],S,S',τ,ρ,gs,h,hn => by
  cases hn
  exact ⟨[],by simpa using h,rfl,fun g hg => (by cases hg),rfl⟩
 | x :: xs,S,S',τ,ρ,gs,h,hn => by
  have step : ∀ (N : New) (l : L),N.ok τ l → x.ev ρ = l → ((S.hide N).bind fun S' => (S'.names xs).map fun y => (S.n :: y.1,y.2)) = some (gs,S') → ∃ zs,Ga S' (τ ++ zs) ρ ∧ S'.env = S.env ∧ (∀ g ∈ gs,g < S'.n) ∧ gs.map (at' (τ ++ zs)) = (x :: xs).map (At.ev ρ) := fun N l hN hl hb => by
   simp only [Option.bind_eq_some_iff,Option.map_eq_some_iff] at hb
   obtain ⟨S1,h1,y,h2,h3⟩ := hb
   cases h3
   obtain ⟨g1,g2⟩ := h.hide h1 hN
   obtain ⟨zs,k1,k0,k2,k3⟩ := names_ok g1 h2
   refine ⟨l :: zs,by simpa using k1,k0.trans g2,fun g hg => ?_,?_⟩
   · rcases List.mem_cons.1 hg with rfl | hg
     · have := k1.n
       simp only [List.length_append,List.length_singleton] at this
       have := h.n; omega
     · exact k2 g hg
   · simp only [List.map_cons]
     have e1 : at' (τ ++ (l :: zs)) S.n = l := by
       rw [show τ ++ (l :: zs) = (τ ++ [l]) ++ zs by simp,at_append (by have := h.n; simp only [List.length_append,List.length_singleton]; omega),← h.n]; exact at_new τ l
     rw [e1,hl]
     congr 1
     rw [show τ ++ (l :: zs) = (τ ++ [l]) ++ zs by simp,k3]
  cases x with
  | v i =>
   simp only [AS.names] at hn
   cases hg : S.env[i]? with
   | none => rw [hg] at hn; cases hn
   | some g =>
     rw [hg] at hn
     simp only [Option.map_eq_some_iff] at hn
     obtain ⟨y,h2,h3⟩ := hn
     cases h3
     obtain ⟨zs,k1,k0,k2,k3⟩ := names_ok h h2
     have hlt := h.lt g (List.mem_of_getElem? hg)
     refine ⟨zs,k1,k0,fun g' hg' => ?_,?_⟩
     · rcases List.mem_cons.1 hg' with rfl | hg'
       · have q := k1.n; have := h.n; simp only [List.length_append] at q; omega
       · exact k2 g' hg'
     · simp only [List.map_cons,k3]
       rw [at_append (by rw [h.n]; exact hlt),h.ev,hg]
  | i c => exact step { al := some (0,c) } (.i c) (newAl (by simp [liV,tmV_zero,L.asI])) rfl hn
  | b t => exact step { bd := some (.con t) } (.b t) (newBd (b := .con t) rfl) rfl hn
  | s x => exact step { fs := fEq (3 * S.n + 3) (0,x.size) } (.s x) (newFs (fEq_ok (by rw [← h.n,new_s]; simp [liV,tmV_zero,L.asS]))) rfl hn
  | r0 => exact step { rw := some none,ll := some (0,0) } (.r []) (newRl (z := none) holds_nil rfl fun y hy => oEq (by simp [liV,tmV_zero,L.asR]) hy) rfl hn
theorem meet_ok {S S' : AS} {τ ρ : List L} {n n0 : Nat} {xs : List At} (h : Ga S τ ρ) (hm : S.meet n n0 xs = some S') : ∃ zs,Ga S' (τ ++ zs) (ρ.take n ++ xs.map (At.ev ρ)) := by
 simp only [AS.meet,Option.map_eq_some_iff] at hm
 obtain ⟨⟨gs,S1⟩,h1,rfl⟩ := hm
 obtain ⟨zs,k1,k0,k2,k3⟩ := names_ok h h1
 refine ⟨zs,Ga.gc ?_ n0 gs⟩
 refine ⟨k1.n,?_,fun g hg => ?_,k1.fs,k1.rw,k1.cl,k1.bd,k1.al,k1.ll,k1.sm,k1.pr⟩
 · rw [List.map_append,k3]
   congr 1
   conv => lhs; rw [k1.env]
   rw [k0,← List.map_take]
 · rcases List.mem_append.1 hg with hg | hg
   · exact k1.lt g (by rw [k0]; exact List.mem_of_mem_take hg)
   · exact k2 g hg
def rankOk (i : Inv) (fs : List Fa) (cur nxt b : Li) : Bool := match i.up with
 | true => leL fs cur nxt (-1) && leL fs cur b i.c
 | false => leL fs nxt cur (-1) && leL fs b cur (-i.c)
theorem atoms_ev {n : Nat} {ρ ρ' ys : List L} (hp : ρ' = ρ ++ ys) (hn : n = ρ.length) : (atoms n).map (At.ev ρ') = ρ := by
 subst hp; subst hn
 apply List.ext_getElem?
 intro j
 simp only [atoms,List.map_map,List.getElem?_map]
 by_cases hj : j < ρ.length
 · rw [List.getElem?_range hj,List.getElem?_eq_getElem hj]
   simp [At.ev,List.getElem?_append_left hj,hj]
 · rw [List.getElem?_eq_none (by simp; omega),List.getElem?_eq_none (by omega)]; rfl
def postOk (s : Summ) (xs : List At) : List Nat → AS → Bool
 | [],S => xs.length == s.nout && s.cases.any fun T => S.chkA s.nin xs T
 | j :: r,S => match xs[j]? with
  | some x => (match S.assume x true with | some S1 => postOk s xs r S1 | none => true) && (match S.assume x false with | some S1 => postOk s xs r S1 | none => true)
  | none => false
theorem postOk_ok {s : Summ} {xs : List At} {ls ys : List L} (hl : ls.length = s.nin) {τ : List L} : ∀ {r : List Nat} {S : AS},Ga S τ (ls ++ ys) → postOk s xs r S = true → xs.length = s.nout ∧ ∃ T ∈ s.cases,T.ok (ls ++ xs.map (At.ev (ls ++ ys)))
 | [],S,h,hp => by
  simp only [postOk,Bool.and_eq_true,List.any_eq_true] at hp
  obtain ⟨h1,T,h2,h3⟩ := hp
  refine ⟨eq_of_beq h1,T,h2,?_⟩
  rw [chkA_eq] at h3
  have := h.chk h3
  rw [List.map_append,atoms_ev (ys := ys) rfl hl.symm] at this
  exact this
 | j :: r,S,h,hp => by
  simp only [postOk] at hp
  split at hp
  · rename_i x hx
    simp only [Bool.and_eq_true] at hp
    cases ht : (x.ev (ls ++ ys)).asB with
    | true =>
     obtain ⟨S1,h1,_,h2⟩ := h.assume ht
     have hp := hp.1
     rw [h1] at hp
     exact postOk_ok hl h2 hp
    | false =>
     obtain ⟨S1,h1,_,h2⟩ := h.assume ht
     have hp := hp.2
     rw [h1] at hp
     exact postOk_ok hl h2 hp
  · cases hp
def lvM (lvs : List Lv) : Nat := match lvs.find? fun lv => lv.k == 0 with
 | some lv => lv.xs.length
 | none => 0
def aexec (tb : Nat → Option Summ) : Fir → Ann → AS → Option (List Lv)
 | .leaf (.jump k xs),_,S => some [⟨k,S,xs⟩]
 | .leaf (.st _ _),_,_ => none
 | .op nd k,a,S => match nd with
  | .call t _ args n us => match tb t with
   | some s => match callN S s args n us with
    | some Ss => flatM (aexec tb k a) Ss
    | none => none
   | none => none
  | nd => match ndN S nd with
   | some Ns => match S.pushL Ns with
    | some S' => aexec tb k a S'
    | none => none
   | none => none
 | .ite c x y,a,S =>
  match (match S.assume c true with | some S1 => aexec tb x a.fst S1 | none => some []),(match S.assume c false with | some S1 => aexec tb y a.snd S1 | none => some []) with
  | some p,some q => some (p ++ q)
  | _,_ => none
 | .join x y,a,S => match aexec tb x a.fst S with
  | some lvs => match a.tells with
   | none => flatM (fun lv => match lv.k with
    | 0 => match lv.S.meet S.env.length S.n lv.xs with
     | some S' => aexec tb y a.snd S'
     | none => none
    | k + 1 => some [⟨k,lv.S,lv.xs⟩]) lvs
   | some (sp,ts) =>
    match flatM (fun lv => match lv.k with
     | 0 => if postOk ⟨S.env.length,lvM lvs,{},ts⟩ lv.xs sp lv.S = true then some [] else none
     | k + 1 => some [⟨k,lv.S,lv.xs⟩]) lvs,flatM (fun T => match S.extA S.env.length (lvM lvs) T with
      | some S' => aexec tb y a.snd S'
      | none => none) ts with
    | some p,some q => some (p ++ q)
    | _,_ => none
  | none => none
 | .loop init body,a,S => match a with
  | .l i a =>
   let n := S.env.length
   if postOk ⟨n,init.length,{},i.ts⟩ init i.sp S = true then flatM (fun T => match S.extA n init.length T with
    | some S1 => match aexec tb body a S1 with
     | some lvs => flatM (fun lv => match lv.k with
      | 0 => match lv.S.trA (n + init.length) [] i.t,lv.S.trA n lv.xs i.t,lv.S.trA n [] i.b with
       | some cur,some nxt,some b => if postOk ⟨n,init.length,{},i.ts⟩ lv.xs i.sp lv.S = true ∧ rankOk i lv.S.fs cur nxt b = true then some [] else none
       | _,_,_ => none
      | k + 1 => some [⟨k,lv.S,lv.xs⟩]) lvs
     | none => none
    | none => none) i.ts
   else none
  | _ => none
def CallsOk (tb : Nat → Option Summ) : Fir → Prop
 | .leaf _ => True
 | .op nd k => (match nd with | .call t F _ _ _ => ∀ s,tb t = some s → s.ok F | _ => True) ∧ CallsOk tb k
 | .ite _ x y => CallsOk tb x ∧ CallsOk tb y
 | .join x y => CallsOk tb x ∧ CallsOk tb y
 | .loop _ y => CallsOk tb y
def LvOk (τ : List L) (lvs : List Lv) (x : Lf) (ρ' : List L) : Prop := ∃ lv ∈ lvs,x = .jump lv.k lv.xs ∧ ∃ zs,Ga lv.S (τ ++ zs) ρ'
theorem den_pre : ∀ (f : Fir) {ρ ρ' : List L} {x : Lf},f.den ρ = some (x,ρ') → ∃ ys,ρ' = ρ ++ ys
 | .leaf x,ρ,ρ',y,h => by cases h; exact ⟨[],by simp⟩
 | .op nd k,ρ,ρ',y,h => by
  simp only [Fir.den] at h
  split at h
  · obtain ⟨ys,h1⟩ := den_pre k h
    exact ⟨_,by rw [h1,List.append_assoc]⟩
  · cases h
 | .ite c a b,ρ,ρ',y,h => by
  simp only [Fir.den] at h
  split at h
  · exact den_pre a h
  · exact den_pre b h
 | .join a b,ρ,ρ',y,h => by
  simp only [Fir.den] at h
  split at h
  · obtain ⟨ys,h1⟩ := den_pre b h
    exact ⟨_,by rw [h1,List.append_assoc]⟩
  · rename_i hb
    cases h
    exact den_pre a hb
  · exact den_pre a h
 | .loop init body,ρ,ρ',y,h => by
  simp only [Fir.den] at h
  obtain ⟨n,hn⟩ := iterO_some h
  generalize init.map (At.ev ρ) = a at hn
  induction n generalizing a with
  | zero => cases hn
  | succ n ih =>
    simp only [iterN] at hn
    split at hn
    · exact ih _ hn
    · rename_i r hr
      cases hn
      simp only [loopStep] at hr
      split at hr
      · cases hr
      · rename_i hb; cases hr; obtain ⟨ys,h1⟩ := den_pre body hb; exact ⟨a ++ ys,by rw [h1,List.append_assoc]⟩
      · rename_i hb; cases hr; obtain ⟨ys,h1⟩ := den_pre body hb; exact ⟨a ++ ys,by rw [h1,List.append_assoc]⟩
      · cases hr
    · cases hn
theorem aexec_ok {tb : Nat → Option Summ} : ∀ (f : Fir) {a : Ann} {S : AS} {τ ρ : List L} {lvs : List Lv},Ga S τ ρ → CallsOk tb f → aexec tb f a S = some lvs → ∃ x ρ',f.den ρ = some (x,ρ') ∧ LvOk τ lvs x ρ'
 | .leaf x,a,S,τ,ρ,lvs,h,_,he => by
  cases x with
  | st => cases he
  | jump k xs => cases he; exact ⟨_,_,rfl,_,List.mem_singleton.2 rfl,rfl,[],by simpa using h⟩
 | .op nd k,a,S,τ,ρ,lvs,h,hc,he => by
  have ext : ∀ (ls : List L) (S' : AS) (lvs' : List Lv),nd.ev ρ = some ls → Ga S' (τ ++ ls) (ρ ++ ls) → aexec tb k a S' = some lvs' → (∀ z ∈ lvs',z ∈ lvs) → ∃ x ρ',(Fir.op nd k).den ρ = some (x,ρ') ∧ LvOk τ lvs x ρ' := fun ls S' lvs' h1 h2 h3 h4 => by
    obtain ⟨x,ρ',q1,lv,q2,q3,zs,q4⟩ := aexec_ok k h2 hc.2 h3
    exact ⟨x,ρ',by rw [Fir.den,h1]; exact q1,lv,h4 lv q2,q3,ls ++ zs,by rw [← List.append_assoc]; exact q4⟩
  have plain : (match ndN S nd with | some Ns => (match S.pushL Ns with | some S' => aexec tb k a S' | none => none) | none => none) = some lvs → ∃ x ρ',(Fir.op nd k).den ρ = some (x,ρ') ∧ LvOk τ lvs x ρ' := fun he => by
    split at he
    · rename_i Ns hN
      split at he
      · rename_i S' hS
        obtain ⟨ls,h1,h2⟩ := ndN_ok h hN
        exact ext ls S' lvs h1 (h.pushL hS h2) he fun z hz => hz
      · cases he
    · cases he
  cases nd with
  | call t F args n us =>
    simp only [aexec] at he
    split at he
    · rename_i s hs
      split at he
      · rename_i Ss hSs
        obtain ⟨o,h1,S',h2,h3⟩ := callN_ok h (hc.1 s hs) (tag := t) hSs
        obtain ⟨zs,h4,h5⟩ := flatM_ok he h2
        exact ext o S' zs h1 h3 h4 h5
      · cases he
    · cases he
  | _ => exact plain he
 | .ite c x y,a,S,τ,ρ,lvs,h,hc,he => by
  simp only [aexec] at he
  split at he
  · rename_i p q hp hq
    cases he
    cases ht : (c.ev ρ).asB with
    | true =>
      obtain ⟨S1,h1,_,h2⟩ := h.assume ht
      rw [h1] at hp
      obtain ⟨x1,ρ',q1,lv,q2,q3⟩ := aexec_ok x h2 hc.1 hp
      exact ⟨x1,ρ',by rw [Fir.den,ht]; exact q1,lv,List.mem_append_left _ q2,q3⟩
    | false =>
      obtain ⟨S1,h1,_,h2⟩ := h.assume ht
      rw [h1] at hq
      obtain ⟨x1,ρ',q1,lv,q2,q3⟩ := aexec_ok y h2 hc.2 hq
      exact ⟨x1,ρ',by rw [Fir.den,ht]; exact q1,lv,List.mem_append_right _ q2,q3⟩
  · cases he
 | .join x y,a,S,τ,ρ,lvs,h,hc,he => by
  simp only [aexec,extA_eq] at he
  split at he
  · rename_i ls hls
    obtain ⟨x1,ρ1,q1,lv,q2,q3,zs,q4⟩ := aexec_ok x h hc.1 hls
    subst q3
    obtain ⟨ys,hpre⟩ := den_pre x q1
    split at he
    rotate_left
    · rename_i sp ts hts
      split at he
      · rename_i p q hp hq
        cases he
        obtain ⟨ws,h4,h5⟩ := flatM_ok hp q2
        obtain ⟨k,S1,xs⟩ := lv
        have hlen : S.env.length = ρ.length := by rw [h.env]; simp
        have ev0 : (atoms S.env.length).map (At.ev ρ) = ρ := atoms_ev (ys := []) (by simp) hlen
        cases k with
        | zero =>
          simp only at h4 q4 q1
          split at h4
          · rename_i hpo
            subst hpre
            obtain ⟨g1,T,g2,g3⟩ := postOk_ok (ls := ρ) (ys := ys) hlen.symm q4 hpo
            obtain ⟨us,h6,h7⟩ := flatM_ok hq g2
            split at h6
            · rename_i S' hS'
              have g4 := h.ext hS' (o := xs.map (At.ev (ρ ++ ys))) (by simpa using g1) (by rw [ev0]; exact g3)
              obtain ⟨x2,ρ2,r1,lv2,r2,r3,zs2,r4⟩ := aexec_ok y g4 hc.2 h6
              refine ⟨x2,ρ2,?_,lv2,List.mem_append_right _ (h7 _ r2),r3,xs.map (At.ev (ρ ++ ys)) ++ zs2,by rw [← List.append_assoc]; exact r4⟩
              rw [Fir.den,q1]; exact r1
            · cases h6
          · cases h4
        | succ k =>
          simp only at h4
          cases h4
          exact ⟨_,_,by rw [Fir.den,q1],_,List.mem_append_left _ (h5 _ (List.mem_singleton.2 rfl)),rfl,zs,q4⟩
      · cases he
    obtain ⟨ws,h4,h5⟩ := flatM_ok he q2
    obtain ⟨k,S1,xs⟩ := lv
    cases k with
    | zero =>
      simp only at h4 q4 q1
      split at h4
      · rename_i S' hS'
        obtain ⟨zs',h6⟩ := meet_ok q4 hS'
        have hlen : S.env.length = ρ.length := by rw [h.env]; simp
        rw [hpre,hlen,List.take_left,← hpre] at h6
        obtain ⟨x2,ρ2,r1,lv2,r2,r3,zs2,r4⟩ := aexec_ok y h6 hc.2 h4
        exact ⟨x2,ρ2,by rw [Fir.den,q1]; exact r1,lv2,h5 _ r2,r3,zs ++ zs' ++ zs2,by simpa using r4⟩
      · cases h4
    | succ k =>
      simp only at h4
      cases h4
      exact ⟨_,_,by rw [Fir.den,q1],_,h5 _ (List.mem_singleton.2 rfl),rfl,zs,q4⟩
  · cases he
 | .loop init body,a,S,τ,ρ,lvs,h,hc,he => by
  cases a with
  | e => cases he
  | b => cases he
  | j => cases he
  | l i a =>
    simp only [aexec,extA_eq,trA_eq,List.append_nil] at he
    split at he
    · rename_i hchk
      have hlen : S.env.length = ρ.length := by rw [h.env]; simp
      have ev0 : (atoms S.env.length).map (At.ev ρ) = ρ := atoms_ev (ys := []) (by simp) hlen
      let tv : List L → Int := fun vs => tmV (ρ ++ vs) i.t
      let mu : List L → Nat := fun vs => if i.up = true then (tmV ρ i.b + i.c + 1 - tv vs).toNat else (tv vs - (tmV ρ i.b + i.c) + 1).toNat
      have round : ∀ (vs : List L),vs.length = init.length → (∃ T ∈ i.ts,T.ok (ρ ++ vs)) → (∃ r,loopStep (body.den (ρ ++ vs)) = some (.inr r) ∧ LvOk τ lvs r.1 r.2) ∨ (∃ vs',loopStep (body.den (ρ ++ vs)) = some (.inl vs') ∧ vs'.length = init.length ∧ (∃ T ∈ i.ts,T.ok (ρ ++ vs')) ∧ mu vs' < mu vs) := by
        intro vs hvl ⟨T,hT,hok⟩
        obtain ⟨ws0,he,h50⟩ := flatM_ok he hT
        split at he
        · rename_i S1 hS1
          split at he
          · rename_i ls hls
            obtain ⟨x1,ρ1,q1,lv,q2,q3,zs,q4⟩ := aexec_ok body (h.ext hS1 hvl (by rw [ev0]; exact hok)) hc hls
            subst q3
            obtain ⟨ys,hpre⟩ := den_pre body q1
            obtain ⟨ws,h4,h5⟩ := flatM_ok he q2
            obtain ⟨k,S2,xs⟩ := lv
            cases k with
            | zero =>
              simp only at h4 q4 q1
              split at h4
              · rename_i cur nxt b hcur hnxt hb
                split at h4
                · rename_i hcc
                  obtain ⟨hpo,hrank⟩ := hcc
                  have hf : ∀ f ∈ S2.fs,f.holds (τ ++ vs ++ zs) := fun f hf => q4.holds hf
                  have e1 := (q4.tr hcur).1
                  have e2 := (q4.tr hb).1
                  have e3 := (q4.tr hnxt).1
                  have hpre2 : ρ1 = ρ ++ (vs ++ ys) := by rw [hpre,List.append_assoc]
                  have ea : (atoms S.env.length).map (At.ev ρ1) = ρ := atoms_ev (ys := vs ++ ys) hpre2 hlen
                  rw [atoms_ev hpre (by simp [hlen,hvl])] at e1
                  rw [ea] at e2
                  rw [List.map_append,ea] at e3
                  subst hpre2
                  obtain ⟨g1,T',g2,g3⟩ := postOk_ok (ls := ρ) (ys := vs ++ ys) hlen.symm q4 hpo
                  refine .inr ⟨xs.map (At.ev (ρ ++ (vs ++ ys))),by simp only [q1,loopStep],by simpa using g1,⟨T',g2,g3⟩,?_⟩
                  simp only [mu,tv]
                  unfold rankOk at hrank
                  split at hrank
                  · rename_i hup
                    rw [if_pos hup,if_pos hup]
                    simp only [Bool.and_eq_true] at hrank
                    have r1 := leL_ok hf hrank.1
                    have r2 := leL_ok hf hrank.2
                    omega
                  · rename_i hup
                    rw [if_neg (by rw [hup]; decide),if_neg (by rw [hup]; decide)]
                    simp only [Bool.and_eq_true] at hrank
                    have r1 := leL_ok hf hrank.1
                    have r2 := leL_ok hf hrank.2
                    omega
                · cases h4
              · cases h4
            | succ k =>
              simp only at h4
              cases h4
              have q1 : body.den (ρ ++ vs) = some (.jump (k + 1) xs,ρ1) := q1
              exact .inl ⟨(.jump k xs,ρ1),by rw [q1]; rfl,_,h50 _ (h5 _ (List.mem_singleton.2 rfl)),rfl,vs ++ zs,by rw [← List.append_assoc]; exact q4⟩
          · cases he
        · cases he
      have main : ∀ (m : Nat) (vs : List L),vs.length = init.length → (∃ T ∈ i.ts,T.ok (ρ ++ vs)) → mu vs ≤ m → ∃ r,iterO (fun a => loopStep (body.den (ρ ++ a))) vs = some r ∧ LvOk τ lvs r.1 r.2 := by
        intro m
        induction m with
        | zero =>
          intro vs hvl hok hmu
          rcases round vs hvl hok with ⟨r,h1,h2⟩ | ⟨vs',_,_,_,h4⟩
          · exact ⟨r,iterO_inr h1,h2⟩
          · omega
        | succ m ih =>
          intro vs hvl hok hmu
          rcases round vs hvl hok with ⟨r,h1,h2⟩ | ⟨vs',h1,h2,h3,h4⟩
          · exact ⟨r,iterO_inr h1,h2⟩
          · obtain ⟨r,h5,h6⟩ := ih vs' h2 h3 (by omega)
            exact ⟨r,by rw [iterO_inl h1]; exact h5,h6⟩
      obtain ⟨g1,T,g2,g3⟩ := postOk_ok (ls := ρ) (ys := []) hlen.symm (by simpa using h) hchk
      rw [List.append_nil] at g3
      obtain ⟨r,r1,r2⟩ := main _ (init.map (At.ev ρ)) (by simp) ⟨T,g2,g3⟩ (Nat.le_refl _)
      exact ⟨r.1,r.2,by rw [Fir.den]; exact r1,r2⟩
    · cases he
end AI
end
section
open Go.RowKit
namespace AI
def AS.start (s : Summ) : AS := ⟨List.range s.nin,s.nin,s.pre.fs,s.pre.rw,[],s.pre.bs.map fun x => (x.1,.con x.2),[],[],[],s.pre.pr⟩
def Summ.wf (s : Summ) : Bool := s.pre.fs.all (Fa.in s.nin) && s.pre.rw.all (fun x => decide (x.1 < s.nin)) && s.pre.bs.all (fun x => decide (x.1 < s.nin)) && s.pre.pr.all (fun x => x.2.all fun g => decide (g < s.nin))
theorem Ga.start {s : Summ} (hw : s.wf = true) {ls : List L} (hl : ls.length = s.nin) (hp : s.pre.ok ls) : Ga (AS.start s) ls ls := by
 simp only [Summ.wf,Bool.and_eq_true,List.all_eq_true,decide_eq_true_eq] at hw
 obtain ⟨⟨⟨w1,w2⟩,w3⟩,w4⟩ := hw
 refine ⟨hl,?_,fun g hg => List.mem_range.1 hg,fun f hf => ⟨by rw [hl]; exact w1 f hf,hp.fs f hf⟩,fun x hx => ⟨w2 x hx,hp.rw x hx⟩,fun x hx => (by cases hx),fun x hx => ?_,fun x hx => (by cases hx),fun x hx => (by cases hx),fun x hx => (by cases hx),fun x hx => ⟨by rw [hl] at *; exact w4 x hx,hp.pr x hx⟩⟩
 · apply List.ext_getElem?
   intro j
   simp only [AS.start,List.getElem?_map]
   by_cases hj : j < ls.length
   · rw [List.getElem?_range (by omega),List.getElem?_eq_getElem hj]; simp [at',hj]
   · rw [List.getElem?_eq_none (by omega),List.getElem?_eq_none (by simp; omega)]; rfl
 · obtain ⟨y,hy,rfl⟩ := List.mem_map.1 hx
   exact ⟨w3 y hy,rfl,hp.bs y hy⟩
def fcheck (tb : Nat → Option Summ) (f : Fir) (a : Ann) (s : Summ) (sp : List Nat) : Bool := s.wf && match aexec tb f a (AS.start s) with
 | some lvs => lvs.all fun lv => postOk s lv.xs sp lv.S
 | none => false
theorem fcheck_ok {tb : Nat → Option Summ} {f : Fir} {a : Ann} {s : Summ} {sp : List Nat} (h : fcheck tb f a s sp = true) (hc : CallsOk tb f) : s.ok fun ls => outO (f.den ls) := by
 intro ls hl hp
 simp only [fcheck,Bool.and_eq_true] at h
 obtain ⟨hw,h⟩ := h
 split at h
 · rename_i lvs hlvs
   obtain ⟨x,ρ',h1,lv,h2,rfl,zs,h3⟩ := aexec_ok f (Ga.start hw hl hp) hc hlvs
   obtain ⟨ys,rfl⟩ := den_pre f h1
   have := List.all_eq_true.1 h lv h2
   obtain ⟨h4,T,h5,h6⟩ := postOk_ok hl h3 this
   exact ⟨lv.xs.map (At.ev (ls ++ ys)),by simp only [h1,outO],by simpa using h4,T,h5,h6⟩
 · cases h
end AI
end
section
open Go.RowKit
namespace AI
def Fir.calls : Fir → List (Nat × (List L → Option (List L)))
 | .leaf _ => []
 | .op nd k => (match nd with | .call t F _ _ _ => [(t,F)] | _ => []) ++ calls k
 | .ite _ x y => calls x ++ calls y
 | .join x y => calls x ++ calls y
 | .loop _ y => calls y
def ListOk (tb : Nat → Option Summ) : List (Nat × (List L → Option (List L))) → Prop
 | [] => True
 | (t,F) :: r => (∀ s,tb t = some s → s.ok F) ∧ ListOk tb r
theorem ListOk.left {tb : Nat → Option Summ} : ∀ {a b : List (Nat × (List L → Option (List L)))},ListOk tb (a ++ b) → ListOk tb a
 | [],_,_ => trivial
 | (_,_) :: _,_,h => ⟨h.1,h.2.left⟩
theorem ListOk.right {tb : Nat → Option Summ} : ∀ {a b : List (Nat × (List L → Option (List L)))},ListOk tb (a ++ b) → ListOk tb b
 | [],_,h => h
 | (_,_) :: a,_,h => ListOk.right (a := a) h.2
theorem calls_ok {tb : Nat → Option Summ} : ∀ {f : Fir},ListOk tb (Fir.calls f) → CallsOk tb f
 | .leaf _,_ => trivial
 | .op nd k,h => by
  refine ⟨?_,calls_ok h.right⟩
  cases nd with
  | call t F a n u => exact h.left.1
  | _ => trivial
 | .ite _ _ _,h => ⟨calls_ok h.left,calls_ok h.right⟩
 | .join _ _,h => ⟨calls_ok h.left,calls_ok h.right⟩
 | .loop _ y,h => calls_ok (f := y) h
theorem callsOk {tb : Nat → Option Summ} {f : Fir} {cs : List (Nat × (List L → Option (List L)))} (e : Fir.calls f = cs) (h : ListOk tb cs) : CallsOk tb f := calls_ok (by rw [e]; exact h)
theorem tbk {tb : Nat → Option Summ} {t : Nat} {S : Summ} {F : List L → Option (List L)} (e : tb t = some S) (h : S.ok F) : ∀ s,tb t = some s → s.ok F := fun s hs => by
 rw [e] at hs; cases hs; exact h
theorem tbn {tb : Nat → Option Summ} {t : Nat} {F : List L → Option (List L)} (e : tb t = none) : ∀ s,tb t = some s → s.ok F := fun s hs => by
 rw [e] at hs; cases hs
def tbl (l : List (Nat × Summ)) : Nat → Option Summ := fun t => lk l t
def mx : Int := 9223372036854775807
def c0 : List AC := [.sl 262208 [.int .u8 0 255]]
def c1 : List AC := [.str 9,.sl 2097152 [.int .u8 0 255],.sl 0 []]
def c2 : List AC := [.int .i64 0 1048576,.sl 1048576 [.int .u8 0 255],.bool]
def c3 : List AC := [.int .u64 0 7,.int .u32 0 3,.bool,.sl 30 [.int .u8 0 255]]
def c4 : List AC := [.int .u64 0 7,.int .u32 0 3,.int .i64 16 1048576,.int .i64 0 30]
def c5 : List AC := [.str 9,.sl 2097152 [.int .u8 0 255],.sl 1 c2]
def c6 : List AC := [.int .u64 0 18446744073709551615,.int .u32 0 4294967295,.bool,.sl mx [.int .u8 0 255]]
def c7 : List AC := [.int .i64 1 1,.int .i64 0 0,.int .i64 1 1,.int .i64 16 16,.sl 0 [],.sl 0 [],.sl 0 [],.sl 0 [],.sl 0 [],.sl 0 [],.sl 0 [],.sl 0 [],.int .i64 0 0,.int .i64 0 0]
def c8 : List AC := [.int .i64 0 8,.int .i64 0 0,.int .i64 0 3,.int .i64 (-18446744073709551615) mx,.sl 8 c4,.sl 8 c4,.sl 8 c4,.sl 8 c4,.sl 8 c4,.sl 8 c4,.sl 8 c4,.sl 8 c4,.int .i64 (-18446744073709551615) mx,.int .i64 0 2199023255552]
def f (a b : Nat) (c : Int) : Fa := ⟨a,b,c⟩
def g (i n : Nat) (c : List AC) : List (Nat × Option (List AC)) := (List.range n).map fun j => (i + j,some c)
theorem soK {s : Summ} {x : Fir} (l : List (Nat × Summ)) (cs : List (Nat × (List L → Option (List L)))) (an : Ann) (h : fcheck (tbl l) x an s [] = true) (hc : Fir.calls x = cs) (hl : ListOk (tbl l) cs) : s.ok (Fo x) := fcheck_ok h (callsOk hc hl)
end AI
end
section
open Go.RowKit
open Classical
theorem ACalls.cut0 {P : Program} {f : FuncId} {args : List V1} {e : TypeId} {rows : List (List PV)} (h : ACalls P f args [] (.v (.c (.sub 0 0 0))) [(0,.row e rows)]) : ACalls P f args [] (.v (.c (.own 0))) [(0,.row e [])] := by
 refine ⟨h.own,fun w M N vals h1 h2 h3 h4 h5 h6 h7 => (h.call w M N vals h1 h2 h3 h4 h5 h6 h7).mono ?_⟩
 rintro _ w' ⟨v,E',rfl,hfr,hbk,hH,hv⟩
 obtain ⟨x,cur,fz,k1,hfz,k2,k3,k4,k5,k6,k7,k8,k9,k10,k11⟩ := hH 0 _ rfl
 obtain ⟨y,j1,j2,A,j3,j4⟩ := Nmd.get (show RC M E' w' (.sub 0 0 0) v from hv) (by rw [hbk.gone]; simp)
 rw [k1] at j1; cases j1
 have hA := j4 (.inr rfl)
 simp only [Nat.zero_mul,Nat.sub_zero] at hA j3
 refine ⟨v,⟨fun n => if n = 0 then some { x with len := 0 } else E'.N n,[]⟩,rfl,hfr,⟨rfl,?_,?_,fun m hm => absurd hm (Nat.not_lt_zero m)⟩,?_,?_⟩
 · intro n z g hz hg
   simp only at hz
   split at hz
   · cases hz; exact hbk.names 0 x g k1 hg
   · exact hbk.names n z g hz hg
 · intro n m z z' g hz hz' hg hg'
   simp only at hz hz'
   split at hz <;> split at hz'
   · omega
   · cases hz
     rename_i hn hm
     have := hbk.inj 0 m x z' g k1 hz' hg hg'
     omega
   · cases hz'
     rename_i hn hm
     have := hbk.inj n 0 z x g hz k1 hg hg'
     omega
   · exact hbk.inj n m z z' g hz hz' hg hg'
 · intro n b hb
   simp only [List.lookup_cons,List.lookup_nil] at hb
   split at hb
   · rename_i hn
     simp at hn; subst hn
     cases hb
     exact ⟨{ x with len := 0 },cur,fz,by simp,hfz,k2,rfl,Nat.zero_le _,k5,k6,k7,k8,fun r hr => by simp at hr,k10,fun i r j p hi => by simp at hi⟩
   · cases hb
 · exact .inr ⟨{ x with len := 0 },by simp,by rw [j3,hA]⟩
theorem equal_slice {P : Program} {T e : TypeId} (hT : P.underlying T = some (.slice e)) (A : Option Addr) (n c : Nat) (w : World) : (Op.equal T (.slice A n c) (.slice none 0 0)).run P w = .ok A.isNone w := by
 have key : ∀ d,(Op.equalIn (d + 1) T (.slice A n c) (.slice none 0 0)).run P w = .ok A.isNone w := fun d => by
  cases A <;> simp [Op.equalIn,run_underlying hT]
 exact key 9999
theorem ACalls.freeze0 {P : Program} {f : FuncId} {args : List V1} {e : TypeId} {rows : List (List PV)} (h : ACalls P f args [] (.v (.c (.own 0))) [(0,.row e rows)]) : ACalls P f args [] (.v (.c (.p (.sl rows)))) [] := by
 refine ⟨h.own,fun w M N vals h1 h2 h3 h4 h5 h6 h7 => (h.call w M N vals h1 h2 h3 h4 h5 h6 h7).mono ?_⟩
 rintro _ w' ⟨v,E',rfl,hfr,hbk,hH,hv⟩
 obtain ⟨x,cur,fz,k1,hfz,k2,k3,k4,k5,k6,k7,k8,k9,k10,k11⟩ := hH 0 _ rfl
 obtain ⟨y,j1,j2⟩ := Nmd.get (show RC M E' w' (.own 0) v from hv) (by rw [hbk.gone]; simp)
 rw [k1] at j1; cases j1
 have hst : Stay (bad M E') (bad M ⟨fun _ => none,[]⟩) w' w' := fun g o u q1 q2 => ⟨q1,fun q3 => q2 (by
   rcases q3 with q3 | ⟨n,z,q4,_⟩
   · exact .inl q3
   · cases q4)⟩
 refine ⟨v,⟨fun _ => none,[]⟩,rfl,hfr,⟨rfl,fun n z g hz => (by cases hz),fun n m z z' g hz => (by cases hz),fun m hm => absurd hm (Nat.not_lt_zero m)⟩,fun n b hb => (by cases hb),?_⟩
 show RP _ w' (.sl rows) v
 rw [j2]
 by_cases h0 : rows = []
 · subst h0
   rw [k3]; exact .nil
 · cases hg : x.g with
   | none =>
     have := k10 hg
     have : rows.length = 0 := by omega
     exact absurd (List.eq_nil_of_length_eq_zero this) h0
   | some g =>
     have hr := rows_of_cells (M := bad M E') (o := 0) (k2 g hg) (by omega) k5 k9 (fun i r j p hi hj => by simpa using k11 i r j p hi hj)
     rw [k3]
     refine Rows.rp hr (fun g' hg' => by
       rcases hg' with q | ⟨n,z,q,_⟩
       · exact .inl q
       · cases q) ?_
     rintro g' o n c he hb
     simp at he
     obtain ⟨⟨rfl,rfl⟩,_⟩ := he
     rcases hb with hb | ⟨n,z,q,_⟩
     · have := h1 g hb
       rcases (hbk.names 0 x g k1 hg).2 with ⟨m,z,q,_⟩ | q
       · exact absurd (h2 m z q) (Nat.not_lt_zero m)
       · omega
     · cases q
section
variable {X : Fx} {Q : Exit → ASt → Prop} {st : ASt}
theorem aw_nilcmp {id t3 t4 i T ty3 ty4 yT : Nat} {p3 p4 : String} {a3 a4 : Array Edge} {rows : List (List PV)} {e : TypeId} (hi : st.tmps[i]? = some (.v (.c (.p (.sl rows))))) (ht3 : t3 < st.tmps.length) (hT : X.P.underlying T = some (.slice e))
   (hQ : ∀ b,(b = true → rows = []) → Q .normal ((st.put (some t3) (.v (.c (.p (.sl rows))))).put (some t4) (.sc (.bool b)))) :
   Aw X (.region id #[{ dst := some t3,op := .move (.tmp i),type := ty3,pos := p3,after := a3,guard := none },{ dst := some t4,op := .binOp .eql T (.tmp t3) (.const (.slice none 0 0)) yT,type := ty4,pos := p4,after := a4,guard := none }] false) Q st := fun a w ht => by
 obtain ⟨E,hR,hg⟩ := ht
 obtain ⟨u,h1,h2⟩ := hR.tmps i _ hi
 have h2 : RP (bad X.M E) w (.sl rows) u := h2
 have hlt : t3 < a.tmps.size := by rw [hR.size]; exact ht3
 refine wp_region ?_
 have hu : ∃ A n c,u = .slice A n c ∧ (A = none → rows = []) := by
   cases h2 with
   | nil => exact ⟨_,_,_,rfl,fun _ => rfl⟩
   | row => exact ⟨_,_,_,rfl,fun h => by cases h⟩
 obtain ⟨A,n,c,rfl,hn⟩ := hu
 have hfin : ∀ b,(b = true → rows = []) → ∃ st',Q .normal st' ∧ Told X st' ((a.put (some t3) (.slice A n c)).put (some t4) (.bool b)) w := fun b hb =>
   ⟨_,hQ b hb,E,(hR.put (some t3) (v := .v (.c (.p (.sl rows)))) h2).put (some t4) (v := .sc (.bool b)) (RP.sc rfl),hg⟩
 have e1 : a.eval (.tmp i) = .slice A n c := by simp [Act.eval,h1]
 have e2 : (a.put (some t3) (.slice A n c)).eval (.tmp t3) = .slice A n c := by simp [Act.eval,Act.put,Array.getD_eq_getD_getElem?,hlt]
 have e3 : ∀ a' : Act,a'.eval (.const (.slice none 0 0)) = .slice none 0 0 := fun _ => rfl
 have hq : (Op.equal T (.slice A n c) (.slice none 0 0)).run X.P w = .ok A.isNone w := equal_slice hT A n c w
 have hb : (binOp .eql T (.slice A n c) (.slice none 0 0)).run X.P w = .ok (.bool A.isNone) w := by
   simp only [binOp]
   rw [Sem.run_bind,hq]; rfl
 have hgd : (eqGuard .eql T (.tmp t3) (.const (.slice none 0 0)) (.slice A n c) (.slice none 0 0)).run X.P w = .ok () w := by
   simp [eqGuard]
 rw [show (List.range (#[({ dst := some t3,op := .move (.tmp i),type := ty3,pos := p3,after := a3,guard := none } : Oper),{ dst := some t4,op := .binOp .eql T (.tmp t3) (.const (.slice none 0 0)) yT,type := ty4,pos := p4,after := a4,guard := none }]).size) = [0,1] from rfl]
 simp only [wpOps,Region.wanted,List.getElem?_toArray,List.getElem?_cons_zero,List.getElem?_cons_succ,if_true]
 refine .inl (wp_value (u := .slice A n c) (w' := w) ?_ (.inl ?_))
 · simp only [execOp,e1]; rfl
 · refine wp_value (u := .bool A.isNone) (w' := w) ?_ ?_
   · simp only [execOp,e2,e3,Sem.run_bind,hgd,hb,Result.andThen_ok]; rfl
   · exact hfin _ (fun h => hn (by simpa using h))
end
def execC (T : TTab) (C : CTab) (c : Code) (k0 : Nat) (rs : List ResultVar) (S : SSt) : Option Out1 :=
 match exec T C k0 c (resMask rs) [] (resMask rs) S with
 | some t => match (merge (resMask rs) k0 S.nv t.rets).map (SSt.order k0) with
  | some S' => match t.bind (fin T k0 S.nv S') 0,sResA T rs S' with
   | some u,some r => some ⟨u,r,S'.heap.filter (fun x => (reach S'.heap 4 (List.range k0 ++ r.names)).contains x.1),S'.nv - S.nv⟩
   | _,_ => none
  | none => none
 | none => none
theorem execC_ok {P : Program} {T : TTab} {C : CTab} (hT : TTab.ok P T) (hC : CTab.ok P C) (hm : P.follows .mixedOrders = true) {c : Code} {k0 : Nat} {rs : List ResultVar} {S : SSt} {o : Out1} (hSg : S.gone = []) (h : execC T C c k0 rs S = some o)
   {ls os : List L} (hl : ls.length = S.nv) (hF : outO (o.fir.den ls) = some os) {X : Fx} (hP : X.P = P) (hk0 : X.k0 = k0) : Aw X c (retA P rs (o.res.den (ls ++ os)) (o.out.den (ls ++ os))) (S.den ls) := by
 unfold execC at h
 split at h
 · rename_i t ht
   split at h
   · rename_i S' hS'
     split at h
     · rename_i u r hu hr
       cases h
       have hgf := exec_ok hT hC hm c (S := S) hSg ht
       simp only [outO] at hF
       split at hF
       · rename_i k as ρ' hd
         cases hF
         obtain ⟨e,S1,ρ1,v,h1,h2,h3⟩ := bind_bare (fun x ρ1 hx => (hgf ls x ρ1 hl hx).bare) (fun e S1 ρ1 ht d u1 hf => fin_lift hf) hu hd
         obtain ⟨e',S1',g1,g2,⟨ys,g3⟩,g4,g5⟩ := hgf ls _ _ hl h1
         cases g1
         subst g3
         have key : (e = .normal ∨ e = .ret) ∧ ∀ X : Fx,X.P = P → X.k0 = k0 → Le X (S1.den (ls ++ ys)) (S'.den (ls ++ as.map (At.ev ρ'))) := by
           cases e with
           | exit => cases h2
           | _ =>
            obtain ⟨as',zs,j1,_,_,j4⟩ := jmp_ok hT hl g2 g4 h2 h3
            cases j1
            exact ⟨by simp,j4⟩
         obtain ⟨he,hle⟩ := key
         refine aw_post (g5 X hP hk0 _ ⟨_,hle X hP hk0,?_⟩)
         refine ⟨?_,sResA_den hT hr,fun n b hnb => ?_⟩
         rotate_left
         · rw [den_heap]
           rw [SHp.lookup_den] at hnb
           simp only [Option.map_eq_some_iff] at hnb
           obtain ⟨b0,hb0,rfl⟩ := hnb
           rw [lookup_filter_some hb0]; rfl
         rcases he with rfl | rfl <;> trivial
       · cases hF
     · cases h
   · cases h
 · cases h
end
end Go.Proofs.YtndegphojkiblaaGreatDoor
