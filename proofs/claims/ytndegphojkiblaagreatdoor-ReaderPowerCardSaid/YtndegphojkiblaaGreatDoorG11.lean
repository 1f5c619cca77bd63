/- Towards the last file's theorem: part 11. -/
import Derived.Test.YtndegphojkiblaaGreatDoorG10
set_option linter.unusedSimpArgs false
set_option linter.unusedVariables false
namespace Go.Proofs.YtndegphojkiblaaGreatDoor
section
open Go.RowKit
def binI (op : BinOp) (k : IntKind) (a b : Int) : Option L := match op with
 | .add => some (.i (k.wrap (a + b)))
 | .sub => some (.i (k.wrap (a - b)))
 | .mul => some (.i (k.wrap (a * b)))
 | .quo => if b ≠ 0 then some (.i (k.wrap (a.tdiv b))) else none
 | .rem => if b ≠ 0 then some (.i (a.tmod b)) else none
 | .and => some (.i (k.wrap (BitVec.ofInt k.bits a &&& BitVec.ofInt k.bits b).toNat))
 | .or => some (.i (k.wrap (BitVec.ofInt k.bits a ||| BitVec.ofInt k.bits b).toNat))
 | .xor => some (.i (k.wrap (BitVec.ofInt k.bits a ^^^ BitVec.ofInt k.bits b).toNat))
 | .andNot => some (.i (k.wrap (BitVec.ofInt k.bits a &&& ~~~ BitVec.ofInt k.bits b).toNat))
 | .shl => if 0 ≤ b then some (.i (k.wrap (a * 2 ^ (min b.toNat k.bits)))) else none
 | .shr => if 0 ≤ b then some (.i (a.fdiv (2 ^ (min b.toNat k.bits)))) else none
 | .eql => some (.b (decide (a = b)))
 | .neq => some (.b (decide (a ≠ b)))
 | .lss => some (.b (decide (a < b)))
 | .leq => some (.b (decide (a ≤ b)))
 | .gtr => some (.b (decide (b < a)))
 | .geq => some (.b (decide (b ≤ a)))
def binS (op : BinOp) (a b : ByteArray) : Option L := match op with
 | .add => if ((a.size + b.size : Nat) : Int) ≤ 9223372036854775807 then some (.s (a ++ b)) else none
 | .eql => some (.b (a.toList == b.toList))
 | .neq => some (.b (!(a.toList == b.toList)))
 | .lss => some (.b (Op.bytesLess a.toList b.toList))
 | .leq => some (.b (Op.bytesLess a.toList b.toList || a.toList == b.toList))
 | .gtr => some (.b (!(Op.bytesLess a.toList b.toList || a.toList == b.toList)))
 | .geq => some (.b (!(Op.bytesLess a.toList b.toList)))
 | _ => none
def binB (op : BinOp) (a b : Bool) : Option L := match op with
 | .eql => some (.b (a == b))
 | .neq => some (.b (!(a == b)))
 | _ => none
def isCmp : BinOp → Bool
 | .eql | .neq | .lss | .leq | .gtr | .geq => true
 | _ => false
def isShift : BinOp → Bool
 | .shl | .shr => true
 | _ => false
def unI (op : UnOp) (k : IntKind) (n : Int) : Option L := match op with
 | .neg => some (.i (k.wrap (0 - n)))
 | .xor => some (.i (k.wrap (BitVec.ofInt k.bits (if k.signed then -1 else k.max) ^^^ BitVec.ofInt k.bits n).toNat))
 | _ => none
inductive Nd where
 | bi (op : BinOp) (k : IntKind) (x y : At)
 | bs (op : BinOp) (x y : At)
 | bb (op : BinOp) (x y : At)
 | not (x : At)
 | un (op : UnOp) (k : IntKind) (x : At)
 | conv (k : IntKind) (x : At)
 | len (x : At)
 | slen (x : At)
 | row (x i : At) (size : Nat)
 | srow (x lo len i : At) (size : Nat)
 | rc (x i : At) (j : Nat) (k : Kd)
 | cl (x : At) (j : Nat) (k : Kd)
 | bnd (i : At) (cnt : Nat)
 | sel (xs : List At) (i : At)
 | upd (x i : At) (k : Nat) (y : At)
 | part (x lo hi : At) (size : Nat)
 | cut (x lo hi : At) (size : Nat)
 | cut2 (x l0 len lo hi : At) (size : Nat)
 | vw (x lo len : At)
 | tk (x len : At)
 | app (x y : At) (n b : Nat)
 | set (x i : At) (j : Nat) (ps : List (Kd × At))
 | lit (rows : List (List (Kd × At)))
 | rep (n : At) (ps : List (Kd × At)) (b : Nat)
 | cpy0 (x y : At) (size : Nat)
 | cpy (x lo len y : At) (size : Nat)
 | apin (x len y : At) (size : Nat)
 | str (x : At)
 | sidx (x i : At)
 | ssub (x lo hi : At)
 | mn (x y : At)
 | mx (x y : At)
 | call (tag : Nat) (F : List L → Option (List L)) (args : List At) (n : Nat) (bs : List Nat)
deriving Inhabited
def headOk (size : Nat) (rows : List (List PV)) : Bool := match rows with
 | [] => true
 | r :: _ => r.length == size
def pvsOf (ρ : List L) (ps : List (Kd × At)) : List PV := ps.map fun x => x.1.pv (x.2.ev ρ)
def Nd.ev (ρ : List L) : Nd → Option (List L)
 | .bi op k x y => (binI op k (x.ev ρ).asI (y.ev ρ).asI).map ([·])
 | .bs op x y => (binS op (x.ev ρ).asS (y.ev ρ).asS).map ([·])
 | .bb op x y => (binB op (x.ev ρ).asB (y.ev ρ).asB).map ([·])
 | .not x => some [.b (!(x.ev ρ).asB)]
 | .un op k x => (unI op k (x.ev ρ).asI).map ([·])
 | .conv k x => some [.i (k.wrap (x.ev ρ).asI)]
 | .len x => some [.i (x.ev ρ).asR.length]
 | .slen x => some [.i (x.ev ρ).asS.size]
 | .row x i size => if 0 ≤ (i.ev ρ).asI then match (x.ev ρ).asR[(i.ev ρ).asI.toNat]? with
  | some r => if r.length = size then some [.c r] else none
  | none => none
  else none
 | .srow x lo ln i size => if 0 ≤ (i.ev ρ).asI then match (x.ev ρ).asR[(lo.ev ρ).asI.toNat + (i.ev ρ).asI.toNat]? with
  | some r => if r.length = size ∧ (i.ev ρ).asI.toNat < (ln.ev ρ).asI.toNat then some [.i (((lo.ev ρ).asI.toNat + (i.ev ρ).asI.toNat : Nat) : Int)] else none
  | none => none
  else none
 | .rc x i j k => match (x.ev ρ).asR[(i.ev ρ).asI.toNat]? with
  | some r => match r[j]? with
   | some q => (k.of q).map ([·])
   | none => none
  | none => none
 | .cl x j k => match (x.ev ρ).asC[j]? with
  | some q => (k.of q).map ([·])
  | none => none
 | .bnd i cnt => if 0 ≤ (i.ev ρ).asI ∧ (i.ev ρ).asI < cnt then some [] else none
 | .sel xs i => match xs[(i.ev ρ).asI.toNat]? with
  | some x => some [x.ev ρ]
  | none => none
 | .upd x i k y => some [if (i.ev ρ).asI.toNat = k then y.ev ρ else x.ev ρ]
 | .part x lo hi size => if 0 ≤ (lo.ev ρ).asI ∧ (lo.ev ρ).asI ≤ (hi.ev ρ).asI ∧ (hi.ev ρ).asI.toNat ≤ (x.ev ρ).asR.length ∧ rectB size (x.ev ρ).asR = true then some [.r (((x.ev ρ).asR.take (hi.ev ρ).asI.toNat).drop (lo.ev ρ).asI.toNat)] else none
 | .cut x lo hi size => if 0 ≤ (lo.ev ρ).asI ∧ (lo.ev ρ).asI ≤ (hi.ev ρ).asI ∧ (hi.ev ρ).asI.toNat ≤ (x.ev ρ).asR.length ∧ headOk size (x.ev ρ).asR = true then some [.i (((hi.ev ρ).asI.toNat - (lo.ev ρ).asI.toNat : Nat) : Int)] else none
 | .cut2 x l0 ln lo hi size => if 0 ≤ (lo.ev ρ).asI ∧ (lo.ev ρ).asI ≤ (hi.ev ρ).asI ∧ (hi.ev ρ).asI.toNat ≤ (ln.ev ρ).asI.toNat ∧ headOk size (x.ev ρ).asR = true then some [.i (((l0.ev ρ).asI.toNat + (lo.ev ρ).asI.toNat : Nat) : Int),.i (((hi.ev ρ).asI.toNat - (lo.ev ρ).asI.toNat : Nat) : Int)] else none
 | .vw x lo ln => some [.r (((x.ev ρ).asR.drop (lo.ev ρ).asI.toNat).take (ln.ev ρ).asI.toNat)]
 | .tk x ln => some [.r ((x.ev ρ).asR.take (ln.ev ρ).asI.toNat)]
 | .app x y n b => if (x.ev ρ).asR.length + (y.ev ρ).asR.length ≤ 9223372036854775807 ∧ ((x.ev ρ).asR.length + (y.ev ρ).asR.length) * b ≤ 140737488355328 ∧ rectB n (x.ev ρ).asR = true ∧ rectB n (y.ev ρ).asR = true then some [.r ((x.ev ρ).asR ++ (y.ev ρ).asR)] else none
 | .set x i j ps => match (x.ev ρ).asR[(i.ev ρ).asI.toNat]? with
  | some r => if j + ps.length ≤ r.length then some [.r ((x.ev ρ).asR.set (i.ev ρ).asI.toNat (r.take j ++ pvsOf ρ ps ++ r.drop (j + ps.length)))] else none
  | none => none
 | .lit rows => some [.r (rows.map (pvsOf ρ))]
 | .rep n ps b => if 0 ≤ (n.ev ρ).asI ∧ (n.ev ρ).asI ≤ 9223372036854775807 ∧ b * (n.ev ρ).asI.toNat ≤ 281474976710656 then some [.r (List.replicate (n.ev ρ).asI.toNat (pvsOf ρ ps))] else none
 | .cpy0 x y size => if rectB size (y.ev ρ).asR = true then some [.r ((y.ev ρ).asR.take (min (y.ev ρ).asR.length (x.ev ρ).asR.length) ++ (x.ev ρ).asR.drop (min (y.ev ρ).asR.length (x.ev ρ).asR.length)),.i ((min (y.ev ρ).asR.length (x.ev ρ).asR.length : Nat) : Int)] else none
 | .cpy x lo ln y size => if rectB size (y.ev ρ).asR = true ∧ (lo.ev ρ).asI.toNat + (ln.ev ρ).asI.toNat ≤ (x.ev ρ).asR.length then some [.r ((x.ev ρ).asR.take (lo.ev ρ).asI.toNat ++ (y.ev ρ).asR.take (min (y.ev ρ).asR.length (ln.ev ρ).asI.toNat) ++ (x.ev ρ).asR.drop ((lo.ev ρ).asI.toNat + min (y.ev ρ).asR.length (ln.ev ρ).asI.toNat)),.i ((min (y.ev ρ).asR.length (ln.ev ρ).asI.toNat : Nat) : Int)] else none
 | .apin x ln y size => if rectB size (y.ev ρ).asR = true ∧ (ln.ev ρ).asI.toNat + (y.ev ρ).asR.length ≤ (x.ev ρ).asR.length then some [.r ((x.ev ρ).asR.take (ln.ev ρ).asI.toNat ++ (y.ev ρ).asR ++ (x.ev ρ).asR.drop ((ln.ev ρ).asI.toNat + (y.ev ρ).asR.length)),.i (((ln.ev ρ).asI.toNat + (y.ev ρ).asR.length : Nat) : Int)] else none
 | .str x => (byIs (x.ev ρ).asR).map fun l => [.s (strOfNums l)]
 | .sidx x i => if 0 ≤ (i.ev ρ).asI then match (x.ev ρ).asS[(i.ev ρ).asI.toNat]? with
  | some b => some [.i b.toNat]
  | none => none
  else none
 | .ssub x lo hi => if 0 ≤ (lo.ev ρ).asI ∧ (lo.ev ρ).asI ≤ (hi.ev ρ).asI ∧ (hi.ev ρ).asI ≤ (x.ev ρ).asS.size then some [.s ((x.ev ρ).asS.extract (lo.ev ρ).asI.toNat (hi.ev ρ).asI.toNat)] else none
 | .mn x y => some [.i (if (y.ev ρ).asI < (x.ev ρ).asI then (y.ev ρ).asI else (x.ev ρ).asI)]
 | .mx x y => some [.i (if (y.ev ρ).asI > (x.ev ρ).asI then (y.ev ρ).asI else (x.ev ρ).asI)]
 | .call _ F args n us => match F (args.map (At.ev ρ)) with
  | some l => if l.length = n ∧ (us.all fun i => ((l[i]?).getD (.b false)).asR.all (·.all PV.bare)) = true then some l else none
  | none => none
def Nd.n : Nd → Nat
 | .bnd _ _ => 0
 | .cut2 .. => 2
 | .cpy0 .. => 2
 | .cpy .. => 2
 | .apin .. => 2
 | .call _ _ _ n _ => n
 | _ => 1
theorem Nd.ev_n {ρ : List L} {nd : Nd} {ls : List L} (h : nd.ev ρ = some ls) : ls.length = nd.n := by
 cases nd <;> simp only [Nd.ev,Nd.n] at h ⊢ <;> first
  | (cases h; rfl)
  | (simp only [Option.map_eq_some_iff] at h; obtain ⟨_,_,rfl⟩ := h; rfl)
  | (split at h <;> first | (cases h; first | rfl | assumption | exact (And.left ‹_ ∧ _›)) | cases h | (split at h <;> first | (cases h; first | rfl | assumption | exact (And.left ‹_ ∧ _›)) | cases h | (split at h <;> first | (cases h; first | rfl | assumption | exact (And.left ‹_ ∧ _›)) | cases h) | (simp only [Option.map_eq_some_iff] at h; obtain ⟨_,_,rfl⟩ := h; rfl) | (cases h; first | rfl | assumption | exact (And.left ‹_ ∧ _›))) | (simp only [Option.map_eq_some_iff] at h; obtain ⟨_,_,rfl⟩ := h; rfl))
def At.in (m : Nat) : At → Bool
 | .v n => decide (n < m)
 | _ => true
def ksIn (m : Nat) (ps : List (Kd × At)) : Bool := ps.all fun x => x.2.in m
def Nd.in (m : Nat) : Nd → Bool
 | .bi _ _ x y | .bs _ x y | .bb _ x y | .row x y _ | .rc x y _ _ | .tk x y | .app x y _ _ | .cpy0 x y _ | .sidx x y | .mn x y | .mx x y => x.in m && y.in m
 | .not x | .un _ _ x | .conv _ x | .len x | .slen x | .cl x _ _ | .bnd x _ | .str x => x.in m
 | .srow x a b c _ | .cpy x a b c _ => x.in m && a.in m && b.in m && c.in m
 | .sel xs i => xs.all (At.in m) && i.in m
 | .upd x i _ y | .apin x i y _ | .part x i y _ | .cut x i y _ | .vw x i y | .ssub x i y => x.in m && i.in m && y.in m
 | .cut2 x a b c d _ => x.in m && a.in m && b.in m && c.in m && d.in m
 | .set x i _ ps => x.in m && i.in m && ksIn m ps
 | .lit rows => rows.all (ksIn m)
 | .rep n ps _ => n.in m && ksIn m ps
 | .call _ _ args _ _ => args.all (At.in m)
theorem At.ev_app {m : Nat} {ρ xs : List L} {x : At} (h : x.in m = true) (hm : m ≤ ρ.length) : x.ev (ρ ++ xs) = x.ev ρ := by
 cases x with
 | v n =>
  simp only [At.in,decide_eq_true_eq] at h
  simp only [At.ev]
  rw [List.getElem?_append_left (by omega)]
 | _ => rfl
theorem pvsOf_app {m : Nat} {ρ xs : List L} {ps : List (Kd × At)} (h : ksIn m ps = true) (hm : m ≤ ρ.length) : pvsOf (ρ ++ xs) ps = pvsOf ρ ps := by
 unfold pvsOf
 apply List.map_congr_left
 intro y hy
 simp only [ksIn,List.all_eq_true] at h
 rw [At.ev_app (h y hy) hm]
theorem Nd.ev_app {m : Nat} {ρ xs : List L} {nd : Nd} (h : nd.in m = true) (hm : m ≤ ρ.length) : nd.ev (ρ ++ xs) = nd.ev ρ := by
 cases nd
 case sel ys i =>
  simp only [Nd.in,Bool.and_eq_true,List.all_eq_true] at h
  simp only [Nd.ev,At.ev_app h.2 hm]
  cases hx : ys[(i.ev ρ).asI.toNat]? with
  | none => rfl
  | some x => simp only [At.ev_app (h.1 x (List.mem_of_getElem? hx)) hm]
 case lit rows =>
  simp only [Nd.in,List.all_eq_true] at h
  simp only [Nd.ev]
  congr 3
  apply List.map_congr_left
  intro y hy
  exact pvsOf_app (h y hy) hm
 case call F args n bs =>
  simp only [Nd.in,List.all_eq_true] at h
  simp only [Nd.ev]
  rw [List.map_congr_left (g := At.ev ρ) (fun y hy => At.ev_app (h y hy) hm)]
 case set x i j ps =>
  simp only [Nd.in,Bool.and_eq_true] at h
  simp only [Nd.ev,At.ev_app h.1.1 hm,At.ev_app h.1.2 hm,pvsOf_app h.2 hm]
 case rep n ps b =>
  simp only [Nd.in,Bool.and_eq_true] at h
  simp only [Nd.ev,At.ev_app h.1 hm,pvsOf_app h.2 hm]
 all_goals
  simp only [Nd.in,Bool.and_eq_true] at h
  first
   | (simp only [Nd.ev,At.ev_app h hm]; done)
   | (simp only [Nd.ev,At.ev_app h.1 hm,At.ev_app h.2 hm]; done)
   | (simp only [Nd.ev,At.ev_app h.1.1 hm,At.ev_app h.1.2 hm,At.ev_app h.2 hm]; done)
   | (simp only [Nd.ev,At.ev_app h.1.1.1 hm,At.ev_app h.1.1.2 hm,At.ev_app h.1.2 hm,At.ev_app h.2 hm]; done)
   | (simp only [Nd.ev,At.ev_app h.1.1.1.1 hm,At.ev_app h.1.1.1.2 hm,At.ev_app h.1.1.2 hm,At.ev_app h.1.2 hm,At.ev_app h.2 hm]; done)
def Sat (ρ : List L) : Nat → List Nd → Prop
 | _,[] => True
 | m,nd :: nds => (∃ ls,nd.ev ρ = some ls ∧ ∀ i,i < nd.n → ρ[m + i]? = ls[i]?) ∧ Sat ρ (m + nd.n) nds
def ndsN : List Nd → Nat
 | [] => 0
 | nd :: nds => nd.n + ndsN nds
def evNds (ρ : List L) : List Nd → Option (List L)
 | [] => some ρ
 | nd :: nds => match nd.ev ρ with
  | some ls => evNds (ρ ++ ls) nds
  | none => none
def ndsIn : Nat → List Nd → Bool
 | _,[] => true
 | m,nd :: nds => nd.in m && ndsIn (m + nd.n) nds
theorem evNds_app : ∀ {nds : List Nd} {ρ ρ' : List L},evNds ρ nds = some ρ' → ∃ xs,ρ' = ρ ++ xs ∧ xs.length = ndsN nds
 | [],ρ,ρ',h => by cases h; exact ⟨[],by simp,rfl⟩
 | nd :: nds,ρ,ρ',h => by
  simp only [evNds] at h
  split at h
  · rename_i ls hls
    obtain ⟨xs,h1,h2⟩ := evNds_app h
    exact ⟨ls ++ xs,by rw [h1,List.append_assoc],by simp [h2,Nd.ev_n hls,ndsN]⟩
  · cases h
theorem evNds_sat : ∀ {nds : List Nd} {ρ ρ' ys : List L},ndsIn ρ.length nds = true → evNds ρ nds = some ρ' → Sat (ρ' ++ ys) ρ.length nds
 | [],_,_,_,_,_ => trivial
 | nd :: nds,ρ,ρ',ys,hi,h => by
  simp only [ndsIn,Bool.and_eq_true] at hi
  simp only [evNds] at h
  split at h
  · rename_i ls hls
    have hn := Nd.ev_n hls
    obtain ⟨xs,h1,h2⟩ := evNds_app h
    refine ⟨⟨ls,?_,fun i hi' => ?_⟩,?_⟩
    · rw [h1,List.append_assoc,List.append_assoc,Nd.ev_app hi.1 (Nat.le_refl _)]; exact hls
    · rw [h1,List.append_assoc,List.append_assoc,List.getElem?_append_right (by omega),Nat.add_sub_cancel_left,List.getElem?_append_left (by omega)]
    · have := evNds_sat (ys := ys) (nds := nds) (ρ := ρ ++ ls) (by rw [List.length_append,hn]; exact hi.2) h
      rw [List.length_append,hn] at this
      exact this
  · cases h
theorem Sat.one {ρ : List L} {m : Nat} {nd : Nd} {nds : List Nd} (h : Sat ρ m (nd :: nds)) : ∃ ls,nd.ev ρ = some ls ∧ ∀ i,i < nd.n → At.ev ρ (.v (m + i)) = (ls[i]?).getD (.b false) := by
 obtain ⟨⟨ls,h1,h2⟩,_⟩ := h
 exact ⟨ls,h1,fun i hi => by simp only [At.ev,h2 i hi]⟩
theorem Sat.app : ∀ {ρ : List L} {m : Nat} {a b : List Nd},Sat ρ m (a ++ b) → Sat ρ m a ∧ Sat ρ (m + ndsN a) b
 | _,_,[],b,h => ⟨trivial,by simpa [ndsN] using h⟩
 | ρ,m,nd :: a,b,h => by
  obtain ⟨h1,h2⟩ := h
  obtain ⟨h3,h4⟩ := Sat.app (a := a) h2
  exact ⟨⟨h1,h3⟩,by simpa [ndsN,Nat.add_assoc] using h4⟩
structure Ty where
 size : Nat
 agg : Bool
 some : Bool
 info : Bool
 kds : Option (List Kd)
 fields : List (Option Nat)
 places : Option (List (Nat × Nat))
 elem : Option TypeId
 arr : Option (Nat × TypeId)
 app : Option (Nat × Nat)
 isB : Bool
 int : Option IntKind
 isS : Bool
 sl : Option TypeId
 ptr : Option TypeId
 mapk : Bool
deriving DecidableEq,Repr,Inhabited
def kdOf : Value → Option Kd
 | .int k n => if n = 0 then some (.int k) else none
 | .bool t => if t then none else some .bool
 | .string x => if x.size = 0 then some .str else none
 | .slice none 0 0 => some .sl
 | .pointer none => some .ptr
 | .map none => some .mp
 | .nilFunc => some .fn
 | .nilIface => some .ifc
 | _ => none
def kdsOf (P : Program) (t : TypeId) : Option (List Kd) := match P.info? t with
 | some i => match i.zero with
  | some z => z.cells.toList.mapM kdOf
  | none => none
 | none => none
def Kd.zero : Kd → SC
 | .int k => .p (.int k) (.i 0)
 | .bool => .p .bool (.b false)
 | .str => .p .str (.s ByteArray.empty)
 | .sl => .nil
 | k => .p k .r0
theorem kdOf_zero {v : Value} {k : Kd} (h : kdOf v = some k) (ρ : List L) : k.zero.den ρ = ofCell v ∧ v.oneCell' = true := by
 unfold kdOf at h
 split at h
 · split at h
   · rename_i hn; subst hn; cases h; exact ⟨rfl,rfl⟩
   · cases h
 · split at h
   · cases h
   · rename_i hn; simp at hn; subst hn; cases h; exact ⟨rfl,rfl⟩
 · rename_i x
   split at h
   · rename_i hn
     have : x = ByteArray.empty := by
      cases x with
      | mk d =>
       have : d = #[] := Array.eq_empty_of_size_eq_zero hn
       rw [this]; rfl
     subst this
     cases h; exact ⟨rfl,rfl⟩
   · cases h
 all_goals first | (cases h; exact ⟨rfl,rfl⟩) | cases h
theorem kds_zero {P : Program} {t : TypeId} {ks : List Kd} (h : kdsOf P t = some ks) (ρ : List L) : tyZero P t = some ((ks.map Kd.zero).map (SC.den ρ)) := by
 unfold kdsOf at h
 unfold tyZero
 split at h
 · rename_i i hi
   split at h
   · rename_i z hz
     simp only [hi,hz]
     have key : ∀ {l : List Value} {ks : List Kd},l.mapM kdOf = some ks → (∀ u ∈ l,u.oneCell' = true) ∧ (ks.map Kd.zero).map (SC.den ρ) = l.map ofCell := by
      intro l
      induction l with
      | nil => intro ks h; simp at h; subst h; simp
      | cons u l ih =>
       intro ks h
       simp only [List.mapM_cons] at h
       cases hu : kdOf u with
       | none => simp [hu] at h
       | some k =>
        cases hl : l.mapM kdOf with
        | none => simp [hu,hl] at h
        | some ks' =>
         simp [hu,hl] at h
         subst h
         obtain ⟨h1,h2⟩ := ih hl
         obtain ⟨h3,h4⟩ := kdOf_zero hu ρ
         exact ⟨by simpa [h4] using h1,by simp only [List.map_cons,h2,h3]⟩
     obtain ⟨h1,h2⟩ := key h
     rw [if_pos (by simp only [List.all_eq_true]; exact h1),h2]
   · cases h
 · cases h
def nFields (P : Program) (t : TypeId) : Nat := match P.underlying t with
 | some (.struct fs) => fs.size
 | _ => 0
def tyIsS (P : Program) (t : TypeId) : Bool := match P.underlying t with | some .string => true | _ => false
def tySl (P : Program) (t : TypeId) : Option TypeId := match P.underlying t with | some (.slice e) => some e | _ => none
def tyPtr (P : Program) (t : TypeId) : Option TypeId := match P.underlying t with | some (.pointer e) => some e | _ => none
def tyMapk (P : Program) (t : TypeId) : Bool := match P.underlying t with
 | some (.map kt _) => match P.underlying kt with
  | some (.int .u64) => true
  | _ => false
 | _ => false
def tyRow (P : Program) (t : TypeId) : Ty := {
 size := tySize P t
 agg := tyAgg P t
 some := tySome P t
 info := tyInfo P t
 kds := kdsOf P t
 fields := (List.range (nFields P t)).map (tyField P t)
 places := tyPlaces P t
 elem := tyElem P t
 arr := tyArr P t
 app := tyApp P t
 isB := tyB P t
 int := tyKind P t
 isS := tyIsS P t
 sl := tySl P t
 ptr := tyPtr P t
 mapk := tyMapk P t
 }
abbrev TTab := List (TypeId × Ty)
def TTab.ok (P : Program) (T : TTab) : Prop := ∀ t r,List.lookup t T = some r → r = tyRow P t
theorem TTab.ok_of {P : Program} {T : TTab} (h : (T.all fun x => decide (x.2 = tyRow P x.1)) = true) : TTab.ok P T := by
 intro t r hl
 induction T with
 | nil => cases hl
 | cons x T ih =>
  obtain ⟨k,b⟩ := x
  simp only [List.all_cons,Bool.and_eq_true,decide_eq_true_eq] at h
  rw [List.lookup_cons] at hl
  split at hl
  · rename_i heq
    simp at heq; subst heq
    cases hl
    exact h.1
  · exact ih h.2 hl
theorem Ty.field_ok {P : Program} {t : TypeId} {f k : Nat} (h : (tyRow P t).fields[f]? = Option.some (Option.some k)) : tyField P t f = Option.some k := by
 simp only [tyRow,List.getElem?_map,Option.map_eq_some_iff] at h
 obtain ⟨n,h1,h2⟩ := h
 have := (List.getElem?_eq_some_iff.1 h1).2
 simp at this
 rw [this]; exact h2
end
section
open Go.RowKit
open Classical
structure SRes where
 nds : List Nd
 v : SV
 e : SEff
 rd : List Nat
def noSE : SEff := ⟨[],[]⟩
def SRes.pure (v : SV) : SRes := ⟨[],v,noSE,[]⟩
def SRes.den (ρ : List L) (r : SRes) : Res := ⟨r.v.den ρ,r.e.den ρ,r.rd⟩
abbrev SV.c1 (c : SC) : SV := .v (.c c)
def sRead (r : Ty) (cs : List SC) : Option SV :=
 if r.agg then (if r.size ≤ cs.length ∧ r.info = true then some (.v (.agg (cs.take r.size))) else none)
 else match r.some,cs with
  | true,c :: _ => some (.c1 c)
  | _,_ => none
theorem sRead_den {P : Program} {t : TypeId} {cs : List SC} {v : SV} (ρ : List L) (h : sRead (tyRow P t) cs = some v) : readC P t (cs.map (SC.den ρ)) = some (v.den ρ) := by
 unfold sRead at h
 unfold readC
 have e1 : (tyRow P t).agg = tyAgg P t := rfl
 have e2 : (tyRow P t).size = tySize P t := rfl
 have e3 : (tyRow P t).info = tyInfo P t := rfl
 have e4 : (tyRow P t).some = tySome P t := rfl
 rw [e1,e2,e3,e4] at h
 split at h
 · rename_i ha
   rw [if_pos ha]
   split at h
   · rename_i hc
     cases h
     rw [if_pos (by simpa using hc)]
     simp [SV.den,SV1.den,List.map_take]
   · cases h
 · rename_i ha
   rw [if_neg ha]
   split at h
   · rename_i c l hs
     cases h
     simp only [List.map_cons,hs]
     rfl
   · cases h
def kdCells (m : Nat) : List Kd → List SC
 | [] => []
 | k :: ks => .p k (.v m) :: kdCells (m + 1) ks
def rcNds (x i : At) : Nat → List Kd → List Nd
 | _,[] => []
 | j,k :: ks => .rc x i j k :: rcNds x i (j + 1) ks
def clNds (x : At) : Nat → List Kd → List Nd
 | _,[] => []
 | j,k :: ks => .cl x j k :: clNds x (j + 1) ks
theorem length_kdCells : ∀ (ks : List Kd) (m : Nat),(kdCells m ks).length = ks.length
 | [],_ => rfl
 | _ :: ks,m => by simp [kdCells,length_kdCells ks]
theorem sat_rc {ρ : List L} {x i : At} : ∀ {ks : List Kd} {m j : Nat} {r : List PV},(x.ev ρ).asR[(i.ev ρ).asI.toNat]? = some r → Sat ρ m (rcNds x i j ks) →
  (kdCells m ks).map (SC.den ρ) = ((r.drop j).map C.p).take ks.length ∧ ks.length ≤ (r.drop j).length
 | [],_,_,_,_,_ => by simp [kdCells]
 | k :: ks,m,j,r,hr,h => by
  obtain ⟨⟨ls,h1,h2⟩,h3⟩ := h
  simp only [Nd.ev,hr] at h1
  split at h1
  · rename_i q hq
    simp only [Option.map_eq_some_iff] at h1
    obtain ⟨l,h4,rfl⟩ := h1
    obtain ⟨h5,h6⟩ := sat_rc hr h3
    have hd : r.drop j = q :: r.drop (j + 1) := by
     obtain ⟨hlt,he⟩ := List.getElem?_eq_some_iff.1 hq
     rw [← he]; exact List.drop_eq_getElem_cons hlt
    have h7 := h2 0 (by simp [Nd.n])
    simp only [Nat.add_zero,List.getElem?_cons_zero] at h7
    refine ⟨?_,by rw [hd]; simpa using h6⟩
    simp only [kdCells,List.map_cons,hd,List.length_cons,List.take_succ_cons]
    have h5' : (kdCells (m + 1) ks).map (SC.den ρ) = ((r.drop (j + 1)).map C.p).take ks.length := h5
    rw [h5']
    simp only [SC.den,At.ev,h7,Option.getD_some,Kd.of_pv h4]
  · cases h1
theorem sat_cl {ρ : List L} {x : At} : ∀ {ks : List Kd} {m j : Nat},Sat ρ m (clNds x j ks) →
  (kdCells m ks).map (SC.den ρ) = (((x.ev ρ).asC.drop j).map C.p).take ks.length ∧ ks.length ≤ ((x.ev ρ).asC.drop j).length
 | [],_,_,_ => by simp [kdCells]
 | k :: ks,m,j,h => by
  obtain ⟨⟨ls,h1,h2⟩,h3⟩ := h
  simp only [Nd.ev] at h1
  split at h1
  · rename_i q hq
    simp only [Option.map_eq_some_iff] at h1
    obtain ⟨l,h4,rfl⟩ := h1
    obtain ⟨h5,h6⟩ := sat_cl h3
    have hd : (x.ev ρ).asC.drop j = q :: (x.ev ρ).asC.drop (j + 1) := by
     obtain ⟨hlt,he⟩ := List.getElem?_eq_some_iff.1 hq
     rw [← he]; exact List.drop_eq_getElem_cons hlt
    have h7 := h2 0 (by simp [Nd.n])
    simp only [Nat.add_zero,List.getElem?_cons_zero] at h7
    refine ⟨?_,by rw [hd]; simpa using h6⟩
    simp only [kdCells,List.map_cons,hd,List.length_cons,List.take_succ_cons]
    have h5' : (kdCells (m + 1) ks).map (SC.den ρ) = (((x.ev ρ).asC.drop (j + 1)).map C.p).take ks.length := h5
    rw [h5']
    simp only [SC.den,At.ev,h7,Option.getD_some,Kd.of_pv h4]
  · cases h1
def sPack (r : Ty) (ks : List Kd) (m : Nat) : Option SV :=
 if r.agg then (if ks.length = r.size ∧ r.info = true then some (.v (.agg (kdCells m ks))) else none)
 else match r.some,ks with
  | true,[k] => some (.c1 (.p k (.v m)))
  | _,_ => none
theorem sPack_den {P : Program} {t : TypeId} {ks : List Kd} {m : Nat} {v : SV} {ρ : List L} {cs : List PV} (h : sPack (tyRow P t) ks m = some v) (h1 : (kdCells m ks).map (SC.den ρ) = (cs.map C.p).take ks.length) (h2 : ks.length ≤ cs.length) :
   readC P t (cs.map C.p) = some (v.den ρ) := by
 unfold sPack at h
 unfold readC
 have e1 : (tyRow P t).agg = tyAgg P t := rfl
 have e2 : (tyRow P t).size = tySize P t := rfl
 have e3 : (tyRow P t).info = tyInfo P t := rfl
 have e4 : (tyRow P t).some = tySome P t := rfl
 rw [e1,e2,e3,e4] at h
 split at h
 · rename_i ha
   rw [if_pos ha]
   split at h
   · rename_i hc
     cases h
     rw [if_pos ⟨by rw [← hc.1]; simpa using h2,hc.2⟩,← hc.1,← h1]
     rfl
   · cases h
 · rename_i ha
   rw [if_neg ha]
   split at h
   · rename_i k hs
     cases h
     cases cs with
     | nil => simp at h2
     | cons q qs =>
      simp [kdCells] at h1
      simp only [List.map_cons,hs]
      rw [← h1]; rfl
   · cases h
def colAt (cs : List SC) (off m : Nat) : Nat → Nat → Option (Kd × List At)
 | _,0 => none
 | k,c + 1 => match cs[off + k * m]? with
  | some (.p kd a) => if c = 0 then some (kd,[a]) else match colAt cs off m (k + 1) c with
   | some (kd',as) => if kd = kd' then some (kd,a :: as) else none
   | none => none
  | _ => none
theorem colAt_get {cs : List SC} {off m : Nat} : ∀ {c k : Nat} {kd : Kd} {as : List At},colAt cs off m k c = some (kd,as) → ∀ (i : Nat) (a : At),as[i]? = some a → cs[off + (k + i) * m]? = some (.p kd a)
 | 0,_,_,_,h => by cases h
 | c + 1,k,kd,as,h => by
  intro i a hi
  simp only [colAt] at h
  split at h
  · rename_i kd0 a0 hc
    split at h
    · cases h
      cases i with
      | zero => simp at hi; subst hi; exact hc
      | succ i => simp at hi
    · split at h
      · rename_i kd' as' hr
        split at h
        · rename_i hk
          subst hk
          cases h
          cases i with
          | zero => simp at hi; subst hi; exact hc
          | succ i =>
           have := colAt_get hr i a (by simpa using hi)
           rw [show k + (i + 1) = k + 1 + i by omega]; exact this
        · cases h
      · cases h
  · cases h
def colNds (cs : List SC) (off cnt m : Nat) (i : At) : Nat → Nat → Option (List Kd × List Nd)
 | _,0 => some ([],[])
 | j,c + 1 => match colAt cs (off + j) m 0 cnt,colNds cs off cnt m i (j + 1) c with
  | some (kd,as),some (ks,nds) => some (kd :: ks,.sel as i :: nds)
  | _,_ => none
theorem sat_col {ρ : List L} {cs : List SC} {off cnt m : Nat} {i : At} : ∀ {c j b : Nat} {ks : List Kd} {nds : List Nd},colNds cs off cnt m i j c = some (ks,nds) → Sat ρ b nds →
  ks.length = c ∧ ∀ jj,jj < c → ∃ k a,ks[jj]? = some k ∧ cs[off + j + jj + (i.ev ρ).asI.toNat * m]? = some (.p k a) ∧ a.ev ρ = At.ev ρ (.v (b + jj))
 | 0,_,_,_,_,h,_ => by cases h; exact ⟨rfl,fun jj hj => by omega⟩
 | c + 1,j,b,ks,nds,h,hs => by
  simp only [colNds] at h
  split at h
  · rename_i kd as ks' nds' h1 h2
    cases h
    obtain ⟨⟨ls,h3,h4⟩,h5⟩ := hs
    obtain ⟨h6,h7⟩ := sat_col h2 h5
    refine ⟨by simp [h6],fun jj hj => ?_⟩
    cases jj with
    | zero =>
     simp only [Nd.ev] at h3
     split at h3
     · rename_i a ha
       cases h3
       have := colAt_get h1 _ a ha
       simp only [Nat.zero_add] at this
       refine ⟨kd,a,rfl,by simpa using this,?_⟩
       have h8 := h4 0 (by simp [Nd.n])
       simp only [Nat.add_zero] at h8 ⊢
       simp only [At.ev,h8]; rfl
     · cases h3
    | succ jj =>
     obtain ⟨k,a,k1,k2,k3⟩ := h7 jj (by omega)
     refine ⟨k,a,by simpa using k1,?_,?_⟩
     · rw [show off + j + (jj + 1) = off + (j + 1) + jj by omega]; exact k2
     · rw [k3]; simp only [Nd.n]; rw [show b + 1 + jj = b + (jj + 1) by omega]
  · cases h
theorem kdCells_get : ∀ {ks : List Kd} {m jj : Nat} {k : Kd},ks[jj]? = some k → (kdCells m ks)[jj]? = some (.p k (.v (m + jj)))
 | [],_,_,_,h => by simp at h
 | k0 :: ks,m,jj,k,h => by
  cases jj with
  | zero => simp at h; subst h; rfl
  | succ jj =>
   have := kdCells_get (m := m + 1) (ks := ks) (by simpa using h)
   simp only [kdCells,List.getElem?_cons_succ]
   rw [this]; congr 3; omega
def sLoad (T : TTab) (S : SSt) (t : TypeId) (x : Operand) : Option SRes :=
 match S.arg x,List.lookup t T with
 | some (.v (.c (.ptr n off))),some r => match List.lookup n S.heap with
  | some (.box cs) => (sRead r (cs.drop off)).map SRes.pure
  | _ => none
 | some (.v (.c (.aptr n off cnt m i))),some r => match List.lookup n S.heap with
  | some (.box cs) => match colNds cs off cnt m i 0 (if r.agg then r.size else 1) with
   | some (ks,nds) => (sPack r ks S.nv).map fun v => ⟨nds,v,noSE,[]⟩
   | none => none
  | _ => none
 | some (.v (.c (.eptr n i j))),some r => match List.lookup n S.heap,r.kds with
  | some (.row _ x),some (k :: ks) => (sPack r (k :: ks) S.nv).map fun v => ⟨rcNds x i j (k :: ks),v,noSE,[]⟩
  | _,_ => none
 | some (.v (.c (.ref x j))),some r => match r.kds with
  | some ks => (sPack r ks S.nv).map fun v => ⟨clNds x j ks,v,noSE,[]⟩
  | none => none
 | _,_ => none
theorem den_heap (ρ : List L) (S : SSt) (n : Nat) : (S.den ρ).heap.lookup n = (List.lookup n S.heap).map (SB.den ρ) := SHp.lookup_den ρ S.heap n
theorem readC_col {P : Program} {t : TypeId} {cs : List SC} {off m b : Nat} {i : At} {ρ : List L} {ks : List Kd} {v : SV} (hp : sPack (tyRow P t) ks b = some v) (hc : ks.length = if (tyRow P t).agg then (tyRow P t).size else 1)
   (hg : ∀ jj,jj < ks.length → ∃ k a,ks[jj]? = some k ∧ cs[off + jj + (i.ev ρ).asI.toNat * m]? = some (.p k a) ∧ a.ev ρ = At.ev ρ (.v (b + jj))) : readC P t ((cs.map (SC.den ρ)).drop (off + (i.ev ρ).asI.toNat * m)) = some (v.den ρ) := by
 have hcell : ∀ jj,jj < ks.length → ((cs.map (SC.den ρ)).drop (off + (i.ev ρ).asI.toNat * m))[jj]? = ((kdCells b ks).map (SC.den ρ))[jj]? := by
   intro jj hj
   obtain ⟨k,a,h1,h2,h3⟩ := hg jj hj
   rw [List.getElem?_drop,List.getElem?_map,List.getElem?_map,kdCells_get h1,show off + (i.ev ρ).asI.toNat * m + jj = off + jj + (i.ev ρ).asI.toNat * m by omega,h2]
   simp only [Option.map_some,SC.den,h3]
 have hlen : ks.length ≤ ((cs.map (SC.den ρ)).drop (off + (i.ev ρ).asI.toNat * m)).length := by
   rcases Nat.eq_zero_or_pos ks.length with h0 | h0
   · omega
   · obtain ⟨k,a,h1,h2,h3⟩ := hg (ks.length - 1) (by omega)
     have := (List.getElem?_eq_some_iff.1 h2).1
     simp; omega
 unfold sPack at hp
 unfold readC
 have e1 : (tyRow P t).agg = tyAgg P t := rfl
 have e2 : (tyRow P t).size = tySize P t := rfl
 have e3 : (tyRow P t).info = tyInfo P t := rfl
 have e4 : (tyRow P t).some = tySome P t := rfl
 rw [e1,e2,e3,e4] at hp
 rw [e1,e2] at hc
 split at hp
 · rename_i ha
   rw [if_pos ha]
   rw [if_pos ha] at hc
   split at hp
   · rename_i h2
     cases hp
     rw [if_pos ⟨by rw [← hc]; exact hlen,h2.2⟩,← hc]
     simp only [SV.den,SV1.den]
     congr 3
     apply List.ext_getElem?
     intro jj
     rw [List.getElem?_take]
     split
     · rename_i hj; exact hcell jj hj
     · rename_i hj
       symm
       rw [List.getElem?_eq_none]
       simp [length_kdCells]; omega
   · cases hp
 · rename_i ha
   rw [if_neg ha]
   split at hp
   · rename_i k hs
     cases hp
     have h0 := hcell 0 (by simp)
     cases hd : (cs.map (SC.den ρ)).drop (off + (i.ev ρ).asI.toNat * m) with
     | nil => rw [hd] at hlen; simp at hlen
     | cons c l =>
       rw [hd] at h0
       simp [kdCells] at h0
       simp only [hs]
       rw [h0]; rfl
   · cases hp
section
variable {P : Program} {T : TTab} {S : SSt} {ρ : List L}
theorem sLoad_ok (hT : TTab.ok P T) {t : TypeId} {x : Operand} {r : SRes} (h : sLoad T S t x = some r) (hs : Sat ρ S.nv r.nds) : (evLoad P (S.den ρ) t x).map Res.pure = some (r.den ρ) := by
 unfold sLoad at h
 split at h
 · rename_i n off row hx hr
   have := hT _ _ hr; subst this
   split at h
   · rename_i cs hl
     simp only [Option.map_eq_some_iff] at h
     obtain ⟨v,h1,rfl⟩ := h
     simp only [evLoad,SSt.arg_den ρ hx,den_heap,hl,Option.map_some,SB.den,SV.den,SV1.den,SC.den]
     rw [← List.map_drop,sRead_den ρ h1]; rfl
   · cases h
 · rename_i n off cnt m i row hx hr
   have := hT _ _ hr; subst this
   split at h
   · rename_i cs hl
     split at h
     · rename_i ks nds hc
       simp only [Option.map_eq_some_iff] at h
       obtain ⟨v,h1,rfl⟩ := h
       simp only [evLoad,SSt.arg_den ρ hx,den_heap,hl,Option.map_some,SB.den,SV.den,SV1.den,SC.den]
       obtain ⟨h2,h3⟩ := sat_col hc hs
       rw [readC_col h1 h2 (fun jj hj => by
         obtain ⟨k,a,k1,k2,k3⟩ := h3 jj (by rw [← h2]; exact hj)
         exact ⟨k,a,k1,by simpa using k2,k3⟩)]
       rfl
     · cases h
   · cases h
 · rename_i n i j row hx hr
   have := hT _ _ hr; subst this
   split at h
   · rename_i e xr k ks hl hk
     simp only [Option.map_eq_some_iff] at h
     obtain ⟨v,h1,rfl⟩ := h
     simp only [evLoad,SSt.arg_den ρ hx,den_heap,hl,Option.map_some,SB.den,SV.den,SV1.den,SC.den]
     have hrow : ∃ rr,(xr.ev ρ).asR[(i.ev ρ).asI.toNat]? = some rr := by
       obtain ⟨⟨ls,h2,_⟩,_⟩ := hs
       simp only [Nd.ev] at h2
       split at h2
       · exact ⟨_,by assumption⟩
       · cases h2
     obtain ⟨rr,hrr⟩ := hrow
     obtain ⟨h2,h3⟩ := sat_rc hrr hs
     rw [hrr]
     simp only [List.map_drop] at h2 ⊢
     rw [← List.map_drop,sPack_den h1 (by rw [← List.map_drop] at h2; exact h2) h3]; rfl
   · cases h
 · rename_i xr j row hx hr
   have := hT _ _ hr; subst this
   split at h
   · rename_i ks hk
     simp only [Option.map_eq_some_iff] at h
     obtain ⟨v,h1,rfl⟩ := h
     simp only [evLoad,SSt.arg_den ρ hx,SV.den,SV1.den,SC.den]
     obtain ⟨h2,h3⟩ := sat_cl hs
     rw [sPack_den h1 h2 h3]; rfl
   · cases h
 · cases h
end
end
section
open Go.RowKit
open Classical
def sField (T : TTab) (S : SSt) (t : TypeId) (x : Operand) (f : Nat) : Option SRes :=
 match S.arg x,List.lookup t T with
 | some (.v (.c c)),some r => match r.fields[f]? with
  | some (some k) => match c with
   | .ptr n off => some (.pure (.c1 (.ptr n (off + k))))
   | .aptr n off cnt m i => some (.pure (.c1 (.aptr n (off + k) cnt m i)))
   | .eptr n i j => some (.pure (.c1 (.eptr n i (j + k))))
   | .ref x j => some (.pure (.c1 (.ref x (j + k))))
   | _ => none
  | _ => none
 | _,_ => none
def sIndex (T : TTab) (S : SSt) (t : TypeId) (x i : Operand) : Option SRes :=
 match S.arg i,S.arg x,List.lookup t T with
 | some (.v (.c (.p (.int _) ai))),some (.v (.c c)),some r => match c with
  | .ptr n off => match r.arr with
   | some (cnt,e) => match List.lookup e T with
    | some re => match ai with
     | .i k => if 0 ≤ k ∧ k < cnt then some (.pure (.c1 (.ptr n (off + k.toNat * re.size)))) else none
     | ai => some ⟨[.bnd ai cnt],.c1 (.aptr n off cnt re.size ai),noSE,[]⟩
    | none => none
   | none => none
  | .eptr n i0 j => match r.arr,ai with
   | some (cnt,e),.i k => match List.lookup e T with
    | some re => if 0 ≤ k ∧ k < cnt then some (.pure (.c1 (.eptr n i0 (j + k.toNat * re.size)))) else none
    | none => none
   | _,_ => none
  | .ref x j => match r.arr,ai with
   | some (cnt,e),.i k => match List.lookup e T with
    | some re => if 0 ≤ k ∧ k < cnt then some (.pure (.c1 (.ref x (j + k.toNat * re.size)))) else none
    | none => none
   | _,_ => none
  | .own n => match r.elem with
   | some e => match List.lookup n S.heap,List.lookup e T with
    | some (.row _ x),some re => some ⟨[.row x ai re.size],.c1 (.eptr n ai 0),noSE,[]⟩
    | _,_ => none
   | none => none
  | .sub n lo ln => match r.elem with
   | some e => match List.lookup n S.heap,List.lookup e T with
    | some (.row _ x),some re => some ⟨[.srow x lo ln ai re.size],.c1 (.eptr n (.v S.nv) 0),noSE,[]⟩
    | _,_ => none
   | none => none
  | .p .sl x => match r.elem with
   | some e => match List.lookup e T with
    | some re => some ⟨[.row x ai re.size],.c1 (.ref (.v S.nv) 0),noSE,[]⟩
    | none => none
   | none => none
  | _ => none
 | _,_,_ => none
section
variable {P : Program} {T : TTab} {S : SSt} {ρ : List L}
theorem sField_ok (hT : TTab.ok P T) {t : TypeId} {x : Operand} {f : Nat} {r : SRes} (h : sField T S t x f = some r) : (evField P (S.den ρ) t x f).map Res.pure = some (r.den ρ) := by
 unfold sField at h
 split at h
 · rename_i c row hx hr
   have := hT _ _ hr; subst this
   split at h
   · rename_i k hk
     have hf := Ty.field_ok hk
     have hx' := SSt.arg_den ρ hx
     split at h
     · cases h; simp only [evField,hx',hf,SV.den,SV1.den,SC.den]; rfl
     · cases h
       simp only [evField,hx',hf,SV.den,SV1.den,SC.den]
       simp only [Option.map_some,Res.pure,SRes.den,SRes.pure,SV.den,SV1.den,SC.den,Nat.add_right_comm]; rfl
     · cases h; simp only [evField,hx',hf,SV.den,SV1.den,SC.den]; rfl
     · cases h
       simp only [evField,hx',hf,SV.den,SV1.den,SC.den]
       simp only [Option.map_some,Res.pure,SRes.den,SRes.pure,SV.den,SV1.den,SC.den,List.drop_drop]; rfl
     · cases h
   · cases h
 · cases h
theorem Sat.ev1 {m : Nat} {nd : Nd} {nds : List Nd} (h : Sat ρ m (nd :: nds)) (hn : nd.n = 1) : ∃ l,nd.ev ρ = some [l] ∧ At.ev ρ (.v m) = l := by
 obtain ⟨⟨ls,h1,h2⟩,_⟩ := h
 have hl := Nd.ev_n h1
 rw [hn] at hl
 match ls,hl with
 | [l],_ =>
  refine ⟨l,h1,?_⟩
  have := h2 0 (by omega)
  simp only [Nat.add_zero] at this
  simp only [At.ev,this]; rfl
theorem sIndex_ok (hT : TTab.ok P T) {t : TypeId} {x i : Operand} {r : SRes} (h : sIndex T S t x i = some r) (hs : Sat ρ S.nv r.nds) : (evIndex P (S.den ρ) t x i).map Res.pure = some (r.den ρ) := by
 unfold sIndex at h
 split at h
 · rename_i k ai c row hi hx hr
   have := hT _ _ hr; subst this
   have hi' : (S.den ρ).arg i = some (.v (.c (.p (.sc (.int k (ai.ev ρ).asI))))) := SSt.arg_den ρ hi
   have hx' := SSt.arg_den ρ hx
   have sz : ∀ {e : TypeId} {re : Ty},List.lookup e T = some re → re.size = tySize P e := fun he => by rw [hT _ _ he]; rfl
   split at h
   · rename_i n off
     split at h
     · rename_i cnt e harr
       have harr' : tyArr P t = some (cnt,e) := harr
       split at h
       · rename_i re he
         split at h
         · rename_i c
           split at h
           · rename_i hc
             cases h
             simp only [evIndex,hi',hx',SV.den,SV1.den,SC.den,harr',At.ev,L.asI]
             rw [need_ok (by simpa using hc)]
             simp only [Option.map_some,Res.pure,SRes.den,SRes.pure,SV.den,SV1.den,SC.den,sz he]; rfl
           · cases h
         · cases h
           obtain ⟨⟨ls,h1,_⟩,_⟩ := hs
           simp only [Nd.ev] at h1
           split at h1
           · rename_i hc
             simp only [evIndex,hi',hx',SV.den,SV1.den,SC.den,harr']
             rw [need_ok hc]
             simp only [Option.map_some,Res.pure,SRes.den,SV.den,SV1.den,SC.den,sz he]; rfl
           · cases h1
       · cases h
     · cases h
   · rename_i n i0 j
     split at h
     · rename_i cnt e c harr
       have harr' : tyArr P t = some (cnt,e) := harr
       split at h
       · rename_i re he
         split at h
         · rename_i hc
           cases h
           simp only [evIndex,hi',hx',SV.den,SV1.den,SC.den,harr',At.ev,L.asI]
           rw [need_ok (by simpa using hc)]
           simp only [Option.map_some,Res.pure,SRes.den,SRes.pure,SV.den,SV1.den,SC.den,sz he]; rfl
         · cases h
       · cases h
     · cases h
   · rename_i xr j
     split at h
     · rename_i cnt e c harr
       have harr' : tyArr P t = some (cnt,e) := harr
       split at h
       · rename_i re he
         split at h
         · rename_i hc
           cases h
           simp only [evIndex,hi',hx',SV.den,SV1.den,SC.den,harr',At.ev,L.asI]
           rw [need_ok (by simpa using hc)]
           simp only [Option.map_some,Res.pure,SRes.den,SRes.pure,SV.den,SV1.den,SC.den,sz he,List.drop_drop]; rfl
         · cases h
       · cases h
     · cases h
   · rename_i n
     split at h
     · rename_i e hel
       have hel' : tyElem P t = some e := hel
       split at h
       · rename_i e' xr re hl he
         cases h
         obtain ⟨l,h1,_⟩ := hs.ev1 rfl
         simp only [Nd.ev] at h1
         split at h1
         · rename_i h0
           split at h1
           · rename_i rr hrr
             split at h1
             · rename_i hlen
               simp only [evIndex,hi',hx',SV.den,SV1.den,SC.den,hel',ASt.elem,den_heap,hl,Option.map_some,SB.den,hrr]
               rw [need_ok h0,← sz he,if_pos hlen]; rfl
             · cases h1
           · cases h1
         · cases h1
       · cases h
     · cases h
   · rename_i n lo ln
     split at h
     · rename_i e hel
       have hel' : tyElem P t = some e := hel
       split at h
       · rename_i e' xr re hl he
         cases h
         obtain ⟨l,h1,h2⟩ := hs.ev1 rfl
         simp only [Nd.ev] at h1
         split at h1
         · rename_i h0
           split at h1
           · rename_i rr hrr
             split at h1
             · rename_i hlen
               cases h1
               simp only [evIndex,hi',hx',SV.den,SV1.den,SC.den,hel',ASt.elem,den_heap,hl,Option.map_some,SB.den,hrr]
               rw [need_ok h0,← sz he,if_pos hlen]
               simp only [Option.map_some,Res.pure,SRes.den,SV.den,SV1.den,SC.den,h2,L.asI,Int.toNat_natCast]; rfl
             · cases h1
           · cases h1
         · cases h1
       · cases h
     · cases h
   · rename_i xr
     split at h
     · rename_i e hel
       have hel' : tyElem P t = some e := hel
       split at h
       · rename_i re he
         cases h
         obtain ⟨l,h1,h2⟩ := hs.ev1 rfl
         simp only [Nd.ev] at h1
         split at h1
         · rename_i h0
           split at h1
           · rename_i rr hrr
             split at h1
             · rename_i hlen
               cases h1
               simp only [evIndex,hi',hx',SV.den,SV1.den,SC.den,Kd.pv,hel',ASt.elem,hrr]
               rw [need_ok h0,← sz he,if_pos hlen]
               simp only [Option.map_some,Res.pure,SRes.den,SV.den,SV1.den,SC.den,h2,L.asC,List.drop_zero]; rfl
             · cases h1
           · cases h1
         · cases h1
       · cases h
     · cases h
   · cases h
 · cases h
def SSt.sink (S : SSt) : SC → Option ((Kd × At) × List Nat)
 | .p k x => some ((k,x),[])
 | .nil => some ((.sl,.r0),[])
 | .own n => match List.lookup n S.heap with
  | some (.row _ x) => some ((.sl,x),[n])
  | _ => none
 | _ => none
def SSt.sinks (S : SSt) : List SC → Option (List (Kd × At) × List Nat)
 | [] => some ([],[])
 | c :: cs => match S.sink c,S.sinks cs with
  | some (q,ns),some (qs,ms) => some (q :: qs,ns ++ ms)
  | _,_ => none
theorem SSt.sink_den {c : SC} {q : Kd × At} {ns : List Nat} (h : S.sink c = some (q,ns)) : (S.den ρ).sink (c.den ρ) = some (q.1.pv (q.2.ev ρ),ns) := by
 cases c with
 | p k x => cases h; rfl
 | nil => cases h; rfl
 | own n =>
  simp only [SSt.sink] at h
  split at h
  · rename_i e x hl
    cases h
    simp only [SC.den,ASt.sink,den_heap,hl,Option.map_some,SB.den]; rfl
  · cases h
 | _ => cases h
theorem SSt.sinks_den : ∀ {cs : List SC} {qs : List (Kd × At)} {ns : List Nat},S.sinks cs = some (qs,ns) → (S.den ρ).sinks (cs.map (SC.den ρ)) = some (pvsOf ρ qs,ns)
 | [],_,_,h => by cases h; rfl
 | c :: cs,qs,ns,h => by
  simp only [SSt.sinks] at h
  split at h
  · rename_i q ns1 qs1 ms h1 h2
    cases h
    simp only [List.map_cons,ASt.sinks,SSt.sink_den h1,SSt.sinks_den h2]; rfl
  · cases h
def SV1.cells : SV1 → List SC
 | .c x => [x]
 | .agg xs => xs
theorem SV1.cells_den (x : SV1) : (x.den ρ).cells = x.cells.map (SC.den ρ) := by cases x <;> rfl
def sStore (T : TTab) (S : SSt) (t : TypeId) (x y : Operand) : Option SRes :=
 match S.arg x,S.arg y,List.lookup t T with
 | some (.v (.c (.ptr n off))),some (.v y),some r => match List.lookup n S.heap with
  | some (.box cs) => if y.cells.length = r.size ∧ off + y.cells.length ≤ cs.length ∧ r.info = true then some ⟨[],.c1 .dead,⟨[(n,.box (cs.take off ++ y.cells ++ cs.drop (off + y.cells.length)))],[]⟩,[]⟩ else none
  | _ => none
 | some (.v (.c (.eptr n i j))),some (.v y),some r => match List.lookup n S.heap,S.sinks y.cells with
  | some (.row e x),some (ps,ns) => if ps.length = r.size ∧ r.info = true ∧ n ∉ ns then some ⟨[.set x i j ps],.c1 .dead,⟨[(n,.row e (.v S.nv))],ns⟩,[]⟩ else none
  | _,_ => none
 | _,_,_ => none
theorem sStore_ok (hT : TTab.ok P T) {t : TypeId} {x y : Operand} {r : SRes} (h : sStore T S t x y = some r) (hs : Sat ρ S.nv r.nds) : (evStore P (S.den ρ) t x y).map (fun e => (⟨.c .dead,e,[]⟩ : Res)) = some (r.den ρ) := by
 unfold sStore at h
 split at h
 · rename_i n off y1 row hx hy hr
   have := hT _ _ hr; subst this
   split at h
   · rename_i cs hl
     split at h
     · rename_i hc
       cases h
       have hx' : (S.den ρ).arg x = some (.v (.c (.ptr n off))) := SSt.arg_den ρ hx
       have hy' : (S.den ρ).arg y = some (.v (y1.den ρ)) := SSt.arg_den ρ hy
       simp only [evStore,hx',hy',den_heap,hl,Option.map_some,SB.den,SV1.cells_den,List.length_map]
       rw [if_pos ⟨hc.1,hc.2.1,hc.2.2⟩]
       simp only [Option.map_some,SRes.den,SEff.den,SHp.den,List.map_cons,List.map_nil,SB.den,List.map_append,List.map_take,List.map_drop]; rfl
     · cases h
   · cases h
 · rename_i n i j y1 row hx hy hr
   have := hT _ _ hr; subst this
   split at h
   · rename_i e xr ps ns hl hsk
     split at h
     · rename_i hc
       cases h
       have hx' : (S.den ρ).arg x = some (.v (.c (.eptr n (i.ev ρ).asI.toNat j))) := SSt.arg_den ρ hx
       have hy' : (S.den ρ).arg y = some (.v (y1.den ρ)) := SSt.arg_den ρ hy
       obtain ⟨l,h1,h2⟩ := hs.ev1 rfl
       simp only [Nd.ev] at h1
       split at h1
       · rename_i rr hrr
         split at h1
         · rename_i hfit
           cases h1
           simp only [evStore,hx',hy',den_heap,hl,Option.map_some,SB.den,SV1.cells_den,SSt.sinks_den hsk,hrr]
           have hpl : (pvsOf ρ ps).length = ps.length := by simp [pvsOf]
           rw [hpl,if_pos ⟨hc.1,hfit,hc.2.1,hc.2.2⟩]
           simp only [Option.map_some,SRes.den,SEff.den,SHp.den,List.map_cons,List.map_nil,SB.den,h2,L.asR]; rfl
         · cases h1
       · cases h1
     · cases h
   · cases h
 · cases h
end
end
end Go.Proofs.YtndegphojkiblaaGreatDoor
