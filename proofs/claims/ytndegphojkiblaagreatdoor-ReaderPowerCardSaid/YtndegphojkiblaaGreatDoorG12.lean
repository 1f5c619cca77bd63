/- Towards the last file's theorem: part 12. -/
import Derived.Test.YtndegphojkiblaaGreatDoorG11
set_option linter.unusedSimpArgs false
set_option linter.unusedVariables false
namespace Go.Proofs.YtndegphojkiblaaGreatDoor
section
open Go.RowKit
open Classical
def SSt.num (S : SSt) (o : Option Operand) (d : At) : Option At := match o with
 | none => some d
 | some o => match S.arg o with
  | some (.v (.c (.p (.int _) a))) => some a
  | _ => none
def SSt.view (S : SSt) (m : Nat) : SC → Option (List Nd × At)
 | .p .sl x => some ([],x)
 | .nil => some ([],.r0)
 | .own n => match List.lookup n S.heap with
  | some (.row _ x) => some ([],x)
  | _ => none
 | .sub n lo ln => match List.lookup n S.heap with
  | some (.row _ x) => some ([.vw x lo ln],.v m)
  | _ => none
 | _ => none
def lenAt (l h v : At) : At := match l,h with
 | .i 0,.i 0 => .i 0
 | _,_ => v
theorem lenAt_ev {ρ : List L} {l h v : At} (hv : v.ev ρ = .i (((h.ev ρ).asI.toNat - (l.ev ρ).asI.toNat : Nat) : Int)) : (lenAt l h v).ev ρ = .i (((h.ev ρ).asI.toNat - (l.ev ρ).asI.toNat : Nat) : Int) := by
 unfold lenAt
 split
 · rfl
 · exact hv
def sSlice (T : TTab) (S : SSt) (t : TypeId) (x : Operand) (lo hi : Option Operand) : Option SRes :=
 match S.arg x,List.lookup t T,S.num lo (.i 0) with
 | some (.v (.c c)),some r,some l => match c with
  | .p .str a => if r.isS then match S.num hi (.v S.nv) with
    | some h => some ⟨[.slen a,.ssub a l h],.c1 (.p .str (.v (S.nv + 1))),noSE,[]⟩
    | none => none
   else none
  | .p .sl a => match r.elem with
   | some e => match List.lookup e T,S.num hi (.v S.nv) with
    | some re,some h => some ⟨[.len a,.part a l h re.size],.c1 (.p .sl (.v (S.nv + 1))),noSE,[]⟩
    | _,_ => none
   | none => none
  | .own n => match r.elem,List.lookup n S.heap with
   | some e,some (.row _ a) => match List.lookup e T,S.num hi (.v S.nv) with
    | some re,some h => some ⟨[.len a,.cut a l h re.size],.c1 (.sub n l (lenAt l h (.v (S.nv + 1)))),noSE,[]⟩
    | _,_ => none
   | _,_ => none
  | .sub n l0 ln => match r.elem,List.lookup n S.heap with
   | some e,some (.row _ a) => match List.lookup e T,S.num hi ln with
    | some re,some h => some ⟨[.cut2 a l0 ln l h re.size],.c1 (.sub n (.v S.nv) (.v (S.nv + 1))),noSE,[]⟩
    | _,_ => none
   | _,_ => none
  | .nil => match r.elem with
   | some e => match List.lookup e T,S.num hi (.i 0) with
    | some re,some h => some ⟨[.cut .r0 l h re.size],.c1 .nil,noSE,[]⟩
    | _,_ => none
   | none => none
  | _ => none
 | _,_,_ => none
def SSt.appSrc (S : SSt) (e : TypeId) (m : Nat) : SC → Option (List Nd × At × List Nat)
 | .nil => some ([],.r0,[])
 | .own n => match List.lookup n S.heap with
  | some (.row e' x) => if e' = e then some ([],x,[n]) else none
  | _ => none
 | .sub n (.i 0) ln => match List.lookup n S.heap with
  | some (.row e' x) => if e' = e then some ([.tk x ln],.v m,[n]) else none
  | _ => none
 | _ => none
def sAppend (T : TTab) (S : SSt) (d : Nat) (t : TypeId) (s x : Operand) : Option SRes :=
 match S.arg s,S.arg x,(List.lookup t T).bind Ty.elem with
 | some (.v (.c cs)),some (.v (.c cx)),some e => match (List.lookup e T).bind Ty.app,S.appSrc e S.nv cs with
  | some (n,b),some (nds,a,ms) => match S.view (S.nv + ndsN nds) cx with
   | some (nds',a') => some ⟨nds ++ nds' ++ [.app a a' n b],.c1 (.own d),⟨[(d,.row e (.v (S.nv + ndsN (nds ++ nds'))))],ms⟩,[]⟩
   | none => none
  | _,_ => none
 | _,_,_ => none
def sLen (T : TTab) (S : SSt) (t : TypeId) (x : Operand) : Option SRes :=
 match S.arg x,List.lookup t T with
 | some (.v (.c (.p .str a))),some r => if r.isS then some ⟨[.slen a],.c1 (.p (.int .i64) (.v S.nv)),noSE,[]⟩ else none
 | some (.v (.c c)),some r => match S.view S.nv c,r.sl with
  | some ([],.r0),some _ => some ⟨[],.c1 (.p (.int .i64) (.i 0)),noSE,[]⟩
  | some (nds,a),some _ => some ⟨nds ++ [.len a],.c1 (.p (.int .i64) (.v (S.nv + ndsN nds))),noSE,[]⟩
  | _,_ => none
 | _,_ => none
section
variable {P : Program} {T : TTab} {S : SSt} {ρ : List L}
theorem num_den {o : Option Operand} {d a : At} {k : Int} (h : S.num o d = some a) (hd : o = none → (d.ev ρ).asI = k) : (S.den ρ).num o k = some (a.ev ρ).asI := by
 cases o with
 | none => cases h; simp only [ASt.num,hd rfl]
 | some o =>
  simp only [SSt.num] at h
  split at h
  · rename_i kk a' hx
    cases h
    have hx' : (S.den ρ).arg o = some (.v (.c (.p (.sc (.int kk (a.ev ρ).asI))))) := SSt.arg_den ρ hx
    simp only [ASt.num,hx']
  · cases h
theorem view_den {m : Nat} {c : SC} {nds : List Nd} {a : At} (h : S.view m c = some (nds,a)) (hs : Sat ρ m nds) : (S.den ρ).view (c.den ρ) = some (a.ev ρ).asR := by
 unfold SSt.view at h
 split at h
 · cases h; rfl
 · cases h; rfl
 · split at h
   · rename_i hl; cases h
     simp only [SC.den,ASt.view,den_heap,hl,Option.map_some,SB.den]
   · cases h
 · split at h
   · rename_i hl; cases h
     obtain ⟨l,h1,h2⟩ := hs.ev1 rfl
     simp only [Nd.ev] at h1
     cases h1
     simp only [SC.den,ASt.view,den_heap,hl,Option.map_some,SB.den,h2,L.asR]
   · cases h
 · cases h
theorem headOk_iff {size : Nat} {rows : List (List PV)} (h : headOk size rows = true) : ∀ r,rows[0]? = some r → r.length = size := by
 intro r hr
 cases rows with
 | nil => simp at hr
 | cons a l => simp at hr; subst hr; simpa [headOk] using h
theorem tyIsS_eq {t : TypeId} (h : tyIsS P t = true) : P.underlying t = some .string := by
 unfold tyIsS at h
 split at h
 · assumption
 · cases h
theorem tySl_eq {t e : TypeId} (h : tySl P t = some e) : P.underlying t = some (.slice e) := by
 unfold tySl at h
 split at h
 · cases h; assumption
 · cases h
theorem sSlice_ok (hT : TTab.ok P T) {t : TypeId} {x : Operand} {lo hi : Option Operand} {r : SRes} (h : sSlice T S t x lo hi = some r) (hs : Sat ρ S.nv r.nds) : (evSlice P (S.den ρ) t x lo hi).map Res.pure = some (r.den ρ) := by
 unfold sSlice at h
 split at h
 · rename_i c row l hx hr hlo
   have := hT _ _ hr; subst this
   have hlo' : (S.den ρ).num lo 0 = some (l.ev ρ).asI := num_den hlo (fun _ => rfl)
   have hx' := SSt.arg_den ρ hx
   have sz : ∀ {e : TypeId} {re : Ty},List.lookup e T = some re → re.size = tySize P e := fun he => by rw [hT _ _ he]; rfl
   split at h
   · rename_i a
     split at h
     · rename_i hS
       split at h
       · rename_i hh hhi
         cases h
         obtain ⟨l1,h1,h2⟩ := hs.ev1 rfl
         obtain ⟨l2,h3,h4⟩ := Sat.ev1 hs.2 rfl
         simp only [Nd.ev] at h1 h3
         cases h1
         have hhi' : (S.den ρ).num hi ((a.ev ρ).asS.size : Int) = some (hh.ev ρ).asI := num_den hhi (fun _ => by rw [h2]; rfl)
         split at h3
         · rename_i hc
           cases h3
           simp only [evSlice,hx',SV.den,SV1.den,SC.den,Kd.pv,hlo',hhi',tyIsS_eq (P := P) hS]
           rw [need_ok hc]
           simp only [Option.map_some,Res.pure,SRes.den,SV.den,SV1.den,SC.den,Kd.pv]
           have : At.ev ρ (.v (S.nv + 1)) = _ := h4
           rw [this]; rfl
         · cases h3
       · cases h
     · cases h
   · rename_i a
     split at h
     · rename_i e hel
       have hel' : tyElem P t = some e := hel
       split at h
       · rename_i re hh he hhi
         cases h
         obtain ⟨l1,h1,h2⟩ := hs.ev1 rfl
         obtain ⟨l2,h3,h4⟩ := Sat.ev1 hs.2 rfl
         simp only [Nd.ev] at h1 h3
         cases h1
         have hhi' : (S.den ρ).num hi ((a.ev ρ).asR.length : Int) = some (hh.ev ρ).asI := num_den hhi (fun _ => by rw [h2]; rfl)
         split at h3
         · rename_i hc
           cases h3
           simp only [evSlice,hx',SV.den,SV1.den,SC.den,Kd.pv,ASt.clen,ASt.view,Option.map_some,hel',hlo',hhi']
           rw [need_ok ⟨hc.1,hc.2.1⟩]
           simp only [ASt.part]
           rw [if_pos ⟨hc.2.2.1,by rw [← sz he,← rectB_iff]; exact hc.2.2.2⟩]
           simp only [Option.map_some,Res.pure,SRes.den,SV.den,SV1.den,SC.den,Kd.pv]
           have : At.ev ρ (.v (S.nv + 1)) = _ := h4
           rw [this]; rfl
         · cases h3
       · cases h
     · cases h
   · rename_i n
     split at h
     · rename_i e e' a hel hl
       have hel' : tyElem P t = some e := hel
       split at h
       · rename_i re hh he hhi
         cases h
         obtain ⟨l1,h1,h2⟩ := hs.ev1 rfl
         obtain ⟨l2,h3,h4⟩ := Sat.ev1 hs.2 rfl
         simp only [Nd.ev] at h1 h3
         cases h1
         have hhi' : (S.den ρ).num hi ((a.ev ρ).asR.length : Int) = some (hh.ev ρ).asI := num_den hhi (fun _ => by rw [h2]; rfl)
         split at h3
         · rename_i hc
           cases h3
           simp only [evSlice,hx',SV.den,SV1.den,SC.den,ASt.clen,ASt.view,den_heap,hl,Option.map_some,SB.den,hel',hlo',hhi']
           rw [need_ok ⟨hc.1,hc.2.1⟩]
           simp only [ASt.part,den_heap,hl,Option.map_some,SB.den]
           rw [if_pos ⟨hc.2.2.1,by rw [← sz he]; exact headOk_iff hc.2.2.2⟩]
           simp only [Option.map_some,Res.pure,SRes.den,SV.den,SV1.den,SC.den]
           have e9 : (lenAt l hh (.v (S.nv + 1))).ev ρ = _ := lenAt_ev h4
           rw [e9]; simp only [L.asI,Int.toNat_natCast]; rfl
         · cases h3
       · cases h
     · cases h
   · rename_i n l0 ln
     split at h
     · rename_i e e' a hel hl
       have hel' : tyElem P t = some e := hel
       split at h
       · rename_i re hh he hhi
         cases h
         obtain ⟨ls,h1,h2⟩ := hs.one
         simp only [Nd.ev] at h1
         split at h1
         · rename_i hc
           cases h1
           have h20 := h2 0 (by simp [Nd.n])
           have h21 := h2 1 (by simp [Nd.n])
           simp only [Nat.add_zero,List.getElem?_cons_zero,Option.getD_some] at h20
           simp only [List.getElem?_cons_succ,List.getElem?_cons_zero,Option.getD_some] at h21
           have hhi' : (S.den ρ).num hi ((ln.ev ρ).asI.toNat : Int) = some (hh.ev ρ).asI := num_den hhi (fun hn => by
            subst hn
            simp only [SSt.num] at hhi
            cases hhi
            have := hc.1; have := hc.2.1; omega)
           simp only [evSlice,hx',SV.den,SV1.den,SC.den,ASt.clen,hel',hlo',hhi']
           rw [need_ok ⟨hc.1,hc.2.1⟩]
           simp only [ASt.part,den_heap,hl,Option.map_some,SB.den]
           rw [if_pos ⟨hc.2.2.1,by rw [← sz he]; exact headOk_iff hc.2.2.2⟩]
           simp only [Option.map_some,Res.pure,SRes.den,SV.den,SV1.den,SC.den,h20,h21,L.asI,Int.toNat_natCast]; rfl
         · cases h1
       · cases h
     · cases h
   · split at h
     · rename_i e hel
       have hel' : tyElem P t = some e := hel
       split at h
       · rename_i re hh he hhi
         cases h
         obtain ⟨l1,h1,h2⟩ := hs.ev1 rfl
         simp only [Nd.ev] at h1
         split at h1
         · rename_i hc
           have hhi' : (S.den ρ).num hi 0 = some (hh.ev ρ).asI := num_den hhi (fun _ => rfl)
           have h0 : (hh.ev ρ).asI.toNat = 0 := by
            have e0 : (At.ev ρ .r0).asR = [] := rfl
            have := hc.2.2.1
            rw [e0] at this
            exact Nat.le_zero.1 this
           simp only [evSlice,hx',SV.den,SV1.den,SC.den,ASt.clen,ASt.view,Option.map_some,hel',hlo',List.length_nil]
           have hhi2 : (S.den ρ).num hi ((0 : Nat) : Int) = some (hh.ev ρ).asI := hhi'
           simp only [hhi2]
           rw [need_ok ⟨hc.1,hc.2.1⟩]
           simp only [ASt.part]
           rw [if_pos h0]; rfl
         · cases h1
       · cases h
     · cases h
   · cases h
 · cases h
theorem appSrc_den {e : TypeId} {m : Nat} {c : SC} {nds : List Nd} {a : At} {ms : List Nat} (h : S.appSrc e m c = some (nds,a,ms)) (hs : Sat ρ m nds) : (S.den ρ).appSrc e (c.den ρ) = some ((a.ev ρ).asR,ms) := by
 unfold SSt.appSrc at h
 split at h
 · cases h; rfl
 · split at h
   · rename_i hl
     split at h
     · rename_i hee
       cases h
       simp only [SC.den,ASt.appSrc,den_heap,hl,Option.map_some,SB.den,hee,if_true]
     · cases h
   · cases h
 · split at h
   · rename_i hl
     split at h
     · rename_i hee
       cases h
       obtain ⟨l,h1,h2⟩ := hs.ev1 rfl
       simp only [Nd.ev] at h1
       cases h1
       simp only [SC.den,At.ev,L.asI,Int.toNat_zero,ASt.appSrc,den_heap,hl,Option.map_some,SB.den,hee,if_true]
       simp only [At.ev] at h2
       rw [h2]; rfl
     · cases h
   · cases h
 · cases h
theorem sAppend_ok (hT : TTab.ok P T) {d : Nat} {t : TypeId} {s x : Operand} {r : SRes} (h : sAppend T S d t s x = some r) (hs : Sat ρ S.nv r.nds) : (evAppend P (S.den ρ) d t s x).map Res.of = some (r.den ρ) := by
 unfold sAppend at h
 split at h
 · rename_i cs cx e hcs hcx hel
   simp only [Option.bind_eq_some_iff] at hel
   obtain ⟨row,hr,hel⟩ := hel
   have := hT _ _ hr; subst this
   have hel' : tyElem P t = some e := hel
   split at h
   · rename_i n b nds a ms happ hsrc
     simp only [Option.bind_eq_some_iff] at happ
     obtain ⟨row',hr',happ⟩ := happ
     have := hT _ _ hr'; subst this
     have happ' : tyApp P e = some (n,b) := happ
     split at h
     · rename_i nds' a' hv
       cases h
       obtain ⟨hs1,hs2⟩ := Sat.app (a := nds ++ nds') (b := [.app a a' n b]) hs
       obtain ⟨hs3,hs4⟩ := Sat.app hs1
       obtain ⟨l,h1,h2⟩ := hs2.ev1 rfl
       simp only [Nd.ev] at h1
       split at h1
       · rename_i hc
         cases h1
         have k1 : (S.den ρ).arg s = some (.v (.c (cs.den ρ))) := SSt.arg_den ρ hcs
         have k2 : (S.den ρ).arg x = some (.v (.c (cx.den ρ))) := SSt.arg_den ρ hcx
         simp only [evAppend,hel',happ',k1,k2,appSrc_den hsrc hs3,view_den hv hs4]
         rw [if_pos hc]
         simp only [Option.map_some,Res.of,SRes.den,SEff.den,SHp.den,List.map_cons,List.map_nil,SB.den,h2,L.asR]; rfl
       · cases h1
     · cases h
   · cases h
 · cases h
theorem sLen_ok (hT : TTab.ok P T) {t : TypeId} {x : Operand} {r : SRes} (h : sLen T S t x = some r) (hs : Sat ρ S.nv r.nds) : (evLen P (S.den ρ) t x).map Res.pure = some (r.den ρ) := by
 unfold sLen at h
 split at h
 · rename_i a row hx hr
   have := hT _ _ hr; subst this
   split at h
   · rename_i hS
     cases h
     obtain ⟨l,h1,h2⟩ := hs.ev1 rfl
     simp only [Nd.ev] at h1
     cases h1
     have hx' := SSt.arg_den ρ hx
     simp only [evLen,hx',SV.den,SV1.den,SC.den,Kd.pv,tyIsS_eq (P := P) hS]
     simp only [Option.map_some,Res.pure,SRes.den,SV.den,SV1.den,SC.den,Kd.pv,h2,L.asI]; rfl
   · cases h
 · rename_i c row hno hx hr
   have := hT _ _ hr; subst this
   split at h
   · rename_i e hv hsl
     have hsl' : tySl P t = some e := hsl
     cases h
     have hx' : (S.den ρ).arg x = some (.v (.c (c.den ρ))) := SSt.arg_den ρ hx
     have hv' := view_den (ρ := ρ) hv trivial
     have hres : evLen P (S.den ρ) t x = some (.sc (.int .i64 ((At.r0).ev ρ).asR.length)) := by
      unfold evLen
      rw [hx']
      split
      · rename_i b heq
        cases c with
        | p k y =>
         cases k with
         | str => exact absurd rfl (hno y)
         | _ => simp [SC.den,Kd.pv] at heq
        | _ => simp [SC.den] at heq
      · rename_i c' _ heq
        simp only [Option.some.injEq,V.v.injEq,V1.c.injEq] at heq
        subst heq
        rw [hv',tySl_eq hsl']
      · rename_i h1 h2
        exact absurd rfl (h2 _)
     rw [hres]
     rfl
   · rename_i nds a e _ hv hsl
     have hsl' : tySl P t = some e := hsl
     cases h
     obtain ⟨hs1,hs2⟩ := Sat.app hs
     obtain ⟨l,h1,h2⟩ := hs2.ev1 rfl
     simp only [Nd.ev] at h1
     cases h1
     have hx' : (S.den ρ).arg x = some (.v (.c (c.den ρ))) := SSt.arg_den ρ hx
     have hv' := view_den hv hs1
     have hres : evLen P (S.den ρ) t x = some (.sc (.int .i64 (a.ev ρ).asR.length)) := by
      unfold evLen
      rw [hx']
      split
      · rename_i b heq
        cases c with
        | p k y =>
         cases k with
         | str => exact absurd rfl (hno y)
         | _ => simp [SC.den,Kd.pv] at heq
        | _ => simp [SC.den] at heq
      · rename_i c' _ heq
        simp only [Option.some.injEq,V.v.injEq,V1.c.injEq] at heq
        subst heq
        rw [hv',tySl_eq hsl']
      · rename_i h1 h2
        exact absurd rfl (h2 _)
     rw [hres]
     simp only [Option.map_some,Res.pure,SRes.den,SV.den,SV1.den,SC.den,Kd.pv,h2,L.asI]; rfl
   · cases h
 · cases h
end
end
section
open Go.RowKit
open Classical
def SSt.arg1 (S : SSt) (x : Operand) : Option SV1 := match S.arg x with | some (.v x) => some x | _ => none
theorem SSt.arg1_den (ρ : List L) {S : SSt} {x : Operand} {y : SV1} (h : S.arg1 x = some y) : (S.den ρ).arg1 x = some (y.den ρ) := by
 unfold SSt.arg1 at h
 split at h
 · rename_i hx
   cases h
   have := SSt.arg_den ρ hx
   simp only [ASt.arg1,this]; rfl
 · cases h
def SSt.lits (S : SSt) : List Operand → Option (List (List (Kd × At)) × List Nat)
 | [] => some ([],[])
 | x :: xs => match S.arg1 x with
  | some y => match S.sinks y.cells,S.lits xs with
   | some (r,ns),some (rs,ms) => some (r :: rs,ns ++ ms)
   | _,_ => none
  | none => none
theorem SSt.lits_den {S : SSt} {ρ : List L} : ∀ {xs : List Operand} {rows : List (List (Kd × At))} {ns : List Nat},S.lits xs = some (rows,ns) → (S.den ρ).lits xs = some (rows.map (pvsOf ρ),ns)
 | [],_,_,h => by cases h; rfl
 | x :: xs,rows,ns,h => by
  simp only [SSt.lits] at h
  split at h
  · rename_i y hy
    split at h
    · rename_i r ns1 rs ms h1 h2
      cases h
      simp only [ASt.lits,SSt.arg1_den ρ hy,SV1.cells_den,SSt.sinks_den h1,SSt.lits_den h2]; rfl
    · cases h
  · cases h
def sLit (T : TTab) (S : SSt) (d : Nat) (t : TypeId) (len : Nat) (parts : List (Nat × Operand)) : Option SRes :=
 match (List.lookup t T).bind Ty.elem with
 | some e => match (List.lookup e T).bind Ty.app,S.lits (parts.map (·.2)) with
  | some (n,_),some (rows,ns) => if parts.map (·.1) = List.range len ∧ (rows.all (·.length == n)) = true ∧ len * n ≤ 16777216 then some ⟨[.lit rows],.c1 (.own d),⟨[(d,.row e (.v S.nv))],ns⟩,[]⟩ else none
  | _,_ => none
 | none => none
def zeroPs : List Kd → Option (List (Kd × At))
 | [] => some []
 | k :: ks => match k.zero,zeroPs ks with
  | .p k a,some ps => some ((k,a) :: ps)
  | .nil,some ps => some ((.sl,.r0) :: ps)
  | _,_ => none
theorem zeroPs_den {ρ : List L} : ∀ {ks : List Kd} {ps : List (Kd × At)},zeroPs ks = some ps → pvs ((ks.map Kd.zero).map (SC.den ρ)) = some (pvsOf ρ ps)
 | [],_,h => by cases h; rfl
 | k :: ks,ps,h => by
  simp only [zeroPs] at h
  split at h
  · rename_i k' a ps' h1 h2
    cases h
    have := zeroPs_den (ρ := ρ) h2
    unfold pvs at this ⊢
    simp only [List.map_cons,List.mapM_cons,h1,SC.den,C.pv,this]; rfl
  · rename_i ps' h1 h2
    cases h
    have := zeroPs_den (ρ := ρ) h2
    unfold pvs at this ⊢
    simp only [List.map_cons,List.mapM_cons,h1,SC.den,C.pv,this]; rfl
  · cases h
def At.same : At → At → Bool
 | .v x,.v y => x == y
 | .i x,.i y => x == y
 | .b x,.b y => x == y
 | .s x,.s y => decide (x.data.toList = y.data.toList)
 | .r0,.r0 => true
 | _,_ => false
theorem At.same_eq {a b : At} (h : a.same b = true) : a = b := by
 unfold At.same at h
 split at h
 · simp at h; rw [h]
 · simp at h; rw [h]
 · simp at h; rw [h]
 · rename_i x y
   simp only [decide_eq_true_eq] at h
   have := Array.toList_inj.1 h
   cases x; cases y; simp only at this; rw [this]
 · rfl
 · cases h
def sMake (T : TTab) (S : SSt) (d : Nat) (t : TypeId) (l c : Operand) : Option SRes :=
 match (List.lookup t T).bind Ty.elem,S.arg l,S.arg c with
 | some e,some (.v (.c (.p (.int _) a))),some (.v (.c (.p (.int _) a'))) => match List.lookup e T with
  | some re => match re.app,re.kds.bind zeroPs with
   | some (_,b),some ps => if a.same a' then some ⟨[.rep a ps b],.c1 (.own d),⟨[(d,.row e (.v S.nv))],[]⟩,[]⟩ else none
   | _,_ => none
  | none => none
 | _,_,_ => none
def sCopy (T : TTab) (S : SSt) (t : TypeId) (x y : Operand) : Option SRes :=
 match (List.lookup t T).bind Ty.elem,S.arg x,S.arg y with
 | some e,some (.v (.c cx)),some (.v (.c cy)) => match List.lookup e T,S.view S.nv cy with
  | some re,some (nds,a) => match cx with
   | .own n => match List.lookup n S.heap with
    | some (.row e' x) => if e' = e then some ⟨nds ++ [.cpy0 x a re.size],.c1 (.p (.int .i64) (.v (S.nv + ndsN nds + 1))),⟨[(n,.row e (.v (S.nv + ndsN nds)))],[]⟩,[]⟩ else none
    | _ => none
   | .sub n lo ln => match List.lookup n S.heap with
    | some (.row e' x) => if e' = e then some ⟨nds ++ [.cpy x lo ln a re.size],.c1 (.p (.int .i64) (.v (S.nv + ndsN nds + 1))),⟨[(n,.row e (.v (S.nv + ndsN nds)))],[]⟩,[]⟩ else none
    | _ => none
   | _ => none
  | _,_ => none
 | _,_,_ => none
def sConv (T : TTab) (S : SSt) (s d : TypeId) (x : Operand) : Option SRes :=
 match S.arg x,List.lookup s T,List.lookup d T with
 | some (.v (.c (.p (.int k0) a))),some rs,some rd => match rs.some,rd.int with
  | true,some k => match a with
   | .i n => some (.pure (.c1 (.p (.int k) (.i (k.wrap n)))))
   | a => if rs.int = some k ∧ k0 = k then some ⟨[.conv k a],.c1 (.p (.int k) (.v S.nv)),noSE,[]⟩ else some ⟨[.conv k a],.c1 (.p (.int k) (.v S.nv)),noSE,[]⟩
  | _,_ => none
 | some (.v (.c (.p .str a))),some rs,some rd => if rs.isS && rd.isS then some (.pure (.c1 (.p .str a))) else none
 | some (.v (.c c)),some rs,some rd => match S.view S.nv c,rs.sl,rd.isS with
  | some (nds,a),some e,true => match (List.lookup e T).bind Ty.int with
   | some .u8 => some ⟨nds ++ [.str a],.c1 (.p .str (.v (S.nv + ndsN nds))),noSE,[]⟩
   | _ => none
  | _,_,_ => none
 | _,_,_ => none
def foldI (op : BinOp) (k : IntKind) (a b : At) : Option At := match a,b with
 | .i m,.i n => match binI op k m n with
  | some (.i z) => some (.i z)
  | some (.b z) => some (.b z)
  | _ => none
 | _,_ => none
theorem foldI_ok {op : BinOp} {k : IntKind} {a b z : At} (h : foldI op k a b = some z) (ρ : List L) : binI op k (a.ev ρ).asI (b.ev ρ).asI = some (z.ev ρ) := by
 unfold foldI at h
 split at h
 · split at h
   · rename_i hz; cases h; exact hz
   · rename_i hz; cases h; exact hz
   · cases h
 · cases h
def sBin (T : TTab) (S : SSt) (op : BinOp) (t : TypeId) (x y : Operand) : Option SRes :=
 match S.arg x,S.arg y with
 | some (.v (.c (.p (.int k) a))),some (.v (.c (.p (.int k') b))) => if isShift op || decide (k = k') then (match foldI op k a b with
   | some z => some ⟨[],.c1 (.p (if isCmp op then .bool else .int k) z),noSE,[]⟩
   | none => some ⟨[.bi op k a b],.c1 (.p (if isCmp op then .bool else .int k) (.v S.nv)),noSE,[]⟩) else none
 | some (.v (.c (.p .str a))),some (.v (.c (.p .str b))) => some ⟨[.bs op a b],.c1 (.p (if isCmp op then .bool else .str) (.v S.nv)),noSE,[]⟩
 | some (.v (.c (.p .bool a))),some (.v (.c (.p .bool b))) => match List.lookup t T with
  | some r => if r.isB then some ⟨[.bb op a b],.c1 (.p .bool (.v S.nv)),noSE,[]⟩ else none
  | none => none
 | _,_ => none
def sUn (S : SSt) (op : UnOp) (x : Operand) : Option SRes :=
 match S.arg x,op with
 | some (.v (.c (.p .bool a))),.not => some ⟨[.not a],.c1 (.p .bool (.v S.nv)),noSE,[]⟩
 | some (.v (.c (.p (.int k) a))),.neg => some ⟨[.un .neg k a],.c1 (.p (.int k) (.v S.nv)),noSE,[]⟩
 | some (.v (.c (.p (.int k) a))),.xor => some ⟨[.un .xor k a],.c1 (.p (.int k) (.v S.nv)),noSE,[]⟩
 | _,_ => none
def sfill (place : Nat → Option (Nat × Nat)) (cells : List SC) : List (Nat × List SC) → Option (List SC)
 | [] => some cells
 | (i,x) :: rest => match place i with
  | none => none
  | some (off,size) => if x.length = size ∧ off + x.length ≤ cells.length then sfill place (cells.take off ++ x ++ cells.drop (off + x.length)) rest else none
def SSt.parts (S : SSt) : List (Nat × Operand) → Option (List (Nat × List SC))
 | [] => some []
 | (i,x) :: l => match S.arg1 x,S.parts l with
  | some y,some ys => some ((i,y.cells) :: ys)
  | _,_ => none
def sBuild (T : TTab) (S : SSt) (t : TypeId) (parts : List (Nat × Operand)) : Option SRes :=
 match List.lookup t T with
 | some r => match r.kds,r.places,S.parts parts with
  | some ks,some ps,some xs => (sfill (ps[·]?) (ks.map Kd.zero) xs).map fun cs => .pure (.v (.agg cs))
  | _,_,_ => none
 | none => none
section
variable {P : Program} {T : TTab} {S : SSt} {ρ : List L}
theorem elem_ok (hT : TTab.ok P T) {t e : TypeId} (h : (List.lookup t T).bind Ty.elem = some e) : tyElem P t = some e := by
 simp only [Option.bind_eq_some_iff] at h
 obtain ⟨row,hr,hel⟩ := h
 have := hT _ _ hr; subst this
 exact hel
theorem app_ok (hT : TTab.ok P T) {e : TypeId} {x : Nat × Nat} (h : (List.lookup e T).bind Ty.app = some x) : tyApp P e = some x := by
 simp only [Option.bind_eq_some_iff] at h
 obtain ⟨row,hr,hel⟩ := h
 have := hT _ _ hr; subst this
 exact hel
theorem sLit_ok (hT : TTab.ok P T) {d : Nat} {t : TypeId} {len : Nat} {parts : List (Nat × Operand)} {r : SRes} (h : sLit T S d t len parts = some r) (hs : Sat ρ S.nv r.nds) : (evLit P (S.den ρ) d t len parts).map Res.of = some (r.den ρ) := by
 unfold sLit at h
 split at h
 · rename_i e hel
   split at h
   · rename_i n b rows ns happ hl
     split at h
     · rename_i hc
       cases h
       obtain ⟨l,h1,h2⟩ := hs.ev1 rfl
       simp only [Nd.ev] at h1
       cases h1
       simp only [evLit,elem_ok hT hel,app_ok hT happ,SSt.lits_den hl]
       have hrect : rectB n (rows.map (pvsOf ρ)) = true := by
        have := hc.2.1
        simp only [List.all_eq_true] at this
        simp only [rectB,List.all_eq_true,List.mem_map]
        rintro _ ⟨x,hx,rfl⟩
        simpa [pvsOf] using this x hx
       rw [if_pos ⟨hc.1,hrect,hc.2.2⟩]
       simp only [Option.map_some,Res.of,SRes.den,SEff.den,SHp.den,List.map_cons,List.map_nil,SB.den,h2,L.asR]; rfl
     · cases h
   · cases h
 · cases h
theorem sMake_ok (hT : TTab.ok P T) {d : Nat} {t : TypeId} {l c : Operand} {r : SRes} (h : sMake T S d t l c = some r) (hs : Sat ρ S.nv r.nds) : (evMake P (S.den ρ) d t l c).map Res.of = some (r.den ρ) := by
 unfold sMake at h
 split at h
 · rename_i e k1 a k2 a' hel hl hc
   split at h
   · rename_i re he
     have := hT _ _ he; subst this
     split at h
     · rename_i n b ps happ hps
       have happ' : tyApp P e = some (n,b) := happ
       simp only [Option.bind_eq_some_iff] at hps
       obtain ⟨ks,hks,hz⟩ := hps
       split at h
       · rename_i hsame
         have := At.same_eq hsame; subst this
         cases h
         obtain ⟨l1,h1,h2⟩ := hs.ev1 rfl
         simp only [Nd.ev] at h1
         split at h1
         · rename_i hcond
           cases h1
           have hl' : (S.den ρ).arg l = some (.v (.c (.p (.sc (.int k1 (a.ev ρ).asI))))) := SSt.arg_den ρ hl
           have hc' : (S.den ρ).arg c = some (.v (.c (.p (.sc (.int k2 (a.ev ρ).asI))))) := SSt.arg_den ρ hc
           simp only [evMake,elem_ok hT hel,hl',hc',happ',kds_zero (P := P) hks ρ,zeroPs_den hz]
           rw [if_pos ⟨trivial,hcond.1,hcond.2.1,hcond.2.2⟩]
           simp only [Option.map_some,Res.of,SRes.den,SEff.den,SHp.den,List.map_cons,List.map_nil,SB.den,h2,L.asR]; rfl
         · cases h1
       · cases h
     · cases h
   · cases h
 · cases h
theorem sCopy_ok (hT : TTab.ok P T) {t : TypeId} {x y : Operand} {r : SRes} (h : sCopy T S t x y = some r) (hs : Sat ρ S.nv r.nds) : (evCopy P (S.den ρ) t x y).map Res.of = some (r.den ρ) := by
 unfold sCopy at h
 split at h
 · rename_i e cx cy hel hx hy
   have hx' : (S.den ρ).arg x = some (.v (.c (cx.den ρ))) := SSt.arg_den ρ hx
   have hy' : (S.den ρ).arg y = some (.v (.c (cy.den ρ))) := SSt.arg_den ρ hy
   split at h
   · rename_i re nds a he hv
     have := hT _ _ he; subst this
     split at h
     · rename_i n
       split at h
       · rename_i e' xr hl
         split at h
         · rename_i hee
           subst hee
           cases h
           obtain ⟨hs1,hs2⟩ := Sat.app hs
           obtain ⟨ls,h1,h2⟩ := hs2.one
           simp only [Nd.ev] at h1
           split at h1
           · rename_i hc
             cases h1
             have h20 := h2 0 (by simp [Nd.n])
             have h21 := h2 1 (by simp [Nd.n])
             simp only [Nat.add_zero,List.getElem?_cons_zero,Option.getD_some] at h20
             simp only [List.getElem?_cons_succ,List.getElem?_cons_zero,Option.getD_some] at h21
             have hvx : (S.den ρ).view (.own n) = some (xr.ev ρ).asR := by simp only [ASt.view,den_heap,hl,Option.map_some,SB.den]
             have hx2 : (S.den ρ).arg x = some (.v (.c (.own n))) := hx'
             simp only [evCopy,elem_ok hT hel,hx2,hy',hvx,view_den hv hs1,den_heap,hl,Option.map_some,SB.den]
             rw [if_pos ⟨trivial,hc⟩]
             simp only [Option.map_some,Res.of,SRes.den,SEff.den,SHp.den,List.map_cons,List.map_nil,SB.den,h20,h21,L.asR,SV.den,SV1.den,SC.den,Kd.pv,L.asI]
           · cases h1
         · cases h
       · cases h
     · rename_i n lo ln
       split at h
       · rename_i e' xr hl
         split at h
         · rename_i hee
           subst hee
           cases h
           obtain ⟨hs1,hs2⟩ := Sat.app hs
           obtain ⟨ls,h1,h2⟩ := hs2.one
           simp only [Nd.ev] at h1
           split at h1
           · rename_i hc
             cases h1
             have h20 := h2 0 (by simp [Nd.n])
             have h21 := h2 1 (by simp [Nd.n])
             simp only [Nat.add_zero,List.getElem?_cons_zero,Option.getD_some] at h20
             simp only [List.getElem?_cons_succ,List.getElem?_cons_zero,Option.getD_some] at h21
             have hvx : (S.den ρ).view (.sub n (lo.ev ρ).asI.toNat (ln.ev ρ).asI.toNat) = some (((xr.ev ρ).asR.drop (lo.ev ρ).asI.toNat).take (ln.ev ρ).asI.toNat) := by simp only [ASt.view,den_heap,hl,Option.map_some,SB.den]
             have hx2 : (S.den ρ).arg x = some (.v (.c (.sub n (lo.ev ρ).asI.toNat (ln.ev ρ).asI.toNat))) := hx'
             simp only [evCopy,elem_ok hT hel,hx2,hy',hvx,view_den hv hs1,den_heap,hl,Option.map_some,SB.den]
             rw [if_pos ⟨trivial,hc.1,hc.2⟩]
             simp only [Option.map_some,Res.of,SRes.den,SEff.den,SHp.den,List.map_cons,List.map_nil,SB.den,h20,h21,L.asR,SV.den,SV1.den,SC.den,Kd.pv,L.asI]
           · cases h1
         · cases h
       · cases h
     · cases h
   · cases h
 · cases h
theorem tyKind_eq {t : TypeId} {k : IntKind} (h : tyKind P t = some k) : P.underlying t = some (.int k) := by
 unfold tyKind at h
 split at h
 · cases h; assumption
 · cases h
theorem sConv_ok (hT : TTab.ok P T) {s d : TypeId} {x : Operand} {r : SRes} (h : sConv T S s d x = some r) (hs : Sat ρ S.nv r.nds) : (evConv P (S.den ρ) s d x).map Res.pure = some (r.den ρ) := by
 unfold sConv at h
 split at h
 · rename_i k0 a rs rd hx hrs hrd
   have := hT _ _ hrs; subst this
   have := hT _ _ hrd; subst this
   have hx' : (S.den ρ).arg x = some (.v (.c (.p (.sc (.int k0 (a.ev ρ).asI))))) := SSt.arg_den ρ hx
   split at h
   · rename_i k hsome hk
     obtain ⟨ds,hds⟩ := Option.isSome_iff_exists.1 (show (P.underlying s).isSome = true from hsome)
     have hk' := tyKind_eq (P := P) hk
     have hev : evConv P (S.den ρ) s d x = some (.sc (.int k (k.wrap (a.ev ρ).asI))) := by simp only [evConv,hx',hds,hk']
     rw [hev]
     split at h
     · cases h; rfl
     · have hh : r = ⟨[.conv k a],.c1 (.p (.int k) (.v S.nv)),noSE,[]⟩ := by split at h <;> cases h <;> rfl
       subst hh
       obtain ⟨l,h1,h2⟩ := hs.ev1 rfl
       simp only [Nd.ev] at h1
       cases h1
       simp only [Option.map_some,Res.pure,SRes.den,SV.den,SV1.den,SC.den,Kd.pv,h2,L.asI]; rfl
   · cases h
 · rename_i a rs rd hx hrs hrd
   have := hT _ _ hrs; subst this
   have := hT _ _ hrd; subst this
   have hx' : (S.den ρ).arg x = some (.v (.c (.p (.sc (.string (a.ev ρ).asS))))) := SSt.arg_den ρ hx
   split at h
   · rename_i hc
     cases h
     simp only [Bool.and_eq_true] at hc
     simp only [evConv,hx',tyIsS_eq (P := P) hc.1,tyIsS_eq (P := P) hc.2]; rfl
   · cases h
 · rename_i c rs rd hno1 hno2 hx hrs hrd
   have := hT _ _ hrs; subst this
   have := hT _ _ hrd; subst this
   split at h
   · rename_i nds a e hv hsl hS
     split at h
     · rename_i hu
       cases h
       simp only [Option.bind_eq_some_iff] at hu
       obtain ⟨row,hr,hu⟩ := hu
       have := hT _ _ hr; subst this
       obtain ⟨hs1,hs2⟩ := Sat.app hs
       obtain ⟨l,h1,h2⟩ := hs2.ev1 rfl
       simp only [Nd.ev,Option.map_eq_some_iff] at h1
       obtain ⟨bs,hbs,h1⟩ := h1
       cases h1
       have hx' : (S.den ρ).arg x = some (.v (.c (c.den ρ))) := SSt.arg_den ρ hx
       have hv' := view_den hv hs1
       have hev : evConv P (S.den ρ) s d x = some (.sc (.string (strOfNums bs))) := by
        unfold evConv
        rw [hx']
        split
        · rename_i k n heq
          cases c with
          | p kk y =>
           cases kk with
           | int kk => exact absurd rfl (hno1 kk y)
           | _ => simp [SC.den,Kd.pv] at heq
          | _ => simp [SC.den] at heq
        · rename_i b heq
          cases c with
          | p kk y =>
           cases kk with
           | str => exact absurd rfl (hno2 y)
           | _ => simp [SC.den,Kd.pv] at heq
          | _ => simp [SC.den] at heq
        · rename_i c' _ _ heq
          simp only [Option.some.injEq,V.v.injEq,V1.c.injEq] at heq
          subst heq
          rw [hv',tySl_eq (P := P) hsl,tyIsS_eq (P := P) hS]
          simp only [tyKind_eq (P := P) hu,hbs]
        · rename_i h1 h2 h3
          exact absurd rfl (h3 _)
       rw [hev]
       simp only [Option.map_some,Res.pure,SRes.den,SV.den,SV1.den,SC.den,Kd.pv,h2,L.asS]; rfl
     · cases h
   · cases h
 · cases h
theorem binI_ok {op : BinOp} {k k' : IntKind} {a b : Int} {l : L} (tb : Bool) (hk : (isShift op || decide (k = k')) = true) (h : binI op k a b = some l) : scBin tb op (.int k a) (.int k' b) = some (if isCmp op then .bool l.asB else .int k l.asI) := by
 cases op <;> simp [isShift] at hk <;> simp only [binI] at h <;> first
  | (subst hk; cases h; simp [scBin,isCmp,bitsOf,L.asI,L.asB]; done)
  | (subst hk; split at h; (rename_i hc; cases h; simp only [scBin,isCmp,true_and]; rw [need_ok hc]; rfl); cases h)
  | (split at h; (rename_i hc; cases h; simp only [scBin,isCmp]; rw [need_ok hc]; rfl); cases h)
theorem binS_ok {op : BinOp} {a b : ByteArray} {l : L} (tb : Bool) (h : binS op a b = some l) : scBin tb op (.string a) (.string b) = some (if isCmp op then .bool l.asB else .string l.asS) := by
 cases op <;> simp only [binS] at h <;> first
  | (cases h; rfl)
  | (split at h; (rename_i hc; cases h; simp only [scBin,isCmp]; rw [need_ok hc]; rfl); cases h)
  | cases h
theorem binB_ok {op : BinOp} {a b : Bool} {l : L} (h : binB op a b = some l) : scBin true op (.bool a) (.bool b) = some (.bool l.asB) := by
 cases op <;> simp only [binB] at h <;> first | (cases h; rfl) | cases h
theorem sBin_ok (hT : TTab.ok P T) {op : BinOp} {t : TypeId} {x y : Operand} {yt : TypeId} {r : SRes} {Sp : Spec} {d : Nat} (h : sBin T S op t x y = some r) (hs : Sat ρ S.nv r.nds) : evRes P Sp (S.den ρ) d (.binOp op t x y yt) = some (r.den ρ) := by
 unfold sBin at h
 split at h
 · rename_i k a k' b hx hy
   split at h
   · rename_i hk
     have hx' : (S.den ρ).arg x = some (.v (.c (.p (.sc (.int k (a.ev ρ).asI))))) := SSt.arg_den ρ hx
     have hy' : (S.den ρ).arg y = some (.v (.c (.p (.sc (.int k' (b.ev ρ).asI))))) := SSt.arg_den ρ hy
     split at h
     · rename_i z hz
       cases h
       simp only [evRes,hx',hy',binI_ok (tyB P t) hk (foldI_ok hz ρ),Option.map_some]
       simp only [Res.pure,SRes.den,SV.den,SV1.den,SC.den]
       cases isCmp op <;> rfl
     · cases h
       obtain ⟨l,h1,h2⟩ := hs.ev1 rfl
       simp only [Nd.ev,Option.map_eq_some_iff] at h1
       obtain ⟨l',h1,h3⟩ := h1
       cases h3
       simp only [evRes,hx',hy',binI_ok (tyB P t) hk h1,Option.map_some]
       simp only [Res.pure,SRes.den,SV.den,SV1.den,SC.den,h2]
       cases isCmp op <;> rfl
   · cases h
 · rename_i a b hx hy
   cases h
   obtain ⟨l,h1,h2⟩ := hs.ev1 rfl
   simp only [Nd.ev,Option.map_eq_some_iff] at h1
   obtain ⟨l',h1,h3⟩ := h1
   cases h3
   have hx' : (S.den ρ).arg x = some (.v (.c (.p (.sc (.string (a.ev ρ).asS))))) := SSt.arg_den ρ hx
   have hy' : (S.den ρ).arg y = some (.v (.c (.p (.sc (.string (b.ev ρ).asS))))) := SSt.arg_den ρ hy
   simp only [evRes,hx',hy',binS_ok (tyB P t) h1,Option.map_some]
   simp only [Res.pure,SRes.den,SV.den,SV1.den,SC.den,h2]
   cases isCmp op <;> rfl
 · rename_i a b hx hy
   split at h
   · rename_i row hr
     have := hT _ _ hr; subst this
     split at h
     · rename_i hb
       have hb' : tyB P t = true := hb
       cases h
       obtain ⟨l,h1,h2⟩ := hs.ev1 rfl
       simp only [Nd.ev,Option.map_eq_some_iff] at h1
       obtain ⟨l',h1,h3⟩ := h1
       cases h3
       have hx' : (S.den ρ).arg x = some (.v (.c (.p (.sc (.bool (a.ev ρ).asB))))) := SSt.arg_den ρ hx
       have hy' : (S.den ρ).arg y = some (.v (.c (.p (.sc (.bool (b.ev ρ).asB))))) := SSt.arg_den ρ hy
       simp only [evRes,hx',hy',hb',binB_ok h1,Option.map_some]
       simp only [Res.pure,SRes.den,SV.den,SV1.den,SC.den,h2]; rfl
     · cases h
   · cases h
 · cases h
theorem sUn_ok {op : UnOp} {t : TypeId} {x : Operand} {r : SRes} {Sp : Spec} {d : Nat} (h : sUn S op x = some r) (hs : Sat ρ S.nv r.nds) : evRes P Sp (S.den ρ) d (.unOp op t x) = some (r.den ρ) := by
 unfold sUn at h
 split at h
 · rename_i a hx
   cases h
   obtain ⟨l,h1,h2⟩ := hs.ev1 rfl
   simp only [Nd.ev] at h1
   cases h1
   have hx' : (S.den ρ).arg x = some (.v (.c (.p (.sc (.bool (a.ev ρ).asB))))) := SSt.arg_den ρ hx
   simp only [evRes,hx',scUn,Option.map_some,Res.pure,SRes.den,SV.den,SV1.den,SC.den,Kd.pv,h2]; rfl
 · rename_i k a hx
   cases h
   obtain ⟨l,h1,h2⟩ := hs.ev1 rfl
   simp only [Nd.ev,unI,Option.map_some] at h1
   cases h1
   have hx' : (S.den ρ).arg x = some (.v (.c (.p (.sc (.int k (a.ev ρ).asI))))) := SSt.arg_den ρ hx
   simp only [evRes,hx',scUn,Option.map_some,Res.pure,SRes.den,SV.den,SV1.den,SC.den,Kd.pv,h2]; rfl
 · rename_i k a hx
   cases h
   obtain ⟨l,h1,h2⟩ := hs.ev1 rfl
   simp only [Nd.ev,unI,Option.map_some] at h1
   cases h1
   have hx' : (S.den ρ).arg x = some (.v (.c (.p (.sc (.int k (a.ev ρ).asI))))) := SSt.arg_den ρ hx
   simp only [evRes,hx',scUn,Option.map_some,Res.pure,SRes.den,SV.den,SV1.den,SC.den,Kd.pv,h2,bitsOf]; rfl
 · cases h
theorem sfill_den (place : Nat → Option (Nat × Nat)) : ∀ {xs : List (Nat × List SC)} {cells out : List SC},sfill place cells xs = some out → cfill place (cells.map (SC.den ρ)) (xs.map fun x => (x.1,x.2.map (SC.den ρ))) = some (out.map (SC.den ρ))
 | [],_,_,h => by cases h; rfl
 | (i,x) :: rest,cells,out,h => by
  simp only [sfill] at h
  split at h
  · cases h
  · rename_i off size hp
    split at h
    · rename_i hc
      simp only [List.map_cons,cfill,hp]
      rw [if_pos (by simpa using hc)]
      have := sfill_den place h
      simpa [List.map_take,List.map_drop] using this
    · cases h
theorem parts_den : ∀ {l : List (Nat × Operand)} {xs : List (Nat × List SC)},S.parts l = some xs → l.mapM (fun x => ((S.den ρ).arg1 x.2).map fun y => (x.1,y.cells)) = some (xs.map fun x => (x.1,x.2.map (SC.den ρ)))
 | [],_,h => by cases h; rfl
 | (i,x) :: l,xs,h => by
  simp only [SSt.parts] at h
  split at h
  · rename_i y ys h1 h2
    cases h
    simp only [List.mapM_cons,SSt.arg1_den ρ h1,parts_den h2,Option.map_some,SV1.cells_den]; rfl
  · cases h
theorem sBuild_ok (hT : TTab.ok P T) {t : TypeId} {parts : Array (Nat × Operand)} {r : SRes} (h : sBuild T S t parts.toList = some r) : (evBuild P (S.den ρ) t parts).map Res.pure = some (r.den ρ) := by
 unfold sBuild at h
 split at h
 · rename_i row hr
   have := hT _ _ hr; subst this
   split at h
   · rename_i ks ps xs hks hps hxs
     simp only [Option.map_eq_some_iff] at h
     obtain ⟨cs,hcs,rfl⟩ := h
     have hps' : tyPlaces P t = some ps := hps
     simp only [evBuild,kds_zero (P := P) hks ρ,hps',parts_den hxs,sfill_den (ρ := ρ) (ps[·]?) hcs]; rfl
   · cases h
 · cases h
end
end
end Go.Proofs.YtndegphojkiblaaGreatDoor
