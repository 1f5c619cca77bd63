/- Towards the last file's theorem: part 24. -/
import Derived.Test.YtndegphojkiblaaGreatDoorG23
import Derived.WalkKit
set_option linter.unusedSimpArgs false
set_option linter.unusedVariables false
namespace Go.Proofs.YtndegphojkiblaaGreatDoor
section
open Go.RowKit
open Classical
theorem kdsOf_pv : ∀ {ks : List Kd} {r : List PV} {cs : List L},ks.length = r.length → (ks.zip r).mapM (fun x => x.1.of x.2) = some cs → cs.length = ks.length ∧ r = List.zipWith Kd.pv ks cs
 | [],[],cs,_,h => by simp at h; subst h; exact ⟨rfl,rfl⟩
 | k :: ks,q :: r,cs,hl,h => by
  simp only [List.zip_cons_cons,List.mapM_cons] at h
  cases h1 : k.of q with
  | none => simp [h1] at h
  | some x =>
   cases h2 : (ks.zip r).mapM (fun x => x.1.of x.2) with
   | none => simp [h1,h2] at h
   | some ys =>
    simp [h1,h2] at h
    subst h
    obtain ⟨k1,k2⟩ := kdsOf_pv (by simpa using hl) h2
    exact ⟨by simp [k1],by rw [List.zipWith_cons_cons,Kd.of_pv h1,← k2]⟩
def cells58 (r : List PV) : Option (List L) := if r.length = 14 then (ks131.zip r).mapM (fun x => x.1.of x.2) else none
theorem cells58_ok {r : List PV} {cs : List L} (h : cells58 r = some cs) : cs.length = 14 ∧ r.length = 14 ∧ r = List.zipWith Kd.pv ks131 cs := by
 unfold cells58 at h
 split at h
 · rename_i hl
   obtain ⟨h1,h2⟩ := kdsOf_pv (by rw [hl]; rfl) h
   exact ⟨h1,hl,h2⟩
 · cases h
def firAll (F113 : List L → Option (List L)) (t113 : Nat) : Fir :=
 .op (.call t113 F113 [(.v 13),(.v 14),(.v 15),(.v 16),(.v 17),(.v 18),(.v 19),(.v 20),(.v 21),(.v 22),(.v 4)] 5 []) <|
 .ite (.v 23)
  (.op (.lit [[((.int .i64),(.v 9)),((.int .i64),(.v 11)),((.int .i64),(.v 10)),((.int .u64),(.v 24)),((.int .u32),(.v 25)),((.int .i64),(.v 26)),((.int .i64),(.v 27)),((.int .i64),(.v 8))]]) <|
   .op (.app (.v 7) (.v 28) 8 64) <|
   .leaf (.jump 0 [.v 29]))
  (.leaf (.jump 0 [.v 7]))
noncomputable def rnd58 (F113 : List L → Option (List L)) (t113 : Nat) (ρ : List L) (acc : List (List PV)) (k : Nat) (r : List PV) : Option (List (List PV)) :=
 match cells58 r with
 | some cs => match (firAll F113 t113).den (ρ ++ [.r acc,.i k] ++ cs) with
  | some (.jump 0 [a],ρ') => some (a.ev ρ').asR
  | _ => none
 | none => none
noncomputable def acc58 (F113 : List L → Option (List L)) (t113 : Nat) (ρ : List L) (gens : List (List PV)) : Nat → Option (List (List PV))
 | 0 => some []
 | k + 1 => match acc58 F113 t113 ρ gens k,gens[gens.length - 1 - k]? with
  | some acc,some g => rnd58 F113 t113 ρ acc (gens.length - 1 - k) g
  | _,_ => none
theorem acc58_le {F113 : List L → Option (List L)} {t113 : Nat} {ρ : List L} {gens acc : List (List PV)} {n : Nat} (h : acc58 F113 t113 ρ gens n = some acc) {k : Nat} (hk : k ≤ n) : ∃ a,acc58 F113 t113 ρ gens k = some a := by
  induction n generalizing acc with
  | zero => obtain rfl : k = 0 := by omega
            exact ⟨_,h⟩
  | succ n ih =>
    by_cases he : k = n + 1
    · subst he; exact ⟨_,h⟩
    · rw [acc58] at h
      split at h
      · rename_i h1 _; exact ih h1 (by omega)
      · cases h
noncomputable def FAll (F40 F112 F113 : List L → Option (List L)) (t113 : Nat) : List L → Option (List L) := fun ls => match ls with
 | [n,r,m,.r gens,key] => match F40 [n,r,m,.r gens] with
  | some [ok] => if ok.asB = true then
   (if gens.length ≤ 4611686018427387904 then match F112 [.r gens] with
    | some [] => (acc58 F113 t113 [n,r,m,.r gens,key,ok,.b (!ok.asB)] gens gens.length).map fun acc => [.r acc]
    | _ => none
   else none) else some [.r []]
  | _ => none
 | _ => none
noncomputable def sAll (F40 F112 F113 : List L → Option (List L)) (t113 tag : Nat) : Sig := ⟨58,[.agg [.p (.int .i64) (.v 0),.p (.int .i64) (.v 1),.p .bool (.v 2),.p .sl (.v 3)],.c (.p (.int .u64) (.v 4))],[],5,1,.v (.c (.own 0)),[(0,.row 165 (.v 5))],FAll F40 F112 F113 t113,tag⟩
section
variable {F40 F112 F113 : List L → Option (List L)} {t40 t112 t113 : Nat}
theorem body58_in (hC : CTab.ok Tryz.prog (gC58 F40 F112 F113 t40 t112 t113)) {n r m key ok nok : L} {gens : List (List PV)} {acc : List (List PV)} {k : Nat} {l0 l1 l2 l3 l4 l5 l6 l7 l8 l9 l10 l11 l12 l13 : L} {a : At} {ρ' : List L}
   (hd : (firAll F113 t113).den [n,r,m,.r gens,key,ok,nok,.r acc,.i k,l0,l1,l2,l3,l4,l5,l6,l7,l8,l9,l10,l11,l12,l13] = some (.jump 0 [a],ρ')) {X : Fx} (hP : X.P = Tryz.prog) (hk : X.k0 = 3) {l d : Nat} :
   AwIn l d X (.block 1 ((Code.region 7 aR7 false).seq ((Code.region 8 aR8 false).seq (.cond (.tmp 25) (.region 9 aR9 false) .skip)))) (fun e st => e = .normal ∧ st = SJ58.den [n,r,m,.r gens,key,ok,nok,.r (a.ev ρ').asR])
    (S58_6.den [n,r,m,.r gens,key,ok,nok,.r acc,.i k,l0,l1,l2,l3,l4,l5,l6,l7,l8,l9,l10,l11,l12,l13]) := by
 rw [firAll,Fir.den] at hd
 split at hd
 · rename_i o ho
   have ho5 : o.length = 5 := by
    simp only [Nd.ev] at ho
    split at ho
    · split at ho
      · rename_i hc; cases ho; exact hc.1
      · cases ho
    · cases ho
   match o,ho5 with
   | [o0,o1,o2,o3,o4],_ =>
    have h7 : (Fir.op (.call t113 F113 [(.v 13),(.v 14),(.v 15),(.v 16),(.v 17),(.v 18),(.v 19),(.v 20),(.v 21),(.v 22),(.v 4)] 5 []) (.leaf (.st .normal S58_7))).den [n,r,m,.r gens,key,ok,nok,.r acc,.i k,l0,l1,l2,l3,l4,l5,l6,l7,l8,l9,l10,l11,l12,l13] =
        some (.st .normal S58_7,[n,r,m,.r gens,key,ok,nok,.r acc,.i k,l0,l1,l2,l3,l4,l5,l6,l7,l8,l9,l10,l11,l12,l13,o0,o1,o2,o3,o4]) := by
      rw [Fir.den,ho]; rfl
    refine awIn_block (awIn_seq (pieceIn hC (by rfl) (e58_7 F40 F112 F113 t40 t112 t113) rfl h7 hP ?_))
    refine awIn_seq (pieceIn hC (by rfl) (e58_8 F40 F112 F113 t40 t112 t113) rfl (ρ' := [n,r,m,.r gens,key,ok,nok,.r acc,.i k,l0,l1,l2,l3,l4,l5,l6,l7,l8,l9,l10,l11,l12,l13,o0,o1,o2,o3,o4]) rfl hP ?_)
    refine awIn_cond (t := o0.asB) rfl (fun hb => ?_) (fun hb => ?_)
    · rw [Fir.den,show (At.v 23).ev ([n,r,m,.r gens,key,ok,nok,.r acc,.i k,l0,l1,l2,l3,l4,l5,l6,l7,l8,l9,l10,l11,l12,l13] ++ [o0,o1,o2,o3,o4]) = o0 from rfl,if_pos hb] at hd
      have hlit := hd
      rw [Fir.den] at hd
      split at hd
      · rename_i lt hlt
        have e1 : lt = [.r [[.sc (.int .i64 l0.asI),.sc (.int .i64 l2.asI),.sc (.int .i64 l1.asI),.sc (.int .u64 o1.asI),.sc (.int .u32 o2.asI),.sc (.int .i64 o3.asI),.sc (.int .i64 o4.asI),.sc (.int .i64 (k : Int))]]] := by
          simp only [Nd.ev,Option.some.injEq] at hlt
          rw [← hlt]; rfl
        rw [Fir.den] at hd
        split at hd
        · rename_i ap hap
          have e2 : ∃ x,ap = [x] := by
            simp only [Nd.ev] at hap
            split at hap
            · cases hap; exact ⟨_,rfl⟩
            · cases hap
          obtain ⟨x,rfl⟩ := e2
          subst e1
          rw [Fir.den] at hd
          have e3 : a = .v 29 ∧ ρ' = [n,r,m,.r gens,key,ok,nok,.r acc,.i k,l0,l1,l2,l3,l4,l5,l6,l7,l8,l9,l10,l11,l12,l13,o0,o1,o2,o3,o4,.r [[.sc (.int .i64 l0.asI),.sc (.int .i64 l2.asI),.sc (.int .i64 l1.asI),.sc (.int .u64 o1.asI),.sc (.int .u32 o2.asI),.sc (.int .i64 o3.asI),.sc (.int .i64 o4.asI),.sc (.int .i64 (k : Int))]],x] := by
            cases hd; exact ⟨rfl,rfl⟩
          obtain ⟨rfl,rfl⟩ := e3
          have hx : x = .r x.asR := by
            simp only [Nd.ev] at hap
            split at hap
            · cases hap; rfl
            · cases hap
          refine awIn_post ?_
          refine pieceIn (e := .normal) (S' := S58_9) hC (by rfl) (e58_9 F40 F112 F113 t40 t112 t113) rfl (ρ' := [n,r,m,.r gens,key,ok,nok,.r acc,.i k,l0,l1,l2,l3,l4,l5,l6,l7,l8,l9,l10,l11,l12,l13,o0,o1,o2,o3,o4,.r [[.sc (.int .i64 l0.asI),.sc (.int .i64 l2.asI),.sc (.int .i64 l1.asI),.sc (.int .u64 o1.asI),.sc (.int .u32 o2.asI),.sc (.int .i64 o3.asI),.sc (.int .i64 o4.asI),.sc (.int .i64 (k : Int))]],x]) ?_ hP ?_
          · simp only [List.cons_append,List.nil_append] at hlt hap
            rw [Fir.den,hlt]
            simp only [List.cons_append,List.nil_append]
            rw [Fir.den,hap]
            rfl
          · obtain ⟨xs1,zs,j1,_,_,j4⟩ := jmp_ok TT_ok (ρ := [n,r,m,.r gens,key,ok,nok]) (ys := [.r acc,.i k,l0,l1,l2,l3,l4,l5,l6,l7,l8,l9,l10,l11,l12,l13,o0,o1,o2,o3,o4,.r [[.sc (.int .i64 l0.asI),.sc (.int .i64 l2.asI),.sc (.int .i64 l1.asI),.sc (.int .u64 o1.asI),.sc (.int .u32 o2.asI),.sc (.int .i64 o3.asI),.sc (.int .i64 o4.asI),.sc (.int .i64 (k : Int))]],x]) rfl rfl rfl j58_9 rfl
            cases j1
            refine ⟨_,j4 X hP hk,rfl,?_⟩
            show SJ58.den [n,r,m,.r gens,key,ok,nok,x] = SJ58.den [n,r,m,.r gens,key,ok,nok,.r x.asR]
            rw [← hx]
        · cases hd
      · cases hd
    · rw [Fir.den,show (At.v 23).ev ([n,r,m,.r gens,key,ok,nok,.r acc,.i k,l0,l1,l2,l3,l4,l5,l6,l7,l8,l9,l10,l11,l12,l13] ++ [o0,o1,o2,o3,o4]) = o0 from rfl,hb] at hd
      simp only [Bool.false_eq_true,if_false,Fir.den] at hd
      cases hd
      refine awIn_post (awIn_skip ?_)
      obtain ⟨xs1,zs,j1,_,_,j4⟩ := jmp_ok TT_ok (ρ := [n,r,m,.r gens,key,ok,nok]) (ys := [.r acc,.i k,l0,l1,l2,l3,l4,l5,l6,l7,l8,l9,l10,l11,l12,l13,o0,o1,o2,o3,o4]) rfl rfl rfl j58_8 rfl
      cases j1
      exact ⟨_,j4 X hP hk,rfl,rfl⟩
 · cases hd
theorem asn58_in (hC : CTab.ok Tryz.prog (gC58 F40 F112 F113 t40 t112 t113)) {n r m key ok nok : L} {gens : List (List PV)} {acc : List (List PV)} {k : Nat} {l0 l1 l2 l3 l4 l5 l6 l7 l8 l9 l10 l11 l12 l13 : L} {X : Fx} (hP : X.P = Tryz.prog) {l d : Nat} :
  AwIn l d X ((Code.region 5 aR5 false).seq (.region 6 aR6 false)) (fun e st => e = .normal ∧ st = S58_6.den [n,r,m,.r gens,key,ok,nok,.r acc,.i k,l0,l1,l2,l3,l4,l5,l6,l7,l8,l9,l10,l11,l12,l13])
   (SR58.den [n,r,m,.r gens,key,ok,nok,.r acc,.i k,l0,l1,l2,l3,l4,l5,l6,l7,l8,l9,l10,l11,l12,l13]) := by
 refine awIn_seq (pieceIn hC (by rfl) (e58_5 F40 F112 F113 t40 t112 t113) rfl (ρ' := [n,r,m,.r gens,key,ok,nok,.r acc,.i k,l0,l1,l2,l3,l4,l5,l6,l7,l8,l9,l10,l11,l12,l13]) rfl hP ?_)
 exact pieceIn hC (by rfl) (e58_6 F40 F112 F113 t40 t112 t113) rfl (ρ' := [n,r,m,.r gens,key,ok,nok,.r acc,.i k,l0,l1,l2,l3,l4,l5,l6,l7,l8,l9,l10,l11,l12,l13]) rfl hP ⟨rfl,rfl⟩
def J58 (F113 : List L → Option (List L)) (t113 : Nat) (ρ : List L) (gens : List (List PV)) (Xb : Fx) (a0 : Act) (l D : Nat) (rec : Loop) (k : Nat) (W : World) : Prop :=
 ∃ E acc,acc58 F113 t113 ρ gens k = some acc ∧ Rel Xb E (SJ58.den (ρ ++ [.r acc])) a0 W ∧ E.off [l,D] ∧ W.heap[l]? = some (.loop rec) ∧ W.heap[D]? = some (.deferred (some []))
theorem acc58_at {ρ : List L} {gens acc : List (List PV)} (h : acc58 F113 t113 ρ gens gens.length = some acc) {k : Nat} (hk : k < gens.length) :
   ∃ a g b,acc58 F113 t113 ρ gens k = some a ∧ gens[gens.length - 1 - k]? = some g ∧ rnd58 F113 t113 ρ a (gens.length - 1 - k) g = some b ∧ acc58 F113 t113 ρ gens (k + 1) = some b := by
 obtain ⟨b,hb⟩ := acc58_le h (k := k + 1) (by omega)
 have hb' := hb
 rw [acc58] at hb
 split at hb
 · rename_i a g h1 h2; exact ⟨a,g,b,h1,h2,hb,hb'⟩
 · cases hb
theorem gone58 (ρ : List L) : (SJ58.den ρ).gone = [] := rfl
theorem round58 (hC : CTab.ok Tryz.prog (gC58 F40 F112 F113 t40 t112 t113)) {n r m key ok nok : L} {gens accN : List (List PV)} (hN : acc58 F113 t113 [n,r,m,.r gens,key,ok,nok] gens gens.length = some accN)
   {Xb : Fx} (hP : Xb.P = Tryz.prog) (hk0 : Xb.k0 = 3) {E0 : Env} {a0 : Act} {w0 : World} {acc0 : List (List PV)} (h0 : Rel Xb E0 (SJ58.den [n,r,m,.r gens,key,ok,nok,.r acc0]) a0 w0) (hN0 : ∀ k,k < Xb.k0 → E0.N k = Xb.N0 k) (hD0 : a0.defers = [])
   {l D gB : Nat} (hlD : D < l) (hlw : Xb.w0.heap.size ≤ l) {rec : Loop} (hgB : ∃ x,E0.N 2 = some x ∧ x.g = some gB) (fn : FuncId)
   (hrec : rec = { state := .ready,pending := none,fn,tmps := a0.tmps,params := #[16,17],assign := (Code.region 5 aR5 false).seq (.region 6 aR6 false),body := .block 1 ((Code.region 7 aR7 false).seq ((Code.region 8 aR8 false).seq (.cond (.tmp 25) (.region 9 aR9 false) .skip))),defers := D })
   (k : Nat) (W : World) (hJ : J58 F113 t113 [n,r,m,.r gens,key,ok,nok] gens Xb a0 l D rec k W) (hk : k ≤ gens.length) :
   ∃ A cap,W.cell? ⟨gB,0,none⟩ = some (.slice A gens.length cap) ∧ (k < gens.length → ∃ (g o : Nat) (f : Nat → Value),A = some ⟨g,o,none⟩ ∧ (∀ j,j < 14 → W.cell? ⟨g,o + (gens.length - 1 - k) * 14 + j,none⟩ = some (f j)) ∧
     YieldAt Fence.wide 1 Tryz.prog l #[.int .i64 ((gens.length - 1 - k : Nat) : Int),.agg #[f 0,f 1,f 2,f 3,f 4,f 5,f 6,f 7,f 8,f 9,f 10,f 11,f 12,f 13]] W
       (fun e W' => e = .returned (.bool true) ∧ J58 F113 t113 [n,r,m,.r gens,key,ok,nok] gens Xb a0 l D rec (k + 1) W')) := by
 obtain ⟨E,acc,hacc,hR,hoff,hl,hd⟩ := hJ
 obtain ⟨xB,hxB,hxg⟩ := hgB
 have hEg : E.gone = [] := hR.gone
 obtain ⟨x,g,cur,e,q1,q2,q3,q4,q5⟩ := hR.row (n := 2) (b := .box [.p (.sl gens)]) (by simp [gone58]) rfl
 have hxx : x = xB := by
   rcases hR.keep 2 (by omega) with h | h
   · rw [q1] at h; cases h
   · rw [← hN0 2 (by omega),hxB,q1] at h
     cases h; rfl
 subst hxx
 rw [hxg] at q2; cases q2
 obtain ⟨u,q6,q7,_⟩ := q5 0 (.p (.sl gens)) rfl
 have hcell : W.cell? ⟨gB,0,none⟩ = some u := by rw [cell_of_row W gB 0 cur e (0,0) q3]; exact q6
 have q7 : RP (bad Xb.M E) W (.sl gens) u := q7
 rcases RP.rows q7 with ⟨hnil,A,cap,rfl⟩ | ⟨g,o,cap,sz,f,rfl,hne,hlc,hmx,hRt,hf⟩
 · subst hnil
   exact ⟨A,cap,hcell,fun h => absurd h (Nat.not_lt_zero _)⟩
 · refine ⟨_,cap,hcell,fun hlt => ?_⟩
   obtain ⟨a1,gr,b,k1,k2,k3,k4⟩ := acc58_at hN hlt
   rw [hacc] at k1; cases k1
   obtain ⟨p,hp⟩ : ∃ p,gens.length - 1 - k = p := ⟨_,rfl⟩
   rw [hp] at k2 k3 ⊢
   unfold rnd58 at k3
   split at k3
   rotate_left
   · cases k3
   rename_i cs hcs
   obtain ⟨c1,c2,c3⟩ := cells58_ok hcs
   have hsz : sz = 14 := by rw [← hRt gr (List.mem_of_getElem? k2),c2]
   subst hsz
   match cs,c1 with
   | [l0,l1,l2,l3,l4,l5,l6,l7,l8,l9,l10,l11,l12,l13],_ =>
     split at k3
     rotate_left
     · cases k3
     rename_i at1 ρ' hden
     cases k3
     have hcells : ∀ j q,gr[j]? = some q → W.cell? ⟨g,o + p * 14 + j,none⟩ = some (f p j) ∧ RP (bad Xb.M E) W q (f p j) := fun j q hj => hf p gr j q k2 hj
     refine ⟨g,o,f p,rfl,fun j hj => ?_,?_⟩
     · obtain ⟨q,hq⟩ : ∃ q,gr[j]? = some q := ⟨_,List.getElem?_eq_getElem (by omega)⟩
       exact (hcells j q hq).1
     · have hy := run_yield (P := Tryz.prog) (args := #[.int .i64 (p : Int),.agg #[f p 0,f p 1,f p 2,f p 3,f p 4,f p 5,f p 6,f p 7,f p 8,f p 9,f p 10,f p 11,f p 12,f p 13]]) hl (by rw [hrec]; rfl)
       rw [hrec] at hy
       refine ⟨fn,_,_,_,hy,roundIn_of_wpIn trivial ?_⟩
       have hdef : a0 = ⟨a0.tmps,[]⟩ := by
         cases a0; simp only at hD0; subst hD0; rfl
       have hS : Rel Xb E (SR58.den [n,r,m,.r gens,key,ok,nok,.r acc,.i p,l0,l1,l2,l3,l4,l5,l6,l7,l8,l9,l10,l11,l12,l13])
           { tmps := (a0.tmps.setIfInBounds 16 (.int .i64 (p : Int))).setIfInBounds 17 (.agg #[f p 0,f p 1,f p 2,f p 3,f p 4,f p 5,f p 6,f p 7,f p 8,f p 9,f p 10,f p 11,f p 12,f p 13]),defers := [] } W := by
         rw [hdef] at hR
         have hag : RV Xb.M E W ((aggAt 9 ks131).den [n,r,m,.r gens,key,ok,nok,.r acc,.i p,l0,l1,l2,l3,l4,l5,l6,l7,l8,l9,l10,l11,l12,l13]) (.agg #[f p 0,f p 1,f p 2,f p 3,f p 4,f p 5,f p 6,f p 7,f p 8,f p 9,f p 10,f p 11,f p 12,f p 13]) := by
           refine ⟨_,rfl,rfl,fun i c hi => ?_⟩
           have hi14 : i < 14 := (List.getElem?_eq_some_iff.1 hi).1
           have hgi : ∀ q,(List.zipWith Kd.pv ks131 [l0,l1,l2,l3,l4,l5,l6,l7,l8,l9,l10,l11,l12,l13])[i]? = some q → RP (bad Xb.M E) W q (f p i) := fun q hq => (hcells i q (by rw [c3]; exact hq)).2
           have h14 : i = 0 ∨ i = 1 ∨ i = 2 ∨ i = 3 ∨ i = 4 ∨ i = 5 ∨ i = 6 ∨ i = 7 ∨ i = 8 ∨ i = 9 ∨ i = 10 ∨ i = 11 ∨ i = 12 ∨ i = 13 := by omega
           rcases h14 with rfl | rfl | rfl | rfl | rfl | rfl | rfl | rfl | rfl | rfl | rfl | rfl | rfl | rfl <;>
            (cases hi; exact ⟨_,rfl,hgi _ rfl,(hgi _ rfl).oneCell⟩)
         exact (hR.put (some 16) (v := .v (.c (.p (.sc (.int .i64 (p : Int)))))) (u := .int .i64 (p : Int)) (RP.sc rfl)).put (some 17) hag
       have hmem : ∀ {W' : World},l < W'.heap.size → ∀ g ∈ [l,D],g < W'.heap.size := fun h g hg => by
         simp at hg; omega
       have hll : l < W.heap.size := (Array.getElem?_eq_some_iff.1 hl).1
       have hput : ∀ (W' : World) (r1 r2 : Loop),W'.heap[l]? = some (.loop r1) → ∀ g o,W'.heap[g]? = some o → (g < Xb.w0.heap.size ∨ o.isCells = true ∨ ∃ en c,o = .map en c) → (W'.putObj l (.loop r2)).heap[g]? = W'.heap[g]? := fun W' r1 r2 h g o ho hi => by
         refine World.putObj_heap_other fun hgl => ?_
         subst hgl
         rw [h] at ho; cases ho
         rcases hi with hi | hi | ⟨_,_,hi⟩
         · omega
         · cases hi
         · cases hi
       have h1 := segIn (l := l) (n := 1) (fun X' e1 e2 => asn58_in (n := n) (r := r) (m := m) (key := key) (ok := ok) (nok := nok) (gens := gens) (acc := acc) (k := p) (l0 := l0) (l1 := l1) (l2 := l2) (l3 := l3) (l4 := l4) (l5 := l5) (l6 := l6) (l7 := l7) (l8 := l8) (l9 := l9) (l10 := l10) (l11 := l11) (l12 := l12) (l13 := l13) (l := l) (d := 1) hC (e1.trans hP)) hS rfl hoff (hmem hll)
       rw [hP] at h1
       have hfold : ∀ v1 v2 : Value,((#[16,17] : Array Tmp).zip #[v1,v2]).foldl (fun t (p,v) => t.setIfInBounds p v) a0.tmps = (a0.tmps.setIfInBounds 16 v1).setIfInBounds 17 v2 := fun v1 v2 => by
         simp [Array.zip,Array.zipWith,Array.zipWithMAux]
       dsimp only
       rw [hfold]
       refine wpIn_mono h1 ?_
       rintro e1 a1 w1 ⟨st1,E1,⟨rfl,rfl⟩,_,hR1,hoff1,hk1,hs1⟩
       have hl1 : w1.heap[l]? = some (.loop rec) := (hk1 l (by simp)).trans hl
       have hd1 : w1.heap[D]? = some (.deferred (some [])) := (hk1 D (by simp)).trans hd
       have hll1 : l < w1.heap.size := (Array.getElem?_eq_some_iff.1 hl1).1
       refine ⟨_,run_beginRound hl1 (by rw [hrec]),?_⟩
       have hl2 : (w1.putObj l (.loop { rec with state := .busy })).heap[l]? = some (.loop { rec with state := .busy }) := World.putObj_heap_same hll1
       have hd2 : (w1.putObj l (.loop { rec with state := .busy })).heap[D]? = some (.deferred (some [])) := (World.putObj_heap_other (by omega)).trans hd1
       have hR2 := hR1.other (w' := w1.putObj l (.loop { rec with state := .busy })) rfl rfl rfl (by simp) (hput _ _ _ hl1)
       have hll2 : l < (w1.putObj l (.loop { rec with state := .busy })).heap.size := by simpa using hll1
       generalize w1.putObj l (.loop { rec with state := .busy }) = w2 at hl2 hd2 hR2 hll2 ⊢
       have h2 := segIn (l := l) (n := 1) (fun X' e1 e2 => body58_in (l := l) (d := 1) hC hden (e1.trans hP) (e2.trans hk0)) hR2 rfl hoff1 (hmem hll2)
       rw [hP] at h2
       refine wpIn_mono h2 ?_
       rintro e3 a3 w3 ⟨st3,E3,⟨rfl,rfl⟩,_,hR3,hoff3,hk3,hs3⟩
       have hl3 : w3.heap[l]? = some (.loop { rec with state := .busy }) := (hk3 l (by simp)).trans hl2
       have hd3 : w3.heap[D]? = some (.deferred (some [])) := (hk3 D (by simp)).trans hd2
       refine ⟨_,_,run_endRound none hl3,rfl,E3,_,k4,?_,hoff3,?_,?_⟩
       · exact (h0.again hR3 hN0 rfl rfl rfl (by rw [hk0]; rfl)).other rfl rfl rfl (by simp) (hput _ _ _ hl3)
       · rw [World.putObj_heap_same (Array.getElem?_eq_some_iff.1 hl3).1,hrec]
         rfl
       · exact (World.putObj_heap_other (by omega)).trans hd3
theorem den58_v {n r m key ok : L} {gens : List (List PV)} (h40 : F40 [n,r,m,.r gens] = some [ok]) :
  (Fir.op (.call t40 F40 [(.v 0),(.v 1),(.v 2),(.v 3)] 1 []) (.op (.not (.v 5)) (.ite (.v 6) (.leaf (.st .ret S58_r)) (.leaf (.st .normal S58_2))))).den [n,r,m,.r gens,key] =
   some (if ok.asB = true then .st .normal S58_2 else .st .ret S58_r,[n,r,m,.r gens,key,ok,.b (!ok.asB)]) := by
 have e1 : Nd.ev [n,r,m,.r gens,key] (.call t40 F40 [(.v 0),(.v 1),(.v 2),(.v 3)] 1 []) = some [ok] := by
  simp only [Nd.ev]
  rw [show [At.v 0,.v 1,.v 2,.v 3].map (At.ev [n,r,m,.r gens,key]) = [n,r,m,.r gens] from rfl,h40]
  rfl
 rw [Fir.den,e1]
 show (match Nd.ev [n,r,m,.r gens,key,ok] (.not (.v 5)) with | some ls => Fir.den _ ([n,r,m,.r gens,key,ok] ++ ls) | none => none) = _
 rw [show Nd.ev [n,r,m,.r gens,key,ok] (.not (.v 5)) = some [.b (!ok.asB)] from rfl]
 simp only [List.cons_append,List.nil_append]
 rw [Fir.den,show ((At.v 6).ev [n,r,m,.r gens,key,ok,.b (!ok.asB)]).asB = !ok.asB from rfl]
 cases ok.asB <;> rfl
set_option maxRecDepth 100000 in
theorem all_ok (h40 : (g40 F40 t40).ok Tryz.prog) (h112 : (g112 F112 t112).ok Tryz.prog) (h113 : (g113 F113 t113).ok Tryz.prog) (tag : Nat) : (sAll F40 F112 F113 t113 tag).ok Tryz.prog := by
 have hC : CTab.ok Tryz.prog (gC58 F40 F112 F113 t40 t112 t113) := fun s hs => by
   simp only [gC58,List.mem_cons,List.not_mem_nil,or_false] at hs
   rcases hs with rfl | rfl | rfl <;> assumption
 intro ls os hl hF hlo
 have hF : FAll F40 F112 F113 t113 ls = some os := hF
 unfold FAll at hF
 split at hF
 rotate_left
 · cases hF
 rename_i n r m gens key _
 split at hF
 rotate_left
 · cases hF
 rename_i ok h40e
 have hdv := den58_v (F40 := F40) (t40 := t40) (key := key) h40e
 refine ACalls.introM (H := []) Tryz.func58 (by kernel_rfl) body58 nt58 (rs := [.tmp 4]) (by rw [res58]) ?_
 intro X hP hk hD a w ht
 have hk : X.k0 = 0 := hk
 have ht : Told X (S58_0.den [n,r,m,.r gens,key]) a w := ht
 have A0 := (piece hC (k0 := 0) (n := 0) (r := 0) (ex := []) (show exec TT _ 0 (.region 0 aR0 false) 0 [] 0 S58_0 = _ from e58_0 F40 F112 F113 t40 t112 t113) rfl rfl (ρ := [n,r,m,.r gens,key]) rfl hP hk).2.2 a w ht
 rw [hP] at A0
 refine wp_seq (wp_mono A0 ?_)
 clear A0
 rintro e1 a1 w1 ⟨st1,⟨rfl,rfl⟩,ht1⟩
 show (V58.seq _).wp _ _ _ _
 by_cases hok : ok.asB = true
 · rw [if_pos hok] at hF hdv
   split at hF
   rotate_left
   · cases hF
   rename_i hlen
   split at hF
   rotate_left
   · cases hF
   rename_i h112e
   simp only [Option.map_eq_some_iff] at hF
   obtain ⟨accN,haccN,rfl⟩ := hF
   have A1 := (piece hC (e58_v F40 F112 F113 t40 t112 t113) rfl rfl hdv hP hk).2.2 a1 w1 ht1
   rw [hP] at A1
   refine wp_seq (wp_mono A1 ?_)
   clear A1
   rintro e2 a2 w2 ⟨st2,⟨rfl,rfl⟩,ht2⟩
   generalize (L.b (!ok.asB)) = nok at *
   show (Code.seq _ _).wp _ _ _ _
   have A2 := (piece hC (k0 := 0) (n := 0) (r := 0) (ex := []) (show exec TT _ 0 (.region 3 aR3 false) 0 [] 0 S58_2 = _ from e58_3 F40 F112 F113 t40 t112 t113) rfl rfl (ρ := [n,r,m,.r gens,key,ok,nok]) rfl hP hk).2.2 a2 w2 ht2
   rw [hP] at A2
   refine wp_seq (wp_mono A2 ?_)
   clear A2
   rintro e3 a3 w3 ⟨st3,⟨rfl,rfl⟩,ht3⟩
   show (Code.seq _ _).wp _ _ _ _
   have hd4 : (Fir.op (.call t112 F112 [(.v 3)] 0 []) (.leaf (.st .normal S58_4))).den [n,r,m,.r gens,key,ok,nok] = some (.st .normal S58_4,[n,r,m,.r gens,key,ok,nok]) := by
     have e1 : Nd.ev [n,r,m,.r gens,key,ok,nok] (.call t112 F112 [(.v 3)] 0 []) = some [] := by
       simp only [Nd.ev]
       rw [show [At.v 3].map (At.ev [n,r,m,.r gens,key,ok,nok]) = [.r gens] from rfl,h112e]
       rfl
     rw [Fir.den,e1]
     rfl
   have A3 := (piece hC (k0 := 0) (n := 0) (r := 0) (ex := []) (show exec TT _ 0 (.region 4 aR4 false) 0 [] 0 S58_3 = _ from e58_4 F40 F112 F113 t40 t112 t113) rfl rfl (ρ := [n,r,m,.r gens,key,ok,nok]) hd4 hP hk).2.2 a3 w3 ht3
   rw [hP] at A3
   refine wp_seq (wp_seq (wp_mono A3 ?_))
   clear A3
   rintro e4 a4 w4 ⟨st4,⟨rfl,rfl⟩,ht4⟩
   show (Code.block 0 rng58).wp _ _ _ _
   have ht5 : Told X (SJ58.den [n,r,m,.r gens,key,ok,nok,.r []]) a4 w4 := by
     obtain ⟨xs1,zs,j1,_,_,j4⟩ := jmp_ok TT_ok (ρ := [n,r,m,.r gens,key,ok,nok]) (ys := []) rfl rfl rfl j58_0 rfl
     cases j1
     exact j4 X hP hk a4 w4 ht4
   obtain ⟨E0,R0,_⟩ := ht5
   clear ht ht1 ht2 ht3 ht4
   have hdef4 : a4.defers = [] := R0.defers.trans hD
   obtain ⟨u15,h15,hu15⟩ := R0.tmps 15 _ rfl
   obtain ⟨us,rfl,hus,hcap⟩ := (show RC X.M E0 w4 (.fn 169 [2]) u15 from hu15)
   obtain ⟨u,hu,hNu⟩ := hcap 0 2 rfl
   obtain ⟨xB,hxB,gB,hgB,rfl⟩ := Nmd.get hNu (by rw [R0.gone]; simp [gone58])
   obtain rfl : us = #[.pointer (some ⟨gB,0,none⟩)] := by
     apply Array.ext_getElem?
     intro i
     cases i with
     | zero => rw [hu]; rfl
     | succ i => rw [Array.getElem?_eq_none (by simp at hus; omega)]; rfl
   have hev : a4.eval (.tmp 15) = .func (.func 169) #[] #[.pointer (some ⟨gB,0,none⟩)] := by
     simp [Act.eval,Array.getD_eq_getD_getElem?,h15]
   refine wp_block ((wpIn_wide (n := 3)).1 (wpIn_rangeFunc ?_))
   intro fn hfn
   obtain ⟨rec,hrec⟩ : ∃ rec : Loop,rec = { state := .ready,pending := none,fn,tmps := a4.tmps,params := #[16,17],assign := (Code.region 5 aR5 false).seq (.region 6 aR6 false),body := .block 1 ((Code.region 7 aR7 false).seq ((Code.region 8 aR8 false).seq (.cond (.tmp 25) (.region 9 aR9 false) .skip))),defers := w4.heap.size } := ⟨_,rfl⟩
   obtain ⟨W1,hW1⟩ : ∃ W1,(w4.alloc (.deferred (some []))).alloc (.loop rec) = W1 := ⟨_,rfl⟩
   have hs1 : W1.heap.size = w4.heap.size + 2 := by rw [← hW1]; simp
   have hL1 : W1.heap[w4.heap.size + 1]? = some (.loop rec) := by
     rw [← hW1]; have := World.alloc_heap_new (w4.alloc (.deferred (some []))) (.loop rec); rwa [World.size_alloc] at this
   have hD1 : W1.heap[w4.heap.size]? = some (.deferred (some [])) := by
     rw [← hW1]; exact (Below.heap_alloc _ _ _ (by simp)).trans (World.alloc_heap_new w4 _)
   have hold : ∀ g,g < w4.heap.size → W1.heap[g]? = w4.heap[g]? := fun g hg => by
     rw [← hW1]; exact (Below.heap_alloc _ _ _ (by simp; omega)).trans (Below.heap_alloc _ _ _ hg)
   let Xb : Fx := ⟨X.P,X.M,X.K,X.w0,E0.N,3,[]⟩
   have h0 : Rel Xb E0 (SJ58.den [n,r,m,.r gens,key,ok,nok,.r []]) ⟨a4.tmps,[]⟩ w4 := {
     defers := rfl,gone := R0.gone,frame := R0.frame,mlt := R0.mlt,nlt := R0.nlt,names := R0.names,inj := R0.inj,keep := fun _ _ => .inr rfl
     knext := by show 3 ≤ 4; omega
     gnext := R0.gnext,size := R0.size,tmps := R0.tmps,heap := R0.heap }
   have hW0 : X.w0.heap.size ≤ w4.heap.size := R0.frame.size
   have hJ0 : J58 F113 t113 [n,r,m,.r gens,key,ok,nok] gens Xb ⟨a4.tmps,[]⟩ (w4.heap.size + 1) w4.heap.size rec 0 W1 := by
     refine ⟨E0,[],rfl,h0.other ?_ ?_ ?_ (by omega) fun g o ho _ => hold g (Array.getElem?_eq_some_iff.1 ho).1,fun n x g h1 h2 hg => ?_,hL1,hD1⟩
     · rw [← hW1]; rfl
     · rw [← hW1]; rfl
     · rw [← hW1]; rfl
     · have := (R0.names n x g h1 h2).1
       simp at hg
       omega
   refine ⟨w4.heap.size + 1,[{ target := .collected w4.heap.size,args := #[] }],W1,{ target := .fn (.func 169) #[.pointer (some ⟨gB,0,none⟩)],args := #[.func (.yield (w4.heap.size + 1)) #[] #[]] },W1,169,
     #[.func (.yield (w4.heap.size + 1)) #[] #[],.pointer (some ⟨gB,0,none⟩)],W1,?_,?_,?_,?_,fun _ => by omega,?_⟩
   · rw [← hW1,hrec]; exact run_enterLoop_outer _ _ _ _ _
   · simp only [resolve,hev]
     simp [go_sem]
   · intro f' _; trivial
   · simp [invoke,go_sem]
   · refine (backward_in 2 (by omega) (w4.heap.size + 1) gB gens.length hlen (J58 F113 t113 [n,r,m,.r gens,key,ok,nok] gens Xb ⟨a4.tmps,[]⟩ (w4.heap.size + 1) w4.heap.size rec)
       (fun k W hJ hk => round58 hC haccN (Xb := Xb) hP rfl h0 (fun _ _ => rfl) rfl (by omega) (by show X.w0.heap.size ≤ _; omega) ⟨xB,hxB,hgB⟩ fn hrec k W hJ hk) W1 hJ0).mono ?_
     rintro e5 W5 ⟨⟨v,rfl⟩,E5,acc5,hacc5,hR5,hoff5,hl5,hd5⟩
     rw [haccN] at hacc5; cases hacc5
     refine ⟨_,_,run_endLoop hl5 (by rw [hrec]; simp),?_⟩
     have hll : w4.heap.size + 1 < W5.heap.size := (Array.getElem?_eq_some_iff.1 hl5).1
     have hR6 := hR5.other (w' := W5.putObj (w4.heap.size + 1) (.loop { rec with state := .exhausted })) rfl rfl rfl (by simp) (fun g o ho hi => World.putObj_heap_other fun hgl => by
        subst hgl
        rw [hl5] at ho; cases ho
        rcases hi with hi | hi | ⟨_,_,hi⟩
        · have : w4.heap.size + 1 < X.w0.heap.size := hi
          omega
        · cases hi
        · cases hi)
     have hd6 : (W5.putObj (w4.heap.size + 1) (.loop { rec with state := .exhausted })).heap[w4.heap.size]? = some (.deferred (some [])) := (World.putObj_heap_other (by omega)).trans hd5
     generalize W5.putObj (w4.heap.size + 1) (.loop { rec with state := .exhausted }) = W6 at hR6 hd6 ⊢
     rw [show rec.pending = none by rw [hrec]]
     show ((Code.region 10 aR10 false).seq .ret).wp _ _ _ _
     let X2 : Fx := ⟨X.P,X.M,X.K,X.w0,X.N0,X.k0,[{ target := .collected w4.heap.size,args := #[] }]⟩
     have h7 : Rel X2 E5 (SJ58.den [n,r,m,.r gens,key,ok,nok,.r accN]) { a4 with defers := [{ target := .collected w4.heap.size,args := #[] }] ++ a4.defers } W6 := {
       defers := by rw [hdef4]; rfl
       gone := hR6.gone,frame := hR6.frame,mlt := hR6.mlt,nlt := hR6.nlt,names := hR6.names,inj := hR6.inj
       keep := fun k hk1 => absurd (show k < X.k0 from hk1) (by omega)
       knext := by show X.k0 ≤ 4; omega
       gnext := hR6.gnext,size := hR6.size,tmps := hR6.tmps,heap := hR6.heap }
     have h8 := seg (X := X2) (c := (Code.region 10 aR10 false).seq .ret) (Q := fun e st => e = .ret ∧ st = S58_10.den [n,r,m,.r gens,key,ok,nok,.r accN]) (fun X' e1 e2 => by
        have := (piece hC (k0 := 0) (n := 0) (r := 0) (ex := []) (show exec TT _ 0 (.region 10 aR10 false) 0 [] 0 SJ58 = _ from e58_10 F40 F112 F113 t40 t112 t113) rfl rfl (ρ := [n,r,m,.r gens,key,ok,nok,.r accN]) rfl (e1.trans hP) (e2.trans hk)).2.2
        refine aw_seq (aw_mono this ?_)
        rintro e st ⟨rfl,rfl⟩
        exact aw_ret ⟨rfl,rfl⟩) h7 rfl (S := [w4.heap.size]) (fun n x g h1 h2 hg => hoff5 n x g h1 h2 (by simp at hg ⊢; exact .inr hg)) (fun g hg => by
        simp at hg; subst hg
        exact (Array.getElem?_eq_some_iff.1 hd6).1)
     rw [show X2.P = Tryz.prog from hP] at h8
     refine wp_mono h8 ?_
     rintro e9 a9 w9 ⟨st9,E9,⟨rfl,rfl⟩,_,hR9,hoff9,hk9,hs9⟩
     refine ⟨.inr rfl,SF58.den [n,r,m,.r gens,key,.r accN],[{ target := .collected w4.heap.size,args := #[] }],?_,rfl,fun _ _ h => h,.inr ⟨_,rfl,hW0,(hk9 _ (by simp)).trans hd6⟩⟩
     obtain ⟨xs1,zs,j1,_,_,j4⟩ := jmp_ok TT_ok (ρ := [n,r,m,.r gens,key]) (ys := [ok,nok,.r accN]) rfl rfl rfl j58_10 rfl
     cases j1
     exact j4 X2 hP hk a9 w9 ⟨E9,hR9,rfl⟩
 · rw [if_neg hok] at hF hdv
   cases hF
   have A1 := (piece hC (e58_v F40 F112 F113 t40 t112 t113) rfl rfl hdv hP hk).2.2 a1 w1 ht1
   rw [hP] at A1
   refine wp_seq (wp_mono A1 ?_)
   clear A1
   rintro e2 a2 w2 ⟨st2,⟨rfl,rfl⟩,ht2⟩
   refine ⟨.inr rfl,SF58.den [n,r,m,.r gens,key,.r []],[],?_,rfl,fun _ _ h => h,.inl rfl⟩
   have hXX : ({ X with D := [] } : Fx) = X := by
     cases X; simp only at hD; subst hD; rfl
   rw [hXX]
   obtain ⟨xs1,zs,j1,_,_,j4⟩ := jmp_ok TT_ok (ρ := [n,r,m,.r gens,key]) (ys := [ok,.b (!ok.asB)]) rfl rfl rfl j58_r rfl
   cases j1
   exact j4 X hP hk a2 w2 ht2
end
end
section
open Go.RowKit
set_option maxRecDepth 100000
set_option maxHeartbeats 4000000
noncomputable section
def fir0 : Fir :=
 .op (.bi .neq .u64 (.v 0) (.v 0)) <|
 .leaf (.jump 0 [.v 1])
def F0 := Fo fir0
def s0 : Sig := ⟨290,[.c (.p (.int .u64) (.v 0))],[],1,1,.v (.c (.p .bool (.v 1))),[],F0,0⟩
theorem ok0 : s0.ok Tryz.prog := okS fir0 TT_ok .nil Tryz.func290 (by kernel_rfl) (by kernel_rfl) rfl
def fir1 : Fir :=
 .op (.call 0 F0 [.v 0] 1 []) <|
 .op (.call 0 F0 [.v 1] 1 []) <|
 .ite (.v 2)
 (.ite (.v 3)
 (.leaf (.jump 0 [.i 0]))
 (.leaf (.jump 0 [.i (-1)])))
 (.ite (.v 3)
 (.leaf (.jump 0 [.i 1]))
 (.op (.bi .lss .u64 (.v 0) (.v 1)) <|
 .ite (.v 4)
 (.leaf (.jump 0 [.i (-1)]))
 (.op (.bi .gtr .u64 (.v 0) (.v 1)) <|
 .ite (.v 5)
 (.leaf (.jump 0 [.i 1]))
 (.leaf (.jump 0 [.i 0])))))
def F1 := Fo fir1
def s1 : Sig := ⟨249,[.c (.p (.int .u64) (.v 0)),.c (.p (.int .u64) (.v 1))],[],2,1,.v (ci 2),[],F1,1⟩
theorem ok1 : s1.ok Tryz.prog := okS fir1 TT_ok (.cons ok0 .nil) Tryz.func249 (by kernel_rfl) (by kernel_rfl) rfl
def fir2 : Fir :=
 .op (.bi .neq .i64 (.v 0) (.v 0)) <|
 .leaf (.jump 0 [.v 1])
def F2 := Fo fir2
def s2 : Sig := ⟨226,[ci 0],[],1,1,.v (.c (.p .bool (.v 1))),[],F2,2⟩
theorem ok2 : s2.ok Tryz.prog := okS fir2 TT_ok .nil Tryz.func226 (by kernel_rfl) (by kernel_rfl) rfl
def fir3 : Fir :=
 .op (.call 2 F2 [.v 0] 1 []) <|
 .op (.call 2 F2 [.v 1] 1 []) <|
 .ite (.v 2)
 (.ite (.v 3)
 (.leaf (.jump 0 [.i 0]))
 (.leaf (.jump 0 [.i (-1)])))
 (.ite (.v 3)
 (.leaf (.jump 0 [.i 1]))
 (.op (.bi .lss .i64 (.v 0) (.v 1)) <|
 .ite (.v 4)
 (.leaf (.jump 0 [.i (-1)]))
 (.op (.bi .gtr .i64 (.v 0) (.v 1)) <|
 .ite (.v 5)
 (.leaf (.jump 0 [.i 1]))
 (.leaf (.jump 0 [.i 0])))))
def F3 := Fo fir3
def s3 : Sig := ⟨191,[ci 0,ci 1],[],2,1,.v (ci 2),[],F3,3⟩
theorem ok3 : s3.ok Tryz.prog := okS fir3 TT_ok (.cons ok2 .nil) Tryz.func191 (by kernel_rfl) (by kernel_rfl) rfl
def fir4 : Fir :=
 .leaf (.jump 0 [])
def F4 := Fo fir4
def s4 : Sig := ⟨112,[cs 0],[],1,0,.v (.c (.fn 169 [0])),[(0,(.box [ps 0]))],F4,4⟩
theorem ok4 : s4.ok Tryz.prog := okS fir4 TT_ok .nil Tryz.func112 (by kernel_rfl) (by kernel_rfl) rfl
def fir5 : Fir :=
 .join
 (.op (.bi .lss .i64 (.v 0) (.i 0)) <|
 .ite (.v 1)
 (.leaf (.jump 0 [.b true]))
 (.op (.bi .gtr .i64 (.v 0) (.i 4096)) <|
 .leaf (.jump 0 [.v 2])))
 (.ite (.v 1)
 (.leaf (.jump 0 [.i 0]))
 (.op (.bi .add .i64 (.i 20) (.v 0)) <|
 .op (.bi .add .i64 (.v 2) (.i 4)) <|
 .op (.bi .add .i64 (.v 3) (.i 8)) <|
 .op (.bi .sub .i64 (.v 4) (.i 1)) <|
 .op (.bi .quo .i64 (.v 5) (.i 8)) <|
 .op (.bi .mul .i64 (.v 6) (.i 8)) <|
 .leaf (.jump 0 [.v 7])))
def F5 := Fo fir5
def s5 : Sig := ⟨83,[ci 0],[],1,1,.v (ci 1),[],F5,5⟩
theorem ok5 : s5.ok Tryz.prog := okS fir5 TT_ok .nil Tryz.func83 (by kernel_rfl) (by kernel_rfl) rfl
def fir6 : Fir :=
 .op (.call 1 F1 [.v 0,.v 4] 1 []) <|
 .leaf (.jump 0 [.v 8])
def F6 := Fo fir6
def s6 : Sig := ⟨248,[.agg [.p (.int .u64) (.v 0),.p (.int .u32) (.v 1),pi 2,pi 3],.agg [.p (.int .u64) (.v 4),.p (.int .u32) (.v 5),pi 6,pi 7]],[],8,1,.v (ci 8),[],F6,6⟩
theorem ok6 : s6.ok Tryz.prog := okS fir6 TT_ok (.cons ok1 .nil) Tryz.func248 (by kernel_rfl) (by kernel_rfl) rfl
def fir7 : Fir :=
 .join
 (.op (.bi .geq .i64 (.v 2) (.i 16)) <|
 .ite (.v 4)
 (.op (.bi .leq .i64 (.v 2) (.i 1048576)) <|
 .ite (.v 5)
 (.op (.bi .rem .i64 (.v 2) (.i 8)) <|
 .op (.bi .eql .i64 (.v 6) (.i 0)) <|
 .ite (.v 7)
 (.op (.bi .geq .i64 (.v 3) (.i 0)) <|
 .ite (.v 8)
 (.op (.bi .leq .i64 (.v 3) (.i 4096)) <|
 .leaf (.jump 0 [.v 9]))
 (.leaf (.jump 0 [.b false])))
 (.leaf (.jump 0 [.b false])))
 (.leaf (.jump 0 [.b false])))
 (.leaf (.jump 0 [.b false])))
 (.leaf (.jump 0 [.v 4]))
def F7 := Fo fir7
def s7 : Sig := ⟨207,[.agg [.p (.int .u64) (.v 0),.p (.int .u32) (.v 1),pi 2,pi 3]],[],4,1,.v (.c (.p .bool (.v 4))),[],F7,7⟩
theorem ok7 : s7.ok Tryz.prog := okS fir7 TT_ok .nil Tryz.func207 (by kernel_rfl) (by kernel_rfl) rfl
end
end
section
open Go.RowKit
set_option maxRecDepth 100000
set_option maxHeartbeats 4000000
noncomputable section
def fir8 : Fir :=
 .op (.call 7 F7 [.v 0,.v 1,.v 2,.v 3] 1 []) <|
 .op (.not (.v 4)) <|
 .leaf (.jump 0 [.v 5])
def F8 := Fo fir8
def s8 : Sig := ⟨206,[.agg [.p (.int .u64) (.v 0),.p (.int .u32) (.v 1),pi 2,pi 3]],[],4,1,.v (.c (.p .bool (.v 4))),[],F8,8⟩
theorem ok8 : s8.ok Tryz.prog := okS fir8 TT_ok (.cons ok7 .nil) Tryz.func206 (by kernel_rfl) (by kernel_rfl) rfl
def fir9 : Fir :=
 .join
 (.op (.len (.v 0)) <|
 .loop [.i 0]
 (.op (.bi .lss .i64 (.v 2) (.v 1)) <|
 .ite (.v 3)
 (.op (.row (.v 0) (.v 2) 4) <|
 .op (.cl (.v 4) 0 (.int .u64)) <|
 .op (.cl (.v 4) 1 (.int .u32)) <|
 .op (.cl (.v 4) 2 (.int .i64)) <|
 .op (.cl (.v 4) 3 (.int .i64)) <|
 .join
 (.op (.bi .gtr .i64 (.v 2) (.i 0)) <|
 .ite (.v 9)
 (.op (.bi .sub .i64 (.v 2) (.i 1)) <|
 .op (.row (.v 0) (.v 10) 4) <|
 .op (.cl (.v 11) 0 (.int .u64)) <|
 .op (.bi .leq .u64 (.v 5) (.v 12)) <|
 .leaf (.jump 0 [.v 13]))
 (.leaf (.jump 0 [.b false])))
 (.ite (.v 9)
 (.leaf (.jump 2 [.b false]))
 (.op (.bi .add .i64 (.v 2) (.i 1)) <|
 .leaf (.jump 0 [.v 10]))))
 (.leaf (.jump 1 []))))
 (.leaf (.jump 0 [.b true]))
def F9 := Fo fir9
def s9 : Sig := ⟨205,[cs 0],[],1,1,.v (.c (.p .bool (.v 1))),[],F9,9⟩
theorem ok9 : s9.ok Tryz.prog := okS fir9 TT_ok .nil Tryz.func205 (by kernel_rfl) (by kernel_rfl) rfl
def fir10 : Fir :=
 .leaf (.jump 0 [])
def F10 := Fo fir10
def s10 : Sig := ⟨135,[],[],0,0,.v (.agg [.nil,.nil,.nil,.nil,.nil,.nil,.nil,.nil,.p (.int .i64) (.i 0),.p (.int .i64) (.i 0)]),[],F10,10⟩
theorem ok10 : s10.ok Tryz.prog := okS fir10 TT_ok .nil Tryz.func135 (by kernel_rfl) (by kernel_rfl) rfl
def fir11 : Fir :=
 .op (.call 5 F5 [.v 3] 1 []) <|
 .leaf (.jump 0 [.v 4])
def F11 := Fo fir11
def s11 : Sig := ⟨188,[.agg [.p (.int .u64) (.v 0),.p (.int .u32) (.v 1),pi 2,pi 3]],[],4,1,.v (ci 4),[],F11,11⟩
theorem ok11 : s11.ok Tryz.prog := okS fir11 TT_ok (.cons ok5 .nil) Tryz.func188 (by kernel_rfl) (by kernel_rfl) rfl
def fir12 : Fir :=
 .op (.bi .mul .u64 (.v 0) (.i 11400714819323198485)) <|
 .op (.bi .shr .u64 (.v 1) (.i 61)) <|
 .op (.conv .i64 (.v 2)) <|
 .leaf (.jump 0 [.v 3])
def F12 := Fo fir12
def s12 : Sig := ⟨171,[.c (.p (.int .u64) (.v 0))],[],1,1,.v (ci 1),[],F12,12⟩
theorem ok12 : s12.ok Tryz.prog := okS fir12 TT_ok .nil Tryz.func171 (by kernel_rfl) (by kernel_rfl) rfl
def fir13 : Fir :=
 .op (.call 3 F3 [.v 2,.v 6] 1 []) <|
 .leaf (.jump 0 [.v 8])
def F13 := Fo fir13
def s13 : Sig := ⟨190,[.agg [.p (.int .u64) (.v 0),.p (.int .u32) (.v 1),pi 2,pi 3],.agg [.p (.int .u64) (.v 4),.p (.int .u32) (.v 5),pi 6,pi 7]],[],8,1,.v (ci 8),[],F13,13⟩
theorem ok13 : s13.ok Tryz.prog := okS fir13 TT_ok (.cons ok3 .nil) Tryz.func190 (by kernel_rfl) (by kernel_rfl) rfl
def fir14 : Fir :=
 .leaf (.jump 0 [])
def F14 := Fo fir14
def s14 : Sig := ⟨22,[.c (.p (.int .u64) (.v 0)),.c (.p (.int .u32) (.v 1))],[],2,0,.v (.agg [.p (.int .u64) (.v 0),.p (.int .u32) (.v 1),.p (.int .i64) (.i 0),.p (.int .i64) (.i 0),.p (.int .i64) (.i 0),.p (.int .i64) (.i 0),.p (.int .u64) (.i 0),.p (.int .u32) (.i 0),.p (.int .i64) (.i 0),.p (.int .i64) (.i 0),.p (.int .i64) (.i 0)]),[],F14,14⟩
theorem ok14 : s14.ok Tryz.prog := okS fir14 TT_ok .nil Tryz.func22 (by kernel_rfl) (by kernel_rfl) rfl
def fir15 : Fir :=
 .leaf (.jump 0 [])
def F15 := Fo fir15
def s15 : Sig := ⟨89,[.agg (wps 0 8 ++ [pi 8,pi 9])],[],10,0,.v (.agg (wps 0 8 ++ [pi 8,pi 9])),[],F15,15⟩
theorem ok15 : s15.ok Tryz.prog := okS fir15 TT_ok .nil Tryz.func89 (by kernel_rfl) (by kernel_rfl) rfl
end
end
section
open Go.RowKit
set_option maxRecDepth 100000
set_option maxHeartbeats 4000000
noncomputable section
def fir16 : Fir :=
 .op (.call 15 F15 [.v 4,.v 5,.v 6,.v 7,.v 8,.v 9,.v 10,.v 11,.v 12,.v 13] 0 []) <|
 .leaf (.jump 0 [])
def F16 := Fo fir16
def s16 : Sig := ⟨43,[.agg (wpi 0 4 ++ wps 4 8 ++ [pi 12,pi 13])],[],14,0,.v (.agg (wpi 0 4 ++ wps 4 8 ++ [pi 12,pi 13])),[],F16,16⟩
theorem ok16 : s16.ok Tryz.prog := okS fir16 TT_ok (.cons ok15 .nil) Tryz.func43 (by kernel_rfl) (by kernel_rfl) rfl
def fir17 : Fir :=
 .join
 (.op (.len (.v 3)) <|
 .loop [.i 0,.r0]
 (.op (.bi .lss .i64 (.v 5) (.v 4)) <|
 .ite (.v 7)
 (.op (.row (.v 3) (.v 5) 14) <|
 .op (.cl (.v 8) 0 (.int .i64)) <|
 .op (.cl (.v 8) 1 (.int .i64)) <|
 .op (.cl (.v 8) 2 (.int .i64)) <|
 .op (.cl (.v 8) 3 (.int .i64)) <|
 .op (.cl (.v 8) 4 .sl) <|
 .op (.cl (.v 8) 5 .sl) <|
 .op (.cl (.v 8) 6 .sl) <|
 .op (.cl (.v 8) 7 .sl) <|
 .op (.cl (.v 8) 8 .sl) <|
 .op (.cl (.v 8) 9 .sl) <|
 .op (.cl (.v 8) 10 .sl) <|
 .op (.cl (.v 8) 11 .sl) <|
 .op (.cl (.v 8) 12 (.int .i64)) <|
 .op (.cl (.v 8) 13 (.int .i64)) <|
 .op (.call 16 F16 [.v 9,.v 10,.v 11,.v 12,.v 13,.v 14,.v 15,.v 16,.v 17,.v 18,.v 19,.v 20,.v 21,.v 22] 0 []) <|
 .op (.lit [[((.int .i64),(.v 9)),((.int .i64),(.v 10)),((.int .i64),(.v 11)),((.int .i64),(.v 12)),(.sl,(.v 13)),(.sl,(.v 14)),(.sl,(.v 15)),(.sl,(.v 16)),(.sl,(.v 17)),(.sl,(.v 18)),(.sl,(.v 19)),(.sl,(.v 20)),((.int .i64),(.v 21)),((.int .i64),(.v 22))]]) <|
 .op (.app (.v 6) (.v 23) 14 240) <|
 .op (.bi .add .i64 (.v 5) (.i 1)) <|
 .leaf (.jump 0 [.v 25,.v 24]))
 (.leaf (.jump 1 [.v 6]))))
 (.leaf (.jump 0 [.v 4]))
def F17 := Fo fir17
def s17 : Sig := ⟨17,[.agg [pi 0,pi 1,.p .bool (.v 2),ps 3]],[],4,1,.v (.agg [pi 0,pi 1,.p .bool (.v 2),.own 0]),[(0,(.row 131 (.v 4)))],F17,17⟩
theorem ok17 : s17.ok Tryz.prog := okS fir17 TT_ok (.cons ok16 .nil) Tryz.func17 (by kernel_rfl) (by kernel_rfl) rfl
def fir18 : Fir :=
 .join
 (.op (.len (.v 2)) <|
 .loop [.i 0,.r0]
 (.op (.bi .lss .i64 (.v 4) (.v 3)) <|
 .ite (.v 6)
 (.op (.row (.v 2) (.v 4) 3) <|
 .op (.cl (.v 7) 0 .str) <|
 .op (.cl (.v 7) 1 .sl) <|
 .op (.cl (.v 7) 2 .sl) <|
 .join
 (.op (.len (.v 10)) <|
 .loop [.i 0,.r0]
 (.op (.bi .lss .i64 (.v 12) (.v 11)) <|
 .ite (.v 14)
 (.op (.row (.v 10) (.v 12) 3) <|
 .op (.cl (.v 15) 0 (.int .i64)) <|
 .op (.cl (.v 15) 1 .sl) <|
 .op (.cl (.v 15) 2 .bool) <|
 .op (.lit [[((.int .i64),(.v 16)),(.sl,(.v 17)),(.bool,(.v 18))]]) <|
 .op (.app (.v 13) (.v 19) 3 40) <|
 .op (.bi .add .i64 (.v 12) (.i 1)) <|
 .leaf (.jump 0 [.v 21,.v 20]))
 (.leaf (.jump 1 [.v 13]))))
 (.op (.lit [[(.str,(.v 8)),(.sl,(.v 9)),(.sl,(.v 11))]]) <|
 .op (.app (.v 5) (.v 12) 3 64) <|
 .op (.bi .add .i64 (.v 4) (.i 1)) <|
 .leaf (.jump 0 [.v 14,.v 13])))
 (.leaf (.jump 1 [.v 5]))))
 (.leaf (.jump 0 [.v 3]))
def F18 := Fo fir18
def s18 : Sig := ⟨16,[.agg [pi 0,pi 1,ps 2]],[],3,1,.v (.agg [pi 0,pi 1,.own 0]),[(0,(.row 127 (.v 3)))],F18,18⟩
theorem ok18 : s18.ok Tryz.prog := okS fir18 TT_ok .nil Tryz.func16 (by kernel_rfl) (by kernel_rfl) rfl
def fir19 : Fir :=
 .join
 (.loop [.i 0,.i 0]
 (.op (.bi .lss .i64 (.v 3) (.i 8)) <|
 .ite (.v 4)
 (.join
 (.op (.conv .u64 (.v 3)) <|
 .op (.bi .shr .u8 (.v 1) (.v 5)) <|
 .op (.bi .and .u8 (.v 6) (.i 1)) <|
 .op (.bi .eql .u8 (.v 7) (.i 1)) <|
 .ite (.v 8)
 (.op (.conv .i64 (.v 0)) <|
 .op (.conv .u64 (.v 3)) <|
 .op (.bi .shl .i64 (.v 9) (.v 10)) <|
 .op (.bi .xor .i64 (.v 2) (.v 11)) <|
 .leaf (.jump 0 [.v 12]))
 (.leaf (.jump 0 [.v 2])))
 (.op (.bi .add .i64 (.v 3) (.i 1)) <|
 .leaf (.jump 0 [.v 5,.v 6])))
 (.leaf (.jump 1 [.v 2]))))
 (.join
 (.loop [.v 2,.i 14]
 (.op (.bi .geq .i64 (.v 4) (.i 8)) <|
 .ite (.v 5)
 (.join
 (.op (.conv .u64 (.v 4)) <|
 .op (.bi .shr .i64 (.v 3) (.v 6)) <|
 .op (.bi .and .i64 (.v 7) (.i 1)) <|
 .op (.bi .eql .i64 (.v 8) (.i 1)) <|
 .ite (.v 9)
 (.op (.bi .sub .i64 (.v 4) (.i 8)) <|
 .op (.conv .u64 (.v 10)) <|
 .op (.bi .shl .i64 (.i 285) (.v 11)) <|
 .op (.bi .xor .i64 (.v 3) (.v 12)) <|
 .leaf (.jump 0 [.v 13]))
 (.leaf (.jump 0 [.v 3])))
 (.op (.bi .sub .i64 (.v 4) (.i 1)) <|
 .leaf (.jump 0 [.v 6,.v 7])))
 (.leaf (.jump 1 [.v 3]))))
 (.op (.conv .u8 (.v 3)) <|
 .leaf (.jump 0 [.v 4])))
def F19 := Fo fir19
def s19 : Sig := ⟨291,[.c (.p (.int .u8) (.v 0)),.c (.p (.int .u8) (.v 1))],[],2,1,.v (.c (.p (.int .u8) (.v 2))),[],F19,19⟩
theorem ok19 : s19.ok Tryz.prog := okS fir19 TT_ok .nil Tryz.func291 (by kernel_rfl) (by kernel_rfl) rfl
def fir20 : Fir :=
 .join
 (.loop [.i 1]
 (.op (.bi .lss .i64 (.v 1) (.i 256)) <|
 .ite (.v 2)
 (.op (.conv .u8 (.v 1)) <|
 .op (.call 19 F19 [.v 0,.v 3] 1 []) <|
 .op (.bi .eql .u8 (.v 4) (.i 1)) <|
 .ite (.v 5)
 (.op (.conv .u8 (.v 1)) <|
 .leaf (.jump 2 [.v 6,.i 0]))
 (.op (.bi .add .i64 (.v 1) (.i 1)) <|
 .leaf (.jump 0 [.v 6])))
 (.leaf (.jump 1 []))))
 (.leaf (.jump 0 [.i 0,.i 1]))
def F20 := Fo fir20
def s20 : Sig := ⟨288,[.c (.p (.int .u8) (.v 0))],[],1,2,.tup [.c (.p (.int .u8) (.v 1)),ci 2],[],F20,20⟩
theorem ok20 : s20.ok Tryz.prog := okS fir20 TT_ok (.cons ok19 .nil) Tryz.func288 (by kernel_rfl) (by kernel_rfl) rfl
def fir21 : Fir :=
 .op (.len (.v 0)) <|
 .op (.len (.v 1)) <|
 .op (.bi .neq .i64 (.v 3) (.v 4)) <|
 .ite (.v 5)
 (.leaf (.jump 0 [.i 1,.r0]))
 (.join
 (.loop [.i 0,.r0]
 (.op (.len (.v 0)) <|
 .op (.bi .lss .i64 (.v 6) (.v 8)) <|
 .ite (.v 9)
 (.op (.row (.v 0) (.v 6) 1) <|
 .op (.cl (.v 10) 0 (.int .u8)) <|
 .op (.row (.v 1) (.v 6) 1) <|
 .op (.cl (.v 12) 0 (.int .u8)) <|
 .op (.call 19 F19 [.v 2,.v 13] 1 []) <|
 .op (.bi .xor .u8 (.v 11) (.v 14)) <|
 .op (.lit [[((.int .u8),(.v 15))]]) <|
 .op (.app (.v 7) (.v 16) 1 1) <|
 .op (.bi .add .i64 (.v 6) (.i 1)) <|
 .leaf (.jump 0 [.v 18,.v 17]))
 (.leaf (.jump 1 [.v 7]))))
 (.leaf (.jump 0 [.i 0,.v 6])))
def F21 := Fo fir21
def s21 : Sig := ⟨253,[cs 0,cs 1,.c (.p (.int .u8) (.v 2))],[],3,2,.tup [.c (.own 0),ci 3],[(0,(.row 5 (.v 4)))],F21,21⟩
theorem ok21 : s21.ok Tryz.prog := okS fir21 TT_ok (.cons ok19 .nil) Tryz.func253 (by kernel_rfl) (by kernel_rfl) rfl
def fir22 : Fir :=
 .join
 (.op (.bi .geq .i64 (.v 0) (.i 1)) <|
 .ite (.v 2)
 (.op (.bi .leq .i64 (.v 0) (.i 16)) <|
 .ite (.v 3)
 (.op (.bi .geq .i64 (.v 1) (.i 1)) <|
 .ite (.v 4)
 (.op (.bi .leq .i64 (.v 1) (.i 16)) <|
 .leaf (.jump 0 [.v 5]))
 (.leaf (.jump 0 [.b false])))
 (.leaf (.jump 0 [.b false])))
 (.leaf (.jump 0 [.b false])))
 (.leaf (.jump 0 [.v 2]))
def F22 := Fo fir22
def s22 : Sig := ⟨285,[ci 0,ci 1],[],2,1,.v (.c (.p .bool (.v 2))),[],F22,22⟩
theorem ok22 : s22.ok Tryz.prog := okS fir22 TT_ok .nil Tryz.func285 (by kernel_rfl) (by kernel_rfl) rfl
def fir23 : Fir :=
 .op (.call 22 F22 [.v 0,.v 1] 1 []) <|
 .op (.not (.v 2)) <|
 .ite (.v 3)
 (.leaf (.jump 0 [.i 1,.i 0,.i 0,.r0]))
 (.join
 (.loop [.i 0,.r0]
 (.op (.bi .lss .i64 (.v 4) (.v 0)) <|
 .ite (.v 6)
 (.join
 (.loop [.i 1,.i 0,.v 5]
 (.op (.bi .lss .i64 (.v 8) (.v 1)) <|
 .ite (.v 10)
 (.op (.lit [[((.int .u8),(.v 7))]]) <|
 .op (.app (.v 9) (.v 11) 1 1) <|
 .op (.conv .u8 (.v 4)) <|
 .op (.call 19 F19 [.v 7,.v 13] 1 []) <|
 .op (.bi .add .i64 (.v 8) (.i 1)) <|
 .leaf (.jump 0 [.v 14,.v 15,.v 12]))
 (.leaf (.jump 1 [.v 9]))))
 (.op (.bi .add .i64 (.v 4) (.i 1)) <|
 .leaf (.jump 0 [.v 8,.v 7])))
 (.leaf (.jump 1 [.v 5]))))
 (.leaf (.jump 0 [.i 0,.v 0,.v 1,.v 4])))
def F23 := Fo fir23
def s23 : Sig := ⟨254,[ci 0,ci 1],[],2,4,.tup [.agg [pi 3,pi 4,.own 0],ci 2],[(0,(.row 5 (.v 5)))],F23,23⟩
theorem ok23 : s23.ok Tryz.prog := okS fir23 TT_ok (.cons ok22 (.cons ok19 .nil)) Tryz.func254 (by kernel_rfl) (by kernel_rfl) rfl
end
end
end Go.Proofs.YtndegphojkiblaaGreatDoor
