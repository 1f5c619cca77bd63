/- Towards the last file's theorem: part 33. -/
import Derived.Test.YtndegphojkiblaaGreatDoorG32
set_option linter.unusedSimpArgs false
set_option linter.unusedVariables false
set_option maxHeartbeats 4000000
namespace Go.Proofs.YtndegphojkiblaaGreatDoor
section
open Go.RowKit
section
variable {ρ : List L} {Q : Lf × List L → Prop} {k : Fir}
theorem s_bi {op : BinOp} {kd : IntKind} {x y : At} {l : L} (h : binI op kd (x.ev ρ).asI (y.ev ρ).asI = some l) (hk : k.wp (ρ ++ [l]) Q) : (Fir.op (.bi op kd x y) k).wp ρ Q := by rw [w_bi]; exact ⟨l,h,hk⟩
theorem s_bb {op : BinOp} {x y : At} {l : L} (h : binB op (x.ev ρ).asB (y.ev ρ).asB = some l) (hk : k.wp (ρ ++ [l]) Q) : (Fir.op (.bb op x y) k).wp ρ Q := by rw [w_bb]; exact ⟨l,h,hk⟩
theorem s_not {x : At} (hk : k.wp (ρ ++ [.b (!(x.ev ρ).asB)]) Q) : (Fir.op (.not x) k).wp ρ Q := by rw [w_not]; exact hk
theorem s_conv {kd : IntKind} {x : At} (hk : k.wp (ρ ++ [.i (kd.wrap (x.ev ρ).asI)]) Q) : (Fir.op (.conv kd x) k).wp ρ Q := by rw [w_conv]; exact hk
theorem s_len {x : At} (hk : k.wp (ρ ++ [.i (x.ev ρ).asR.length]) Q) : (Fir.op (.len x) k).wp ρ Q := by rw [w_len]; exact hk
theorem s_row {x i : At} {n : Nat} {r : List PV} (h0 : 0 ≤ (i.ev ρ).asI) (h1 : (x.ev ρ).asR[(i.ev ρ).asI.toNat]? = some r) (h2 : r.length = n) (hk : k.wp (ρ ++ [.c r]) Q) : (Fir.op (.row x i n) k).wp ρ Q := by rw [w_row]; exact ⟨h0,r,h1,h2,hk⟩
theorem s_rc {x i : At} {j : Nat} {kd : Kd} {r : List PV} {q : PV} {l : L} (h1 : (x.ev ρ).asR[(i.ev ρ).asI.toNat]? = some r) (h2 : r[j]? = some q) (h3 : kd.of q = some l) (hk : k.wp (ρ ++ [l]) Q) : (Fir.op (.rc x i j kd) k).wp ρ Q := by rw [w_rc]; exact ⟨r,h1,q,h2,l,h3,hk⟩
theorem s_cl {x : At} {j : Nat} {kd : Kd} {q : PV} {l : L} (h1 : (x.ev ρ).asC[j]? = some q) (h2 : kd.of q = some l) (hk : k.wp (ρ ++ [l]) Q) : (Fir.op (.cl x j kd) k).wp ρ Q := by rw [w_cl]; exact ⟨q,h1,l,h2,hk⟩
theorem s_bnd {i : At} {c : Nat} (h : 0 ≤ (i.ev ρ).asI ∧ (i.ev ρ).asI < c) (hk : k.wp (ρ ++ []) Q) : (Fir.op (.bnd i c) k).wp ρ Q := by rw [w_bnd]; exact ⟨h,hk⟩
theorem s_sel {xs : List At} {i : At} {x : At} (h : xs[(i.ev ρ).asI.toNat]? = some x) (hk : k.wp (ρ ++ [x.ev ρ]) Q) : (Fir.op (.sel xs i) k).wp ρ Q := by rw [w_sel]; exact ⟨x,h,hk⟩
theorem s_cut {x lo hi : At} {n : Nat} (h : 0 ≤ (lo.ev ρ).asI ∧ (lo.ev ρ).asI ≤ (hi.ev ρ).asI ∧ (hi.ev ρ).asI.toNat ≤ (x.ev ρ).asR.length ∧ headOk n (x.ev ρ).asR = true) (hk : k.wp (ρ ++ [.i (((hi.ev ρ).asI.toNat - (lo.ev ρ).asI.toNat : Nat) : Int)]) Q) : (Fir.op (.cut x lo hi n) k).wp ρ Q := by rw [w_cut]; exact ⟨h,hk⟩
theorem s_vw {x lo ln : At} (hk : k.wp (ρ ++ [.r (((x.ev ρ).asR.drop (lo.ev ρ).asI.toNat).take (ln.ev ρ).asI.toNat)]) Q) : (Fir.op (.vw x lo ln) k).wp ρ Q := by rw [w_vw]; exact hk
theorem s_tk {x ln : At} (hk : k.wp (ρ ++ [.r ((x.ev ρ).asR.take (ln.ev ρ).asI.toNat)]) Q) : (Fir.op (.tk x ln) k).wp ρ Q := by rw [w_tk]; exact hk
theorem s_app {x y : At} {n b : Nat} (h : (x.ev ρ).asR.length + (y.ev ρ).asR.length ≤ 9223372036854775807 ∧ ((x.ev ρ).asR.length + (y.ev ρ).asR.length) * b ≤ 140737488355328 ∧ rectB n (x.ev ρ).asR = true ∧ rectB n (y.ev ρ).asR = true) (hk : k.wp (ρ ++ [.r ((x.ev ρ).asR ++ (y.ev ρ).asR)]) Q) : (Fir.op (.app x y n b) k).wp ρ Q := by rw [w_app]; exact ⟨h,hk⟩
theorem s_set {x i : At} {j : Nat} {ps : List (Kd × At)} {r : List PV} (h1 : (x.ev ρ).asR[(i.ev ρ).asI.toNat]? = some r) (h2 : j + ps.length ≤ r.length) (hk : k.wp (ρ ++ [.r ((x.ev ρ).asR.set (i.ev ρ).asI.toNat (r.take j ++ pvsOf ρ ps ++ r.drop (j + ps.length)))]) Q) : (Fir.op (.set x i j ps) k).wp ρ Q := by rw [w_set]; exact ⟨r,h1,h2,hk⟩
theorem s_lit {rows : List (List (Kd × At))} (hk : k.wp (ρ ++ [.r (rows.map (pvsOf ρ))]) Q) : (Fir.op (.lit rows) k).wp ρ Q := by rw [w_lit]; exact hk
theorem s_call {t : Nat} {F : List L → Option (List L)} {args : List At} {n : Nat} {us : List Nat} {l : List L} (h : F (args.map (At.ev ρ)) = some l) (hl : l.length = n) (hu : (us.all fun i => ((l[i]?).getD (.b false)).asR.all (·.all PV.bare)) = true) (hk : k.wp (ρ ++ l) Q) : (Fir.op (.call t F args n us) k).wp ρ Q := by rw [w_call]; exact ⟨l,h,⟨hl,hu⟩,hk⟩
theorem s_ite {c : At} {a b : Fir} (ht : (c.ev ρ).asB = true → a.wp ρ Q) (hf : (c.ev ρ).asB = false → b.wp ρ Q) : (Fir.ite c a b).wp ρ Q := by rw [w_ite]; exact ⟨ht,hf⟩
theorem s_if {c : At} {a b : Fir} (hc : (c.ev ρ).asB = true) (ha : a.wp ρ Q) : (Fir.ite c a b).wp ρ Q := by rw [wp_ite,if_pos hc]; exact ha
theorem s_else {c : At} {a b : Fir} (hc : (c.ev ρ).asB = false) (hb : b.wp ρ Q) : (Fir.ite c a b).wp ρ Q := by rw [wp_ite,if_neg (by rw [hc]; decide)]; exact hb
theorem s_join {a b : Fir} (h : a.wp ρ (joinQ b ρ Q)) : (Fir.join a b).wp ρ Q := by rw [wp_join]; exact h
theorem s_leaf {x : Lf} (h : Q (x,ρ)) : (Fir.leaf x).wp ρ Q := by rw [wp_leaf]; exact h
def Nd.sim (ρ : List L) : Nd → Option L
 | .len x => some (.i (x.ev ρ).asR.length)
 | .bi op kd x y => binI op kd (x.ev ρ).asI (y.ev ρ).asI
 | .cl x j kd => match (x.ev ρ).asC[j]? with
  | some q => kd.of q
  | none => none
 | .not x => some (.b (!(x.ev ρ).asB))
 | .conv kd x => some (.i (kd.wrap (x.ev ρ).asI))
 | .lit rows => some (.r (rows.map (pvsOf ρ)))
 | .vw x lo ln => some (.r (((x.ev ρ).asR.drop (lo.ev ρ).asI.toNat).take (ln.ev ρ).asI.toNat))
 | .tk x ln => some (.r ((x.ev ρ).asR.take (ln.ev ρ).asI.toNat))
 | .bb op x y => binB op (x.ev ρ).asB (y.ev ρ).asB
 | _ => none
theorem sN {nd : Nd} {l : L} (h : nd.sim ρ = some l) (hk : k.wp (ρ ++ [l]) Q) : (Fir.op nd k).wp ρ Q := by
 cases nd with
 | len x => cases h; exact s_len hk
 | bi op kd x y => exact s_bi h hk
 | cl x j kd =>
  unfold Nd.sim at h
  cases hq : (x.ev ρ).asC[j]? with
  | none => simp [hq] at h
  | some q => exact s_cl hq (by simpa [hq] using h) hk
 | not x => cases h; exact s_not hk
 | conv kd x => cases h; exact s_conv hk
 | lit rows => cases h; exact s_lit hk
 | vw x lo ln => cases h; exact s_vw hk
 | tk x ln => cases h; exact s_tk hk
 | bb op x y => exact s_bb h hk
 | _ => cases h
end
end
section
set_option maxHeartbeats 4000000
open Go.RowKit Pl AI
theorem it_at {l0 : L} {l : List It} (hr : l0.asR = l.map itR) {i : Nat} (hi : i < l.length) : l0.asR[i]? = some (itR l[i]) := by
 rw [hr,List.getElem?_map,List.getElem?_eq_getElem hi]; rfl
theorem szR_le (n : Int) : 0 ≤ szR n ∧ szR n ≤ 4120 := by unfold szR; split <;> omega
theorem sumSz_snoc (l : List It) (x : It) : sumSz (l ++ [x]) = sumSz l + szR x.size := by simp [sumSz]
theorem sumSz_le : ∀ l : List It,0 ≤ sumSz l ∧ sumSz l ≤ 4120 * l.length
 | [] => by simp [sumSz]
 | x :: l => by
  have h1 := sumSz_le l
  have h2 := szR_le x.size
  have e : sumSz (x :: l) = szR x.size + sumSz l := by simp [sumSz]
  rw [e]; simp only [List.length_cons]; omega
theorem take_snoc {l : List It} {i : Nat} (hi : i < l.length) : l.take (i + 1) = l.take i ++ [l[i]] := by
 rw [List.take_add_one,List.getElem?_eq_getElem hi]; rfl
theorem bytes_R (l0 : L) (l : List It) (hr : l0.asR = l.map itR) (hn : l.length ≤ 1000000) : F49 [l0] = some [.i (sumSz l)] := by
 refine eq_of_wp ?_
 unfold fir49
 repeat ((first | refine sN rfl ?_ | refine s_join ?_); (try dsimp only [At.ev,d1,d2,d3,d4,d5,d6,d7,d8,d9,e0]))
 refine wp_loop (I := fun a => ∃ i : Nat,a = [.i (sumSz (l.take i)),.i i] ∧ i ≤ l.length) (mu := fun a => match a with | [_,.i i] => l.length - i.toNat | _ => 0) ⟨0,rfl,by omega⟩ ?_
 rintro a ⟨i,rfl,e1⟩
 have hlen := it_len hr
 repeat ((first | refine sN rfl ?_ | refine s_join ?_); (try dsimp only [At.ev,d1,d2,d3,d4,d5,d6,d7,d8,d9,e0]))
 refine s_ite (fun hc => ?_) (fun hc => ?_)
 rotate_left
 · have hc : ¬ (i : Int) < l0.asR.length := of_decide_eq_false hc
   refine s_leaf (s_leaf ?_)
   show [L.i (sumSz (l.take i))] = [L.i (sumSz l)]
   rw [List.take_of_length_le (by omega)]
 have hc : (i : Int) < l0.asR.length := of_decide_eq_true hc
 have hi : i < l.length := by omega
 refine s_row (r := itR l[i]) (Int.natCast_nonneg i) (it_at hr hi) rfl ?_
 dsimp only [At.ev,d1,d2,d3,d4,d5,d6,d7,d8,d9,e0]
 repeat ((first | refine sN rfl ?_ | refine s_join ?_); (try dsimp only [At.ev,d1,d2,d3,d4,d5,d6,d7,d8,d9,e0]))
 refine s_call (size_R (.i l[i].size)) rfl rfl ?_
 dsimp only [At.ev,d1,d2,d3,d4,d5,d6,d7,d8,d9,e0]
 repeat ((first | refine sN rfl ?_ | refine s_join ?_); (try dsimp only [At.ev,d1,d2,d3,d4,d5,d6,d7,d8,d9,e0]))
 have h1 := sumSz_le (l.take i)
 have h2 := szR_le l[i].size
 have h3 : (l.take i).length ≤ 1000000 := by rw [List.length_take]; omega
 refine s_leaf ⟨⟨i + 1,?_,by omega⟩,?_⟩
 · show [L.i (IntKind.wrap .i64 (sumSz (l.take i) + szR l[i].size)),L.i (IntKind.wrap .i64 ((i : Int) + 1))] = _
   rw [wrap64 (by omega) (by omega),wrap64 (by omega) (by omega),take_snoc hi,sumSz_snoc]; rfl
 · show l.length - (IntKind.wrap .i64 ((i : Int) + 1)).toNat < l.length - i
   rw [wrap64 (by omega) (by omega)]; omega
structure Str (m : Mp) (s0 s1 s2 s3 s4 s5 s6 s7 : L) : Prop where
 h0 : s0.asR = (m.st 0).map itR
 h1 : s1.asR = (m.st 1).map itR
 h2 : s2.asR = (m.st 2).map itR
 h3 : s3.asR = (m.st 3).map itR
 h4 : s4.asR = (m.st 4).map itR
 h5 : s5.asR = (m.st 5).map itR
 h6 : s6.asR = (m.st 6).map itR
 h7 : s7.asR = (m.st 7).map itR
 hn : ∀ s,(m.st s).length ≤ 8
 hk : ∀ s,∀ x ∈ m.st s,0 ≤ x.key ∧ x.key ≤ 7
theorem Str.at {m : Mp} {s0 s1 s2 s3 s4 s5 s6 s7 : L} (h : Str m s0 s1 s2 s3 s4 s5 s6 s7) {s : Nat} (hs : s < 8) : ∃ x : At,[(At.v 0),(At.v 1),(At.v 2),(At.v 3),(At.v 4),(At.v 5),(At.v 6),(At.v 7)][s]? = some x ∧ ∀ ρ : List L,(x.ev (s0 :: s1 :: s2 :: s3 :: s4 :: s5 :: s6 :: s7 :: ρ)).asR = (m.st s).map itR := by
 match s,hs with
 | 0,_ => exact ⟨_,rfl,fun _ => h.h0⟩
 | 1,_ => exact ⟨_,rfl,fun _ => h.h1⟩
 | 2,_ => exact ⟨_,rfl,fun _ => h.h2⟩
 | 3,_ => exact ⟨_,rfl,fun _ => h.h3⟩
 | 4,_ => exact ⟨_,rfl,fun _ => h.h4⟩
 | 5,_ => exact ⟨_,rfl,fun _ => h.h5⟩
 | 6,_ => exact ⟨_,rfl,fun _ => h.h6⟩
 | 7,_ => exact ⟨_,rfl,fun _ => h.h7⟩
end
section
set_option maxHeartbeats 4000000
open Go.RowKit Pl AI
def stOk (m : Mp) (s : Nat) : Prop := VL (m.st s) ∧ ∀ x ∈ m.st s,stripe x.key = (s : Int)
theorem wrap_up {i : Nat} (h : i ≤ 1000000) : IntKind.wrap .i64 ((i : Int) + 1) = ((i + 1 : Nat) : Int) := by rw [wrap64 (by omega) (by omega)]; rfl
theorem flat_snoc (m : Mp) (s : Nat) : (List.range (s + 1)).flatMap m.st = (List.range s).flatMap m.st ++ m.st s := by
 rw [List.range_succ,List.flatMap_append]; simp
theorem sumSz_app (a b : List It) : sumSz (a ++ b) = sumSz a + sumSz b := by simp [sumSz]
theorem flat_len {m : Mp} (hn : ∀ s,(m.st s).length ≤ 8) : ∀ s : Nat,((List.range s).flatMap m.st).length ≤ 8 * s
 | 0 => by simp
 | s + 1 => by
  have := flat_len hn s
  have := hn s
  rw [flat_snoc,List.length_append]; omega
theorem s_selS {m : Mp} {s0 s1 s2 s3 s4 s5 s6 s7 : L} (h : Str m s0 s1 s2 s3 s4 s5 s6 s7) {s : Nat} (hs : s < 8) {ρ ρ' : List L} {Q : Lf × List L → Prop} {k : Fir} {i : At} (hi : (i.ev ρ).asI.toNat = s) (hρ : ρ = s0 :: s1 :: s2 :: s3 :: s4 :: s5 :: s6 :: s7 :: ρ')
  (hk : ∀ sl : L,sl.asR = (m.st s).map itR → k.wp (ρ ++ [sl]) Q) : (Fir.op (.sel [(At.v 0),(At.v 1),(At.v 2),(At.v 3),(At.v 4),(At.v 5),(At.v 6),(At.v 7)] i) k).wp ρ Q := by
 obtain ⟨x,hx,hxe⟩ := h.at hs
 rw [← hi] at hx
 refine s_sel hx (hk _ ?_)
 rw [hρ]; exact hxe ρ'
theorem mapValid_R {m : Mp} {s0 s1 s2 s3 s4 s5 s6 s7 l8 l9 : L} (h : Str m s0 s1 s2 s3 s4 s5 s6 s7) (h8 : l8.asI = m.live) (h9 : l9.asI = m.garb) {b : Bool} (hb : b = true ↔ MV m) :
   F52 [s0,s1,s2,s3,s4,s5,s6,s7,l8,l9] = some [.b b] := by
 have no : ∀ s,s < 8 → ¬ stOk m s → b = false := fun s hs hk => bool_no hb fun hv => hk (hv.1 s hs)
 refine eq_of_wp ?_
 unfold fir52
 repeat ((first | refine sN rfl ?_ | refine s_join ?_); (try dsimp only [At.ev,d1,d2,d3,d4,d5,d6,d7,d8,d9,e0]))
 refine wp_loop (I := fun a => ∃ s : Nat,a = [.i (sumSz ((List.range s).flatMap m.st)),.i s] ∧ s ≤ 8 ∧ ∀ t,t < s → stOk m t) (mu := fun a => match a with | [_,.i i] => 8 - i.toNat | _ => 0) ⟨0,rfl,by omega,fun t ht => by omega⟩ ?_
 rintro a ⟨s,rfl,e1,e2⟩
 repeat ((first | refine sN rfl ?_ | refine s_join ?_); (try dsimp only [At.ev,d1,d2,d3,d4,d5,d6,d7,d8,d9,e0]))
 refine s_ite (fun hc => ?_) (fun hc => ?_)
 rotate_left
 · have hc : ¬ (s : Int) < 8 := of_decide_eq_false hc
   have hs : s = 8 := by omega
   subst hs
   refine s_leaf ?_
   have hS : Stripes m := fun t ht => e2 t ht
   show Fir.wp _ [s0,s1,s2,s3,s4,s5,s6,s7,l8,l9,.i (sumSz (cat m))] _
   repeat ((first | refine sN rfl ?_ | refine s_join ?_); (try dsimp only [At.ev,d1,d2,d3,d4,d5,d6,d7,d8,d9,e0]))
   refine s_ite (fun hc => ?_) (fun hc => ?_)
   rotate_left
   · have hc : ¬ l8.asI = sumSz (cat m) := of_decide_eq_false hc
     refine s_leaf (s_leaf ?_)
     show [L.b false] = [L.b b]
     rw [bool_no hb fun hv => hc (h8.trans hv.2.1)]
   have hc : l8.asI = sumSz (cat m) := of_decide_eq_true hc
   repeat ((first | refine sN rfl ?_ | refine s_join ?_); (try dsimp only [At.ev,d1,d2,d3,d4,d5,d6,d7,d8,d9,e0]))
   refine s_ite (fun hg => ?_) (fun hg => ?_)
   rotate_left
   · have hg : ¬ (0 : Int) ≤ l9.asI := of_decide_eq_false hg
     refine s_leaf (s_leaf ?_)
     show [L.b false] = [L.b b]
     rw [bool_no hb fun hv => hg (by rw [h9]; exact hv.2.2.1)]
   have hg : (0 : Int) ≤ l9.asI := of_decide_eq_true hg
   repeat ((first | refine sN rfl ?_ | refine s_join ?_); (try dsimp only [At.ev,d1,d2,d3,d4,d5,d6,d7,d8,d9,e0]))
   refine s_leaf (s_leaf ?_)
   show [L.b (decide (l9.asI ≤ 1099511627776))] = [L.b b]
   by_cases hg2 : l9.asI ≤ 1099511627776
   · rw [decide_eq_true hg2,hb.2 ⟨hS,by rw [← h8,hc],by rw [← h9]; exact hg,by rw [← h9]; exact hg2⟩]
   · rw [decide_eq_false hg2,bool_no hb fun hv => hg2 (by rw [h9]; exact hv.2.2.2)]
 have hc : (s : Int) < 8 := of_decide_eq_true hc
 have hs : s < 8 := by omega
 have hbnd : (0 : Int) ≤ (s : Int) ∧ (s : Int) < ((8 : Nat) : Int) := ⟨Int.natCast_nonneg s,by omega⟩
 have hlen := h.hn s
 refine s_bnd hbnd ?_
 dsimp only [At.ev,d1,d2,d3,d4,d5,d6,d7,d8,d9,e0]
 refine s_selS h hs rfl rfl fun sl hr => ?_
 dsimp only [At.ev,d1,d2,d3,d4,d5,d6,d7,d8,d9,e0]
 by_cases hv : VL (m.st s)
 rotate_left
 · refine s_call (VL_R sl (m.st s) hr (by omega) (b := false) ⟨fun h => (by cases h),fun h => absurd h hv⟩) rfl rfl ?_
   dsimp only [At.ev,d1,d2,d3,d4,d5,d6,d7,d8,d9,e0]
   repeat ((first | refine sN rfl ?_ | refine s_join ?_); (try dsimp only [At.ev,d1,d2,d3,d4,d5,d6,d7,d8,d9,e0]))
   refine s_if rfl (s_leaf ?_)
   show [L.b false] = [L.b b]
   rw [no s hs fun h => hv h.1]
 refine s_call (VL_R sl (m.st s) hr (by omega) (b := true) ⟨fun _ => hv,fun _ => rfl⟩) rfl rfl ?_
 dsimp only [At.ev,d1,d2,d3,d4,d5,d6,d7,d8,d9,e0]
 repeat ((first | refine sN rfl ?_ | refine s_join ?_); (try dsimp only [At.ev,d1,d2,d3,d4,d5,d6,d7,d8,d9,e0]))
 refine wp_loop (I := fun a => ∃ j : Nat,a = [.i j] ∧ j ≤ (m.st s).length ∧ ∀ (t : Nat) (ht : t < (m.st s).length),t < j → stripe (m.st s)[t].key = s) (mu := fun a => match a with | [.i i] => (m.st s).length - i.toNat | _ => 0) ⟨0,rfl,by omega,fun t ht h => by omega⟩ ?_
 rintro a ⟨j,rfl,f1,f2⟩
 dsimp only [At.ev,d1,d2,d3,d4,d5,d6,d7,d8,d9,e0]
 refine s_bnd hbnd ?_
 dsimp only [At.ev,d1,d2,d3,d4,d5,d6,d7,d8,d9,e0]
 refine s_selS h hs rfl rfl fun sl2 hr2 => ?_
 dsimp only [At.ev,d1,d2,d3,d4,d5,d6,d7,d8,d9,e0]
 have hl2 := it_len hr2
 repeat ((first | refine sN rfl ?_ | refine s_join ?_); (try dsimp only [At.ev,d1,d2,d3,d4,d5,d6,d7,d8,d9,e0]))
 refine s_ite (fun hj => ?_) (fun hj => ?_)
 · have hj : (j : Int) < sl2.asR.length := of_decide_eq_true hj
   have hj' : j < (m.st s).length := by omega
   refine s_bnd hbnd ?_
   dsimp only [At.ev,d1,d2,d3,d4,d5,d6,d7,d8,d9,e0]
   refine s_selS h hs rfl rfl fun sl3 hr3 => ?_
   dsimp only [At.ev,d1,d2,d3,d4,d5,d6,d7,d8,d9,e0]
   refine s_row (r := itR (m.st s)[j]) (Int.natCast_nonneg j) (it_at hr3 hj') rfl ?_
   dsimp only [At.ev,d1,d2,d3,d4,d5,d6,d7,d8,d9,e0]
   repeat ((first | refine sN rfl ?_ | refine s_join ?_); (try dsimp only [At.ev,d1,d2,d3,d4,d5,d6,d7,d8,d9,e0]))
   have hk := h.hk s _ (List.getElem_mem hj')
   refine s_call (stripe_R (m.st s)[j].key (by omega) (by omega)) rfl rfl ?_
   dsimp only [At.ev,d1,d2,d3,d4,d5,d6,d7,d8,d9,e0]
   repeat ((first | refine sN rfl ?_ | refine s_join ?_); (try dsimp only [At.ev,d1,d2,d3,d4,d5,d6,d7,d8,d9,e0]))
   refine s_ite (fun hq => ?_) (fun hq => ?_)
   · have hq : stripe (m.st s)[j].key ≠ (s : Int) := of_decide_eq_true hq
     refine s_leaf ?_
     show [L.b false] = [L.b b]
     rw [no s hs fun h => hq (h.2 _ (List.getElem_mem hj'))]
   · have hq : ¬ stripe (m.st s)[j].key ≠ (s : Int) := of_decide_eq_false hq
     repeat ((first | refine sN rfl ?_ | refine s_join ?_); (try dsimp only [At.ev,d1,d2,d3,d4,d5,d6,d7,d8,d9,e0]))
     refine s_leaf ⟨⟨j + 1,?_,by omega,fun t ht hj2 => ?_⟩,?_⟩
     · show [L.i (IntKind.wrap .i64 ((j : Int) + 1))] = _
       rw [wrap_up (by omega)]
     · by_cases htj : t = j
       · subst htj; exact Classical.byContradiction hq
       · exact f2 t ht (by omega)
     · show (m.st s).length - (IntKind.wrap .i64 ((j : Int) + 1)).toNat < (m.st s).length - j
       rw [wrap_up (by omega)]; omega
 · have hj : ¬ (j : Int) < sl2.asR.length := of_decide_eq_false hj
   have hok : stOk m s := ⟨hv,fun y hy => by
     obtain ⟨t,ht,rfl⟩ := List.getElem_of_mem hy
     exact f2 t ht (by omega)⟩
   refine s_leaf ?_
   show Fir.wp _ [s0,s1,s2,s3,s4,s5,s6,s7,l8,l9,.i (sumSz ((List.range s).flatMap m.st)),.i s,.b (decide ((s : Int) < 8)),sl,.b true,.b (!true)] _
   refine s_bnd hbnd ?_
   dsimp only [At.ev,d1,d2,d3,d4,d5,d6,d7,d8,d9,e0]
   refine s_selS h hs rfl rfl fun sl3 hr3 => ?_
   dsimp only [At.ev,d1,d2,d3,d4,d5,d6,d7,d8,d9,e0]
   refine s_call (bytes_R sl3 (m.st s) hr3 (by omega)) rfl rfl ?_
   dsimp only [At.ev,d1,d2,d3,d4,d5,d6,d7,d8,d9,e0]
   repeat ((first | refine sN rfl ?_ | refine s_join ?_); (try dsimp only [At.ev,d1,d2,d3,d4,d5,d6,d7,d8,d9,e0]))
   have g1 := sumSz_le ((List.range s).flatMap m.st)
   have g2 := flat_len h.hn s
   have g3 := sumSz_le (m.st s)
   refine s_leaf ⟨⟨s + 1,?_,by omega,fun t ht => ?_⟩,?_⟩
   · show [L.i (IntKind.wrap .i64 (sumSz ((List.range s).flatMap m.st) + sumSz (m.st s))),L.i (IntKind.wrap .i64 ((s : Int) + 1))] = _
     rw [wrap64 (by omega) (by omega),wrap_up (by omega),flat_snoc,sumSz_app]
   · by_cases hts : t = s
     · subst hts; exact hok
     · exact e2 t (by omega)
   · show 8 - (IntKind.wrap .i64 ((s : Int) + 1)).toNat < 8 - s
     rw [wrap_up (by omega)]; omega
end
section
set_option maxHeartbeats 4000000
open Go.RowKit Pl AI
attribute [local irreducible] Fir.wp
theorem bare_it (l : List It) : (l.map itR).all (·.all PV.bare) = true := by
 rw [List.all_eq_true]; intro r hr
 obtain ⟨x,_,rfl⟩ := List.mem_map.1 hr
 rfl
theorem items_R {m : Mp} {s0 s1 s2 s3 s4 s5 s6 s7 l8 l9 : L} (h : Str m s0 s1 s2 s3 s4 s5 s6 s7) (h8 : l8.asI = m.live) (h9 : l9.asI = m.garb) (hv : MV m) :
   F79 [s0,s1,s2,s3,s4,s5,s6,s7,l8,l9] = some [.r ((items m).map itR)] := by
 have hV := mapValid_R h h8 h9 (b := true) ⟨fun _ => hv,fun _ => rfl⟩
 refine eq_of_wp ?_
 unfold fir79
 refine s_join ?_
 refine wp_loop (I := fun a => ∃ s : Nat,a = [.i s,.r (((List.range s).flatMap m.st).map itR)] ∧ s ≤ 8) (mu := fun a => match a with | [.i i,_] => 8 - i.toNat | _ => 0) ⟨0,rfl,by omega⟩ ?_
 rintro a ⟨s,rfl,e1⟩
 repeat ((first | refine sN rfl ?_ | refine s_join ?_); (try dsimp only [At.ev,d1,d2,d3,d4,d5,d6,d7,d8,d9,e0]))
 refine s_ite (fun hc => ?_) (fun hc => ?_)
 rotate_left
 · have hc : ¬ (s : Int) < 8 := of_decide_eq_false hc
   have hs : s = 8 := by omega
   subst hs
   refine s_leaf ?_
   show Fir.wp (Fir.ite _ _ _) [s0,s1,s2,s3,s4,s5,s6,s7,l8,l9,.i ((8 : Nat) : Int),.r ((cat m).map itR),.b false] _
   refine s_else rfl ?_
   refine s_leaf ?_
   show Fir.wp (Fir.op _ _) [s0,s1,s2,s3,s4,s5,s6,s7,l8,l9,.r ((cat m).map itR)] _
   have hl : (cat m).length ≤ 64 := flat_len h.hn 8
   obtain ⟨o,ho,rfl⟩ := sorted_law (.r ((cat m).map itR)) (cat m) rfl (by omega)
   refine s_call ho rfl (by simp only [List.all_cons,List.all_nil,List.getElem?_cons_zero,Option.getD_some,asR_r,bare_it,Bool.and_self]) ?_
   dsimp only [At.ev,d1,d2,d3,d4,d5,d6,d7,d8,d9,e0]
   refine s_leaf rfl
 have hc : (s : Int) < 8 := of_decide_eq_true hc
 have hs : s < 8 := by omega
 have hbnd : (0 : Int) ≤ (s : Int) ∧ (s : Int) < ((8 : Nat) : Int) := ⟨Int.natCast_nonneg s,by omega⟩
 refine s_call hV rfl rfl ?_
 dsimp only [At.ev,d1,d2,d3,d4,d5,d6,d7,d8,d9,e0]
 refine s_leaf ?_
 show Fir.wp (Fir.ite _ _ _) [s0,s1,s2,s3,s4,s5,s6,s7,l8,l9,.i s,.r (((List.range s).flatMap m.st).map itR),.b true] _
 refine s_if rfl ?_
 refine s_bnd hbnd ?_
 dsimp only [At.ev,d1,d2,d3,d4,d5,d6,d7,d8,d9,e0]
 refine s_selS h hs rfl rfl fun sl hr => ?_
 dsimp only [At.ev,d1,d2,d3,d4,d5,d6,d7,d8,d9,e0]
 have g2 := flat_len h.hn s
 have g3 := h.hn s
 have hl := it_len hr
 have a1 : (((List.range s).flatMap m.st).map itR).length + sl.asR.length ≤ 9223372036854775807 := by rw [List.length_map,hl]; omega
 have a2 : ((((List.range s).flatMap m.st).map itR).length + sl.asR.length) * 32 ≤ 140737488355328 := by rw [List.length_map,hl]; omega
 have a4 : rectB 4 sl.asR = true := by rw [hr]; exact rect_it _
 refine s_app ⟨a1,a2,rect_it _,a4⟩ ?_
 dsimp only [At.ev,d1,d2,d3,d4,d5,d6,d7,d8,d9,e0]
 repeat ((first | refine sN rfl ?_ | refine s_join ?_); (try dsimp only [At.ev,d1,d2,d3,d4,d5,d6,d7,d8,d9,e0]))
 refine s_leaf ⟨⟨s + 1,?_,by omega⟩,?_⟩
 · show [L.i (IntKind.wrap .i64 ((s : Int) + 1)),L.r (((List.range s).flatMap m.st).map itR ++ sl.asR)] = _
   rw [wrap_up (by omega),flat_snoc,List.map_append,hr]
 · show 8 - (IntKind.wrap .i64 ((s : Int) + 1)).toNat < 8 - s
   rw [wrap_up (by omega)]; omega
theorem len_R {m : Mp} {s0 s1 s2 s3 s4 s5 s6 s7 l8 l9 : L} (h : Str m s0 s1 s2 s3 s4 s5 s6 s7) (h8 : l8.asI = m.live) (h9 : l9.asI = m.garb) (hv : MV m) :
  F98 [s0,s1,s2,s3,s4,s5,s6,s7,l8,l9] = some [.i (items m).length] := by
 refine eq_of_wp ?_
 unfold fir98
 refine s_call (items_R h h8 h9 hv) rfl rfl ?_
 dsimp only [At.ev,d1,d2,d3,d4,d5,d6,d7,d8,d9,e0]
 repeat ((first | refine sN rfl ?_ | refine s_join ?_); (try dsimp only [At.ev,d1,d2,d3,d4,d5,d6,d7,d8,d9,e0]))
 refine s_leaf ?_
 show [L.i (((items m).map itR).length : Int)] = _
 rw [List.length_map]
def fndL (l : List It) (k : Int) : List L := match findL l k with
 | some x => [.b true,.i x.key,.i x.cookie,.i x.off,.i x.size]
 | none => [.b false,.i 0,.i 0,.i 0,.i 0]
theorem fndL_len (l : List It) (k : Int) : (fndL l k).length = 5 := by unfold fndL; split <;> rfl
theorem findL_take {l : List It} {k : Int} {i : Nat} (hi : i < l.length) : findL (l.take (i + 1)) k = if l[i].key = k then some l[i] else findL (l.take i) k := by
 unfold findL
 rw [take_snoc hi,List.reverse_append]
 simp only [List.reverse_cons,List.reverse_nil,List.nil_append,List.cons_append,List.find?_cons]
 by_cases h : l[i].key = k <;> simp [h]
theorem find_R (l0 : L) (l : List It) (hr : l0.asR = l.map itR) (hn : l.length ≤ 1000000) (lk : L) : F45 [l0,lk] = some (fndL l lk.asI) := by
 refine eq_of_wp ?_
 unfold fir45
 repeat ((first | refine sN rfl ?_ | refine s_join ?_); (try dsimp only [At.ev,d1,d2,d3,d4,d5,d6,d7,d8,d9,e0]))
 have hlen := it_len hr
 refine wp_loop (I := fun a => ∃ i : Nat,a = [.i ((i : Int) - 1)] ∧ i ≤ l.length ∧ findL l lk.asI = findL (l.take i) lk.asI) (mu := fun a => match a with | [.i i] => (i + 1).toNat | _ => 0) ⟨l.length,?_,by omega,by rw [List.take_length]⟩ ?_
 · show [L.i (IntKind.wrap .i64 ((l0.asR.length : Int) - 1))] = _
   rw [wrap64 (by omega) (by omega),hlen]
 rintro a ⟨i,rfl,e1,e2⟩
 dsimp only [At.ev,d1,d2,d3,d4,d5,d6,d7,d8,d9,e0]
 repeat ((first | refine sN rfl ?_ | refine s_join ?_); (try dsimp only [At.ev,d1,d2,d3,d4,d5,d6,d7,d8,d9,e0]))
 refine s_ite (fun hc => ?_) (fun hc => ?_)
 rotate_left
 · have hc : ¬ (0 : Int) ≤ (i : Int) - 1 := of_decide_eq_false hc
   have hi : i = 0 := by omega
   subst hi
   refine s_leaf (s_leaf ?_)
   show _ = fndL l lk.asI
   unfold fndL
   rw [e2]; rfl
 have hc : (0 : Int) ≤ (i : Int) - 1 := of_decide_eq_true hc
 obtain ⟨j,rfl⟩ : ∃ j,i = j + 1 := ⟨i - 1,by omega⟩
 have hj : j < l.length := by omega
 have hz : ((j + 1 : Nat) : Int) - 1 = (j : Int) := by omega
 rw [hz]
 have h0 : (0 : Int) ≤ ((j : Nat) : Int) := Int.natCast_nonneg j
 refine s_row (r := itR l[j]) h0 (it_at hr hj) rfl ?_
 dsimp only [At.ev,d1,d2,d3,d4,d5,d6,d7,d8,d9,e0]
 repeat ((first | refine sN rfl ?_ | refine s_join ?_); (try dsimp only [At.ev,d1,d2,d3,d4,d5,d6,d7,d8,d9,e0]))
 refine s_ite (fun hk => ?_) (fun hk => ?_)
 · have hk : l[j].key = lk.asI := of_decide_eq_true hk
   refine s_row (r := itR l[j]) h0 (it_at hr hj) rfl ?_
   dsimp only [At.ev,d1,d2,d3,d4,d5,d6,d7,d8,d9,e0]
   repeat ((first | refine sN rfl ?_ | refine s_join ?_); (try dsimp only [At.ev,d1,d2,d3,d4,d5,d6,d7,d8,d9,e0]))
   refine s_leaf ?_
   show [L.b true,L.i l[j].key,L.i l[j].cookie,L.i l[j].off,L.i l[j].size] = fndL l lk.asI
   unfold fndL
   rw [e2,findL_take hj,if_pos hk]
 · have hk : ¬ l[j].key = lk.asI := of_decide_eq_false hk
   repeat ((first | refine sN rfl ?_ | refine s_join ?_); (try dsimp only [At.ev,d1,d2,d3,d4,d5,d6,d7,d8,d9,e0]))
   refine s_leaf ⟨⟨j,?_,by omega,?_⟩,?_⟩
   · show [L.i (IntKind.wrap .i64 ((j : Int) - 1))] = _
     rw [wrap64 (by omega) (by omega)]
   · rw [e2,findL_take hj,if_neg hk]
   · show (IntKind.wrap .i64 ((j : Int) - 1) + 1).toNat < ((j : Int) + 1).toNat
     rw [wrap64 (by omega) (by omega)]; omega
theorem get_R {m : Mp} {s0 s1 s2 s3 s4 s5 s6 s7 l8 l9 : L} (h : Str m s0 s1 s2 s3 s4 s5 s6 s7) (h8 : l8.asI = m.live) (h9 : l9.asI = m.garb) (hv : MV m) (lk : L) :
  F99 [s0,s1,s2,s3,s4,s5,s6,s7,l8,l9,lk] = some (fndL (items m) lk.asI) := by
 have hl : (items m).length ≤ 64 := Nat.le_trans (srt_length _) (flat_len h.hn 8)
 refine eq_of_wp ?_
 unfold fir99
 refine s_call (items_R h h8 h9 hv) rfl rfl ?_
 dsimp only [At.ev,d1,d2,d3,d4,d5,d6,d7,d8,d9,e0]
 refine s_call (find_R (.r ((items m).map itR)) (items m) rfl (by omega) lk) (fndL_len _ _) rfl ?_
 refine s_leaf ?_
 have hh := fndL_len (items m) lk.asI
 match fndL (items m) lk.asI,hh with
 | [a,b,c,d,e],_ => rfl
end
section
set_option maxHeartbeats 4000000
open Go.RowKit Pl AI
attribute [local irreducible] Fir.wp
def endOk (l : List It) (size : Int) (i : Nat) : Prop := ∀ h : i < l.length,ends l[i] ≤ size ∧ ∀ (k : Nat) (hk : k < l.length),k ≠ i → ¬ (l[i].off ≤ l[k].off ∧ l[k].off < ends l[i])
theorem endOk_iff (l : List It) (size : Int) : (l.Pairwise Clear ∧ ∀ x ∈ l,ends x ≤ size) ↔ ∀ i,i < l.length → endOk l size i := by
 constructor
 · rintro ⟨h1,h2⟩ i hi hi'
   refine ⟨h2 _ (List.getElem_mem hi),fun k hk hki => ?_⟩
   rcases Nat.lt_or_gt_of_ne hki with h | h
   · exact (List.pairwise_iff_getElem.1 h1 k i hk hi h).2
   · exact (List.pairwise_iff_getElem.1 h1 i k hi hk h).1
 · intro h
   refine ⟨List.pairwise_iff_getElem.2 fun i j hi hj hij => ⟨(h i hi hi).2 j hj (by omega),(h j hj hj).2 i hi (by omega)⟩,fun x hx => ?_⟩
   obtain ⟨i,hi,rfl⟩ := List.getElem_of_mem hx
   exact (h i hi hi).1
theorem ends_R (l0 lz : L) (l : List It) (hr : l0.asR = l.map itR) (hn : l.length ≤ 1000000) (hok : ∀ x ∈ l,okIt x = true) {b : Bool} (hb : b = true ↔ (l.Pairwise Clear ∧ ∀ x ∈ l,ends x ≤ lz.asI)) : F58 [l0,lz] = some [.b b] := by
 rw [endOk_iff] at hb
 have hlen := it_len hr
 refine eq_of_wp ?_
 unfold fir58
 repeat ((first | refine sN rfl ?_ | refine s_join ?_); (try dsimp only [At.ev,d1,d2,d3,d4,d5,d6,d7,d8,d9,e0]))
 refine wp_loop (I := fun a => ∃ i : Nat,a = [.i i] ∧ i ≤ l.length ∧ ∀ j,j < i → endOk l lz.asI j) (mu := fun a => match a with | [.i i] => l.length - i.toNat | _ => 0) ⟨0,rfl,by omega,fun j hj => by omega⟩ ?_
 rintro a ⟨i,rfl,e1,e2⟩
 repeat ((first | refine sN rfl ?_ | refine s_join ?_); (try dsimp only [At.ev,d1,d2,d3,d4,d5,d6,d7,d8,d9,e0]))
 refine s_ite (fun hc => ?_) (fun hc => ?_)
 rotate_left
 · have hc : ¬ (i : Int) < l0.asR.length := of_decide_eq_false hc
   refine s_leaf (s_leaf ?_)
   show [L.b true] = [L.b b]
   rw [hb.2 fun j hj => e2 j (by omega)]
 have hc : (i : Int) < l0.asR.length := of_decide_eq_true hc
 have hi : i < l.length := by omega
 have no : ¬ endOk l lz.asI i → b = false := fun h => bool_no hb fun hv => h (hv i hi)
 have h0 : (0 : Int) ≤ (i : Int) := Int.natCast_nonneg i
 refine s_join ?_
 refine s_row (r := itR l[i]) h0 (it_at hr hi) rfl ?_
 dsimp only [At.ev,d1,d2,d3,d4,d5,d6,d7,d8,d9,e0]
 repeat ((first | refine sN rfl ?_ | refine s_join ?_); (try dsimp only [At.ev,d1,d2,d3,d4,d5,d6,d7,d8,d9,e0]))
 refine s_row (r := itR l[i]) h0 (it_at hr hi) rfl ?_
 dsimp only [At.ev,d1,d2,d3,d4,d5,d6,d7,d8,d9,e0]
 repeat ((first | refine sN rfl ?_ | refine s_join ?_); (try dsimp only [At.ev,d1,d2,d3,d4,d5,d6,d7,d8,d9,e0]))
 refine s_call (size_R (.i l[i].size)) rfl rfl ?_
 dsimp only [At.ev,d1,d2,d3,d4,d5,d6,d7,d8,d9,e0]
 refine s_bi (l := .i (ends l[i])) ?_ ?_
 · have h1 := hok _ (List.getElem_mem hi)
   have h2 := szR_le l[i].size
   simp only [okIt,Bool.and_eq_true,decide_eq_true_eq] at h1
   show some (L.i (IntKind.wrap .i64 (l[i].off + szR l[i].size))) = _
   rw [wrap64 (by omega) (by omega)]; rfl
 dsimp only [At.ev,d1,d2,d3,d4,d5,d6,d7,d8,d9,e0]
 repeat ((first | refine sN rfl ?_ | refine s_join ?_); (try dsimp only [At.ev,d1,d2,d3,d4,d5,d6,d7,d8,d9,e0]))
 refine s_ite (fun he => ?_) (fun he => ?_)
 · have he : lz.asI < ends l[i] := of_decide_eq_true he
   refine s_leaf ?_
   show [L.b false] = [L.b b]
   rw [no fun h => by have := (h hi).1; omega]
 have he : ¬ lz.asI < ends l[i] := of_decide_eq_false he
 refine wp_loop (I := fun a => ∃ k : Nat,a = [.i k] ∧ k ≤ l.length ∧ ∀ (t : Nat) (ht : t < l.length),t < k → t ≠ i → ¬ (l[i].off ≤ l[t].off ∧ l[t].off < ends l[i])) (mu := fun a => match a with | [.i i] => l.length - i.toNat | _ => 0) ⟨0,rfl,by omega,fun t ht h => by omega⟩ ?_
 rintro a ⟨k,rfl,f1,f2⟩
 dsimp only [At.ev,d1,d2,d3,d4,d5,d6,d7,d8,d9,e0]
 repeat ((first | refine sN rfl ?_ | refine s_join ?_); (try dsimp only [At.ev,d1,d2,d3,d4,d5,d6,d7,d8,d9,e0]))
 refine s_ite (fun hk => ?_) (fun hk => ?_)
 rotate_left
 · have hk : ¬ (k : Int) < l0.asR.length := of_decide_eq_false hk
   have ok : endOk l lz.asI i := fun _ => ⟨by omega,fun t ht hti => f2 t ht (by omega) hti⟩
   refine s_leaf ?_
   show Fir.wp (Fir.op _ _) [l0,lz,.i i,.i l0.asR.length,.b (decide ((i : Int) < l0.asR.length))] _
   repeat ((first | refine sN rfl ?_ | refine s_join ?_); (try dsimp only [At.ev,d1,d2,d3,d4,d5,d6,d7,d8,d9,e0]))
   refine s_leaf ⟨⟨i + 1,?_,by omega,fun j hj => ?_⟩,?_⟩
   · show [L.i (IntKind.wrap .i64 ((i : Int) + 1))] = _
     rw [wrap_up (by omega)]
   · by_cases hji : j = i
     · subst hji; exact ok
     · exact e2 j (by omega)
   · show l.length - (IntKind.wrap .i64 ((i : Int) + 1)).toNat < l.length - i
     rw [wrap_up (by omega)]; omega
 have hk : (k : Int) < l0.asR.length := of_decide_eq_true hk
 have hk' : k < l.length := by omega
 have hk0 : (0 : Int) ≤ (k : Int) := Int.natCast_nonneg k
 have fin : ∀ x : Bool,∀ ρ : List L,(x = true ↔ (k ≠ i ∧ l[i].off ≤ l[k].off ∧ l[k].off < ends l[i])) → ∀ v12 v13 v14 : L,v12 = .i k → (Fir.ite (.v 15) (.leaf (.jump 4 [(.b false)])) (.op (.bi .add .i64 (.v 12) (.i 1)) <| .leaf (.jump 0 [(.v 16)]))).wp ([l0,lz,.i i,.i l0.asR.length,.b (decide ((i : Int) < l0.asR.length)),.c (itR l[i]),.i l[i].off,.c (itR l[i]),.i l[i].size,.i (szR l[i].size),.i (ends l[i]),.b (decide (lz.asI < ends l[i])),v12,v13,v14] ++ [.b x]) (loopQ (fun a => ∃ k : Nat,a = [L.i k] ∧ k ≤ l.length ∧ ∀ (t : Nat) (ht : t < l.length),t < k → t ≠ i → ¬ (l[i].off ≤ l[t].off ∧ l[t].off < ends l[i])) (fun a => match a with | [.i i] => l.length - i.toNat | _ => 0) [L.i k] (joinQ (.op (.bi .add .i64 (.v 2) (.i 1)) <| .leaf (.jump 0 [(.v 5)])) [l0,lz,.i i,.i l0.asR.length,.b (decide ((i : Int) < l0.asR.length))] (loopQ (fun a => ∃ i : Nat,a = [L.i i] ∧ i ≤ l.length ∧ ∀ j,j < i → endOk l lz.asI j) (fun a => match a with | [.i i] => l.length - i.toNat | _ => 0) [L.i i] (joinQ (.leaf (.jump 0 [(.b true)])) [l0,lz] (outQ fun x => x = [L.b b]))))) := by
   intro x ρ hx v12 v13 v14 h12
   subst h12
   dsimp only [At.ev,d1,d2,d3,d4,d5,d6,d7,d8,d9,e0]
   refine s_ite (fun hc => ?_) (fun hc => ?_)
   · obtain ⟨g1,g2⟩ := hx.1 hc
     refine s_leaf ?_
     show [L.b false] = [L.b b]
     rw [no fun h => (h hi).2 k hk' g1 g2]
   · repeat ((first | refine sN rfl ?_ | refine s_join ?_); (try dsimp only [At.ev,d1,d2,d3,d4,d5,d6,d7,d8,d9,e0]))
     refine s_leaf ⟨⟨k + 1,?_,by omega,fun t ht htk hti => ?_⟩,?_⟩
     · show [L.i (IntKind.wrap .i64 ((k : Int) + 1))] = _
       rw [wrap_up (by omega)]
     · by_cases htk' : t = k
       · subst htk'
         intro hq
         have hc : x = false := hc
         rw [hx.2 ⟨hti,hq⟩] at hc; cases hc
       · exact f2 t ht (by omega) hti
     · show l.length - (IntKind.wrap .i64 ((k : Int) + 1)).toNat < l.length - k
       rw [wrap_up (by omega)]; omega
 refine s_join ?_
 repeat ((first | refine sN rfl ?_ | refine s_join ?_); (try dsimp only [At.ev,d1,d2,d3,d4,d5,d6,d7,d8,d9,e0]))
 refine s_ite (fun hki => ?_) (fun hki => ?_)
 rotate_left
 · have hki : ¬ (k : Int) ≠ (i : Int) := of_decide_eq_false hki
   exact s_leaf (fin false [] ⟨fun h => (by cases h),fun h => absurd (by omega) hki⟩ _ _ _ rfl)
 have hki : (k : Int) ≠ (i : Int) := of_decide_eq_true hki
 refine s_row (r := itR l[k]) hk0 (it_at hr hk') rfl ?_
 dsimp only [At.ev,d1,d2,d3,d4,d5,d6,d7,d8,d9,e0]
 repeat ((first | refine sN rfl ?_ | refine s_join ?_); (try dsimp only [At.ev,d1,d2,d3,d4,d5,d6,d7,d8,d9,e0]))
 refine s_row (r := itR l[i]) h0 (it_at hr hi) rfl ?_
 dsimp only [At.ev,d1,d2,d3,d4,d5,d6,d7,d8,d9,e0]
 repeat ((first | refine sN rfl ?_ | refine s_join ?_); (try dsimp only [At.ev,d1,d2,d3,d4,d5,d6,d7,d8,d9,e0]))
 refine s_ite (fun hq => ?_) (fun hq => ?_)
 rotate_left
 · have hq : ¬ l[i].off ≤ l[k].off := of_decide_eq_false hq
   exact s_leaf (fin false [] ⟨fun h => (by cases h),fun h => absurd h.2.1 hq⟩ _ _ _ rfl)
 have hq : l[i].off ≤ l[k].off := of_decide_eq_true hq
 refine s_row (r := itR l[k]) hk0 (it_at hr hk') rfl ?_
 dsimp only [At.ev,d1,d2,d3,d4,d5,d6,d7,d8,d9,e0]
 repeat ((first | refine sN rfl ?_ | refine s_join ?_); (try dsimp only [At.ev,d1,d2,d3,d4,d5,d6,d7,d8,d9,e0]))
 refine s_leaf (fin (decide (l[k].off < ends l[i])) [] ⟨fun h => ⟨by omega,hq,of_decide_eq_true h⟩,fun h => decide_eq_true h.2.2⟩ _ _ _ rfl)
end
section
set_option maxHeartbeats 4000000
open Go.RowKit Pl AI
attribute [local irreducible] Fir.wp
theorem cat_len {m : Mp} (hn : ∀ s,(m.st s).length ≤ 8) : (cat m).length ≤ 64 := flat_len hn 8
theorem items_len {m : Mp} (hn : ∀ s,(m.st s).length ≤ 8) : (items m).length ≤ 64 := Nat.le_trans (srt_length _) (cat_len hn)
theorem genValid_R {g : Gn} {l0 l1 l2 l3 s0 s1 s2 s3 s4 s5 s6 s7 l8 l9 : L} (h : Str g.map s0 s1 s2 s3 s4 s5 s6 s7) (h8 : l8.asI = g.map.live) (h9 : l9.asI = g.map.garb)
   (h0 : l0.asI = g.num) (h1 : l1.asI = g.rev) (h2 : l2.asI = g.mode) (h3 : l3.asI = g.size) {b : Bool} (hb : b = true ↔ GV g) :
   F80 [l0,l1,l2,l3,s0,s1,s2,s3,s4,s5,s6,s7,l8,l9] = some [.b b] := by
 refine eq_of_wp ?_
 unfold fir80
 repeat ((first | refine sN rfl ?_ | refine s_join ?_); (try dsimp only [At.ev,d1,d2,d3,d4,d5,d6,d7,d8,d9,e0]))
 refine s_ite (fun hc => ?_) (fun hc => ?_)
 · have hc : l0.asI < 1 := of_decide_eq_true hc
   refine s_leaf (s_if rfl (s_leaf ?_))
   show [L.b false] = [L.b b]
   rw [bool_no hb fun hv => by have := hv.1; omega]
 have c1 : ¬ l0.asI < 1 := of_decide_eq_false hc
 clear hc
 repeat ((first | refine sN rfl ?_ | refine s_join ?_); (try dsimp only [At.ev,d1,d2,d3,d4,d5,d6,d7,d8,d9,e0]))
 refine s_ite (fun hc => ?_) (fun hc => ?_)
 · have hc : 8 < l0.asI := of_decide_eq_true hc
   refine s_leaf (s_if rfl (s_leaf ?_))
   show [L.b false] = [L.b b]
   rw [bool_no hb fun hv => by have := hv.1; omega]
 have c2 : ¬ 8 < l0.asI := of_decide_eq_false hc
 clear hc
 repeat ((first | refine sN rfl ?_ | refine s_join ?_); (try dsimp only [At.ev,d1,d2,d3,d4,d5,d6,d7,d8,d9,e0]))
 refine s_ite (fun hc => ?_) (fun hc => ?_)
 · have hc : l1.asI < 0 := of_decide_eq_true hc
   refine s_leaf (s_if rfl (s_leaf ?_))
   show [L.b false] = [L.b b]
   rw [bool_no hb fun hv => by have := hv.1; omega]
 have c3 : ¬ l1.asI < 0 := of_decide_eq_false hc
 clear hc
 repeat ((first | refine sN rfl ?_ | refine s_join ?_); (try dsimp only [At.ev,d1,d2,d3,d4,d5,d6,d7,d8,d9,e0]))
 refine s_ite (fun hc => ?_) (fun hc => ?_)
 · have hc : 4294967296 ≤ l1.asI := of_decide_eq_true hc
   refine s_leaf (s_if rfl (s_leaf ?_))
   show [L.b false] = [L.b b]
   rw [bool_no hb fun hv => by have := hv.1; omega]
 have c4 : ¬ 4294967296 ≤ l1.asI := of_decide_eq_false hc
 clear hc
 repeat ((first | refine sN rfl ?_ | refine s_join ?_); (try dsimp only [At.ev,d1,d2,d3,d4,d5,d6,d7,d8,d9,e0]))
 refine s_ite (fun hc => ?_) (fun hc => ?_)
 · have hc : l2.asI < 1 := of_decide_eq_true hc
   refine s_leaf (s_if rfl (s_leaf ?_))
   show [L.b false] = [L.b b]
   rw [bool_no hb fun hv => by have := hv.1; omega]
 have c5 : ¬ l2.asI < 1 := of_decide_eq_false hc
 clear hc
 repeat ((first | refine sN rfl ?_ | refine s_join ?_); (try dsimp only [At.ev,d1,d2,d3,d4,d5,d6,d7,d8,d9,e0]))
 refine s_leaf ?_
 show Fir.wp (Fir.ite _ _ _) [l0,l1,l2,l3,s0,s1,s2,s3,s4,s5,s6,s7,l8,l9,.b (decide (3 < l2.asI))] _
 refine s_ite (fun hc => ?_) (fun hc => ?_)
 · have hc : 3 < l2.asI := of_decide_eq_true hc
   refine s_leaf ?_
   show [L.b false] = [L.b b]
   rw [bool_no hb fun hv => by have := hv.1; omega]
 have c6 : ¬ 3 < l2.asI := of_decide_eq_false hc
 clear hc
 repeat ((first | refine sN rfl ?_ | refine s_join ?_); (try dsimp only [At.ev,d1,d2,d3,d4,d5,d6,d7,d8,d9,e0]))
 refine s_ite (fun hc => ?_) (fun hc => ?_)
 · have hc : l3.asI < 16 := of_decide_eq_true hc
   refine s_leaf (s_if rfl (s_leaf ?_))
   show [L.b false] = [L.b b]
   rw [bool_no hb fun hv => by have := hv.2.1; omega]
 have c7 : ¬ l3.asI < 16 := of_decide_eq_false hc
 clear hc
 repeat ((first | refine sN rfl ?_ | refine s_join ?_); (try dsimp only [At.ev,d1,d2,d3,d4,d5,d6,d7,d8,d9,e0]))
 refine s_ite (fun hc => ?_) (fun hc => ?_)
 · have hc : 1048576 < l3.asI := of_decide_eq_true hc
   refine s_leaf (s_if rfl (s_leaf ?_))
   show [L.b false] = [L.b b]
   rw [bool_no hb fun hv => by have := hv.2.1; omega]
 have c8 : ¬ 1048576 < l3.asI := of_decide_eq_false hc
 clear hc
 repeat ((first | refine sN rfl ?_ | refine s_join ?_); (try dsimp only [At.ev,d1,d2,d3,d4,d5,d6,d7,d8,d9,e0]))
 have hm : l3.asI.tmod 8 = l3.asI % 8 := Int.tmod_eq_emod_of_nonneg (by omega)
 refine s_ite (fun hc => ?_) (fun hc => ?_)
 · have hc : l3.asI.tmod 8 ≠ 0 := of_decide_eq_true hc
   refine s_leaf (s_if rfl (s_leaf ?_))
   show [L.b false] = [L.b b]
   rw [bool_no hb fun hv => by have := hv.2.1; omega]
 have c9 : ¬ l3.asI.tmod 8 ≠ 0 := of_decide_eq_false hc
 clear hc
 by_cases hv : MV g.map
 rotate_left
 · refine s_call (mapValid_R h h8 h9 (b := false) ⟨fun h => (by cases h),fun h => absurd h hv⟩) rfl rfl ?_
   dsimp only [At.ev,d1,d2,d3,d4,d5,d6,d7,d8,d9,e0]
   repeat ((first | refine sN rfl ?_ | refine s_join ?_); (try dsimp only [At.ev,d1,d2,d3,d4,d5,d6,d7,d8,d9,e0]))
   refine s_if rfl (s_leaf (s_if rfl (s_leaf ?_)))
   show [L.b false] = [L.b b]
   rw [bool_no hb fun h => hv h.2.2.1]
 refine s_call (mapValid_R h h8 h9 (b := true) ⟨fun _ => hv,fun _ => rfl⟩) rfl rfl ?_
 dsimp only [At.ev,d1,d2,d3,d4,d5,d6,d7,d8,d9,e0]
 repeat ((first | refine sN rfl ?_ | refine s_join ?_); (try dsimp only [At.ev,d1,d2,d3,d4,d5,d6,d7,d8,d9,e0]))
 refine s_else rfl ?_
 refine s_call (items_R h h8 h9 hv) rfl rfl ?_
 dsimp only [At.ev,d1,d2,d3,d4,d5,d6,d7,d8,d9,e0]
 have hlen := items_len h.hn
 have ho := ok_items hv.1
 by_cases he : (items g.map).Pairwise Clear ∧ ∀ x ∈ items g.map,ends x ≤ l3.asI
 rotate_left
 · refine s_call (ends_R (.r ((items g.map).map itR)) l3 (items g.map) rfl (by omega) ho (b := false) ⟨fun h => (by cases h),fun h => absurd h he⟩) rfl rfl ?_
   dsimp only [At.ev,d1,d2,d3,d4,d5,d6,d7,d8,d9,e0]
   repeat ((first | refine sN rfl ?_ | refine s_join ?_); (try dsimp only [At.ev,d1,d2,d3,d4,d5,d6,d7,d8,d9,e0]))
   refine s_leaf (s_if rfl (s_leaf ?_))
   show [L.b false] = [L.b b]
   rw [bool_no hb fun h => he (by rw [h3]; exact h.2.2.2.1)]
 refine s_call (ends_R (.r ((items g.map).map itR)) l3 (items g.map) rfl (by omega) ho (b := true) ⟨fun _ => he,fun _ => rfl⟩) rfl rfl ?_
 dsimp only [At.ev,d1,d2,d3,d4,d5,d6,d7,d8,d9,e0]
 repeat ((first | refine sN rfl ?_ | refine s_join ?_); (try dsimp only [At.ev,d1,d2,d3,d4,d5,d6,d7,d8,d9,e0]))
 refine s_leaf (s_else rfl ?_)
 show Fir.wp (Fir.op _ _) [l0,l1,l2,l3,s0,s1,s2,s3,s4,s5,s6,s7,l8,l9,.b (decide (3 < l2.asI)),.b (!true)] _
 repeat ((first | refine sN rfl ?_ | refine s_join ?_); (try dsimp only [At.ev,d1,d2,d3,d4,d5,d6,d7,d8,d9,e0]))
 refine s_leaf ?_
 have g1 := sumSz_le (cat g.map)
 have g2 := cat_len h.hn
 have g3 := hv.2.1
 have g4 := hv.2.2
 show [L.b (decide (IntKind.wrap .i64 (IntKind.wrap .i64 (l3.asI - 16) - l8.asI) = l9.asI))] = [L.b b]
 rw [wrap64 (n := l3.asI - 16) (by omega) (by omega),wrap64 (by omega) (by omega)]
 by_cases hf : l3.asI - 16 - l8.asI = l9.asI
 · rw [decide_eq_true hf,hb.2 ⟨by omega,by omega,hv,by rw [← h3]; exact he,by omega⟩]
 · rw [decide_eq_false hf,bool_no hb fun h => hf (by have := h.2.2.2.2; omega)]
end
end Go.Proofs.YtndegphojkiblaaGreatDoor
