/- Towards the last file's theorem: part 35. -/
import Derived.Test.YtndegphojkiblaaGreatDoorG34
set_option linter.unusedSimpArgs false
set_option linter.unusedVariables false
set_option maxHeartbeats 4000000
namespace Go.Proofs.YtndegphojkiblaaGreatDoor
section
set_option maxHeartbeats 4000000
open Go.RowKit Pl AI
attribute [local irreducible] Fir.wp
theorem nan0 (a : L) : F0 [a] = some [.b false] := by
 refine eq_of_wp ?_
 unfold fir0
 repeat ((first | refine sN rfl ?_ | refine s_join ?_); (try dsimp only [At.ev,d1,d2,d3,d4,d5,d6,d7,d8,d9,e0]))
 refine s_leaf ?_
 show [L.b (decide (a.asI ≠ a.asI))] = _
 simp
theorem nan2 (a : L) : F2 [a] = some [.b false] := by
 refine eq_of_wp ?_
 unfold fir2
 repeat ((first | refine sN rfl ?_ | refine s_join ?_); (try dsimp only [At.ev,d1,d2,d3,d4,d5,d6,d7,d8,d9,e0]))
 refine s_leaf ?_
 show [L.b (decide (a.asI ≠ a.asI))] = _
 simp
theorem cmp1 (a b : L) : ∃ c : Int,F1 [a,b] = some [.i c] ∧ (c < 0 ↔ a.asI < b.asI) := by
 suffices h : ∃ o,Fo fir1 [a,b] = some o ∧ ∃ c : Int,o = [.i c] ∧ (c < 0 ↔ a.asI < b.asI) by
   obtain ⟨o,h1,c,rfl,h2⟩ := h
   exact ⟨c,h1,h2⟩
 refine outO_of_wp ?_
 unfold fir1
 refine s_call (nan0 a) rfl rfl ?_
 dsimp only [At.ev,d1,d2,d3,d4,d5,d6,d7,d8,d9,e0]
 refine s_call (nan0 b) rfl rfl ?_
 dsimp only [At.ev,d1,d2,d3,d4,d5,d6,d7,d8,d9,e0]
 refine s_else rfl (s_else rfl ?_)
 repeat ((first | refine sN rfl ?_ | refine s_join ?_); (try dsimp only [At.ev,d1,d2,d3,d4,d5,d6,d7,d8,d9,e0]))
 refine s_ite (fun hc => ?_) (fun hc => ?_)
 · have hc : a.asI < b.asI := of_decide_eq_true hc
   exact s_leaf ⟨-1,rfl,by omega⟩
 have hc : ¬ a.asI < b.asI := of_decide_eq_false hc
 repeat ((first | refine sN rfl ?_ | refine s_join ?_); (try dsimp only [At.ev,d1,d2,d3,d4,d5,d6,d7,d8,d9,e0]))
 refine s_ite (fun hc2 => ?_) (fun hc2 => ?_)
 · exact s_leaf ⟨1,rfl,by omega⟩
 · exact s_leaf ⟨0,rfl,by omega⟩
theorem cmp3 (a b : L) : ∃ c : Int,F3 [a,b] = some [.i c] ∧ (c < 0 ↔ a.asI < b.asI) := by
 suffices h : ∃ o,Fo fir3 [a,b] = some o ∧ ∃ c : Int,o = [.i c] ∧ (c < 0 ↔ a.asI < b.asI) by
   obtain ⟨o,h1,c,rfl,h2⟩ := h
   exact ⟨c,h1,h2⟩
 refine outO_of_wp ?_
 unfold fir3
 refine s_call (nan2 a) rfl rfl ?_
 dsimp only [At.ev,d1,d2,d3,d4,d5,d6,d7,d8,d9,e0]
 refine s_call (nan2 b) rfl rfl ?_
 dsimp only [At.ev,d1,d2,d3,d4,d5,d6,d7,d8,d9,e0]
 refine s_else rfl (s_else rfl ?_)
 repeat ((first | refine sN rfl ?_ | refine s_join ?_); (try dsimp only [At.ev,d1,d2,d3,d4,d5,d6,d7,d8,d9,e0]))
 refine s_ite (fun hc => ?_) (fun hc => ?_)
 · have hc : a.asI < b.asI := of_decide_eq_true hc
   exact s_leaf ⟨-1,rfl,by omega⟩
 have hc : ¬ a.asI < b.asI := of_decide_eq_false hc
 repeat ((first | refine sN rfl ?_ | refine s_join ?_); (try dsimp only [At.ev,d1,d2,d3,d4,d5,d6,d7,d8,d9,e0]))
 refine s_ite (fun hc2 => ?_) (fun hc2 => ?_)
 · exact s_leaf ⟨1,rfl,by omega⟩
 · exact s_leaf ⟨0,rfl,by omega⟩
theorem cmpKey (x y : It) : ∃ c : Int,F6 [.i x.key,.i x.cookie,.i x.off,.i x.size,.i y.key,.i y.cookie,.i y.off,.i y.size] = some [.i c] ∧ (c < 0 ↔ x.key < y.key) := by
 obtain ⟨c,h1,h2⟩ := cmp1 (.i x.key) (.i y.key)
 refine ⟨c,eq_of_wp ?_,h2⟩
 unfold fir6
 exact s_call h1 rfl rfl (s_leaf rfl)
theorem cmpOff (x y : It) : ∃ c : Int,F13 [.i x.key,.i x.cookie,.i x.off,.i x.size,.i y.key,.i y.cookie,.i y.off,.i y.size] = some [.i c] ∧ (c < 0 ↔ x.off < y.off) := by
 obtain ⟨c,h1,h2⟩ := cmp3 (.i x.off) (.i y.off)
 refine ⟨c,eq_of_wp ?_,h2⟩
 unfold fir13
 exact s_call h1 rfl rfl (s_leaf rfl)
theorem insKey (l0 la lb : L) (l : List It) (hr : l0.asR = l.map itR) (hn : l.length ≤ 1000) (ha : la.asI = 0) (hb : lb.asI = l.length) : ∃ (x : L) (d : List It),F85 [l0,la,lb] = some [x] ∧ x.asR = d.map itR ∧ d.Perm l ∧ SortTo (·.key) d d.length := by
 obtain ⟨o,h1,x,d,rfl,h2⟩ := ins_law (t := 6) (F := F6) (·.key) cmpKey l0 la lb l hr hn ha hb
 exact ⟨x,d,h1,h2⟩
theorem insOff (l0 la lb : L) (l : List It) (hr : l0.asR = l.map itR) (hn : l.length ≤ 1000) (ha : la.asI = 0) (hb : lb.asI = l.length) : ∃ (x : L) (d : List It),F133 [l0,la,lb] = some [x] ∧ x.asR = d.map itR ∧ d.Perm l ∧ SortTo (·.off) d d.length := by
 obtain ⟨o,h1,x,d,rfl,h2⟩ := ins_law (t := 13) (F := F13) (·.off) cmpOff l0 la lb l hr hn ha hb
 exact ⟨x,d,h1,h2⟩
theorem stable_P (l0 lb : L) (l : List It) (hr : l0.asR = l.map itR) (hn : l.length < 20) (hb : lb.asI = l.length) : ∃ (x : L) (d : List It),F106 [l0,lb] = some [x] ∧ x.asR = d.map itR ∧ d.Perm l ∧ SortTo (·.key) d d.length := by
 obtain ⟨x,d,h1,h2⟩ := insKey l0 (.i 0) lb l hr (by omega) rfl hb
 refine ⟨x,d,eq_of_wp ?_,h2⟩
 unfold fir106
 refine s_join ?_
 refine wp_loop (I := fun a => a = [.i 0,.i 20,l0]) (mu := fun _ => 0) rfl ?_
 rintro a rfl
 repeat ((first | refine sN rfl ?_ | refine s_join ?_); (try dsimp only [At.ev,d1,d2,d3,d4,d5,d6,d7,d8,d9,e0]))
 refine s_else (decide_eq_false (by omega)) ?_
 refine s_leaf ?_
 show Fir.wp (Fir.op _ _) [l0,lb,.i 0,l0] _
 refine s_call h1 rfl rfl ?_
 dsimp only [At.ev,d1,d2,d3,d4,d5,d6,d7,d8,d9,e0]
 refine wp_loop (I := fun a => a = [.i 20]) (mu := fun _ => 0) rfl ?_
 rintro a rfl
 dsimp only [At.ev,d1,d2,d3,d4,d5,d6,d7,d8,d9,e0]
 repeat ((first | refine sN rfl ?_ | refine s_join ?_); (try dsimp only [At.ev,d1,d2,d3,d4,d5,d6,d7,d8,d9,e0]))
 refine s_else (decide_eq_false (by omega)) ?_
 exact s_leaf rfl
theorem stableF_P (l0 : L) (l : List It) (hr : l0.asR = l.map itR) (hn : l.length < 20) : ∃ (x : L) (d : List It),F121 [l0] = some [x] ∧ x.asR = d.map itR ∧ d.Perm l ∧ SortTo (·.key) d d.length := by
 obtain ⟨x,d,h1,h2⟩ := stable_P l0 (.i l0.asR.length) l hr hn (by rw [it_len hr]; rfl)
 refine ⟨x,d,eq_of_wp ?_,h2⟩
 unfold fir121
 repeat ((first | refine sN rfl ?_ | refine s_join ?_); (try dsimp only [At.ev,d1,d2,d3,d4,d5,d6,d7,d8,d9,e0]))
 exact s_call h1 rfl rfl (s_leaf rfl)
theorem SortTo.asc {d : List It} (h : SortTo (·.key) d d.length) (ha : Apart d) : asc d := by
 refine List.pairwise_iff_getElem.2 fun i j hi hj hij => ?_
 have h1 := h i j hj hij hj
 have h2 := List.pairwise_iff_getElem.1 ha i j hi hj hij
 have h1 : d[i].key ≤ d[j].key := h1
 omega
theorem SortTo.off {d : List It} (h : SortTo (·.off) d d.length) : d.Pairwise fun a b => a.off ≤ b.off :=
 List.pairwise_iff_getElem.2 fun i j hi hj hij => h i j hj hij hj
end
section
set_option maxHeartbeats 4000000
open Go.RowKit Pl AI
attribute [local irreducible] Fir.wp
theorem asc_Q (l0 : L) (l : List It) (hr : l0.asR = l.map itR) (hn : l.length ≤ 1000000) {b : Bool} (hb : b = true ↔ asc l) : F62 [l0] = some [.b b] := by
 rw [asc_step] at hb
 have hlen := it_len hr
 refine eq_of_wp ?_
 unfold fir62
 repeat ((first | refine sN rfl ?_ | refine s_join ?_); (try dsimp only [At.ev,d1,d2,d3,d4,d5,d6,d7,d8,d9,e0]))
 refine wp_loop (I := fun a => ∃ i : Nat,a = [.i i] ∧ i ≤ l.length ∧ ∀ j,j < i → ascStep l j) (mu := fun a => match a with | [.i i] => l.length - i.toNat | _ => 0) ⟨0,rfl,by omega,fun j hj => by omega⟩ ?_
 rintro a ⟨i,rfl,e1,e2⟩
 repeat ((first | refine sN rfl ?_ | refine s_join ?_); (try dsimp only [At.ev,d1,d2,d3,d4,d5,d6,d7,d8,d9,e0]))
 refine s_ite (fun hc => ?_) (fun hc => ?_)
 rotate_left
 · have hc : ¬ (i : Int) < l0.asR.length := of_decide_eq_false hc
   refine s_leaf (s_leaf ?_)
   show [L.b true] = [L.b b]
   rw [hb.2 fun j hj => e2 j (by omega)]
 have hc : (i : Int) < l0.asR.length := of_decide_eq_true hc
 have hi : i < l.length := by omega
 have no : ¬ ascStep l i → b = false := fun h => bool_no hb fun hv => h (hv i hi)
 have h0 : (0 : Int) ≤ (i : Int) := Int.natCast_nonneg i
 refine s_row (r := itR l[i]) h0 (it_at hr hi) rfl ?_
 dsimp only [At.ev,d1,d2,d3,d4,d5,d6,d7,d8,d9,e0]
 refine s_rc (r := itR l[i]) (it_at hr hi) rfl rfl ?_
 dsimp only [At.ev,d1,d2,d3,d4,d5,d6,d7,d8,d9,e0]
 refine s_rc (r := itR l[i]) (it_at hr hi) rfl rfl ?_
 dsimp only [At.ev,d1,d2,d3,d4,d5,d6,d7,d8,d9,e0]
 refine s_rc (r := itR l[i]) (it_at hr hi) rfl rfl ?_
 dsimp only [At.ev,d1,d2,d3,d4,d5,d6,d7,d8,d9,e0]
 refine s_rc (r := itR l[i]) (it_at hr hi) rfl rfl ?_
 dsimp only [At.ev,d1,d2,d3,d4,d5,d6,d7,d8,d9,e0]
 repeat ((first | refine sN rfl ?_ | refine s_join ?_); (try dsimp only [At.ev,d1,d2,d3,d4,d5,d6,d7,d8,d9,e0]))
 have step : ascStep l i → (∃ i_1 : Nat,[L.i (IntKind.wrap .i64 ((i : Int) + 1))] = [L.i i_1] ∧ i_1 ≤ l.length ∧ ∀ j,j < i_1 → ascStep l j) ∧ l.length - (IntKind.wrap .i64 ((i : Int) + 1)).toNat < l.length - i := fun hs => by
   rw [wrap_up (by omega)]
   refine ⟨⟨i + 1,rfl,by omega,fun j hj => ?_⟩,by omega⟩
   by_cases hji : j = i
   · subst hji; exact hs
   · exact e2 j (by omega)
 refine s_ite (fun hc => ?_) (fun hc => ?_)
 rotate_left
 · have hp : ¬ (0 : Int) < i := of_decide_eq_false hc
   exact s_leaf (s_else rfl (s_bi rfl (s_leaf (step fun _ h => by omega))))
 have hp : (0 : Int) < i := of_decide_eq_true hc
 repeat ((first | refine sN rfl ?_ | refine s_join ?_); (try dsimp only [At.ev,d1,d2,d3,d4,d5,d6,d7,d8,d9,e0]))
 have w1 : IntKind.wrap .i64 ((i : Int) - 1) = ((i - 1 : Nat) : Int) := by rw [wrap64 (by omega) (by omega)]; omega
 rw [w1]
 have hi1 : i - 1 < l.length := by omega
 refine s_row (r := itR l[i - 1]) (Int.natCast_nonneg _) (it_at hr hi1) rfl ?_
 dsimp only [At.ev,d1,d2,d3,d4,d5,d6,d7,d8,d9,e0]
 refine s_rc (r := itR l[i - 1]) (it_at hr hi1) rfl rfl ?_
 dsimp only [At.ev,d1,d2,d3,d4,d5,d6,d7,d8,d9,e0]
 repeat ((first | refine sN rfl ?_ | refine s_join ?_); (try dsimp only [At.ev,d1,d2,d3,d4,d5,d6,d7,d8,d9,e0]))
 refine s_leaf (s_ite (fun hx => ?_) (fun hx => ?_))
 · have hx : l[i].key ≤ l[i - 1].key := of_decide_eq_true hx
   refine s_leaf ?_
   show [L.b false] = [L.b b]
   rw [no fun h => by have := h hi (by omega); omega]
 · have hx : ¬ l[i].key ≤ l[i - 1].key := of_decide_eq_false hx
   exact s_bi rfl (s_leaf (step fun _ _ => by omega))
theorem s_apin {ρ : List L} {Q : Lf × List L → Prop} {k : Fir} {x ln y : At} {n : Nat} (h : rectB n (y.ev ρ).asR = true ∧ (ln.ev ρ).asI.toNat + (y.ev ρ).asR.length ≤ (x.ev ρ).asR.length)
  (hk : k.wp (ρ ++ [.r ((x.ev ρ).asR.take (ln.ev ρ).asI.toNat ++ (y.ev ρ).asR ++ (x.ev ρ).asR.drop ((ln.ev ρ).asI.toNat + (y.ev ρ).asR.length)),.i (((ln.ev ρ).asI.toNat + (y.ev ρ).asR.length : Nat) : Int)]) Q) : (Fir.op (.apin x ln y n) k).wp ρ Q := by
 rw [wp_op']
 exact ⟨_,by simp only [Nd.ev]; rw [if_pos h],hk⟩
theorem s_apinI {ρ : List L} {Q : Lf × List L → Prop} {k : Fir} {x ln y : At} {d : List It} {i : Nat} (hx : (x.ev ρ).asR = d.map itR) (hl : (ln.ev ρ).asI.toNat = i) (hi : i < d.length) (hy : (y.ev ρ).asR = [itR d[i]])
  (hk : ∀ z : L,z.asR = d.map itR → k.wp (ρ ++ [z,.i ((i + 1 : Nat) : Int)]) Q) : (Fir.op (.apin x ln y 4) k).wp ρ Q := by
 refine s_apin ⟨by rw [hy]; rfl,by rw [hy,hl,hx,List.length_map]; exact hi⟩ ?_
 have e : (ln.ev ρ).asI.toNat + (y.ev ρ).asR.length = i + 1 := by rw [hy,hl]; rfl
 rw [e]
 refine hk _ ?_
 rw [asR_r,hl,hy,hx,← List.map_take,← List.map_drop]
 have : d = d.take i ++ [d[i]] ++ d.drop (i + 1) := by
  rw [List.append_assoc,List.singleton_append,← List.drop_eq_getElem_cons hi,List.take_append_drop]
 rw [show [itR d[i]] = [d[i]].map itR from rfl,← List.map_append,← List.map_append,← this]
theorem clone_P (l : List It) (hn : l.length ≤ 1000) : F2000 [.r (l.map itR)] = some [] := by
 unfold F2000
 simp only
 rw [if_pos ⟨rect_it l,by rw [List.length_map]; omega⟩]
theorem sorted_P (l : List It) (ha : Apart l) (hn : l.length < 20) : ∃ x : L,F123 [.r (l.map itR)] = some [x] ∧ x.asR = (srt l).map itR := by
 suffices h : ∃ o,Fo fir123 [.r (l.map itR)] = some o ∧ ∃ x : L,o = [x] ∧ x.asR = (srt l).map itR by
   obtain ⟨o,h1,x,rfl,h2⟩ := h
   exact ⟨x,h1,h2⟩
 refine outO_of_wp ?_
 unfold fir123
 refine s_call (clone_P l (by omega)) rfl rfl ?_
 dsimp only [At.ev,d1,d2,d3,d4,d5,d6,d7,d8,d9,e0]
 by_cases hs : asc l
 · refine s_call (asc_Q (.r (l.map itR)) l rfl (by omega) (b := true) ⟨fun _ => hs,fun _ => rfl⟩) rfl rfl ?_
   dsimp only [At.ev,d1,d2,d3,d4,d5,d6,d7,d8,d9,e0]
   refine s_if rfl (s_leaf ⟨_,rfl,?_⟩)
   rw [srt_asc hs]; rfl
 refine s_call (asc_Q (.r (l.map itR)) l rfl (by omega) (b := false) ⟨fun h => (by cases h),fun h => absurd h hs⟩) rfl rfl ?_
 dsimp only [At.ev,d1,d2,d3,d4,d5,d6,d7,d8,d9,e0]
 refine s_else rfl ?_
 obtain ⟨x,d,h1,hx,hp,hso⟩ := stableF_P (.r (l.map itR)) l rfl hn
 have hda : Apart d := (hp.pairwise_iff fun h => fun e => h e.symm).2 ha
 have hd : srt l = d := srt_of_perm (hso.asc hda) hp ha
 have hdl := hp.length_eq
 have hxl : x.asR.length = d.length := by rw [hx,List.length_map]
 refine s_call h1 rfl rfl ?_
 dsimp only [At.ev,d1,d2,d3,d4,d5,d6,d7,d8,d9,e0]
 repeat ((first | refine sN rfl ?_ | refine s_join ?_); (try dsimp only [At.ev,d1,d2,d3,d4,d5,d6,d7,d8,d9,e0]))
 refine s_cut ⟨by show (0 : Int) ≤ 0; omega,by show (0 : Int) ≤ 0; omega,Nat.zero_le _,by show headOk 4 x.asR = true; rw [hx]; exact head_of_rect (rect_it d)⟩ ?_
 dsimp only [At.ev,d1,d2,d3,d4,d5,d6,d7,d8,d9,e0]
 repeat ((first | refine sN rfl ?_ | refine s_join ?_); (try dsimp only [At.ev,d1,d2,d3,d4,d5,d6,d7,d8,d9,e0]))
 refine wp_loop (I := fun a => ∃ (i : Nat) (z : L),a = [.i i,.i i,z] ∧ i ≤ d.length ∧ z.asR = d.map itR) (mu := fun a => match a with | [_,.i i,_] => d.length - i.toNat | _ => 0) ⟨0,x,rfl,by omega,hx⟩ ?_
 rintro a ⟨i,z,rfl,e1,hz⟩
 have hzl : z.asR.length = d.length := by rw [hz,List.length_map]
 dsimp only [At.ev,d1,d2,d3,d4,d5,d6,d7,d8,d9,e0]
 repeat ((first | refine sN rfl ?_ | refine s_join ?_); (try dsimp only [At.ev,d1,d2,d3,d4,d5,d6,d7,d8,d9,e0]))
 refine s_ite (fun hc => ?_) (fun hc => ?_)
 rotate_left
 · have hc : ¬ (i : Int) < x.asR.length := of_decide_eq_false hc
   refine s_leaf ?_
   show Fir.wp (Fir.op _ _) [.r (l.map itR),.b false,x,.i x.asR.length,.i ((Int.toNat 0 - Int.toNat 0 : Nat) : Int),.i i,z] _
   repeat ((first | refine sN rfl ?_ | refine s_join ?_); (try dsimp only [At.ev,d1,d2,d3,d4,d5,d6,d7,d8,d9,e0]))
   refine s_leaf ⟨_,rfl,?_⟩
   show z.asR.take ((i : Int)).toNat = _
   rw [hz,hd,Int.toNat_natCast,List.take_of_length_le (by rw [List.length_map]; omega)]
 have hc : (i : Int) < x.asR.length := of_decide_eq_true hc
 have hi : i < d.length := by omega
 have h0 : (0 : Int) ≤ (i : Int) := Int.natCast_nonneg i
 have ri := it_at hz hi
 refine s_join ?_
 refine s_row (r := itR d[i]) h0 ri rfl ?_
 dsimp only [At.ev,d1,d2,d3,d4,d5,d6,d7,d8,d9,e0]
 refine s_rc (r := itR d[i]) ri rfl rfl ?_
 dsimp only [At.ev,d1,d2,d3,d4,d5,d6,d7,d8,d9,e0]
 refine s_rc (r := itR d[i]) ri rfl rfl ?_
 dsimp only [At.ev,d1,d2,d3,d4,d5,d6,d7,d8,d9,e0]
 refine s_rc (r := itR d[i]) ri rfl rfl ?_
 dsimp only [At.ev,d1,d2,d3,d4,d5,d6,d7,d8,d9,e0]
 refine s_rc (r := itR d[i]) ri rfl rfl ?_
 dsimp only [At.ev,d1,d2,d3,d4,d5,d6,d7,d8,d9,e0]
 have wu := wrap_up (i := i) (by omega)
 have fin : ∀ y : Bool,y = true → ∀ w : L,(Fir.ite (.v 15) (.op (.lit [[((.int .u64),(.v 11)),((.int .u32),(.v 12)),((.int .i64),(.v 13)),((.int .i64),(.v 14))]]) <| .op (.apin (.v 8) (.v 6) (.v 16) 4) <| .leaf (.jump 0 [(.v 18),(.v 17)])) (.leaf (.jump 0 [(.v 6),(.v 8)]))).wp [.r (l.map itR),.b false,x,.i x.asR.length,.i ((Int.toNat 0 - Int.toNat 0 : Nat) : Int),.i x.asR.length,.i i,.i i,z,.b (decide ((i : Int) < x.asR.length)),.c (itR d[i]),.i d[i].key,.i d[i].cookie,.i d[i].off,.i d[i].size,.b y] (joinQ (.op (.bi .add .i64 (.v 7) (.i 1)) <| .leaf (.jump 0 [(.v 10),(.v 12),(.v 11)])) [.r (l.map itR),.b false,x,.i x.asR.length,.i ((Int.toNat 0 - Int.toNat 0 : Nat) : Int),.i x.asR.length,.i i,.i i,z,.b (decide ((i : Int) < x.asR.length))] (loopQ (fun a => ∃ (i : Nat) (z : L),a = [.i i,.i i,z] ∧ i ≤ d.length ∧ z.asR = d.map itR) (fun a => match a with | [_,.i i,_] => d.length - i.toNat | _ => 0) [.i i,.i i,z] (joinQ (.op (.tk (.v 6) (.v 5)) <| .leaf (.jump 0 [(.v 7)])) [.r (l.map itR),.b false,x,.i x.asR.length,.i ((Int.toNat 0 - Int.toNat 0 : Nat) : Int)] (outQ fun o => ∃ x : L,o = [x] ∧ x.asR = (srt l).map itR)))) := by
   intro y hy w
   refine s_if hy ?_
   repeat ((first | refine sN rfl ?_ | refine s_join ?_); (try dsimp only [At.ev,d1,d2,d3,d4,d5,d6,d7,d8,d9,e0]))
   refine s_apinI (d := d) (i := i) hz rfl hi rfl fun z2 hz2 => ?_
   dsimp only [At.ev,d1,d2,d3,d4,d5,d6,d7,d8,d9,e0]
   refine s_leaf ?_
   show Fir.wp (Fir.op _ _) [.r (l.map itR),.b false,x,.i x.asR.length,.i ((Int.toNat 0 - Int.toNat 0 : Nat) : Int),.i x.asR.length,.i i,.i i,z,.b (decide ((i : Int) < x.asR.length)),.i ((i + 1 : Nat) : Int),z2] _
   repeat ((first | refine sN rfl ?_ | refine s_join ?_); (try dsimp only [At.ev,d1,d2,d3,d4,d5,d6,d7,d8,d9,e0]))
   refine s_leaf ⟨⟨i + 1,z2,?_,by omega,hz2⟩,?_⟩
   · show [L.i ((i + 1 : Nat) : Int),L.i (IntKind.wrap .i64 ((i : Int) + 1)),z2] = _
     rw [wu]
   · show d.length - (IntKind.wrap .i64 ((i : Int) + 1)).toNat < d.length - i
     rw [wu]; omega
 repeat ((first | refine sN rfl ?_ | refine s_join ?_); (try dsimp only [At.ev,d1,d2,d3,d4,d5,d6,d7,d8,d9,e0]))
 rw [wu]
 refine s_ite (fun hq => ?_) (fun hq => ?_)
 · exact s_leaf (fin true rfl z)
 have hq : ¬ ((i + 1 : Nat) : Int) = (z.asR.length : Int) := of_decide_eq_false hq
 have hi1 : i + 1 < d.length := by omega
 repeat ((first | refine sN rfl ?_ | refine s_join ?_); (try dsimp only [At.ev,d1,d2,d3,d4,d5,d6,d7,d8,d9,e0]))
 rw [wu]
 refine s_row (r := itR d[i + 1]) (Int.natCast_nonneg _) (it_at hz hi1) rfl ?_
 dsimp only [At.ev,d1,d2,d3,d4,d5,d6,d7,d8,d9,e0]
 refine s_rc (r := itR d[i + 1]) (it_at hz hi1) rfl rfl ?_
 dsimp only [At.ev,d1,d2,d3,d4,d5,d6,d7,d8,d9,e0]
 repeat ((first | refine sN rfl ?_ | refine s_join ?_); (try dsimp only [At.ev,d1,d2,d3,d4,d5,d6,d7,d8,d9,e0]))
 refine s_leaf (fin (decide (d[i + 1].key ≠ d[i].key)) (decide_eq_true ?_) z)
 exact fun e => (List.pairwise_iff_getElem.1 hda i (i + 1) hi hi1 (by omega)) e.symm
theorem sorted_nil : F134 [] = some [.r []] := by
 refine eq_of_wp ?_
 unfold fir134
 refine s_call (clone_P [] (by simp)) rfl rfl ?_
 dsimp only [At.ev,d1,d2,d3,d4,d5,d6,d7,d8,d9,e0]
 refine s_call (asc_Q (.r []) [] rfl (by simp) (b := true) ⟨fun _ => List.Pairwise.nil,fun _ => rfl⟩) rfl rfl ?_
 dsimp only [At.ev,d1,d2,d3,d4,d5,d6,d7,d8,d9,e0]
 exact s_if rfl (s_leaf rfl)
end
section
set_option maxHeartbeats 4000000
open Go.RowKit Pl AI
attribute [local irreducible] Fir.wp
theorem s_rep {ρ : List L} {Q : Lf × List L → Prop} {k : Fir} {n : At} {ps : List (Kd × At)} {b : Nat} (h : 0 ≤ (n.ev ρ).asI ∧ (n.ev ρ).asI ≤ 9223372036854775807 ∧ b * (n.ev ρ).asI.toNat ≤ 281474976710656) (hk : k.wp (ρ ++ [.r (List.replicate (n.ev ρ).asI.toNat (pvsOf ρ ps))]) Q) : (Fir.op (.rep n ps b) k).wp ρ Q := by
 rw [wp_op']
 exact ⟨_,by simp only [Nd.ev]; rw [if_pos h],hk⟩
theorem s_repI {ρ : List L} {Q : Lf × List L → Prop} {k : Fir} {n : At} {ps : List (Kd × At)} {m : Nat} (z : It) (hn : (n.ev ρ).asI = m) (hm : m ≤ 1000) (hps : pvsOf ρ ps = itR z)
  (hk : ∀ y : L,y.asR = (List.replicate m z).map itR → k.wp (ρ ++ [y]) Q) : (Fir.op (.rep n ps 32) k).wp ρ Q := by
 refine s_rep (by rw [hn]; omega) (hk _ ?_)
 rw [asR_r,hn,hps,List.map_replicate,Int.toNat_natCast]
theorem grow_P (n : Nat) (hn : n ≤ 1000) : ∃ x : L,F63 [.i n] = some [x] := by
 suffices h : ∃ o,Fo fir63 [.i (n : Int)] = some o ∧ ∃ x : L,o = [x] by
   obtain ⟨o,h1,x,rfl⟩ := h
   exact ⟨x,h1⟩
 refine outO_of_wp ?_
 unfold fir63
 repeat ((first | refine sN rfl ?_ | refine s_join ?_); (try dsimp only [At.ev,d1,d2,d3,d4,d5,d6,d7,d8,d9,e0]))
 have hn0 : ¬ (n : Int) < 0 := by omega
 refine s_else (decide_eq_false hn0) (s_leaf ?_)
 show Fir.wp (Fir.join _ _) [.i (n : Int)] _
 have w : IntKind.wrap .i64 ((n : Int) - 0) = (n : Int) := by rw [wrap64 (by omega) (by omega)]; omega
 refine s_join ?_
 repeat ((first | refine sN rfl ?_ | refine s_join ?_); (try dsimp only [At.ev,d1,d2,d3,d4,d5,d6,d7,d8,d9,e0]))
 rw [w]
 refine s_ite (fun hc => ?_) (fun hc => ?_)
 rotate_left
 · exact s_leaf (s_leaf ⟨_,rfl⟩)
 have hc : (0 : Int) < (n : Int) := of_decide_eq_true hc
 refine s_cut ⟨by show (0 : Int) ≤ 0; omega,by show (0 : Int) ≤ 0; omega,Nat.zero_le _,rfl⟩ ?_
 dsimp only [At.ev,d1,d2,d3,d4,d5,d6,d7,d8,d9,e0]
 refine s_repI ⟨0,0,0,0⟩ rfl hn rfl fun y hy => ?_
 dsimp only [At.ev,d1,d2,d3,d4,d5,d6,d7,d8,d9,e0]
 have hr : (List.replicate n (⟨0,0,0,0⟩ : It)).length = n := List.length_replicate
 have hyl : y.asR.length = n := by rw [hy,List.length_map,hr]
 refine s_row (r := itR (List.replicate n (⟨0,0,0,0⟩ : It))[0]) (by show (0 : Int) ≤ 0; omega) (it_at (i := 0) hy (by rw [hr]; omega)) rfl ?_
 dsimp only [At.ev,d1,d2,d3,d4,d5,d6,d7,d8,d9,e0]
 have a1 : ([] : List (List PV)).length + y.asR.length ≤ 9223372036854775807 := by rw [hyl]; simp; omega
 have a2 : (([] : List (List PV)).length + y.asR.length) * 32 ≤ 140737488355328 := by rw [hyl]; simp; omega
 have a4 : rectB 4 y.asR = true := by rw [hy]; exact rect_it _
 refine s_app ⟨a1,a2,rfl,a4⟩ ?_
 dsimp only [At.ev,d1,d2,d3,d4,d5,d6,d7,d8,d9,e0]
 repeat ((first | refine sN rfl ?_ | refine s_join ?_); (try dsimp only [At.ev,d1,d2,d3,d4,d5,d6,d7,d8,d9,e0]))
 refine s_cut ⟨by show (0 : Int) ≤ 0; omega,by show (0 : Int) ≤ 0; omega,Nat.zero_le _,head_of_rect a4⟩ ?_
 dsimp only [At.ev,d1,d2,d3,d4,d5,d6,d7,d8,d9,e0]
 exact s_leaf (s_leaf ⟨_,rfl⟩)
theorem grow2_P (n : Nat) (hn : n ≤ 1000) : F2001 [.i n] = some [] := by
 obtain ⟨x,hx⟩ := grow_P n hn
 have h : s63.F [.i (n : Int)] = some [x] := hx
 unfold F2001
 simp only [h]
 rfl
def stR (m : Mp) : List (List PV) := (List.range 8).map fun s => [.sl ((m.st s).map itR)]
theorem stR_at (m : Mp) {s : Nat} (hs : s < 8) : (stR m)[s]? = some [.sl ((m.st s).map itR)] := by
 unfold stR
 rw [List.getElem?_map,List.getElem?_range hs]; rfl
theorem concat_P {m : Mp} (hn : ∀ s,(m.st s).length ≤ 8) : F64 [.r (stR m)] = some [.r ((cat m).map itR)] := by
 refine eq_of_wp ?_
 unfold fir64
 have hl8 : (stR m).length = 8 := by simp [stR]
 repeat ((first | refine sN rfl ?_ | refine s_join ?_); (try dsimp only [At.ev,d1,d2,d3,d4,d5,d6,d7,d8,d9,e0]))
 rw [hl8]
 refine wp_loop (I := fun a => ∃ s : Nat,a = [.i (((List.range s).flatMap m.st).length : Nat),.i s] ∧ s ≤ 8) (mu := fun a => match a with | [_,.i i] => 8 - i.toNat | _ => 0) ⟨0,rfl,by omega⟩ ?_
 rintro a ⟨s,rfl,e1⟩
 have g2 := flat_len hn s
 have g3 := hn s
 dsimp only [At.ev,d1,d2,d3,d4,d5,d6,d7,d8,d9,e0]
 repeat ((first | refine sN rfl ?_ | refine s_join ?_); (try dsimp only [At.ev,d1,d2,d3,d4,d5,d6,d7,d8,d9,e0]))
 refine s_ite (fun hc => ?_) (fun hc => ?_)
 · have hc : (s : Int) < ((8 : Nat) : Int) := of_decide_eq_true hc
   have hs : s < 8 := by omega
   refine s_join ?_
   refine s_row (r := [.sl ((m.st s).map itR)]) (Int.natCast_nonneg s) (stR_at m hs) rfl ?_
   dsimp only [At.ev,d1,d2,d3,d4,d5,d6,d7,d8,d9,e0]
   repeat ((first | refine sN rfl ?_ | refine s_join ?_); (try dsimp only [At.ev,d1,d2,d3,d4,d5,d6,d7,d8,d9,e0]))
   have wl : IntKind.wrap .i64 ((((List.range s).flatMap m.st).length : Int) + (((m.st s).map itR).length : Int)) = ((((List.range (s + 1)).flatMap m.st).length : Nat) : Int) := by
     rw [List.length_map,wrap64 (by omega) (by omega),flat_snoc,List.length_append]; omega
   rw [wl]
   have hn0 : ¬ ((((List.range (s + 1)).flatMap m.st).length : Nat) : Int) < 0 := by omega
   refine s_else (decide_eq_false hn0) (s_leaf ?_)
   show Fir.wp (Fir.op _ _) [.r (stR m),.i ((8 : Nat) : Int),.i (((List.range s).flatMap m.st).length : Nat),.i s,.b (decide ((s : Int) < ((8 : Nat) : Int))),.i ((((List.range (s + 1)).flatMap m.st).length : Nat) : Int)] _
   repeat ((first | refine sN rfl ?_ | refine s_join ?_); (try dsimp only [At.ev,d1,d2,d3,d4,d5,d6,d7,d8,d9,e0]))
   refine s_leaf ⟨⟨s + 1,?_,by omega⟩,?_⟩
   · show [L.i ((((List.range (s + 1)).flatMap m.st).length : Nat) : Int),L.i (IntKind.wrap .i64 ((s : Int) + 1))] = _
     rw [wrap_up (by omega)]
   · show 8 - (IntKind.wrap .i64 ((s : Int) + 1)).toNat < 8 - s
     rw [wrap_up (by omega)]; omega
 · have hc : ¬ (s : Int) < ((8 : Nat) : Int) := of_decide_eq_false hc
   have hs : s = 8 := by omega
   subst hs
   refine s_leaf ?_
   show Fir.wp (Fir.op _ _) [.r (stR m),.i (((cat m).length : Nat) : Int)] _
   have g4 := cat_len hn
   refine s_call (grow2_P (cat m).length (by omega)) rfl rfl ?_
   dsimp only [At.ev,d1,d2,d3,d4,d5,d6,d7,d8,d9,e0]
   repeat ((first | refine sN rfl ?_ | refine s_join ?_); (try dsimp only [At.ev,d1,d2,d3,d4,d5,d6,d7,d8,d9,e0]))
   rw [hl8]
   refine wp_loop (I := fun a => ∃ s : Nat,a = [.i s,.r (((List.range s).flatMap m.st).map itR)] ∧ s ≤ 8) (mu := fun a => match a with | [.i i,_] => 8 - i.toNat | _ => 0) ⟨0,rfl,by omega⟩ ?_
   rintro a ⟨s,rfl,e1⟩
   have g2 := flat_len hn s
   have g3 := hn s
   dsimp only [At.ev,d1,d2,d3,d4,d5,d6,d7,d8,d9,e0]
   repeat ((first | refine sN rfl ?_ | refine s_join ?_); (try dsimp only [At.ev,d1,d2,d3,d4,d5,d6,d7,d8,d9,e0]))
   refine s_ite (fun hc => ?_) (fun hc => ?_)
   · have hc : (s : Int) < ((8 : Nat) : Int) := of_decide_eq_true hc
     have hs : s < 8 := by omega
     refine s_row (r := [.sl ((m.st s).map itR)]) (Int.natCast_nonneg s) (stR_at m hs) rfl ?_
     dsimp only [At.ev,d1,d2,d3,d4,d5,d6,d7,d8,d9,e0]
     repeat ((first | refine sN rfl ?_ | refine s_join ?_); (try dsimp only [At.ev,d1,d2,d3,d4,d5,d6,d7,d8,d9,e0]))
     have a1 : (((List.range s).flatMap m.st).map itR).length + ((m.st s).map itR).length ≤ 9223372036854775807 := by rw [List.length_map,List.length_map]; omega
     have a2 : ((((List.range s).flatMap m.st).map itR).length + ((m.st s).map itR).length) * 32 ≤ 140737488355328 := by rw [List.length_map,List.length_map]; omega
     refine s_app ⟨a1,a2,rect_it _,rect_it _⟩ ?_
     dsimp only [At.ev,d1,d2,d3,d4,d5,d6,d7,d8,d9,e0]
     repeat ((first | refine sN rfl ?_ | refine s_join ?_); (try dsimp only [At.ev,d1,d2,d3,d4,d5,d6,d7,d8,d9,e0]))
     refine s_leaf ⟨⟨s + 1,?_,by omega⟩,?_⟩
     · show [L.i (IntKind.wrap .i64 ((s : Int) + 1)),L.r (((List.range s).flatMap m.st).map itR ++ (m.st s).map itR)] = _
       rw [wrap_up (by omega),flat_snoc,List.map_append]
     · show 8 - (IntKind.wrap .i64 ((s : Int) + 1)).toNat < 8 - s
       rw [wrap_up (by omega)]; omega
   · have hc : ¬ (s : Int) < ((8 : Nat) : Int) := of_decide_eq_false hc
     have hs : s = 8 := by omega
     subst hs
     exact s_leaf (s_leaf rfl)
end
section
set_option maxHeartbeats 4000000
open Go.RowKit Pl AI
attribute [local irreducible] Fir.wp
theorem indexG_nil : F162 [.r []] = some [.i (-1)] := by
 refine eq_of_wp ?_
 unfold fir162
 repeat ((first | refine sN rfl ?_ | refine s_join ?_); (try dsimp only [At.ev,d1,d2,d3,d4,d5,d6,d7,d8,d9,e0]))
 refine wp_loop (I := fun a => a = [.i 0]) (mu := fun _ => 0) rfl ?_
 rintro a rfl
 dsimp only [At.ev,d1,d2,d3,d4,d5,d6,d7,d8,d9,e0]
 repeat ((first | refine sN rfl ?_ | refine s_join ?_); (try dsimp only [At.ev,d1,d2,d3,d4,d5,d6,d7,d8,d9,e0]))
 exact s_else rfl (s_leaf (s_leaf rfl))
theorem delete_nil : F163 [.r []] = some [] := by
 refine eq_of_wp ?_
 unfold fir163
 refine s_call indexG_nil rfl rfl ?_
 dsimp only [At.ev,d1,d2,d3,d4,d5,d6,d7,d8,d9,e0]
 repeat ((first | refine sN rfl ?_ | refine s_join ?_); (try dsimp only [At.ev,d1,d2,d3,d4,d5,d6,d7,d8,d9,e0]))
 exact s_if rfl (s_leaf rfl)
theorem bare1 {x : L} {l : List It} (hx : x.asR = l.map itR) : ([0].all fun i => (([x][i]?).getD (.b false)).asR.all (·.all PV.bare)) = true := by
 simp only [List.all_cons,List.all_nil,List.getElem?_cons_zero,Option.getD_some,hx,bare_it,Bool.and_self]
theorem merge_P (l : List It) (ha : Apart l) (hn : l.length < 20) : ∃ x : L,F166 [.r (l.map itR)] = some [x] ∧ x.asR = (srt l).map itR := by
 obtain ⟨x1,h1,hx1⟩ := sorted_P l ha hn
 have hsn := srt_length l
 obtain ⟨x2,h2,hx2⟩ := sorted_P (srt l) (asc_srt l).apart (by omega)
 rw [srt_asc (asc_srt l)] at hx2
 refine ⟨x2,eq_of_wp ?_,hx2⟩
 unfold fir166
 refine s_call sorted_nil rfl rfl ?_
 dsimp only [At.ev,d1,d2,d3,d4,d5,d6,d7,d8,d9,e0]
 refine s_call delete_nil rfl rfl ?_
 dsimp only [At.ev,d1,d2,d3,d4,d5,d6,d7,d8,d9,e0]
 refine s_call h1 rfl (bare1 hx1) ?_
 dsimp only [At.ev,d1,d2,d3,d4,d5,d6,d7,d8,d9,e0]
 have a1 : ([] : List (List PV)).length + x1.asR.length ≤ 9223372036854775807 := by rw [hx1,List.length_map]; simp; omega
 have a2 : (([] : List (List PV)).length + x1.asR.length) * 32 ≤ 140737488355328 := by rw [hx1,List.length_map]; simp; omega
 have a4 : rectB 4 x1.asR = true := by rw [hx1]; exact rect_it _
 refine s_app ⟨a1,a2,rfl,a4⟩ ?_
 have e : (L.r (([] : List (List PV)) ++ x1.asR)) = .r ((srt l).map itR) := by rw [hx1]; rfl
 show Fir.wp (Fir.op _ _) [.r (l.map itR),.r [],x1,.r (([] : List (List PV)) ++ x1.asR)] _
 rw [e]
 refine s_call h2 rfl (bare1 hx2) ?_
 dsimp only [At.ev,d1,d2,d3,d4,d5,d6,d7,d8,d9,e0]
 exact s_leaf rfl
theorem cat_small {m : Mp} {s0 s1 s2 s3 s4 s5 s6 s7 : L} (h : Str m s0 s1 s2 s3 s4 s5 s6 s7) (hv : MV m) : (cat m).length ≤ 8 := by
 have h1 := perm_srt (apart_cat hv.1)
 have h2 := asc_length (asc_srt (cat m)) 0 8 fun x hx => by
  obtain ⟨s,_,hs⟩ := mem_cat.1 (mem_srt hx)
  have := h.hk s x hs
  omega
 rw [h1.length_eq] at h2
 omega
theorem items_P {m : Mp} {s0 s1 s2 s3 s4 s5 s6 s7 l8 l9 : L} (h : Str m s0 s1 s2 s3 s4 s5 s6 s7) (h8 : l8.asI = m.live) (h9 : l9.asI = m.garb) (hv : MV m) :
  ∃ x : L,F168 [s0,s1,s2,s3,s4,s5,s6,s7,l8,l9] = some [x] ∧ x.asR = (items m).map itR := by
 have hc := cat_small h hv
 obtain ⟨x,h1,hx⟩ := merge_P (cat m) (apart_cat hv.1) (by omega)
 refine ⟨x,eq_of_wp ?_,hx⟩
 unfold fir168
 refine s_call (mapValid_P h h8 h9 (b := true) ⟨fun _ => hv,fun _ => rfl⟩) rfl rfl ?_
 dsimp only [At.ev,d1,d2,d3,d4,d5,d6,d7,d8,d9,e0]
 repeat ((first | refine sN rfl ?_ | refine s_join ?_); (try dsimp only [At.ev,d1,d2,d3,d4,d5,d6,d7,d8,d9,e0]))
 refine s_else rfl ?_
 have e : L.r [[PV.sl s0.asR],[.sl s1.asR],[.sl s2.asR],[.sl s3.asR],[.sl s4.asR],[.sl s5.asR],[.sl s6.asR],[.sl s7.asR]] = .r (stR m) := by
  rw [h.h0,h.h1,h.h2,h.h3,h.h4,h.h5,h.h6,h.h7]; rfl
 refine s_lit ?_
 show Fir.wp (Fir.op _ _) [s0,s1,s2,s3,s4,s5,s6,s7,l8,l9,.b true,.b (!true),.r [[PV.sl s0.asR],[.sl s1.asR],[.sl s2.asR],[.sl s3.asR],[.sl s4.asR],[.sl s5.asR],[.sl s6.asR],[.sl s7.asR]]] _
 rw [e]
 refine s_call (concat_P h.hn) rfl rfl ?_
 dsimp only [At.ev,d1,d2,d3,d4,d5,d6,d7,d8,d9,e0]
 refine s_call h1 rfl rfl ?_
 dsimp only [At.ev,d1,d2,d3,d4,d5,d6,d7,d8,d9,e0]
 exact s_leaf rfl
theorem len_P {m : Mp} {s0 s1 s2 s3 s4 s5 s6 s7 l8 l9 : L} (h : Str m s0 s1 s2 s3 s4 s5 s6 s7) (h8 : l8.asI = m.live) (h9 : l9.asI = m.garb) (hv : MV m) :
  F171 [s0,s1,s2,s3,s4,s5,s6,s7,l8,l9] = some [.i (items m).length] := by
 obtain ⟨x,h1,hx⟩ := items_P h h8 h9 hv
 refine eq_of_wp ?_
 unfold fir171
 refine s_call h1 rfl rfl ?_
 dsimp only [At.ev,d1,d2,d3,d4,d5,d6,d7,d8,d9,e0]
 repeat ((first | refine sN rfl ?_ | refine s_join ?_); (try dsimp only [At.ev,d1,d2,d3,d4,d5,d6,d7,d8,d9,e0]))
 refine s_leaf ?_
 show [L.i (x.asR.length : Int)] = _
 rw [hx,List.length_map]
theorem s_sidx {ρ : List L} {Q : Lf × List L → Prop} {k : Fir} {x i : At} {n : Nat} (hi : (i.ev ρ).asI = n) (hn : n < (x.ev ρ).asS.size) (hk : ∀ v : L,k.wp (ρ ++ [v]) Q) : (Fir.op (.sidx x i) k).wp ρ Q := by
 rw [wp_op']
 refine ⟨[.i (((x.ev ρ).asS[n]'hn).toNat : Nat)],?_,hk _⟩
 simp only [Nd.ev,hi]
 rw [if_pos (by omega),Int.toNat_natCast,getElem?_pos (x.ev ρ).asS n hn]
set_option maxRecDepth 100000
theorem len64_P (n : Nat) (hn : n < 256) : ∃ x : L,F82 [.i n] = some [x] := by
 suffices h : ∃ o,Fo fir82 [.i (n : Int)] = some o ∧ ∃ x : L,o = [x] by
  obtain ⟨o,h1,x,rfl⟩ := h
  exact ⟨x,h1⟩
 refine outO_of_wp ?_
 unfold fir82
 have c1 : ¬ (4294967296 : Int) ≤ (n : Int) := by omega
 have c2 : ¬ (65536 : Int) ≤ (n : Int) := by omega
 have c3 : ¬ (256 : Int) ≤ (n : Int) := by omega
 repeat ((first | refine sN rfl ?_ | refine s_join ?_); (try dsimp only [At.ev,d1,d2,d3,d4,d5,d6,d7,d8,d9,e0]))
 refine s_else (decide_eq_false c1) (s_leaf ?_)
 show Fir.wp (Fir.join _ _) [.i (n : Int),.i (n : Int),.i 0] _
 repeat ((first | refine sN rfl ?_ | refine s_join ?_); (try dsimp only [At.ev,d1,d2,d3,d4,d5,d6,d7,d8,d9,e0]))
 refine s_else (decide_eq_false c2) (s_leaf ?_)
 show Fir.wp (Fir.join _ _) [.i (n : Int),.i (n : Int),.i 0,.i (n : Int),.i 0] _
 repeat ((first | refine sN rfl ?_ | refine s_join ?_); (try dsimp only [At.ev,d1,d2,d3,d4,d5,d6,d7,d8,d9,e0]))
 refine s_else (decide_eq_false c3) (s_leaf ?_)
 show Fir.wp (Fir.op _ _) [.i (n : Int),.i (n : Int),.i 0,.i (n : Int),.i 0,.i (n : Int),.i 0] _
 repeat ((first | refine sN rfl ?_ | refine s_join ?_); (try dsimp only [At.ev,d1,d2,d3,d4,d5,d6,d7,d8,d9,e0]))
 have w : IntKind.wrap .u8 (n : Int) = (n : Int) := wrap_in .u8 (by simp [IntKind.min,IntKind.signed]) (by simp [IntKind.max,IntKind.signed,IntKind.bits]; omega)
 rw [w]
 refine s_sidx (n := n) rfl (by show n < 256; exact hn) fun v => ?_
 dsimp only [At.ev,d1,d2,d3,d4,d5,d6,d7,d8,d9,e0]
 repeat ((first | refine sN rfl ?_ | refine s_join ?_); (try dsimp only [At.ev,d1,d2,d3,d4,d5,d6,d7,d8,d9,e0]))
 exact s_leaf ⟨_,rfl⟩
theorem len89_P (n : Nat) (hn : n < 256) : ∃ x : L,F89 [.i n] = some [x] := by
 obtain ⟨x,hx⟩ := len64_P n hn
 refine ⟨x,eq_of_wp ?_⟩
 unfold fir89
 exact s_call hx rfl rfl (s_leaf rfl)
theorem pdq_P (l0 lb lc : L) (l : List It) (hr : l0.asR = l.map itR) (hn : l.length ≤ 12) (hb : lb.asI = l.length) : ∃ (x : L) (d : List It),F177 [l0,.i 0,lb,lc] = some [x] ∧ x.asR = d.map itR ∧ d.Perm l ∧ SortTo (·.off) d d.length := by
 obtain ⟨x,d,h1,h2⟩ := insOff l0 (.i 0) lb l hr (by omega) rfl hb
 refine ⟨x,d,eq_of_wp ?_,h2⟩
 unfold fir177
 have w : IntKind.wrap .i64 (lb.asI - 0) = lb.asI := by rw [wrap64 (by omega) (by omega)]; omega
 have c : lb.asI ≤ 12 := by omega
 refine wp_loop (I := fun a => a = [.i 0,lb,lc,.b true,.b true]) (mu := fun _ => 0) rfl ?_
 rintro a rfl
 dsimp only [At.ev,d1,d2,d3,d4,d5,d6,d7,d8,d9,e0]
 repeat ((first | refine sN rfl ?_ | refine s_join ?_); (try dsimp only [At.ev,d1,d2,d3,d4,d5,d6,d7,d8,d9,e0]))
 rw [w]
 refine s_if (decide_eq_true c) ?_
 refine s_call h1 rfl rfl ?_
 dsimp only [At.ev,d1,d2,d3,d4,d5,d6,d7,d8,d9,e0]
 exact s_leaf rfl
theorem sortF_P (l0 : L) (l : List It) (hr : l0.asR = l.map itR) (hn : l.length ≤ 12) : ∃ (x : L) (d : List It),F185 [l0] = some [x] ∧ x.asR = d.map itR ∧ d.Perm l ∧ SortTo (·.off) d d.length := by
 have hlen := it_len hr
 obtain ⟨y,hy⟩ := len89_P l.length (by omega)
 obtain ⟨x,d,h1,h2⟩ := pdq_P l0 (.i l.length) y l hr hn rfl
 refine ⟨x,d,eq_of_wp ?_,h2⟩
 unfold fir185
 have w : IntKind.wrap .u64 (l.length : Int) = (l.length : Int) := wrap_in .u64 (by simp [IntKind.min,IntKind.signed]) (by simp [IntKind.max,IntKind.signed,IntKind.bits]; omega)
 repeat ((first | refine sN rfl ?_ | refine s_join ?_); (try dsimp only [At.ev,d1,d2,d3,d4,d5,d6,d7,d8,d9,e0]))
 rw [hlen,w]
 refine s_call hy rfl rfl ?_
 dsimp only [At.ev,d1,d2,d3,d4,d5,d6,d7,d8,d9,e0]
 refine s_call h1 rfl rfl ?_
 dsimp only [At.ev,d1,d2,d3,d4,d5,d6,d7,d8,d9,e0]
 exact s_leaf rfl
theorem fits_P (l0 lz : L) (l : List It) (hr : l0.asR = l.map itR) (hn : l.length ≤ 12) (hok : ∀ x ∈ l,okIt x = true) (h16 : 16 ≤ lz.asI) (hv : l.Pairwise Clear ∧ ∀ x ∈ l,ends x ≤ lz.asI) : ∃ y : L,F186 [l0,lz] = some [.b true,y] := by
 obtain ⟨x,d,h1,hx,hp,hso⟩ := sortF_P l0 l hr hn
 obtain ⟨r,hf1,hf2⟩ := (fits_iff hok hp hso.off lz.asI h16).2 hv
 have hdl := hp.length_eq
 have hxl : x.asR.length = d.length := by rw [hx,List.length_map]
 refine ⟨x,eq_of_wp ?_⟩
 unfold fir186
 refine s_call h1 rfl rfl ?_
 dsimp only [At.ev,d1,d2,d3,d4,d5,d6,d7,d8,d9,e0]
 repeat ((first | refine sN rfl ?_ | refine s_join ?_); (try dsimp only [At.ev,d1,d2,d3,d4,d5,d6,d7,d8,d9,e0]))
 rw [hxl]
 refine wp_loop (I := fun a => ∃ (i : Nat) (e : Int),a = [.i e,.i i] ∧ i ≤ d.length ∧ 0 ≤ e ∧ e ≤ 2000000 ∧ fitEnd e (d.drop i) = some r) (mu := fun a => match a with | [_,.i i] => d.length - i.toNat | _ => 0) ⟨0,16,rfl,by omega,by omega,by omega,hf1⟩ ?_
 rintro a ⟨i,e,rfl,e1,e2,e3,e4⟩
 dsimp only [At.ev,d1,d2,d3,d4,d5,d6,d7,d8,d9,e0]
 repeat ((first | refine sN rfl ?_ | refine s_join ?_); (try dsimp only [At.ev,d1,d2,d3,d4,d5,d6,d7,d8,d9,e0]))
 refine s_ite (fun hc => ?_) (fun hc => ?_)
 rotate_left
 · have hc : ¬ (i : Int) < (d.length : Int) := of_decide_eq_false hc
   rw [List.drop_eq_nil_of_le (by omega)] at e4
   simp only [fitEnd,Option.some.injEq] at e4
   subst e4
   refine s_leaf ?_
   show Fir.wp (Fir.op _ _) [l0,lz,x,.i e] _
   repeat ((first | refine sN rfl ?_ | refine s_join ?_); (try dsimp only [At.ev,d1,d2,d3,d4,d5,d6,d7,d8,d9,e0]))
   refine s_leaf ?_
   show [L.b (decide (e ≤ lz.asI)),x] = _
   rw [decide_eq_true hf2]
 have hc : (i : Int) < (d.length : Int) := of_decide_eq_true hc
 have hi : i < d.length := by omega
 rw [List.drop_eq_getElem_cons hi] at e4
 simp only [fitEnd] at e4
 have h0 : (0 : Int) ≤ (i : Int) := Int.natCast_nonneg i
 have ri := it_at hx hi
 have hoki := hok _ (hp.mem_iff.1 (List.getElem_mem hi))
 simp only [okIt,Bool.and_eq_true,decide_eq_true_eq] at hoki
 have hsz := szR_le d[i].size
 by_cases hlt : d[i].off < e
 · rw [if_pos hlt] at e4; cases e4
 rw [if_neg hlt] at e4
 refine s_row (r := itR d[i]) h0 ri rfl ?_
 dsimp only [At.ev,d1,d2,d3,d4,d5,d6,d7,d8,d9,e0]
 refine s_rc (r := itR d[i]) ri rfl rfl ?_
 dsimp only [At.ev,d1,d2,d3,d4,d5,d6,d7,d8,d9,e0]
 refine s_rc (r := itR d[i]) ri rfl rfl ?_
 dsimp only [At.ev,d1,d2,d3,d4,d5,d6,d7,d8,d9,e0]
 refine s_rc (r := itR d[i]) ri rfl rfl ?_
 dsimp only [At.ev,d1,d2,d3,d4,d5,d6,d7,d8,d9,e0]
 refine s_rc (r := itR d[i]) ri rfl rfl ?_
 dsimp only [At.ev,d1,d2,d3,d4,d5,d6,d7,d8,d9,e0]
 repeat ((first | refine sN rfl ?_ | refine s_join ?_); (try dsimp only [At.ev,d1,d2,d3,d4,d5,d6,d7,d8,d9,e0]))
 refine s_else (decide_eq_false hlt) ?_
 refine s_call (size_P (.i d[i].size)) rfl rfl ?_
 dsimp only [At.ev,d1,d2,d3,d4,d5,d6,d7,d8,d9,e0]
 repeat ((first | refine sN rfl ?_ | refine s_join ?_); (try dsimp only [At.ev,d1,d2,d3,d4,d5,d6,d7,d8,d9,e0]))
 refine s_leaf ⟨⟨i + 1,ends d[i],?_,by omega,?_,?_,e4⟩,?_⟩
 · show [L.i (IntKind.wrap .i64 (d[i].off + szR d[i].size)),L.i (IntKind.wrap .i64 ((i : Int) + 1))] = _
   rw [wrap_up (by omega),wrap64 (by omega) (by omega)]; rfl
 · unfold ends; omega
 · unfold ends; omega
 · show d.length - (IntKind.wrap .i64 ((i : Int) + 1)).toNat < d.length - i
   rw [wrap_up (by omega)]; omega
end
end Go.Proofs.YtndegphojkiblaaGreatDoor
