/- Towards the last file's theorem: part 36. -/
import Derived.Test.YtndegphojkiblaaGreatDoorG35
set_option linter.unusedSimpArgs false
set_option linter.unusedVariables false
set_option maxHeartbeats 4000000
namespace Go.Proofs.YtndegphojkiblaaGreatDoor
section
set_option maxHeartbeats 4000000
open Go.RowKit Pl AI
attribute [local irreducible] Fir.wp
theorem genValid_P {g : Gn} {l0 l1 l2 l3 s0 s1 s2 s3 s4 s5 s6 s7 l8 l9 : L} (h : Str g.map s0 s1 s2 s3 s4 s5 s6 s7) (h8 : l8.asI = g.map.live) (h9 : l9.asI = g.map.garb)
  (h0 : l0.asI = g.num) (h1 : l1.asI = g.rev) (h2 : l2.asI = g.mode) (h3 : l3.asI = g.size) (hv : GV g) :
  F187 [l0,l1,l2,l3,s0,s1,s2,s3,s4,s5,s6,s7,l8,l9] = some [.b true] := by
 obtain ⟨⟨v1,v2,v3,v4,v5,v6⟩,⟨v7,v8,v9⟩,hm,he,hsum⟩ := hv
 have n1 : ¬ l0.asI < 1 := by omega
 have n2 : ¬ 8 < l0.asI := by omega
 have n3 : ¬ l1.asI < 0 := by omega
 have n4 : ¬ 4294967295 < l1.asI := by omega
 have n5 : ¬ l2.asI < 1 := by omega
 have n6 : ¬ 3 < l2.asI := by omega
 have n7 : ¬ l3.asI < 16 := by omega
 have n8 : ¬ 1048576 < l3.asI := by omega
 have hm8 : l3.asI.tmod 8 = l3.asI % 8 := Int.tmod_eq_emod_of_nonneg (by omega)
 have n9 : ¬ l3.asI.tmod 8 ≠ 0 := by rw [hm8]; omega
 have hcs := cat_small h hm
 have hil : (items g.map).length ≤ 8 := Nat.le_trans (srt_length _) hcs
 have ho := ok_items hm.1
 obtain ⟨x,hx1,hx2⟩ := items_P h h8 h9 hm
 obtain ⟨y,hy⟩ := fits_P x l3 (items g.map) hx2 (by omega) ho (by omega) (by rw [h3]; exact he)
 have g1 := sumSz_le (cat g.map)
 have g3 := hm.2.1
 have g4 := hm.2.2
 refine eq_of_wp ?_
 unfold fir187
 repeat ((first | refine sN rfl ?_ | refine s_join ?_); (try dsimp only [At.ev,d1,d2,d3,d4,d5,d6,d7,d8,d9,e0]))
 refine s_else (decide_eq_false (n1)) ?_
 repeat ((first | refine sN rfl ?_ | refine s_join ?_); (try dsimp only [At.ev,d1,d2,d3,d4,d5,d6,d7,d8,d9,e0]))
 refine s_else (decide_eq_false (n2)) ?_
 repeat ((first | refine sN rfl ?_ | refine s_join ?_); (try dsimp only [At.ev,d1,d2,d3,d4,d5,d6,d7,d8,d9,e0]))
 refine s_else (decide_eq_false (n3)) ?_
 repeat ((first | refine sN rfl ?_ | refine s_join ?_); (try dsimp only [At.ev,d1,d2,d3,d4,d5,d6,d7,d8,d9,e0]))
 refine s_else (decide_eq_false (n4)) ?_
 repeat ((first | refine sN rfl ?_ | refine s_join ?_); (try dsimp only [At.ev,d1,d2,d3,d4,d5,d6,d7,d8,d9,e0]))
 refine s_else (decide_eq_false (n5)) ?_
 repeat ((first | refine sN rfl ?_ | refine s_join ?_); (try dsimp only [At.ev,d1,d2,d3,d4,d5,d6,d7,d8,d9,e0]))
 refine s_leaf (s_else (decide_eq_false n6) ?_)
 show Fir.wp (Fir.join _ _) [l0,l1,l2,l3,s0,s1,s2,s3,s4,s5,s6,s7,l8,l9,.b (decide (3 < l2.asI))] _
 repeat ((first | refine sN rfl ?_ | refine s_join ?_); (try dsimp only [At.ev,d1,d2,d3,d4,d5,d6,d7,d8,d9,e0]))
 refine s_else (decide_eq_false (n7)) ?_
 repeat ((first | refine sN rfl ?_ | refine s_join ?_); (try dsimp only [At.ev,d1,d2,d3,d4,d5,d6,d7,d8,d9,e0]))
 refine s_else (decide_eq_false (n8)) ?_
 repeat ((first | refine sN rfl ?_ | refine s_join ?_); (try dsimp only [At.ev,d1,d2,d3,d4,d5,d6,d7,d8,d9,e0]))
 refine s_else (decide_eq_false n9) ?_
 refine s_call (mapValid_P h h8 h9 (b := true) ⟨fun _ => hm,fun _ => rfl⟩) rfl rfl ?_
 dsimp only [At.ev,d1,d2,d3,d4,d5,d6,d7,d8,d9,e0]
 repeat ((first | refine sN rfl ?_ | refine s_join ?_); (try dsimp only [At.ev,d1,d2,d3,d4,d5,d6,d7,d8,d9,e0]))
 refine s_leaf (s_else rfl ?_)
 show Fir.wp (Fir.join _ _) [l0,l1,l2,l3,s0,s1,s2,s3,s4,s5,s6,s7,l8,l9,.b (decide (3 < l2.asI)),.b (!true)] _
 refine s_join ?_
 refine s_call hx1 rfl rfl ?_
 dsimp only [At.ev,d1,d2,d3,d4,d5,d6,d7,d8,d9,e0]
 refine s_call hy rfl rfl ?_
 dsimp only [At.ev,d1,d2,d3,d4,d5,d6,d7,d8,d9,e0]
 refine s_if rfl ?_
 repeat ((first | refine sN rfl ?_ | refine s_join ?_); (try dsimp only [At.ev,d1,d2,d3,d4,d5,d6,d7,d8,d9,e0]))
 refine s_leaf (s_leaf ?_)
 show [L.b (decide (l3.asI = IntKind.wrap .i64 (IntKind.wrap .i64 (16 + l8.asI) + l9.asI)))] = _
 rw [wrap64 (n := 16 + l8.asI) (by omega) (by omega),wrap64 (by omega) (by omega),decide_eq_true (by omega)]
theorem slotValid_P {l0 l1 l2 l3 : L} {gens : List Gn} (hr : l3.asR = gens.map gnR) (hw : ∀ g ∈ gens,WG g) (hv : SlotV l0.asI l1.asI gens) : F190 [l0,l1,l2,l3] = some [.b true] := by
 have hlen : l3.asR.length = gens.length := by rw [hr,List.length_map]
 obtain ⟨⟨v1,v2⟩,⟨v3,v4⟩,⟨v5,v6⟩,hall,hlast⟩ := hv
 have n1 : ¬ l0.asI < 0 := by omega
 have n2 : ¬ 4 ≤ l0.asI := by omega
 have n3 : ¬ l1.asI < 4136 := by omega
 have n4 : ¬ 262144 < l1.asI := by omega
 have n5 : ¬ (l3.asR.length : Int) < 1 := by omega
 have n6 : ¬ 8 < (l3.asR.length : Int) := by omega
 have w2 : IntKind.wrap .i64 (2 * l1.asI) = 2 * l1.asI := wrap64 (by omega) (by omega)
 have wn : IntKind.wrap .i64 ((l3.asR.length : Int) - 1) = ((gens.length - 1 : Nat) : Int) := by rw [wrap64 (by omega) (by omega)]; omega
 have z1 : szR 4096 = 4120 := rfl
 have z2 : IntKind.wrap .i64 (16 + 4120) = 4136 := by decide
 have z3 : szR 0 = 24 := rfl
 refine eq_of_wp ?_
 unfold fir190
 repeat ((first | refine sN rfl ?_ | refine s_join ?_); (try dsimp only [At.ev,d1,d2,d3,d4,d5,d6,d7,d8,d9,e0]))
 refine s_else (decide_eq_false (n1)) ?_
 repeat ((first | refine sN rfl ?_ | refine s_join ?_); (try dsimp only [At.ev,d1,d2,d3,d4,d5,d6,d7,d8,d9,e0]))
 refine s_else (decide_eq_false n2) ?_
 refine s_call (size_P (.i 4096)) rfl rfl ?_
 dsimp only [At.ev,d1,d2,d3,d4,d5,d6,d7,d8,d9,e0]
 rw [z1]
 repeat ((first | refine sN rfl ?_ | refine s_join ?_); (try dsimp only [At.ev,d1,d2,d3,d4,d5,d6,d7,d8,d9,e0]))
 rw [z2]
 refine s_else (decide_eq_false (n3)) ?_
 repeat ((first | refine sN rfl ?_ | refine s_join ?_); (try dsimp only [At.ev,d1,d2,d3,d4,d5,d6,d7,d8,d9,e0]))
 refine s_leaf (s_else (decide_eq_false n4) ?_)
 show Fir.wp (Fir.join _ _) [l0,l1,l2,l3,.b (decide (262144 < l1.asI))] _
 repeat ((first | refine sN rfl ?_ | refine s_join ?_); (try dsimp only [At.ev,d1,d2,d3,d4,d5,d6,d7,d8,d9,e0]))
 refine s_else (decide_eq_false (n5)) ?_
 repeat ((first | refine sN rfl ?_ | refine s_join ?_); (try dsimp only [At.ev,d1,d2,d3,d4,d5,d6,d7,d8,d9,e0]))
 refine s_leaf (s_else (decide_eq_false n6) ?_)
 show Fir.wp (Fir.join _ _) [l0,l1,l2,l3,.b (decide (262144 < l1.asI)),.b (decide (8 < (l3.asR.length : Int)))] _
 repeat ((first | refine sN rfl ?_ | refine s_join ?_); (try dsimp only [At.ev,d1,d2,d3,d4,d5,d6,d7,d8,d9,e0]))
 rw [hlen]
 refine wp_loop (I := fun a => ∃ i : Nat,a = [.i i] ∧ i ≤ gens.length) (mu := fun a => match a with | [.i i] => gens.length - i.toNat | _ => 0) ⟨0,rfl,by omega⟩ ?_
 rintro a ⟨i,rfl,e1⟩
 dsimp only [At.ev,d1,d2,d3,d4,d5,d6,d7,d8,d9,e0]
 repeat ((first | refine sN rfl ?_ | refine s_join ?_); (try dsimp only [At.ev,d1,d2,d3,d4,d5,d6,d7,d8,d9,e0]))
 refine s_ite (fun hc => ?_) (fun hc => ?_)
 rotate_left
 · refine s_leaf ?_
   show Fir.wp (Fir.op _ _) [l0,l1,l2,l3,.b (decide (262144 < l1.asI)),.b (decide (8 < (gens.length : Int)))] _
   repeat ((first | refine sN rfl ?_ | refine s_join ?_); (try dsimp only [At.ev,d1,d2,d3,d4,d5,d6,d7,d8,d9,e0]))
   rw [wn]
   have hl1 : gens.length - 1 < gens.length := by omega
   have hg := hw _ (List.getElem_mem hl1)
   obtain ⟨q1,q2,q3,q4⟩ := hall _ hl1 hl1
   refine s_row (r := gnR gens[gens.length - 1]) (Int.natCast_nonneg _) (gn_at hr hl1) rfl ?_
   dsimp only [At.ev,d1,d2,d3,d4,d5,d6,d7,d8,d9,e0]
   repeat ((first | refine sN rfl ?_ | refine s_join ?_); (try dsimp only [At.ev,d1,d2,d3,d4,d5,d6,d7,d8,d9,e0]))
   refine s_call (len_P hg.str rfl rfl q1.2.2.1) rfl rfl ?_
   dsimp only [At.ev,d1,d2,d3,d4,d5,d6,d7,d8,d9,e0]
   refine s_call (size_P (.i 0)) rfl rfl ?_
   dsimp only [At.ev,d1,d2,d3,d4,d5,d6,d7,d8,d9,e0]
   rw [z3]
   repeat ((first | refine sN rfl ?_ | refine s_join ?_); (try dsimp only [At.ev,d1,d2,d3,d4,d5,d6,d7,d8,d9,e0]))
   have hil := items_len hg.hn
   have hsz := q1.2.1
   have hl2 := hlast hl1
   refine s_leaf ?_
   show [L.b (decide (IntKind.wrap .i64 (gens[gens.length - 1].size + IntKind.wrap .i64 (((items gens[gens.length - 1].map).length : Int) * 24)) ≤ IntKind.wrap .i64 (2 * l1.asI)))] = _
   rw [w2,wrap64 (n := ((items gens[gens.length - 1].map).length : Int) * 24) (by omega) (by omega),wrap64 (by omega) (by omega),decide_eq_true (by omega)]
 have hc : (i : Int) < (gens.length : Int) := of_decide_eq_true hc
 have hi : i < gens.length := by omega
 have h0 : (0 : Int) ≤ (i : Int) := Int.natCast_nonneg i
 have hg := hw _ (List.getElem_mem hi)
 obtain ⟨q1,q2,q3,q4⟩ := hall i hi hi
 refine s_row (r := gnR gens[i]) h0 (gn_at hr hi) rfl ?_
 dsimp only [At.ev,d1,d2,d3,d4,d5,d6,d7,d8,d9,e0]
 repeat ((first | refine sN rfl ?_ | refine s_join ?_); (try dsimp only [At.ev,d1,d2,d3,d4,d5,d6,d7,d8,d9,e0]))
 rw [wn]
 have sz := q1.2.1
 have n7 : ¬ 2 * l1.asI < gens[i].size := by omega
 have hm : (!(decide (gens[i].mode = 1) == decide ((i : Int) = ((gens.length - 1 : Nat) : Int)))) = false := by
   by_cases hm : gens[i].mode = 1
   · have := q2.1 hm
     rw [decide_eq_true hm,decide_eq_true (by omega)]; rfl
   · have : ¬ (i : Int) = ((gens.length - 1 : Nat) : Int) := fun he => hm (q2.2 (by omega))
     rw [decide_eq_false hm,decide_eq_false this]; rfl
 have step : (∃ i_1 : Nat,[L.i (IntKind.wrap .i64 ((i : Int) + 1))] = [L.i i_1] ∧ i_1 ≤ gens.length) ∧ gens.length - (IntKind.wrap .i64 ((i : Int) + 1)).toNat < gens.length - i := by
   rw [wrap_up (by omega)]
   exact ⟨⟨i + 1,rfl,by omega⟩,by omega⟩
 refine s_call (genValid_P hg.str rfl rfl rfl rfl rfl rfl q1) rfl rfl ?_
 dsimp only [At.ev,d1,d2,d3,d4,d5,d6,d7,d8,d9,e0]
 repeat ((first | refine sN rfl ?_ | refine s_join ?_); (try dsimp only [At.ev,d1,d2,d3,d4,d5,d6,d7,d8,d9,e0]))
 refine s_else rfl ?_
 repeat ((first | refine sN rfl ?_ | refine s_join ?_); (try dsimp only [At.ev,d1,d2,d3,d4,d5,d6,d7,d8,d9,e0]))
 refine s_ite (fun hc => ?_) (fun hc => ?_)
 · have hp0 : (0 : Int) < i := of_decide_eq_true hc
   clear hc
   repeat ((first | refine sN rfl ?_ | refine s_join ?_); (try dsimp only [At.ev,d1,d2,d3,d4,d5,d6,d7,d8,d9,e0]))
   have w1 : IntKind.wrap .i64 ((i : Int) - 1) = ((i - 1 : Nat) : Int) := by rw [wrap64 (by omega) (by omega)]; omega
   rw [w1]
   have hi1 : i - 1 < gens.length := by omega
   have hpn := q3 (by omega)
   refine s_row (r := gnR gens[i - 1]) (Int.natCast_nonneg _) (gn_at hr hi1) rfl ?_
   dsimp only [At.ev,d1,d2,d3,d4,d5,d6,d7,d8,d9,e0]
   repeat ((first | refine sN rfl ?_ | refine s_join ?_); (try dsimp only [At.ev,d1,d2,d3,d4,d5,d6,d7,d8,d9,e0]))
   have n8 : ¬ gens[i].num ≤ gens[i - 1].num := by omega
   refine s_else (decide_eq_false n8) ?_
   repeat ((first | refine sN rfl ?_ | refine s_join ?_); (try dsimp only [At.ev,d1,d2,d3,d4,d5,d6,d7,d8,d9,e0]))
   refine s_else hm ?_
   repeat ((first | refine sN rfl ?_ | refine s_join ?_); (try dsimp only [At.ev,d1,d2,d3,d4,d5,d6,d7,d8,d9,e0]))
   rw [w2]
   refine s_leaf (s_else (decide_eq_false n7) ?_)
   exact s_bi rfl (s_leaf step)
 · clear hc
   repeat ((first | refine sN rfl ?_ | refine s_join ?_); (try dsimp only [At.ev,d1,d2,d3,d4,d5,d6,d7,d8,d9,e0]))
   refine s_else hm ?_
   repeat ((first | refine sN rfl ?_ | refine s_join ?_); (try dsimp only [At.ev,d1,d2,d3,d4,d5,d6,d7,d8,d9,e0]))
   rw [w2]
   refine s_leaf (s_else (decide_eq_false n7) ?_)
   exact s_bi rfl (s_leaf step)
end
section
set_option maxHeartbeats 4000000
open Go.RowKit Pl AI
attribute [local irreducible] Fir.wp
theorem less_P (l1 lk : L) (l : List It) (hr : l1.asR = l.map itR) {k : Nat} (hk : k < l.length) : F83 [.i k,l1,lk] = some [.b (decide (lk.asI ≤ l[k].key))] := by
 refine eq_of_wp ?_
 unfold fir83
 refine s_row (r := itR l[k]) (Int.natCast_nonneg k) (it_at hr hk) rfl ?_
 dsimp only [At.ev,d1,d2,d3,d4,d5,d6,d7,d8,d9,e0]
 repeat ((first | refine sN rfl ?_ | refine s_join ?_); (try dsimp only [At.ev,d1,d2,d3,d4,d5,d6,d7,d8,d9,e0]))
 exact s_leaf rfl
theorem search_P (l1 lk : L) (l : List It) (hr : l1.asR = l.map itR) (hn : l.length ≤ 1000) (ha : asc l) : ∃ i : Nat,F88 [.i l.length,l1,lk] = some [.i i] ∧ i ≤ l.length ∧ (∀ (j : Nat) (hj : j < l.length),j < i → l[j].key < lk.asI) ∧ ∀ (j : Nat) (hj : j < l.length),i ≤ j → lk.asI ≤ l[j].key := by
 suffices h : ∃ o,Fo fir88 [.i l.length,l1,lk] = some o ∧ ∃ i : Nat,o = [.i i] ∧ i ≤ l.length ∧ (∀ (j : Nat) (hj : j < l.length),j < i → l[j].key < lk.asI) ∧ ∀ (j : Nat) (hj : j < l.length),i ≤ j → lk.asI ≤ l[j].key by
   obtain ⟨o,h1,i,rfl,h2⟩ := h
   exact ⟨i,h1,h2⟩
 have mono : ∀ (p q : Nat) (hp : p < l.length) (hq : q < l.length),p ≤ q → l[p].key ≤ l[q].key := fun p q hp hq hpq => by
   rcases Nat.eq_or_lt_of_le hpq with h | h
   · subst h; omega
   · have := List.pairwise_iff_getElem.1 ha p q hp hq h
     omega
 refine outO_of_wp ?_
 unfold fir88
 refine s_join ?_
 refine wp_loop (I := fun a => ∃ lo hi : Nat,a = [.i lo,.i hi] ∧ lo ≤ hi ∧ hi ≤ l.length ∧ (∀ (j : Nat) (hj : j < l.length),j < lo → l[j].key < lk.asI) ∧ ∀ (j : Nat) (hj : j < l.length),hi ≤ j → lk.asI ≤ l[j].key) (mu := fun a => match a with | [.i lo,.i hi] => (hi - lo).toNat | _ => 0) ⟨0,l.length,rfl,by omega,by omega,fun j hj h => by omega,fun j hj h => by omega⟩ ?_
 rintro a ⟨lo,hi,rfl,e1,e2,e3,e4⟩
 repeat ((first | refine sN rfl ?_ | refine s_join ?_); (try dsimp only [At.ev,d1,d2,d3,d4,d5,d6,d7,d8,d9,e0]))
 refine s_ite (fun hc => ?_) (fun hc => ?_)
 rotate_left
 · have hc : ¬ (lo : Int) < (hi : Int) := of_decide_eq_false hc
   exact s_leaf (s_leaf ⟨lo,rfl,by omega,e3,fun j hj h => e4 j hj (by omega)⟩)
 have hc : (lo : Int) < (hi : Int) := of_decide_eq_true hc
 have w1 : IntKind.wrap .i64 ((lo : Int) + (hi : Int)) = ((lo + hi : Nat) : Int) := by rw [wrap64 (by omega) (by omega)]; omega
 have w2 : IntKind.wrap .u64 ((lo + hi : Nat) : Int) = ((lo + hi : Nat) : Int) := wrap_in .u64 (by simp [IntKind.min,IntKind.signed]; omega) (by simp [IntKind.max,IntKind.signed,IntKind.bits]; omega)
 refine s_bi rfl ?_
 dsimp only [At.ev,d1,d2,d3,d4,d5,d6,d7,d8,d9,e0]
 rw [w1]
 refine s_conv ?_
 dsimp only [At.ev,d1,d2,d3,d4,d5,d6,d7,d8,d9,e0]
 rw [w2]
 refine s_bi (l := .i (((lo + hi) / 2 : Nat) : Int)) ?_ ?_
 · show (if (0 : Int) ≤ 1 then some (L.i (Int.fdiv ((lo + hi : Nat) : Int) (2 ^ (min (1 : Int).toNat IntKind.u64.bits)))) else none) = _
   rw [if_pos (by decide)]
   have : (2 : Int) ^ (min (1 : Int).toNat IntKind.u64.bits) = 2 := rfl
   rw [this,Int.fdiv_eq_ediv_of_nonneg _ (by omega)]
   congr 2
 dsimp only [At.ev,d1,d2,d3,d4,d5,d6,d7,d8,d9,e0]
 have w3 : IntKind.wrap .i64 (((lo + hi) / 2 : Nat) : Int) = (((lo + hi) / 2 : Nat) : Int) := wrap64 (by omega) (by omega)
 refine s_conv ?_
 dsimp only [At.ev,d1,d2,d3,d4,d5,d6,d7,d8,d9,e0]
 rw [w3]
 generalize hm : (lo + hi) / 2 = m
 have hm1 : lo ≤ m ∧ m < hi := by omega
 have hml : m < l.length := by omega
 refine s_call (less_P l1 lk l hr hml) rfl rfl ?_
 dsimp only [At.ev,d1,d2,d3,d4,d5,d6,d7,d8,d9,e0]
 repeat ((first | refine sN rfl ?_ | refine s_join ?_); (try dsimp only [At.ev,d1,d2,d3,d4,d5,d6,d7,d8,d9,e0]))
 refine s_ite (fun hk => ?_) (fun hk => ?_)
 · have hk : (!decide (lk.asI ≤ l[m].key)) = true := hk
   have hk : ¬ lk.asI ≤ l[m].key := by simpa using hk
   repeat ((first | refine sN rfl ?_ | refine s_join ?_); (try dsimp only [At.ev,d1,d2,d3,d4,d5,d6,d7,d8,d9,e0]))
   refine s_leaf ⟨⟨m + 1,hi,?_,by omega,e2,fun j hj h => ?_,e4⟩,?_⟩
   · show [L.i (IntKind.wrap .i64 ((m : Int) + 1)),L.i (hi : Int)] = _
     rw [wrap_up (by omega)]
   · have := mono j m hj hml (by omega); omega
   · show ((hi : Int) - IntKind.wrap .i64 ((m : Int) + 1)).toNat < ((hi : Int) - (lo : Int)).toNat
     rw [wrap_up (by omega)]; omega
 · have hk : (!decide (lk.asI ≤ l[m].key)) = false := hk
   have hk : lk.asI ≤ l[m].key := by simpa using hk
   refine s_leaf ⟨⟨lo,m,rfl,by omega,by omega,e3,fun j hj h => ?_⟩,?_⟩
   · have := mono m j hml hj h; omega
   · show ((m : Int) - (lo : Int)).toNat < ((hi : Int) - (lo : Int)).toNat
     omega
theorem searchF_P (l1 lk : L) (l : List It) (hr : l1.asR = l.map itR) (hn : l.length ≤ 1000) (ha : asc l) : ∃ (i : Nat) (b : Bool),F90 [l1,lk] = some [.i i,.b b] ∧ (b = true → ∃ h : i < l.length,l[i].key = lk.asI) ∧ (b = false → ∀ x ∈ l,x.key ≠ lk.asI) := by
 obtain ⟨i,h1,h2,h3,h4⟩ := search_P l1 lk l hr hn ha
 have hlen := it_len hr
 suffices h : ∃ o,Fo fir90 [l1,lk] = some o ∧ ∃ (i : Nat) (b : Bool),o = [.i i,.b b] ∧ (b = true → ∃ h : i < l.length,l[i].key = lk.asI) ∧ (b = false → ∀ x ∈ l,x.key ≠ lk.asI) by
   obtain ⟨o,h1,i,b,rfl,h2⟩ := h
   exact ⟨i,b,h1,h2⟩
 refine outO_of_wp ?_
 unfold fir90
 repeat ((first | refine sN rfl ?_ | refine s_join ?_); (try dsimp only [At.ev,d1,d2,d3,d4,d5,d6,d7,d8,d9,e0]))
 rw [hlen]
 refine s_call h1 rfl rfl ?_
 dsimp only [At.ev,d1,d2,d3,d4,d5,d6,d7,d8,d9,e0]
 repeat ((first | refine sN rfl ?_ | refine s_join ?_); (try dsimp only [At.ev,d1,d2,d3,d4,d5,d6,d7,d8,d9,e0]))
 rw [hlen]
 refine s_ite (fun hc => ?_) (fun hc => ?_)
 · have hc : (i : Int) < (l.length : Int) := of_decide_eq_true hc
   have hi : i < l.length := by omega
   refine s_row (r := itR l[i]) (Int.natCast_nonneg i) (it_at hr hi) rfl ?_
   dsimp only [At.ev,d1,d2,d3,d4,d5,d6,d7,d8,d9,e0]
   repeat ((first | refine sN rfl ?_ | refine s_join ?_); (try dsimp only [At.ev,d1,d2,d3,d4,d5,d6,d7,d8,d9,e0]))
   refine s_leaf (s_leaf ⟨i,decide (l[i].key = lk.asI),rfl,fun h => ⟨hi,of_decide_eq_true h⟩,fun h x hx => ?_⟩)
   have hk := of_decide_eq_false h
   obtain ⟨j,hj,rfl⟩ := List.getElem_of_mem hx
   intro e
   by_cases hji : j < i
   · have := h3 j hj hji; omega
   · have h5 := h4 i hi (Nat.le_refl i)
     rcases Nat.eq_or_lt_of_le (Nat.le_of_not_lt hji) with h6 | h6
     · subst h6; exact hk e
     · have := List.pairwise_iff_getElem.1 ha i j hi hj h6
       omega
 · have hc : ¬ (i : Int) < (l.length : Int) := of_decide_eq_false hc
   refine s_leaf (s_leaf ⟨i,false,rfl,fun h => (by cases h),fun _ x hx => ?_⟩)
   obtain ⟨j,hj,rfl⟩ := List.getElem_of_mem hx
   have := h3 j hj (by omega)
   omega
end
section
set_option maxHeartbeats 4000000
open Go.RowKit Pl AI
attribute [local irreducible] Fir.wp
theorem sorted_same (l : List It) (ha : asc l) (hn : l.length ≤ 1000) : F123 [.r (l.map itR)] = some [.r (l.map itR)] := by
 refine eq_of_wp ?_
 unfold fir123
 refine s_call (clone_P l hn) rfl rfl ?_
 dsimp only [At.ev,d1,d2,d3,d4,d5,d6,d7,d8,d9,e0]
 refine s_call (asc_Q (.r (l.map itR)) l rfl (by omega) (b := true) ⟨fun _ => ha,fun _ => rfl⟩) rfl rfl ?_
 dsimp only [At.ev,d1,d2,d3,d4,d5,d6,d7,d8,d9,e0]
 refine s_if rfl (s_leaf ?_)
 rfl
theorem asc_apart {l : List It} (h : asc l) : Apart l := h.imp fun h => by omega
theorem find_P (l : List It) (hn : l.length ≤ 1000) (ha : asc l) (lk : L) : F124 [.r (l.map itR),lk] = some (fndL l lk.asI) := by
 obtain ⟨i,b,h1,h2,h3⟩ := searchF_P (.r (l.map itR)) lk l rfl hn ha
 refine eq_of_wp ?_
 unfold fir124
 refine s_call (sorted_same l ha hn) rfl rfl ?_
 dsimp only [At.ev,d1,d2,d3,d4,d5,d6,d7,d8,d9,e0]
 refine s_call h1 rfl rfl ?_
 dsimp only [At.ev,d1,d2,d3,d4,d5,d6,d7,d8,d9,e0]
 repeat ((first | refine sN rfl ?_ | refine s_join ?_); (try dsimp only [At.ev,d1,d2,d3,d4,d5,d6,d7,d8,d9,e0]))
 cases b with
 | false =>
  refine s_if rfl (s_leaf ?_)
  show [L.b false,L.i 0,L.i 0,L.i 0,L.i 0] = _
  unfold fndL
  rw [findL_none (h3 rfl)]
 | true =>
  obtain ⟨hi,hk⟩ := h2 rfl
  have r := it_at (l0 := .r (l.map itR)) rfl hi
  refine s_else rfl ?_
  refine s_row (r := itR l[i]) (Int.natCast_nonneg i) r rfl ?_
  dsimp only [At.ev,d1,d2,d3,d4,d5,d6,d7,d8,d9,e0]
  refine s_rc (r := itR l[i]) r rfl rfl ?_
  dsimp only [At.ev,d1,d2,d3,d4,d5,d6,d7,d8,d9,e0]
  refine s_rc (r := itR l[i]) r rfl rfl ?_
  dsimp only [At.ev,d1,d2,d3,d4,d5,d6,d7,d8,d9,e0]
  refine s_rc (r := itR l[i]) r rfl rfl ?_
  dsimp only [At.ev,d1,d2,d3,d4,d5,d6,d7,d8,d9,e0]
  refine s_rc (r := itR l[i]) r rfl rfl ?_
  dsimp only [At.ev,d1,d2,d3,d4,d5,d6,d7,d8,d9,e0]
  refine s_leaf ?_
  show [L.b true,L.i l[i].key,L.i l[i].cookie,L.i l[i].off,L.i l[i].size] = _
  unfold fndL
  rw [← hk,findL_some (asc_apart ha) (List.getElem_mem hi)]
theorem s_selR {m : Mp} {s : Nat} (hs : s < 8) {ρ ρ' : List L} {Q : Lf × List L → Prop} {k : Fir} {i : At} (hi : (i.ev ρ).asI.toNat = s) (hρ : ρ = .r ((m.st 0).map itR) :: .r ((m.st 1).map itR) :: .r ((m.st 2).map itR) :: .r ((m.st 3).map itR) :: .r ((m.st 4).map itR) :: .r ((m.st 5).map itR) :: .r ((m.st 6).map itR) :: .r ((m.st 7).map itR) :: ρ')
  (hk : k.wp (ρ ++ [.r ((m.st s).map itR)]) Q) : (Fir.op (.sel [(At.v 0),(At.v 1),(At.v 2),(At.v 3),(At.v 4),(At.v 5),(At.v 6),(At.v 7)] i) k).wp ρ Q := by
 have hx : ∃ x : At,[(At.v 0),(At.v 1),(At.v 2),(At.v 3),(At.v 4),(At.v 5),(At.v 6),(At.v 7)][s]? = some x ∧ x.ev ρ = .r ((m.st s).map itR) := by
  rw [hρ]
  match s,hs with
  | 0,_ => exact ⟨_,rfl,rfl⟩
  | 1,_ => exact ⟨_,rfl,rfl⟩
  | 2,_ => exact ⟨_,rfl,rfl⟩
  | 3,_ => exact ⟨_,rfl,rfl⟩
  | 4,_ => exact ⟨_,rfl,rfl⟩
  | 5,_ => exact ⟨_,rfl,rfl⟩
  | 6,_ => exact ⟨_,rfl,rfl⟩
  | 7,_ => exact ⟨_,rfl,rfl⟩
 obtain ⟨x,hx,hxe⟩ := hx
 rw [← hi] at hx
 refine s_sel hx ?_
 rw [hxe]; exact hk
theorem get_P {m : Mp} (hn : ∀ s,(m.st s).length ≤ 8) (hkk : ∀ s,∀ x ∈ m.st s,0 ≤ x.key ∧ x.key ≤ 7) (hv : MV m) {l8 l9 : L} (h8 : l8.asI = m.live) (h9 : l9.asI = m.garb) (n : Int) (h0 : 0 ≤ n) (h1 : n ≤ 18446744073709551615) :
  F125 [.r ((m.st 0).map itR),.r ((m.st 1).map itR),.r ((m.st 2).map itR),.r ((m.st 3).map itR),.r ((m.st 4).map itR),.r ((m.st 5).map itR),.r ((m.st 6).map itR),.r ((m.st 7).map itR),l8,l9,.i n] = some (fndL (items m) n) := by
 have hS : Str m (.r ((m.st 0).map itR)) (.r ((m.st 1).map itR)) (.r ((m.st 2).map itR)) (.r ((m.st 3).map itR)) (.r ((m.st 4).map itR)) (.r ((m.st 5).map itR)) (.r ((m.st 6).map itR)) (.r ((m.st 7).map itR)) := ⟨rfl,rfl,rfl,rfl,rfl,rfl,rfl,rfl,hn,hkk⟩
 have hr := stripe_range n
 have hs : (stripe n).toNat < 8 := by omega
 refine eq_of_wp ?_
 unfold fir125
 refine s_call (mapValid_P hS h8 h9 (b := true) ⟨fun _ => hv,fun _ => rfl⟩) rfl rfl ?_
 dsimp only [At.ev,d1,d2,d3,d4,d5,d6,d7,d8,d9,e0]
 repeat ((first | refine sN rfl ?_ | refine s_join ?_); (try dsimp only [At.ev,d1,d2,d3,d4,d5,d6,d7,d8,d9,e0]))
 refine s_else rfl ?_
 refine s_call (stripe_P n h0 h1) rfl rfl ?_
 dsimp only [At.ev,d1,d2,d3,d4,d5,d6,d7,d8,d9,e0]
 refine s_bnd ⟨hr.1,hr.2⟩ ?_
 dsimp only [At.ev,d1,d2,d3,d4,d5,d6,d7,d8,d9,e0]
 refine s_selR hs rfl rfl ?_
 dsimp only [At.ev,d1,d2,d3,d4,d5,d6,d7,d8,d9,e0]
 have ha : asc (m.st (stripe n).toNat) := (hv.1 _ hs).1.1
 have hl := hn (stripe n).toNat
 refine s_call (find_P _ (by omega) ha (.i n)) (fndL_len _ _) rfl ?_
 refine s_leaf ?_
 have hf : fndL (m.st (stripe n).toNat) (L.i n).asI = fndL (items m) n := by unfold fndL; rw [find_items hv.1 n]; rfl
 rw [hf]
 have hh := fndL_len (items m) n
 match fndL (items m) n,hh with
 | [a,b,c,d,e],_ => rfl
end
section
set_option maxHeartbeats 4000000
open Go.RowKit Pl AI
attribute [local irreducible] Fir.wp
structure Pc where
 g : Gn
 x : It
 i : Nat
def pcR (p : Pc) : List PV := [.sc (.int .i64 p.g.num),.sc (.int .i64 p.g.mode),.sc (.int .i64 p.g.rev),.sc (.int .u64 p.x.key),.sc (.int .u32 p.x.cookie),.sc (.int .i64 p.x.off),.sc (.int .i64 p.x.size),.sc (.int .i64 p.i)]
def addP (d : List Pc) (g : Gn) (i : Nat) : Option It → List Pc
 | some x => d ++ [⟨g,x,i⟩]
 | none => d
theorem rect_pc (l : List Pc) : rectB 8 (l.map pcR) = true := by
 rw [rectB_iff]; intro r hr
 obtain ⟨x,_,rfl⟩ := List.mem_map.1 hr
 rfl
theorem cells_gn (g : Gn) : cells58 (gnR g) = some [.i g.num,.i g.rev,.i g.mode,.i g.size,.r ((g.map.st 0).map itR),.r ((g.map.st 1).map itR),.r ((g.map.st 2).map itR),.r ((g.map.st 3).map itR),.r ((g.map.st 4).map itR),.r ((g.map.st 5).map itR),.r ((g.map.st 6).map itR),.r ((g.map.st 7).map itR),.i g.map.live,.i g.map.garb] := rfl
theorem rnd_P {g : Gn} (hg : WG g) (hv : MV g.map) {n r m gs ok nok : L} {key : Int} (h0 : 0 ≤ key) (h1 : key ≤ 18446744073709551615) (d : List Pc) (hd : d.length ≤ 1000) (i : Nat) :
  rnd58 F125 125 [n,r,m,gs,.i key,ok,nok] (d.map pcR) i (gnR g) = some ((addP d g i (findL (items g.map) key)).map pcR) := by
 have hw : (firAll F125 125).wp [n,r,m,gs,.i key,ok,nok,.r (d.map pcR),.i i,.i g.num,.i g.rev,.i g.mode,.i g.size,.r ((g.map.st 0).map itR),.r ((g.map.st 1).map itR),.r ((g.map.st 2).map itR),.r ((g.map.st 3).map itR),.r ((g.map.st 4).map itR),.r ((g.map.st 5).map itR),.r ((g.map.st 6).map itR),.r ((g.map.st 7).map itR),.i g.map.live,.i g.map.garb]
   (fun o => ∃ a,o.1 = .jump 0 [a] ∧ (a.ev o.2).asR = (addP d g i (findL (items g.map) key)).map pcR) := by
  unfold firAll
  refine s_call (get_P hg.hn hg.hk hv rfl rfl key h0 h1) (fndL_len _ _) rfl ?_
  cases hf : findL (items g.map) key with
  | none =>
   have hfn : fndL (items g.map) key = [.b false,.i 0,.i 0,.i 0,.i 0] := by unfold fndL; rw [hf]
   rw [hfn]
   dsimp only [At.ev,d1,d2,d3,d4,d5,d6,d7,d8,d9,e0]
   refine s_else rfl (s_leaf ⟨_,rfl,?_⟩)
   rfl
  | some x =>
   have hfn : fndL (items g.map) key = [.b true,.i x.key,.i x.cookie,.i x.off,.i x.size] := by unfold fndL; rw [hf]
   rw [hfn]
   dsimp only [At.ev,d1,d2,d3,d4,d5,d6,d7,d8,d9,e0]
   refine s_if rfl (s_lit ?_)
   dsimp only [At.ev,d1,d2,d3,d4,d5,d6,d7,d8,d9,e0]
   refine s_app ⟨?_,?_,rect_pc d,rfl⟩ ?_
   · show (d.map pcR).length + 1 ≤ 9223372036854775807
     rw [List.length_map]; omega
   · show ((d.map pcR).length + 1) * 64 ≤ 140737488355328
     rw [List.length_map]; omega
   dsimp only [At.ev,d1,d2,d3,d4,d5,d6,d7,d8,d9,e0]
   refine s_leaf ⟨_,rfl,?_⟩
   show (d.map pcR) ++ [_] = (d ++ [(⟨g,x,i⟩ : Pc)]).map pcR
   rw [List.map_append]; rfl
 obtain ⟨⟨lf,ρ'⟩,h2,a,h3,h4⟩ := (by unfold Fir.wp at hw; exact hw : ∃ r,_ = some r ∧ _)
 cases h3
 unfold rnd58
 rw [cells_gn]
 dsimp only [List.cons_append,List.nil_append]
 rw [h2]
 exact congrArg some h4
theorem acc_P {gens : List Gn} (hw : ∀ g ∈ gens,WG g) (hv : ∀ g ∈ gens,MV g.map) (hn : gens.length ≤ 1000) {n r m gs ok nok : L} {key : Int} (h0 : 0 ≤ key) (h1 : key ≤ 18446744073709551615) :
  ∀ k,k ≤ gens.length → ∃ d : List Pc,d.length ≤ k ∧ acc58 F125 125 [n,r,m,gs,.i key,ok,nok] (gens.map gnR) k = some (d.map pcR) ∧
   ((d = [] ∧ scanG gens key gens.length = scanG gens key (gens.length - k)) ∨ ∃ p t,d = p :: t ∧ scanG gens key gens.length = some (p.g,p.x))
 | 0,_ => ⟨[],by simp,rfl,.inl ⟨rfl,rfl⟩⟩
 | k + 1,hk => by
  obtain ⟨d,e1,e2,e3⟩ := acc_P hw hv hn h0 h1 k (by omega) (n := n) (r := r) (m := m) (gs := gs) (ok := ok) (nok := nok)
  have hj : gens.length - 1 - k < gens.length := by omega
  have hg : (gens.map gnR)[gens.length - 1 - k]? = some (gnR gens[gens.length - 1 - k]) := by rw [List.getElem?_map,List.getElem?_eq_getElem hj]; rfl
  have hstep : acc58 F125 125 [n,r,m,gs,.i key,ok,nok] (gens.map gnR) (k + 1) = rnd58 F125 125 [n,r,m,gs,.i key,ok,nok] (d.map pcR) (gens.length - 1 - k) (gnR gens[gens.length - 1 - k]) := by
   rw [acc58,e2,List.length_map,hg]
  have hr := rnd_P (hw _ (List.getElem_mem hj)) (hv _ (List.getElem_mem hj)) (n := n) (r := r) (m := m) (gs := gs) (ok := ok) (nok := nok) h0 h1 d (by omega) (gens.length - 1 - k)
  have hs : scanG gens key (gens.length - k) = match findL (items gens[gens.length - 1 - k].map) key with
     | some x => some (gens[gens.length - 1 - k],x)
     | none => scanG gens key (gens.length - (k + 1)) := by
   have hz : gens.length - k = (gens.length - 1 - k) + 1 := by omega
   have hz2 : gens.length - (k + 1) = gens.length - 1 - k := by omega
   rw [hz,scanG,List.getElem?_eq_getElem hj,hz2]; rfl
  rw [hstep,hr]
  cases hf : findL (items gens[gens.length - 1 - k].map) key with
  | none =>
   rw [hf] at hs
   refine ⟨d,by omega,rfl,?_⟩
   rcases e3 with ⟨f1,f2⟩ | f
   · exact .inl ⟨f1,f2.trans hs⟩
   · exact .inr f
  | some x =>
   rw [hf] at hs
   refine ⟨_,?_,rfl,.inr ?_⟩
   · show (d ++ [_]).length ≤ k + 1
     rw [List.length_append]; simp; omega
   rcases e3 with ⟨f1,f2⟩ | ⟨p,t,f1,f2⟩
   · subst f1
     exact ⟨_,[],rfl,f2.trans hs⟩
   · subst f1
     exact ⟨p,_,rfl,f2⟩
theorem back_P (l : L) : F4 [l] = some [] := by
 refine eq_of_wp ?_
 unfold fir4
 exact s_leaf rfl
theorem all_P {l0 l1 l2 : L} {gens : List Gn} (hw : ∀ g ∈ gens,WG g) (hv : SlotV l0.asI l1.asI gens) {key : Int} (h0 : 0 ≤ key) (h1 : key ≤ 18446744073709551615) :
   ∃ d : List Pc,F2005 [l0,l1,l2,.r (gens.map gnR),.i key] = some [.r (d.map pcR)] ∧ d.length ≤ 8 ∧
     ((d = [] ∧ scanG gens key gens.length = none) ∨ ∃ p t,d = p :: t ∧ scanG gens key gens.length = some (p.g,p.x)) := by
 have hn := hv.2.2.1
 have hm : ∀ g ∈ gens,MV g.map := fun g hg => by
   obtain ⟨i,hi,rfl⟩ := List.getElem_of_mem hg
   exact (hv.2.2.2.1 i hi hi).1.2.2.1
 obtain ⟨d,e1,e2,e3⟩ := acc_P hw hm (by omega) h0 h1 (n := l0) (r := l1) (m := l2) (gs := .r (gens.map gnR)) (ok := .b true) (nok := .b (!(L.b true).asB)) gens.length (Nat.le_refl _)
 refine ⟨d,?_,by omega,?_⟩
 · have hs := slotValid_P (l0 := l0) (l1 := l1) (l2 := l2) (l3 := .r (gens.map gnR)) rfl hw hv
   unfold F2005 FAll
   simp only [hs,back_P]
   rw [if_pos (show (L.b true).asB = true from rfl),if_pos (by rw [List.length_map]; omega)]
   rw [List.length_map,e2]; rfl
 · rcases e3 with ⟨f1,f2⟩ | f
   · refine .inl ⟨f1,?_⟩
     rw [f2,Nat.sub_self]; rfl
   · exact .inr f
theorem slotFind_P {l0 l1 l2 : L} {gens : List Gn} (hw : ∀ g ∈ gens,WG g) (hv : SlotV l0.asI l1.asI gens) {key : Int} (h0 : 0 ≤ key) (h1 : key ≤ 18446744073709551615) :
   F192 [l0,l1,l2,.r (gens.map gnR),.i key] = some (plc (scanG gens key gens.length)) := by
 obtain ⟨d,e1,e2,e3⟩ := all_P (l2 := l2) hw hv h0 h1
 refine eq_of_wp ?_
 unfold fir192
 refine s_call e1 rfl rfl ?_
 dsimp only [At.ev,d1,d2,d3,d4,d5,d6,d7,d8,d9,e0]
 repeat ((first | refine sN rfl ?_ | refine s_join ?_); (try dsimp only [At.ev,d1,d2,d3,d4,d5,d6,d7,d8,d9,e0]))
 rcases e3 with ⟨rfl,f2⟩ | ⟨p,t,rfl,f2⟩
 · rw [f2]
   refine s_if rfl (s_leaf ?_)
   rfl
 · rw [f2]
   have hc : decide ((((p :: t).map pcR).length : Int) = 0) = false := decide_eq_false (by rw [List.length_map,List.length_cons]; omega)
   refine s_else hc ?_
   have r : (L.r ((p :: t).map pcR)).asR[((At.i 0).ev [l0,l1,l2,.r (gens.map gnR),.i key]).asI.toNat]? = some (pcR p) := rfl
   refine s_row (r := pcR p) (by show (0 : Int) ≤ 0; omega) r rfl ?_
   dsimp only [At.ev,d1,d2,d3,d4,d5,d6,d7,d8,d9,e0]
   refine s_rc (r := pcR p) r rfl rfl ?_
   dsimp only [At.ev,d1,d2,d3,d4,d5,d6,d7,d8,d9,e0]
   refine s_rc (r := pcR p) r rfl rfl ?_
   dsimp only [At.ev,d1,d2,d3,d4,d5,d6,d7,d8,d9,e0]
   refine s_rc (r := pcR p) r rfl rfl ?_
   dsimp only [At.ev,d1,d2,d3,d4,d5,d6,d7,d8,d9,e0]
   refine s_rc (r := pcR p) r rfl rfl ?_
   dsimp only [At.ev,d1,d2,d3,d4,d5,d6,d7,d8,d9,e0]
   refine s_rc (r := pcR p) r rfl rfl ?_
   dsimp only [At.ev,d1,d2,d3,d4,d5,d6,d7,d8,d9,e0]
   refine s_rc (r := pcR p) r rfl rfl ?_
   dsimp only [At.ev,d1,d2,d3,d4,d5,d6,d7,d8,d9,e0]
   refine s_rc (r := pcR p) r rfl rfl ?_
   dsimp only [At.ev,d1,d2,d3,d4,d5,d6,d7,d8,d9,e0]
   refine s_leaf ?_
   rfl
end
section
set_option maxHeartbeats 4000000
open Go.RowKit Pl AI
attribute [local irreducible] Fir.wp
theorem map_P (a b c d e f g h i j : L) : F15 [a,b,c,d,e,f,g,h,i,j] = some [] := by
 refine eq_of_wp ?_
 unfold fir15
 exact s_leaf rfl
theorem gen_P (a b c d e f g h i j k l m n : L) : F16 [a,b,c,d,e,f,g,h,i,j,k,l,m,n] = some [] := by
 refine eq_of_wp ?_
 unfold fir16
 exact s_call (map_P _ _ _ _ _ _ _ _ _ _) rfl rfl (s_leaf rfl)
theorem new_P (a b : L) : F14 [a,b] = some [] := by
 refine eq_of_wp ?_
 unfold fir14
 exact s_leaf rfl
theorem rect_gn (l : List Gn) : rectB 14 (l.map gnR) = true := by
 rw [rectB_iff]; intro r hr
 obtain ⟨x,_,rfl⟩ := List.mem_map.1 hr
 rfl
theorem slot_P {l0 l1 l2 l3 : L} {gens : List Gn} (hr : l3.asR = gens.map gnR) (hn : gens.length ≤ 1000) : F17 [l0,l1,l2,l3] = some [.r (gens.map gnR)] := by
 have hlen : l3.asR.length = gens.length := by rw [hr,List.length_map]
 refine eq_of_wp ?_
 unfold fir17
 repeat ((first | refine sN rfl ?_ | refine s_join ?_); (try dsimp only [At.ev,d1,d2,d3,d4,d5,d6,d7,d8,d9,e0]))
 refine wp_loop (I := fun a => ∃ (i : Nat) (z : L),a = [.i i,z] ∧ i ≤ gens.length ∧ z = .r ((gens.take i).map gnR)) (mu := fun a => match a with | [.i i,_] => gens.length - i.toNat | _ => 0) ⟨0,_,rfl,by omega,rfl⟩ ?_
 rintro a ⟨i,z,rfl,e1,rfl⟩
 dsimp only [At.ev,d1,d2,d3,d4,d5,d6,d7,d8,d9,e0]
 repeat ((first | refine sN rfl ?_ | refine s_join ?_); (try dsimp only [At.ev,d1,d2,d3,d4,d5,d6,d7,d8,d9,e0]))
 refine s_ite (fun hc => ?_) (fun hc => ?_)
 rotate_left
 · have hc : ¬ (i : Int) < l3.asR.length := of_decide_eq_false hc
   refine s_leaf ?_
   show Fir.wp (Fir.leaf _) [l0,l1,l2,l3,.r ((gens.take i).map gnR)] _
   refine s_leaf ?_
   show [L.r ((gens.take i).map gnR)] = _
   rw [List.take_of_length_le (by omega)]
 have hc : (i : Int) < l3.asR.length := of_decide_eq_true hc
 have hi : i < gens.length := by omega
 refine s_row (r := gnR gens[i]) (Int.natCast_nonneg i) (gn_at hr hi) rfl ?_
 dsimp only [At.ev,d1,d2,d3,d4,d5,d6,d7,d8,d9,e0]
 repeat ((first | refine sN rfl ?_ | refine s_join ?_); (try dsimp only [At.ev,d1,d2,d3,d4,d5,d6,d7,d8,d9,e0]))
 refine s_call (gen_P _ _ _ _ _ _ _ _ _ _ _ _ _ _) rfl rfl ?_
 dsimp only [At.ev,d1,d2,d3,d4,d5,d6,d7,d8,d9,e0]
 repeat ((first | refine sN rfl ?_ | refine s_join ?_); (try dsimp only [At.ev,d1,d2,d3,d4,d5,d6,d7,d8,d9,e0]))
 have ht : (gens.take i).length ≤ 1000 := by rw [List.length_take]; omega
 refine s_app ⟨?_,?_,rect_gn _,rfl⟩ ?_
 · show ((gens.take i).map gnR).length + 1 ≤ 9223372036854775807
   rw [List.length_map]; omega
 · show (((gens.take i).map gnR).length + 1) * 240 ≤ 140737488355328
   rw [List.length_map]; omega
 dsimp only [At.ev,d1,d2,d3,d4,d5,d6,d7,d8,d9,e0]
 repeat ((first | refine sN rfl ?_ | refine s_join ?_); (try dsimp only [At.ev,d1,d2,d3,d4,d5,d6,d7,d8,d9,e0]))
 refine s_leaf ⟨⟨i + 1,_,?_,by omega,rfl⟩,?_⟩
 · show [L.i (IntKind.wrap .i64 ((i : Int) + 1)),L.r ((gens.take i).map gnR ++ [gnR gens[i]])] = _
   rw [wrap_up (by omega),List.take_succ_eq_append_getElem hi,List.map_append]; rfl
 · show gens.length - (IntKind.wrap .i64 ((i : Int) + 1)).toNat < gens.length - i
   rw [wrap_up (by omega)]; omega
theorem arm_P (a b c : L) : F29 [a,b,c,.i 0] = some [.i 0] := by
 refine eq_of_wp ?_
 unfold fir29
 rw [w_mx]
 exact s_leaf rfl
theorem lookup_P {l11 l12 l13 : L} {gens : List Gn} (hw : ∀ g ∈ gens,WG g) (hv : SlotV l11.asI l12.asI gens) {key : Int} (h0 : 0 ≤ key) (h1 : key ≤ 18446744073709551615) {g : Gn} {x : It} (hs : scanG gens key gens.length = some (g,x)) (b1 b2 b3 b4 b5 b6 b7 b8 b9 : L) :
  F193 [.i key,.i x.cookie,b1,b2,b3,b4,b5,b6,b7,b8,b9,l11,l12,l13,.r (gens.map gnR)] = some [.i 1,.i g.num,.i g.mode,.i g.rev,.i x.key,.i x.cookie,.i x.off,.i x.size,.r []] := by
 have hf := slotFind_P (l2 := l13) hw hv h0 h1
 rw [hs] at hf
 refine eq_of_wp ?_
 unfold fir193
 refine s_call hf rfl rfl ?_
 dsimp only [plc]
 dsimp only [At.ev,d1,d2,d3,d4,d5,d6,d7,d8,d9,e0]
 repeat ((first | refine sN rfl ?_ | refine s_join ?_); (try dsimp only [At.ev,d1,d2,d3,d4,d5,d6,d7,d8,d9,e0]))
 refine s_else rfl ?_
 repeat ((first | refine sN rfl ?_ | refine s_join ?_); (try dsimp only [At.ev,d1,d2,d3,d4,d5,d6,d7,d8,d9,e0]))
 have hc : decide (x.cookie ≠ x.cookie) = false := decide_eq_false (by simp)
 refine s_leaf (s_else hc (s_leaf ?_))
 rfl
theorem step1_P {l0 l1 l2 l3 l4 l5 : L} {gens : List Gn} (hw : ∀ g ∈ gens,WG g) (hv : SlotV l3.asI l4.asI gens) {key : Int} (h0 : 0 ≤ key) (h1 : key ≤ 18446744073709551615) {g : Gn} {x : It} (hs : scanG gens key gens.length = some (g,x)) :
  F194 [l0,l1,l2,l3,l4,l5,.r (gens.map gnR),.i key,.i x.cookie,.i 0,.i 0,.i 0,.i 0,.i 0,.i 0,.i 0,.i 0,.i 0] = some [.i 0,.i key,.i x.cookie,.i 1,.i g.num,.i g.mode,.i g.rev,.i x.key,.i x.cookie,.i x.off,.i x.size,.i 0,.r []] := by
 refine eq_of_wp ?_
 unfold fir194
 refine s_join ?_
 refine s_call (slotValid_P (l0 := l3) (l1 := l4) (l2 := l5) (l3 := .r (gens.map gnR)) rfl hw hv) rfl rfl ?_
 dsimp only [At.ev,d1,d2,d3,d4,d5,d6,d7,d8,d9,e0]
 repeat ((first | refine sN rfl ?_ | refine s_join ?_); (try dsimp only [At.ev,d1,d2,d3,d4,d5,d6,d7,d8,d9,e0]))
 refine s_else rfl ?_
 repeat ((first | refine sN rfl ?_ | refine s_join ?_); (try dsimp only [At.ev,d1,d2,d3,d4,d5,d6,d7,d8,d9,e0]))
 refine s_else rfl ?_
 refine s_leaf (s_else rfl ?_)
 repeat ((first | refine sN rfl ?_ | refine s_join ?_); (try dsimp only [At.ev,d1,d2,d3,d4,d5,d6,d7,d8,d9,e0]))
 refine s_else rfl ?_
 refine s_leaf (s_else rfl (s_leaf ?_))
 show Fir.wp (Fir.op _ _) [l0,l1,l2,l3,l4,l5,.r (gens.map gnR),.i key,.i x.cookie,.i 0,.i 0,.i 0,.i 0,.i 0,.i 0,.i 0,.i 0,.i 0,.i 0] _
 repeat ((first | refine sN rfl ?_ | refine s_join ?_); (try dsimp only [At.ev,d1,d2,d3,d4,d5,d6,d7,d8,d9,e0]))
 refine s_else rfl ?_
 repeat ((first | refine sN rfl ?_ | refine s_join ?_); (try dsimp only [At.ev,d1,d2,d3,d4,d5,d6,d7,d8,d9,e0]))
 refine s_if rfl ?_
 refine s_call (lookup_P hw hv h0 h1 hs _ _ _ _ _ _ _ _ _) rfl rfl ?_
 refine s_leaf (s_leaf ?_)
 rfl
theorem step2_P {l0 l2 l3 l4 l5 l7 l8 l10 l11 l12 l13 l14 l15 l16 l17 : L} {gens : List Gn} (hw : ∀ g ∈ gens,WG g) (hv : SlotV l3.asI l4.asI gens) :
  F194 [l0,.i 0,l2,l3,l4,l5,.r (gens.map gnR),l7,l8,.i 1,l10,l11,l12,l13,l14,l15,l16,l17] = some [.i 13,.i 0,.i 0,.i 0,.i 0,.i 0,.i 0,.i 0,.i 0,.i 0,.i 0,.i 0,.r []] := by
 refine eq_of_wp ?_
 unfold fir194
 refine s_join ?_
 refine s_call (slotValid_P (l0 := l3) (l1 := l4) (l2 := l5) (l3 := .r (gens.map gnR)) rfl hw hv) rfl rfl ?_
 dsimp only [At.ev,d1,d2,d3,d4,d5,d6,d7,d8,d9,e0]
 repeat ((first | refine sN rfl ?_ | refine s_join ?_); (try dsimp only [At.ev,d1,d2,d3,d4,d5,d6,d7,d8,d9,e0]))
 refine s_else rfl ?_
 repeat ((first | refine sN rfl ?_ | refine s_join ?_); (try dsimp only [At.ev,d1,d2,d3,d4,d5,d6,d7,d8,d9,e0]))
 refine s_if rfl ?_
 repeat ((first | refine sN rfl ?_ | refine s_join ?_); (try dsimp only [At.ev,d1,d2,d3,d4,d5,d6,d7,d8,d9,e0]))
 refine s_leaf (s_else rfl ?_)
 repeat ((first | refine sN rfl ?_ | refine s_join ?_); (try dsimp only [At.ev,d1,d2,d3,d4,d5,d6,d7,d8,d9,e0]))
 refine s_if rfl ?_
 repeat ((first | refine sN rfl ?_ | refine s_join ?_); (try dsimp only [At.ev,d1,d2,d3,d4,d5,d6,d7,d8,d9,e0]))
 refine s_leaf (s_if rfl (s_leaf ?_))
 show Fir.wp (Fir.op _ _) [l0,.i 0,l2,l3,l4,l5,.r (gens.map gnR),l7,l8,.i 1,l10,l11,l12,l13,l14,l15,l16,l17,.i 13] _
 repeat ((first | refine sN rfl ?_ | refine s_join ?_); (try dsimp only [At.ev,d1,d2,d3,d4,d5,d6,d7,d8,d9,e0]))
 refine s_if rfl (s_leaf ?_)
 rfl
end
end Go.Proofs.YtndegphojkiblaaGreatDoor
