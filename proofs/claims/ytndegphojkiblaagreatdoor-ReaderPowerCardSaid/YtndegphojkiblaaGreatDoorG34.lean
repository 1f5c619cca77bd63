/- Towards the last file's theorem: part 34. -/
import Derived.Test.YtndegphojkiblaaGreatDoorG33
set_option linter.unusedSimpArgs false
set_option linter.unusedVariables false
set_option maxHeartbeats 4000000
namespace Go.Proofs.YtndegphojkiblaaGreatDoor
section
set_option maxHeartbeats 4000000
open Go.RowKit Pl AI
attribute [local irreducible] Fir.wp
def gnR (g : Gn) : List PV := [.sc (.int .i64 g.num),.sc (.int .i64 g.rev),.sc (.int .i64 g.mode),.sc (.int .i64 g.size),.sl ((g.map.st 0).map itR),.sl ((g.map.st 1).map itR),.sl ((g.map.st 2).map itR),.sl ((g.map.st 3).map itR),.sl ((g.map.st 4).map itR),.sl ((g.map.st 5).map itR),.sl ((g.map.st 6).map itR),.sl ((g.map.st 7).map itR),.sc (.int .i64 g.map.live),.sc (.int .i64 g.map.garb)]
structure WG (g : Gn) : Prop where
 hn : ∀ s,(g.map.st s).length ≤ 8
 hk : ∀ s,∀ x ∈ g.map.st s,0 ≤ x.key ∧ x.key ≤ 7
theorem WG.str {g : Gn} (h : WG g) : Str g.map (.r ((g.map.st 0).map itR)) (.r ((g.map.st 1).map itR)) (.r ((g.map.st 2).map itR)) (.r ((g.map.st 3).map itR)) (.r ((g.map.st 4).map itR)) (.r ((g.map.st 5).map itR)) (.r ((g.map.st 6).map itR)) (.r ((g.map.st 7).map itR)) := ⟨rfl,rfl,rfl,rfl,rfl,rfl,rfl,rfl,h.hn,h.hk⟩
def slOk (limit : Int) (gens : List Gn) (i : Nat) : Prop := ∀ h : i < gens.length,GV gens[i] ∧ (gens[i].mode = 1 ↔ i = gens.length - 1) ∧ (∀ h0 : 0 < i,(gens[i - 1]'(by omega)).num < gens[i].num) ∧ gens[i].size ≤ 2 * limit
def SlotV (id limit : Int) (gens : List Gn) : Prop := (0 ≤ id ∧ id < 4) ∧ (4136 ≤ limit ∧ limit ≤ 262144) ∧ (1 ≤ gens.length ∧ gens.length ≤ 8) ∧ (∀ i,i < gens.length → slOk limit gens i) ∧ ∀ h : gens.length - 1 < gens.length,gens[gens.length - 1].size + 24 * (items gens[gens.length - 1].map).length ≤ 2 * limit
theorem gn_at {l3 : L} {gens : List Gn} (hr : l3.asR = gens.map gnR) {i : Nat} (hi : i < gens.length) : l3.asR[i]? = some (gnR gens[i]) := by
 rw [hr,List.getElem?_map,List.getElem?_eq_getElem hi]; rfl
theorem slotValid_R {l0 l1 l2 l3 : L} {gens : List Gn} (hr : l3.asR = gens.map gnR) (hw : ∀ g ∈ gens,WG g) (hn : gens.length ≤ 1000000) {b : Bool} (hb : b = true ↔ SlotV l0.asI l1.asI gens) : F103 [l0,l1,l2,l3] = some [.b b] := by
 have hlen : l3.asR.length = gens.length := by rw [hr,List.length_map]
 refine eq_of_wp ?_
 unfold fir103
 repeat ((first | refine sN rfl ?_ | refine s_join ?_); (try dsimp only [At.ev,d1,d2,d3,d4,d5,d6,d7,d8,d9,e0]))
 refine s_ite (fun hc => ?_) (fun hc => ?_)
 · have hc : l0.asI < 0 := of_decide_eq_true hc
   refine s_leaf (s_if rfl (s_leaf ?_))
   show [L.b false] = [L.b b]
   rw [bool_no hb fun hv => by have h1 := hv.1; have h2 := hv.2.1; have h3 := hv.2.2.1; omega]
 have c1 : ¬ l0.asI < 0 := of_decide_eq_false hc
 clear hc
 repeat ((first | refine sN rfl ?_ | refine s_join ?_); (try dsimp only [At.ev,d1,d2,d3,d4,d5,d6,d7,d8,d9,e0]))
 refine s_ite (fun hc => ?_) (fun hc => ?_)
 · have hc : 4 ≤ l0.asI := of_decide_eq_true hc
   refine s_leaf (s_if rfl (s_leaf ?_))
   show [L.b false] = [L.b b]
   rw [bool_no hb fun hv => by have h1 := hv.1; have h2 := hv.2.1; have h3 := hv.2.2.1; omega]
 have c2 : ¬ 4 ≤ l0.asI := of_decide_eq_false hc
 clear hc
 repeat ((first | refine sN rfl ?_ | refine s_join ?_); (try dsimp only [At.ev,d1,d2,d3,d4,d5,d6,d7,d8,d9,e0]))
 refine s_call (size_R (.i 4096)) rfl rfl ?_
 dsimp only [At.ev,d1,d2,d3,d4,d5,d6,d7,d8,d9,e0]
 have z1 : szR 4096 = 4120 := rfl
 rw [z1]
 repeat ((first | refine sN rfl ?_ | refine s_join ?_); (try dsimp only [At.ev,d1,d2,d3,d4,d5,d6,d7,d8,d9,e0]))
 have z2 : IntKind.wrap .i64 (16 + 4120) = 4136 := by decide
 rw [z2]
 refine s_ite (fun hc => ?_) (fun hc => ?_)
 · have hc : l1.asI < 4136 := of_decide_eq_true hc
   refine s_leaf (s_if rfl (s_leaf ?_))
   show [L.b false] = [L.b b]
   rw [bool_no hb fun hv => by have h1 := hv.1; have h2 := hv.2.1; have h3 := hv.2.2.1; omega]
 have c3 : ¬ l1.asI < 4136 := of_decide_eq_false hc
 clear hc
 repeat ((first | refine sN rfl ?_ | refine s_join ?_); (try dsimp only [At.ev,d1,d2,d3,d4,d5,d6,d7,d8,d9,e0]))
 refine s_ite (fun hc => ?_) (fun hc => ?_)
 · have hc : 262144 < l1.asI := of_decide_eq_true hc
   refine s_leaf (s_if rfl (s_leaf ?_))
   show [L.b false] = [L.b b]
   rw [bool_no hb fun hv => by have h1 := hv.1; have h2 := hv.2.1; have h3 := hv.2.2.1; omega]
 have c4 : ¬ 262144 < l1.asI := of_decide_eq_false hc
 clear hc
 repeat ((first | refine sN rfl ?_ | refine s_join ?_); (try dsimp only [At.ev,d1,d2,d3,d4,d5,d6,d7,d8,d9,e0]))
 refine s_ite (fun hc => ?_) (fun hc => ?_)
 · have hc : (l3.asR.length : Int) < 1 := of_decide_eq_true hc
   refine s_leaf (s_if rfl (s_leaf ?_))
   show [L.b false] = [L.b b]
   rw [bool_no hb fun hv => by have h1 := hv.1; have h2 := hv.2.1; have h3 := hv.2.2.1; omega]
 have c5 : ¬ (l3.asR.length : Int) < 1 := of_decide_eq_false hc
 clear hc
 repeat ((first | refine sN rfl ?_ | refine s_join ?_); (try dsimp only [At.ev,d1,d2,d3,d4,d5,d6,d7,d8,d9,e0]))
 refine s_leaf ?_
 show Fir.wp (Fir.ite _ _ _) [l0,l1,l2,l3,.i l3.asR.length,.b (decide (8 < (l3.asR.length : Int)))] _
 refine s_ite (fun hc => ?_) (fun hc => ?_)
 · have hc : 8 < (l3.asR.length : Int) := of_decide_eq_true hc
   refine s_leaf ?_
   show [L.b false] = [L.b b]
   rw [bool_no hb fun hv => by have h1 := hv.1; have h2 := hv.2.1; have h3 := hv.2.2.1; omega]
 have c6 : ¬ 8 < (l3.asR.length : Int) := of_decide_eq_false hc
 clear hc
 have w2 : IntKind.wrap .i64 (2 * l1.asI) = 2 * l1.asI := wrap64 (by omega) (by omega)
 have wn : IntKind.wrap .i64 ((l3.asR.length : Int) - 1) = ((gens.length - 1 : Nat) : Int) := by rw [wrap64 (by omega) (by omega)]; omega
 refine s_join ?_
 refine wp_loop (I := fun a => ∃ i : Nat,a = [.i i] ∧ i ≤ gens.length ∧ ∀ j,j < i → slOk l1.asI gens j) (mu := fun a => match a with | [.i i] => gens.length - i.toNat | _ => 0) ⟨0,rfl,by omega,fun j hj => by omega⟩ ?_
 rintro a ⟨i,rfl,e1,e2⟩
 repeat ((first | refine sN rfl ?_ | refine s_join ?_); (try dsimp only [At.ev,d1,d2,d3,d4,d5,d6,d7,d8,d9,e0]))
 refine s_ite (fun hc => ?_) (fun hc => ?_)
 rotate_left
 · have hc : ¬ (i : Int) < l3.asR.length := of_decide_eq_false hc
   have hall : ∀ j,j < gens.length → slOk l1.asI gens j := fun j hj => e2 j (by omega)
   refine s_leaf ?_
   show Fir.wp (Fir.op _ _) [l0,l1,l2,l3,.i l3.asR.length,.b (decide (8 < (l3.asR.length : Int)))] _
   repeat ((first | refine sN rfl ?_ | refine s_join ?_); (try dsimp only [At.ev,d1,d2,d3,d4,d5,d6,d7,d8,d9,e0]))
   rw [wn]
   have hl1 : gens.length - 1 < gens.length := by omega
   have hg := hw _ (List.getElem_mem hl1)
   have hv := (hall _ hl1 hl1).1
   refine s_row (r := gnR gens[gens.length - 1]) (Int.natCast_nonneg _) (gn_at hr hl1) rfl ?_
   dsimp only [At.ev,d1,d2,d3,d4,d5,d6,d7,d8,d9,e0]
   repeat ((first | refine sN rfl ?_ | refine s_join ?_); (try dsimp only [At.ev,d1,d2,d3,d4,d5,d6,d7,d8,d9,e0]))
   refine s_call (size_R (.i 0)) rfl rfl ?_
   dsimp only [At.ev,d1,d2,d3,d4,d5,d6,d7,d8,d9,e0]
   have z3 : szR 0 = 24 := rfl
   rw [z3]
   refine s_call (len_R hg.str rfl rfl hv.2.2.1) rfl rfl ?_
   dsimp only [At.ev,d1,d2,d3,d4,d5,d6,d7,d8,d9,e0]
   repeat ((first | refine sN rfl ?_ | refine s_join ?_); (try dsimp only [At.ev,d1,d2,d3,d4,d5,d6,d7,d8,d9,e0]))
   have hil := items_len hg.hn
   have hsz := hv.2.1
   refine s_leaf ?_
   show [L.b (decide (IntKind.wrap .i64 (gens[gens.length - 1].size + IntKind.wrap .i64 (24 * ((items gens[gens.length - 1].map).length : Int))) ≤ IntKind.wrap .i64 (2 * l1.asI)))] = [L.b b]
   rw [w2,wrap64 (n := 24 * ((items gens[gens.length - 1].map).length : Int)) (by omega) (by omega),wrap64 (by omega) (by omega)]
   by_cases hf : gens[gens.length - 1].size + 24 * ((items gens[gens.length - 1].map).length : Int) ≤ 2 * l1.asI
   · rw [decide_eq_true hf,hb.2 ⟨by omega,by omega,by omega,hall,fun _ => hf⟩]
   · rw [decide_eq_false hf,bool_no hb fun h => hf (h.2.2.2.2 hl1)]
 have hc : (i : Int) < l3.asR.length := of_decide_eq_true hc
 have hi : i < gens.length := by omega
 have no : ¬ slOk l1.asI gens i → b = false := fun h => bool_no hb fun hv => h (hv.2.2.2.1 i hi)
 have h0 : (0 : Int) ≤ (i : Int) := Int.natCast_nonneg i
 have hg := hw _ (List.getElem_mem hi)
 refine s_row (r := gnR gens[i]) h0 (gn_at hr hi) rfl ?_
 dsimp only [At.ev,d1,d2,d3,d4,d5,d6,d7,d8,d9,e0]
 repeat ((first | refine sN rfl ?_ | refine s_join ?_); (try dsimp only [At.ev,d1,d2,d3,d4,d5,d6,d7,d8,d9,e0]))
 by_cases hv : GV gens[i]
 rotate_left
 · refine s_call (genValid_R hg.str rfl rfl rfl rfl rfl rfl (b := false) ⟨fun h => (by cases h),fun h => absurd h hv⟩) rfl rfl ?_
   dsimp only [At.ev,d1,d2,d3,d4,d5,d6,d7,d8,d9,e0]
   repeat ((first | refine sN rfl ?_ | refine s_join ?_); (try dsimp only [At.ev,d1,d2,d3,d4,d5,d6,d7,d8,d9,e0]))
   refine s_if rfl (s_leaf (s_if rfl (s_leaf ?_)))
   show [L.b false] = [L.b b]
   rw [no fun h => hv (h hi).1]
 refine s_call (genValid_R hg.str rfl rfl rfl rfl rfl rfl (b := true) ⟨fun _ => hv,fun _ => rfl⟩) rfl rfl ?_
 dsimp only [At.ev,d1,d2,d3,d4,d5,d6,d7,d8,d9,e0]
 repeat ((first | refine sN rfl ?_ | refine s_join ?_); (try dsimp only [At.ev,d1,d2,d3,d4,d5,d6,d7,d8,d9,e0]))
 refine s_else rfl ?_
 repeat ((first | refine sN rfl ?_ | refine s_join ?_); (try dsimp only [At.ev,d1,d2,d3,d4,d5,d6,d7,d8,d9,e0]))
 rw [wn]
 refine s_ite (fun hc => ?_) (fun hc => ?_)
 · have hc : (!(decide (gens[i].mode = 1) == decide ((i : Int) = ((gens.length - 1 : Nat) : Int)))) = true := hc
   refine s_leaf (s_if rfl (s_leaf ?_))
   show [L.b false] = [L.b b]
   rw [no fun h => by
     have h2 := (h hi).2.1
     by_cases hm : gens[i].mode = 1
     · have := h2.1 hm
       rw [decide_eq_true hm,decide_eq_true (by omega)] at hc; cases hc
     · have : ¬ (i : Int) = ((gens.length - 1 : Nat) : Int) := fun he => hm (h2.2 (by omega))
       rw [decide_eq_false hm,decide_eq_false this] at hc; cases hc]
 have hm : gens[i].mode = 1 ↔ i = gens.length - 1 := by
   have hc : (!(decide (gens[i].mode = 1) == decide ((i : Int) = ((gens.length - 1 : Nat) : Int)))) = false := hc
   by_cases hm : gens[i].mode = 1
   · by_cases he : (i : Int) = ((gens.length - 1 : Nat) : Int)
     · exact ⟨fun _ => by omega,fun _ => hm⟩
     · rw [decide_eq_true hm,decide_eq_false he] at hc; cases hc
   · by_cases he : (i : Int) = ((gens.length - 1 : Nat) : Int)
     · rw [decide_eq_false hm,decide_eq_true he] at hc; cases hc
     · exact ⟨fun h => absurd h hm,fun h => absurd (by omega) he⟩
 clear hc
 repeat ((first | refine sN rfl ?_ | refine s_join ?_); (try dsimp only [At.ev,d1,d2,d3,d4,d5,d6,d7,d8,d9,e0]))
 have sz := hv.2.1
 have last : (∀ h0 : 0 < i,(gens[i - 1]'(by omega)).num < gens[i].num) → ∀ x : Bool,(x = true ↔ 2 * l1.asI < gens[i].size) → (x = true → b = false) ∧ (x = false → slOk l1.asI gens i) := fun hp x hx => by
   refine ⟨fun h => no fun hs => ?_,fun h _ => ⟨hv,hm,hp,?_⟩⟩
   · have := (hs hi).2.2.2; have := hx.1 h; omega
   · have : ¬ 2 * l1.asI < gens[i].size := fun hh => by rw [hx.2 hh] at h; cases h
     omega
 have step : slOk l1.asI gens i → (∃ i_1 : Nat,[L.i (IntKind.wrap .i64 ((i : Int) + 1))] = [L.i i_1] ∧ i_1 ≤ gens.length ∧ ∀ j,j < i_1 → slOk l1.asI gens j) ∧ gens.length - (IntKind.wrap .i64 ((i : Int) + 1)).toNat < gens.length - i := fun hs => by
   rw [wrap_up (by omega)]
   refine ⟨⟨i + 1,rfl,by omega,fun j hj => ?_⟩,by omega⟩
   by_cases hji : j = i
   · subst hji; exact hs
   · exact e2 j (by omega)
 refine s_ite (fun hc => ?_) (fun hc => ?_)
 · have hp0 : (0 : Int) < i := of_decide_eq_true hc
   clear hc
   repeat ((first | refine sN rfl ?_ | refine s_join ?_); (try dsimp only [At.ev,d1,d2,d3,d4,d5,d6,d7,d8,d9,e0]))
   have w1 : IntKind.wrap .i64 ((i : Int) - 1) = ((i - 1 : Nat) : Int) := by rw [wrap64 (by omega) (by omega)]; omega
   rw [w1]
   have hi1 : i - 1 < gens.length := by omega
   refine s_row (r := gnR gens[i - 1]) (Int.natCast_nonneg _) (gn_at hr hi1) rfl ?_
   dsimp only [At.ev,d1,d2,d3,d4,d5,d6,d7,d8,d9,e0]
   repeat ((first | refine sN rfl ?_ | refine s_join ?_); (try dsimp only [At.ev,d1,d2,d3,d4,d5,d6,d7,d8,d9,e0]))
   refine s_ite (fun hc => ?_) (fun hc => ?_)
   · have hc : gens[i].num ≤ gens[i - 1].num := of_decide_eq_true hc
     refine s_leaf (s_if rfl (s_leaf ?_))
     show [L.b false] = [L.b b]
     rw [no fun h => by have := (h hi).2.2.1 (by omega); omega]
   have hc : ¬ gens[i].num ≤ gens[i - 1].num := of_decide_eq_false hc
   repeat ((first | refine sN rfl ?_ | refine s_join ?_); (try dsimp only [At.ev,d1,d2,d3,d4,d5,d6,d7,d8,d9,e0]))
   rw [w2]
   obtain ⟨k1,k2⟩ := last (fun _ => by omega) (decide (2 * l1.asI < gens[i].size)) ⟨of_decide_eq_true,decide_eq_true⟩
   refine s_leaf (s_ite (fun hx => ?_) (fun hx => ?_))
   · refine s_leaf ?_
     show [L.b false] = [L.b b]
     rw [k1 hx]
   · exact s_bi rfl (s_leaf (step (k2 hx)))
 · have hp0 : ¬ (0 : Int) < i := of_decide_eq_false hc
   clear hc
   repeat ((first | refine sN rfl ?_ | refine s_join ?_); (try dsimp only [At.ev,d1,d2,d3,d4,d5,d6,d7,d8,d9,e0]))
   rw [w2]
   obtain ⟨k1,k2⟩ := last (fun _ => by omega) (decide (2 * l1.asI < gens[i].size)) ⟨of_decide_eq_true,decide_eq_true⟩
   refine s_leaf (s_ite (fun hx => ?_) (fun hx => ?_))
   · refine s_leaf ?_
     show [L.b false] = [L.b b]
     rw [k1 hx]
   · exact s_bi rfl (s_leaf (step (k2 hx)))
end
section
set_option maxHeartbeats 4000000
open Go.RowKit Pl AI
attribute [local irreducible] Fir.wp
def scanG (gens : List Gn) (k : Int) : Nat → Option (Gn × It)
 | 0 => none
 | i + 1 => match gens[i]? with
  | some g => match findL (items g.map) k with
   | some x => some (g,x)
   | none => scanG gens k i
  | none => none
def plc : Option (Gn × It) → List L
 | some (g,x) => [.b true,.i g.num,.i g.mode,.i g.rev,.i x.key,.i x.cookie,.i x.off,.i x.size]
 | none => [.b false,.i 0,.i 0,.i 0,.i 0,.i 0,.i 0,.i 0]
theorem slotFind_R {l0 l1 l2 l3 lk : L} {gens : List Gn} (hr : l3.asR = gens.map gnR) (hw : ∀ g ∈ gens,WG g) (hn : gens.length ≤ 1000000) (hv : SlotV l0.asI l1.asI gens) : F115 [l0,l1,l2,l3,lk] = some (plc (scanG gens lk.asI gens.length)) := by
 have hlen : l3.asR.length = gens.length := by rw [hr,List.length_map]
 refine eq_of_wp ?_
 unfold fir115
 repeat ((first | refine sN rfl ?_ | refine s_join ?_); (try dsimp only [At.ev,d1,d2,d3,d4,d5,d6,d7,d8,d9,e0]))
 refine wp_loop (I := fun a => ∃ i : Nat,a = [.i ((i : Int) - 1)] ∧ i ≤ gens.length ∧ scanG gens lk.asI gens.length = scanG gens lk.asI i) (mu := fun a => match a with | [.i i] => (i + 1).toNat | _ => 0) ⟨gens.length,?_,by omega,rfl⟩ ?_
 · show [L.i (IntKind.wrap .i64 ((l3.asR.length : Int) - 1))] = _
   rw [wrap64 (by omega) (by omega),hlen]
 rintro a ⟨i,rfl,e1,e2⟩
 dsimp only [At.ev,d1,d2,d3,d4,d5,d6,d7,d8,d9,e0]
 repeat ((first | refine sN rfl ?_ | refine s_join ?_); (try dsimp only [At.ev,d1,d2,d3,d4,d5,d6,d7,d8,d9,e0]))
 refine s_ite (fun hc => ?_) (fun hc => ?_)
 rotate_left
 · have hc : ¬ (0 : Int) ≤ (i : Int) - 1 := of_decide_eq_false hc
   have hi : i = 0 := by omega
   subst hi
   refine s_leaf (s_else rfl (s_leaf (s_leaf ?_)))
   show _ = plc _
   rw [e2]; rfl
 have hc : (0 : Int) ≤ (i : Int) - 1 := of_decide_eq_true hc
 obtain ⟨j,rfl⟩ : ∃ j,i = j + 1 := ⟨i - 1,by omega⟩
 have hj : j < gens.length := by omega
 have hz : ((j + 1 : Nat) : Int) - 1 = (j : Int) := by omega
 rw [hz]
 have h0 : (0 : Int) ≤ ((j : Nat) : Int) := Int.natCast_nonneg j
 refine s_call (slotValid_R hr hw hn (b := true) ⟨fun _ => hv,fun _ => rfl⟩) rfl rfl ?_
 dsimp only [At.ev,d1,d2,d3,d4,d5,d6,d7,d8,d9,e0]
 refine s_leaf (s_if rfl ?_)
 show Fir.wp (Fir.op _ _) [l0,l1,l2,l3,lk,.i ((l3.asR.length : Int)),.i (IntKind.wrap .i64 ((l3.asR.length : Int) - 1)),.i (j : Int),.b true] _
 have hg := hw _ (List.getElem_mem hj)
 have hgv := (hv.2.2.2.1 j hj hj).1
 refine s_row (r := gnR gens[j]) h0 (gn_at hr hj) rfl ?_
 dsimp only [At.ev,d1,d2,d3,d4,d5,d6,d7,d8,d9,e0]
 repeat ((first | refine sN rfl ?_ | refine s_join ?_); (try dsimp only [At.ev,d1,d2,d3,d4,d5,d6,d7,d8,d9,e0]))
 refine s_call (get_R hg.str rfl rfl hgv.2.2.1 lk) (fndL_len _ _) rfl ?_
 have hs : scanG gens lk.asI (j + 1) = match findL (items gens[j].map) lk.asI with
     | some x => some (gens[j],x)
     | none => scanG gens lk.asI j := by
   rw [scanG,List.getElem?_eq_getElem hj]
 cases hf : findL (items gens[j].map) lk.asI with
 | none =>
   have hfn : fndL (items gens[j].map) lk.asI = [.b false,.i 0,.i 0,.i 0,.i 0] := by unfold fndL; rw [hf]
   rw [hfn]
   dsimp only [At.ev,d1,d2,d3,d4,d5,d6,d7,d8,d9,e0]
   refine s_else rfl ?_
   repeat ((first | refine sN rfl ?_ | refine s_join ?_); (try dsimp only [At.ev,d1,d2,d3,d4,d5,d6,d7,d8,d9,e0]))
   refine s_leaf ⟨⟨j,?_,by omega,?_⟩,?_⟩
   · show [L.i (IntKind.wrap .i64 ((j : Int) - 1))] = _
     rw [wrap64 (by omega) (by omega)]
   · rw [e2,hs,hf]
   · show (IntKind.wrap .i64 ((j : Int) - 1) + 1).toNat < ((j : Int) + 1).toNat
     rw [wrap64 (by omega) (by omega)]; omega
 | some x =>
   have hfn : fndL (items gens[j].map) lk.asI = [.b true,.i x.key,.i x.cookie,.i x.off,.i x.size] := by unfold fndL; rw [hf]
   rw [hfn]
   dsimp only [At.ev,d1,d2,d3,d4,d5,d6,d7,d8,d9,e0]
   refine s_if rfl ?_
   refine s_row (r := gnR gens[j]) h0 (gn_at hr hj) rfl ?_
   dsimp only [At.ev,d1,d2,d3,d4,d5,d6,d7,d8,d9,e0]
   repeat ((first | refine sN rfl ?_ | refine s_join ?_); (try dsimp only [At.ev,d1,d2,d3,d4,d5,d6,d7,d8,d9,e0]))
   refine s_row (r := gnR gens[j]) h0 (gn_at hr hj) rfl ?_
   dsimp only [At.ev,d1,d2,d3,d4,d5,d6,d7,d8,d9,e0]
   repeat ((first | refine sN rfl ?_ | refine s_join ?_); (try dsimp only [At.ev,d1,d2,d3,d4,d5,d6,d7,d8,d9,e0]))
   refine s_row (r := gnR gens[j]) h0 (gn_at hr hj) rfl ?_
   dsimp only [At.ev,d1,d2,d3,d4,d5,d6,d7,d8,d9,e0]
   repeat ((first | refine sN rfl ?_ | refine s_join ?_); (try dsimp only [At.ev,d1,d2,d3,d4,d5,d6,d7,d8,d9,e0]))
   refine s_leaf ?_
   show [L.b true,L.i gens[j].num,L.i gens[j].mode,L.i gens[j].rev,L.i x.key,L.i x.cookie,L.i x.off,L.i x.size] = plc _
   rw [e2,hs,hf]; rfl
theorem slotFind_no {l0 l1 l2 l3 lk : L} {gens : List Gn} (hr : l3.asR = gens.map gnR) (hw : ∀ g ∈ gens,WG g) (hn : gens.length ≤ 1000000) (hv : ¬ SlotV l0.asI l1.asI gens) : F115 [l0,l1,l2,l3,lk] = some (plc none) := by
 have hlen : l3.asR.length = gens.length := by rw [hr,List.length_map]
 refine eq_of_wp ?_
 unfold fir115
 repeat ((first | refine sN rfl ?_ | refine s_join ?_); (try dsimp only [At.ev,d1,d2,d3,d4,d5,d6,d7,d8,d9,e0]))
 refine wp_loop (I := fun a => ∃ i : Int,a = [.i i]) (mu := fun _ => 0) ⟨_,rfl⟩ ?_
 rintro a ⟨i,rfl⟩
 repeat ((first | refine sN rfl ?_ | refine s_join ?_); (try dsimp only [At.ev,d1,d2,d3,d4,d5,d6,d7,d8,d9,e0]))
 refine s_ite (fun hc => ?_) (fun hc => ?_)
 · refine s_call (slotValid_R hr hw hn (b := false) ⟨fun h => (by cases h),fun h => absurd h hv⟩) rfl rfl ?_
   dsimp only [At.ev,d1,d2,d3,d4,d5,d6,d7,d8,d9,e0]
   exact s_leaf (s_else rfl (s_leaf (s_leaf rfl)))
 · exact s_leaf (s_else rfl (s_leaf (s_leaf rfl)))
end
section
set_option maxHeartbeats 4000000
open Go.RowKit Pl AI
attribute [local irreducible] Fir.wp
theorem nokIt_P (x : It) : F8 [.i x.key,.i x.cookie,.i x.off,.i x.size] = some [.b (!okIt x)] := by
 refine eq_of_wp ?_
 unfold fir8
 refine s_call (okIt_P x) rfl rfl ?_
 dsimp only [At.ev,d1,d2,d3,d4,d5,d6,d7,d8,d9,e0]
 repeat ((first | refine sN rfl ?_ | refine s_join ?_); (try dsimp only [At.ev,d1,d2,d3,d4,d5,d6,d7,d8,d9,e0]))
 exact s_leaf rfl
def ascStep (l : List It) (i : Nat) : Prop := ∀ (h : i < l.length) (h0 : 0 < i),(l[i - 1]'(by omega)).key < l[i].key
theorem asc_step {l : List It} : asc l ↔ ∀ i,i < l.length → ascStep l i := by
 rw [asc_iff]
 constructor
 · intro h i hi hi' h0
   have := h (i - 1) (by omega)
   simpa [show i - 1 + 1 = i by omega] using this
 · intro h i hi
   have := h (i + 1) hi hi (by omega)
   simpa using this
theorem asc_P (l0 : L) (l : List It) (hr : l0.asR = l.map itR) (hn : l.length ≤ 1000000) {b : Bool} (hb : b = true ↔ asc l) : F9 [l0] = some [.b b] := by
 rw [asc_step] at hb
 have hlen := it_len hr
 refine eq_of_wp ?_
 unfold fir9
 repeat ((first | refine sN rfl ?_ | refine s_join ?_); (try dsimp only [At.ev,d1,d2,d3,d4,d5,d6,d7,d8,d9,e0]))
 refine wp_loop (I := fun a => ∃ i : Nat,a = [.i i] ∧ i ≤ l.length ∧ ∀ j,j < i → ascStep l j) (mu := fun a => match a with | [.i i] => l.length - i.toNat | _ => 0) ⟨0,rfl,by omega,fun j hj => by omega⟩ ?_
 rintro a ⟨i,rfl,e1,e2⟩
 repeat ((first | refine sN rfl ?_ | refine s_join ?_); (try dsimp only [At.ev,d1,d2,d3,d4,d5,d6,d7,d8,d9,e0]))
 refine s_ite (fun hc => ?_) (fun hc => ?_)
 rotate_left
 · have hc : ¬ (i : Int) < l0.asR.length := of_decide_eq_false hc
   refine s_leaf (s_leaf ?_)
   show [L.b true] = [L.b b]
   rw [hb.2 fun j hj => e2 j (by omega)]
 have hc : (i : Int) < l0.asR.length := of_decide_eq_true hc
 have hi : i < l.length := by omega
 have no : ¬ ascStep l i → b = false := fun h => bool_no hb fun hv => h (hv i hi)
 have h0 : (0 : Int) ≤ (i : Int) := Int.natCast_nonneg i
 refine s_row (r := itR l[i]) h0 (it_at hr hi) rfl ?_
 dsimp only [At.ev,d1,d2,d3,d4,d5,d6,d7,d8,d9,e0]
 repeat ((first | refine sN rfl ?_ | refine s_join ?_); (try dsimp only [At.ev,d1,d2,d3,d4,d5,d6,d7,d8,d9,e0]))
 have step : ascStep l i → (∃ i_1 : Nat,[L.i (IntKind.wrap .i64 ((i : Int) + 1))] = [L.i i_1] ∧ i_1 ≤ l.length ∧ ∀ j,j < i_1 → ascStep l j) ∧ l.length - (IntKind.wrap .i64 ((i : Int) + 1)).toNat < l.length - i := fun hs => by
   rw [wrap_up (by omega)]
   refine ⟨⟨i + 1,rfl,by omega,fun j hj => ?_⟩,by omega⟩
   by_cases hji : j = i
   · subst hji; exact hs
   · exact e2 j (by omega)
 refine s_ite (fun hc => ?_) (fun hc => ?_)
 rotate_left
 · have hp : ¬ (0 : Int) < i := of_decide_eq_false hc
   exact s_leaf (s_else rfl (s_bi rfl (s_leaf (step fun _ h => by omega))))
 have hp : (0 : Int) < i := of_decide_eq_true hc
 repeat ((first | refine sN rfl ?_ | refine s_join ?_); (try dsimp only [At.ev,d1,d2,d3,d4,d5,d6,d7,d8,d9,e0]))
 have w1 : IntKind.wrap .i64 ((i : Int) - 1) = ((i - 1 : Nat) : Int) := by rw [wrap64 (by omega) (by omega)]; omega
 rw [w1]
 have hi1 : i - 1 < l.length := by omega
 refine s_row (r := itR l[i - 1]) (Int.natCast_nonneg _) (it_at hr hi1) rfl ?_
 dsimp only [At.ev,d1,d2,d3,d4,d5,d6,d7,d8,d9,e0]
 repeat ((first | refine sN rfl ?_ | refine s_join ?_); (try dsimp only [At.ev,d1,d2,d3,d4,d5,d6,d7,d8,d9,e0]))
 refine s_leaf (s_ite (fun hx => ?_) (fun hx => ?_))
 · have hx : l[i].key ≤ l[i - 1].key := of_decide_eq_true hx
   refine s_leaf ?_
   show [L.b false] = [L.b b]
   rw [no fun h => by have := h hi (by omega); omega]
 · have hx : ¬ l[i].key ≤ l[i - 1].key := of_decide_eq_false hx
   exact s_bi rfl (s_leaf (step fun _ _ => by omega))
theorem index_P (l0 : L) (l : List It) (hr : l0.asR = l.map itR) (hn : l.length ≤ 1000000) : ∃ k : Int,F84 [l0] = some [.i k] ∧ (0 ≤ k ↔ ¬ ∀ x ∈ l,okIt x = true) := by
 have hlen := it_len hr
 suffices h : ∃ o,Fo fir84 [l0] = some o ∧ ∃ k : Int,o = [.i k] ∧ (0 ≤ k ↔ ¬ ∀ x ∈ l,okIt x = true) by
   obtain ⟨o,h1,k,rfl,h2⟩ := h
   exact ⟨k,h1,h2⟩
 refine outO_of_wp ?_
 unfold fir84
 repeat ((first | refine sN rfl ?_ | refine s_join ?_); (try dsimp only [At.ev,d1,d2,d3,d4,d5,d6,d7,d8,d9,e0]))
 refine wp_loop (I := fun a => ∃ i : Nat,a = [.i i] ∧ i ≤ l.length ∧ ∀ (j : Nat) (hj : j < l.length),j < i → okIt l[j] = true) (mu := fun a => match a with | [.i i] => l.length - i.toNat | _ => 0) ⟨0,rfl,by omega,fun j _ hj => by omega⟩ ?_
 rintro a ⟨i,rfl,e1,e2⟩
 repeat ((first | refine sN rfl ?_ | refine s_join ?_); (try dsimp only [At.ev,d1,d2,d3,d4,d5,d6,d7,d8,d9,e0]))
 refine s_ite (fun hc => ?_) (fun hc => ?_)
 rotate_left
 · have hc : ¬ (i : Int) < l0.asR.length := of_decide_eq_false hc
   refine s_leaf (s_leaf ⟨-1,rfl,fun h => by omega,fun h => absurd (fun x hx => ?_) h⟩)
   obtain ⟨j,hj,rfl⟩ := List.getElem_of_mem hx
   exact e2 j hj (by omega)
 have hc : (i : Int) < l0.asR.length := of_decide_eq_true hc
 have hi : i < l.length := by omega
 have h0 : (0 : Int) ≤ (i : Int) := Int.natCast_nonneg i
 refine s_row (r := itR l[i]) h0 (it_at hr hi) rfl ?_
 dsimp only [At.ev,d1,d2,d3,d4,d5,d6,d7,d8,d9,e0]
 repeat ((first | refine sN rfl ?_ | refine s_join ?_); (try dsimp only [At.ev,d1,d2,d3,d4,d5,d6,d7,d8,d9,e0]))
 refine s_call (nokIt_P l[i]) rfl rfl ?_
 dsimp only [At.ev,d1,d2,d3,d4,d5,d6,d7,d8,d9,e0]
 refine s_ite (fun hk => ?_) (fun hk => ?_)
 · have hk : (!okIt l[i]) = true := hk
   refine s_leaf ⟨i,rfl,fun _ h => ?_,fun _ => h0⟩
   rw [h _ (List.getElem_mem hi)] at hk; cases hk
 · have hk : (!okIt l[i]) = false := hk
   repeat ((first | refine sN rfl ?_ | refine s_join ?_); (try dsimp only [At.ev,d1,d2,d3,d4,d5,d6,d7,d8,d9,e0]))
   refine s_leaf ⟨⟨i + 1,?_,by omega,fun j hj hji => ?_⟩,?_⟩
   · show [L.i (IntKind.wrap .i64 ((i : Int) + 1))] = _
     rw [wrap_up (by omega)]
   · by_cases hji' : j = i
     · subst hji'; simpa using hk
     · exact e2 j hj (by omega)
   · show l.length - (IntKind.wrap .i64 ((i : Int) + 1)).toNat < l.length - i
     rw [wrap_up (by omega)]; omega
theorem contains_P (l0 : L) (l : List It) (hr : l0.asR = l.map itR) (hn : l.length ≤ 1000000) {b : Bool} (hb : b = true ↔ ¬ ∀ x ∈ l,okIt x = true) : F87 [l0] = some [.b b] := by
 obtain ⟨k,h1,h2⟩ := index_P l0 l hr hn
 refine eq_of_wp ?_
 unfold fir87
 refine s_call h1 rfl rfl ?_
 dsimp only [At.ev,d1,d2,d3,d4,d5,d6,d7,d8,d9,e0]
 repeat ((first | refine sN rfl ?_ | refine s_join ?_); (try dsimp only [At.ev,d1,d2,d3,d4,d5,d6,d7,d8,d9,e0]))
 refine s_leaf ?_
 show [L.b (decide (0 ≤ k))] = [L.b b]
 by_cases hk : 0 ≤ k
 · rw [decide_eq_true hk,hb.2 (h2.1 hk)]
 · rw [decide_eq_false hk,bool_no hb fun h => hk (h2.2 h)]
theorem VL_P (l0 : L) (l : List It) (hr : l0.asR = l.map itR) (hn : l.length ≤ 1000000) {b : Bool} (hb : b = true ↔ VL l) : F91 [l0] = some [.b b] := by
 refine eq_of_wp ?_
 unfold fir91
 refine s_join ?_
 by_cases ha : asc l
 rotate_left
 · refine s_call (asc_P l0 l hr hn (b := false) ⟨fun h => (by cases h),fun h => absurd h ha⟩) rfl rfl ?_
   dsimp only [At.ev,d1,d2,d3,d4,d5,d6,d7,d8,d9,e0]
   refine s_else rfl (s_leaf (s_leaf ?_))
   show [L.b false] = [L.b b]
   rw [bool_no hb fun h => ha h.1]
 refine s_call (asc_P l0 l hr hn (b := true) ⟨fun _ => ha,fun _ => rfl⟩) rfl rfl ?_
 dsimp only [At.ev,d1,d2,d3,d4,d5,d6,d7,d8,d9,e0]
 refine s_if rfl ?_
 by_cases ho : ∀ x ∈ l,okIt x = true
 · refine s_call (contains_P l0 l hr hn (b := false) ⟨fun h => (by cases h),fun h => absurd ho h⟩) rfl rfl ?_
   dsimp only [At.ev,d1,d2,d3,d4,d5,d6,d7,d8,d9,e0]
   repeat ((first | refine sN rfl ?_ | refine s_join ?_); (try dsimp only [At.ev,d1,d2,d3,d4,d5,d6,d7,d8,d9,e0]))
   refine s_leaf (s_leaf ?_)
   show [L.b true] = [L.b b]
   rw [hb.2 ⟨ha,ho⟩]
 · refine s_call (contains_P l0 l hr hn (b := true) ⟨fun _ => ho,fun _ => rfl⟩) rfl rfl ?_
   dsimp only [At.ev,d1,d2,d3,d4,d5,d6,d7,d8,d9,e0]
   repeat ((first | refine sN rfl ?_ | refine s_join ?_); (try dsimp only [At.ev,d1,d2,d3,d4,d5,d6,d7,d8,d9,e0]))
   refine s_leaf (s_leaf ?_)
   show [L.b false] = [L.b b]
   rw [bool_no hb fun h => ho h.2]
theorem length_P (a b c d : L) : F11 [a,b,c,d] = some [.i (szR d.asI)] := by
 refine eq_of_wp ?_
 unfold fir11
 refine s_call (size_P d) rfl rfl ?_
 exact s_leaf rfl
end
section
set_option maxHeartbeats 4000000
open Go.RowKit Pl AI
attribute [local irreducible] Fir.wp
theorem mapValid_P {m : Mp} {s0 s1 s2 s3 s4 s5 s6 s7 l8 l9 : L} (h : Str m s0 s1 s2 s3 s4 s5 s6 s7) (h8 : l8.asI = m.live) (h9 : l9.asI = m.garb) {b : Bool} (hb : b = true ↔ MV m) :
   F92 [s0,s1,s2,s3,s4,s5,s6,s7,l8,l9] = some [.b b] := by
 have no : ∀ s,s < 8 → ¬ stOk m s → b = false := fun s hs hk => bool_no hb fun hv => hk (hv.1 s hs)
 refine eq_of_wp ?_
 unfold fir92
 refine s_join ?_
 refine wp_loop (I := fun a => ∃ s : Nat,a = [.i (sumSz ((List.range s).flatMap m.st)),.i s] ∧ s ≤ 8 ∧ ∀ t,t < s → stOk m t) (mu := fun a => match a with | [_,.i i] => 8 - i.toNat | _ => 0) ⟨0,rfl,by omega,fun t ht => by omega⟩ ?_
 rintro a ⟨s,rfl,e1,e2⟩
 repeat ((first | refine sN rfl ?_ | refine s_join ?_); (try dsimp only [At.ev,d1,d2,d3,d4,d5,d6,d7,d8,d9,e0]))
 refine s_ite (fun hc => ?_) (fun hc => ?_)
 rotate_left
 · have hc : ¬ (s : Int) < 8 := of_decide_eq_false hc
   have hs : s = 8 := by omega
   subst hs
   refine s_leaf ?_
   have hS : Stripes m := fun t ht => e2 t ht
   show Fir.wp (Fir.join _ _) [s0,s1,s2,s3,s4,s5,s6,s7,l8,l9,.i (sumSz (cat m))] _
   repeat ((first | refine sN rfl ?_ | refine s_join ?_); (try dsimp only [At.ev,d1,d2,d3,d4,d5,d6,d7,d8,d9,e0]))
   refine s_ite (fun hc => ?_) (fun hc => ?_)
   rotate_left
   · have hc : ¬ l8.asI = sumSz (cat m) := of_decide_eq_false hc
     refine s_leaf (s_leaf ?_)
     show [L.b false] = [L.b b]
     rw [bool_no hb fun hv => hc (h8.trans hv.2.1)]
   have hc : l8.asI = sumSz (cat m) := of_decide_eq_true hc
   repeat ((first | refine sN rfl ?_ | refine s_join ?_); (try dsimp only [At.ev,d1,d2,d3,d4,d5,d6,d7,d8,d9,e0]))
   refine s_ite (fun hg => ?_) (fun hg => ?_)
   rotate_left
   · have hg : ¬ (0 : Int) ≤ l9.asI := of_decide_eq_false hg
     refine s_leaf (s_leaf ?_)
     show [L.b false] = [L.b b]
     rw [bool_no hb fun hv => hg (by rw [h9]; exact hv.2.2.1)]
   have hg : (0 : Int) ≤ l9.asI := of_decide_eq_true hg
   repeat ((first | refine sN rfl ?_ | refine s_join ?_); (try dsimp only [At.ev,d1,d2,d3,d4,d5,d6,d7,d8,d9,e0]))
   refine s_leaf (s_leaf ?_)
   show [L.b (decide (l9.asI ≤ 1099511627776))] = [L.b b]
   by_cases hg2 : l9.asI ≤ 1099511627776
   · rw [decide_eq_true hg2,hb.2 ⟨hS,by rw [← h8,hc],by rw [← h9]; exact hg,by rw [← h9]; exact hg2⟩]
   · rw [decide_eq_false hg2,bool_no hb fun hv => hg2 (by rw [h9]; exact hv.2.2.2)]
 have hc : (s : Int) < 8 := of_decide_eq_true hc
 have hs : s < 8 := by omega
 have hbnd : (0 : Int) ≤ (s : Int) ∧ (s : Int) < ((8 : Nat) : Int) := ⟨Int.natCast_nonneg s,by omega⟩
 have hlen := h.hn s
 have g1 := sumSz_le ((List.range s).flatMap m.st)
 have g2 := flat_len h.hn s
 refine s_join ?_
 refine s_bnd hbnd ?_
 dsimp only [At.ev,d1,d2,d3,d4,d5,d6,d7,d8,d9,e0]
 refine s_selS h hs rfl rfl fun sl hr => ?_
 dsimp only [At.ev,d1,d2,d3,d4,d5,d6,d7,d8,d9,e0]
 have hl2 := it_len hr
 by_cases hv : VL (m.st s)
 rotate_left
 · refine s_call (VL_P sl (m.st s) hr (by omega) (b := false) ⟨fun h => (by cases h),fun h => absurd h hv⟩) rfl rfl ?_
   dsimp only [At.ev,d1,d2,d3,d4,d5,d6,d7,d8,d9,e0]
   repeat ((first | refine sN rfl ?_ | refine s_join ?_); (try dsimp only [At.ev,d1,d2,d3,d4,d5,d6,d7,d8,d9,e0]))
   refine s_if rfl (s_leaf ?_)
   show [L.b false] = [L.b b]
   rw [no s hs fun h => hv h.1]
 refine s_call (VL_P sl (m.st s) hr (by omega) (b := true) ⟨fun _ => hv,fun _ => rfl⟩) rfl rfl ?_
 dsimp only [At.ev,d1,d2,d3,d4,d5,d6,d7,d8,d9,e0]
 repeat ((first | refine sN rfl ?_ | refine s_join ?_); (try dsimp only [At.ev,d1,d2,d3,d4,d5,d6,d7,d8,d9,e0]))
 refine s_else rfl ?_
 repeat ((first | refine sN rfl ?_ | refine s_join ?_); (try dsimp only [At.ev,d1,d2,d3,d4,d5,d6,d7,d8,d9,e0]))
 refine wp_loop (I := fun a => ∃ j : Nat,a = [.i (sumSz ((List.range s).flatMap m.st) + sumSz ((m.st s).take j)),.i j] ∧ j ≤ (m.st s).length ∧ ∀ (t : Nat) (ht : t < (m.st s).length),t < j → stripe (m.st s)[t].key = s) (mu := fun a => match a with | [_,.i i] => (m.st s).length - i.toNat | _ => 0) ⟨0,by simp [At.ev,sumSz],by omega,fun t ht h => by omega⟩ ?_
 rintro a ⟨j,rfl,f1,f2⟩
 dsimp only [At.ev,d1,d2,d3,d4,d5,d6,d7,d8,d9,e0]
 repeat ((first | refine sN rfl ?_ | refine s_join ?_); (try dsimp only [At.ev,d1,d2,d3,d4,d5,d6,d7,d8,d9,e0]))
 refine s_ite (fun hj => ?_) (fun hj => ?_)
 · have hj : (j : Int) < sl.asR.length := of_decide_eq_true hj
   have hj' : j < (m.st s).length := by omega
   refine s_row (r := itR (m.st s)[j]) (Int.natCast_nonneg j) (it_at hr hj') rfl ?_
   dsimp only [At.ev,d1,d2,d3,d4,d5,d6,d7,d8,d9,e0]
   repeat ((first | refine sN rfl ?_ | refine s_join ?_); (try dsimp only [At.ev,d1,d2,d3,d4,d5,d6,d7,d8,d9,e0]))
   have hk := h.hk s _ (List.getElem_mem hj')
   refine s_call (stripe_P (m.st s)[j].key (by omega) (by omega)) rfl rfl ?_
   dsimp only [At.ev,d1,d2,d3,d4,d5,d6,d7,d8,d9,e0]
   repeat ((first | refine sN rfl ?_ | refine s_join ?_); (try dsimp only [At.ev,d1,d2,d3,d4,d5,d6,d7,d8,d9,e0]))
   refine s_ite (fun hq => ?_) (fun hq => ?_)
   · have hq : stripe (m.st s)[j].key ≠ (s : Int) := of_decide_eq_true hq
     refine s_leaf ?_
     show [L.b false] = [L.b b]
     rw [no s hs fun h => hq (h.2 _ (List.getElem_mem hj'))]
   · have hq : ¬ stripe (m.st s)[j].key ≠ (s : Int) := of_decide_eq_false hq
     refine s_call (length_P (.i (m.st s)[j].key) (.i (m.st s)[j].cookie) (.i (m.st s)[j].off) (.i (m.st s)[j].size)) rfl rfl ?_
     dsimp only [At.ev,d1,d2,d3,d4,d5,d6,d7,d8,d9,e0]
     repeat ((first | refine sN rfl ?_ | refine s_join ?_); (try dsimp only [At.ev,d1,d2,d3,d4,d5,d6,d7,d8,d9,e0]))
     have g3 := sumSz_le ((m.st s).take j)
     have g4 := szR_le (m.st s)[j].size
     have g5 : ((m.st s).take j).length ≤ 8 := by rw [List.length_take]; omega
     refine s_leaf ⟨⟨j + 1,?_,by omega,fun t ht hj2 => ?_⟩,?_⟩
     · show [L.i (IntKind.wrap .i64 (sumSz ((List.range s).flatMap m.st) + sumSz ((m.st s).take j) + szR (m.st s)[j].size)),L.i (IntKind.wrap .i64 ((j : Int) + 1))] = _
       rw [wrap_up (by omega),wrap64 (by omega) (by omega),take_snoc hj',sumSz_snoc,Int.add_assoc]
     · by_cases htj : t = j
       · subst htj; exact Classical.byContradiction hq
       · exact f2 t ht (by omega)
     · show (m.st s).length - (IntKind.wrap .i64 ((j : Int) + 1)).toNat < (m.st s).length - j
       rw [wrap_up (by omega)]; omega
 · have hj : ¬ (j : Int) < sl.asR.length := of_decide_eq_false hj
   have hok : stOk m s := ⟨hv,fun y hy => by
     obtain ⟨t,ht,rfl⟩ := List.getElem_of_mem hy
     exact f2 t ht (by omega)⟩
   refine s_leaf ?_
   show Fir.wp (Fir.op _ _) [s0,s1,s2,s3,s4,s5,s6,s7,l8,l9,.i (sumSz ((List.range s).flatMap m.st)),.i s,.b (decide ((s : Int) < 8)),.i (sumSz ((List.range s).flatMap m.st) + sumSz ((m.st s).take j))] _
   repeat ((first | refine sN rfl ?_ | refine s_join ?_); (try dsimp only [At.ev,d1,d2,d3,d4,d5,d6,d7,d8,d9,e0]))
   refine s_leaf ⟨⟨s + 1,?_,by omega,fun t ht => ?_⟩,?_⟩
   · show [L.i (sumSz ((List.range s).flatMap m.st) + sumSz ((m.st s).take j)),L.i (IntKind.wrap .i64 ((s : Int) + 1))] = _
     rw [wrap_up (by omega),flat_snoc,sumSz_app,List.take_of_length_le (by omega)]
   · by_cases hts : t = s
     · subst hts; exact hok
     · exact e2 t (by omega)
   · show 8 - (IntKind.wrap .i64 ((s : Int) + 1)).toNat < 8 - s
     rw [wrap_up (by omega)]; omega
end
section
set_option maxHeartbeats 4000000
open Go.RowKit Pl AI
attribute [local irreducible] Fir.wp
theorem s_setI {ρ : List L} {Q : Lf × List L → Prop} {k : Fir} {x i : At} {ps : List (Kd × At)} {d : List It} {j : Nat} {z : It} (hx : (x.ev ρ).asR = d.map itR) (hi : (i.ev ρ).asI.toNat = j) (hj : j < d.length) (hps : pvsOf ρ ps = itR z) (hl : ps.length = 4)
  (hk : ∀ y : L,y.asR = (d.set j z).map itR → k.wp (ρ ++ [y]) Q) : (Fir.op (.set x i 0 ps) k).wp ρ Q := by
 have hr : (x.ev ρ).asR[(i.ev ρ).asI.toNat]? = some (itR d[j]) := by rw [hi]; exact it_at hx hj
 refine s_set hr (by rw [hl]; exact Nat.le_refl 4) (hk _ ?_)
 rw [asR_r,hx,hi,hps,hl,List.map_set]
 simp [itR]
def insFir (t : Nat) (F : List L → Option (List L)) : Fir :=
 .op (.bi .add .i64 (.v 1) (.i 1)) <|
 .loop [(.v 3),(.v 0)]
  (.op (.bi .lss .i64 (.v 4) (.v 2)) <|
  .ite (.v 6)
   (.join
    (.loop [(.v 4),(.v 5)]
     (.join
      (.op (.bi .gtr .i64 (.v 7) (.v 1)) <|
      .ite (.v 9)
       (.op (.row (.v 8) (.v 7) 4) <|
       .op (.rc (.v 8) (.v 7) 0 (.int .u64)) <|
       .op (.rc (.v 8) (.v 7) 1 (.int .u32)) <|
       .op (.rc (.v 8) (.v 7) 2 (.int .i64)) <|
       .op (.rc (.v 8) (.v 7) 3 (.int .i64)) <|
       .op (.bi .sub .i64 (.v 7) (.i 1)) <|
       .op (.row (.v 8) (.v 15) 4) <|
       .op (.rc (.v 8) (.v 15) 0 (.int .u64)) <|
       .op (.rc (.v 8) (.v 15) 1 (.int .u32)) <|
       .op (.rc (.v 8) (.v 15) 2 (.int .i64)) <|
       .op (.rc (.v 8) (.v 15) 3 (.int .i64)) <|
       .op (.call t F [(.v 11),(.v 12),(.v 13),(.v 14),(.v 17),(.v 18),(.v 19),(.v 20)] 1 []) <|
       .op (.bi .lss .i64 (.v 21) (.i 0)) <|
       .leaf (.jump 0 [(.v 22)]))
       (.leaf (.jump 0 [(.b false)])))
      (.ite (.v 9)
       (.op (.bi .sub .i64 (.v 7) (.i 1)) <|
       .op (.bi .sub .i64 (.v 7) (.i 1)) <|
       .op (.row (.v 8) (.v 11) 4) <|
       .op (.rc (.v 8) (.v 11) 0 (.int .u64)) <|
       .op (.rc (.v 8) (.v 11) 1 (.int .u32)) <|
       .op (.rc (.v 8) (.v 11) 2 (.int .i64)) <|
       .op (.rc (.v 8) (.v 11) 3 (.int .i64)) <|
       .op (.row (.v 8) (.v 7) 4) <|
       .op (.rc (.v 8) (.v 7) 0 (.int .u64)) <|
       .op (.rc (.v 8) (.v 7) 1 (.int .u32)) <|
       .op (.rc (.v 8) (.v 7) 2 (.int .i64)) <|
       .op (.rc (.v 8) (.v 7) 3 (.int .i64)) <|
       .op (.row (.v 8) (.v 7) 4) <|
       .op (.set (.v 8) (.v 7) 0 [((.int .u64),(.v 13)),((.int .u32),(.v 14)),((.int .i64),(.v 15)),((.int .i64),(.v 16))]) <|
       .op (.row (.v 23) (.v 10) 4) <|
       .op (.set (.v 23) (.v 10) 0 [((.int .u64),(.v 18)),((.int .u32),(.v 19)),((.int .i64),(.v 20)),((.int .i64),(.v 21))]) <|
       .op (.bi .sub .i64 (.v 7) (.i 1)) <|
       .leaf (.jump 0 [(.v 26),(.v 25)]))
       (.leaf (.jump 1 [(.v 8)])))))
    (.op (.bi .add .i64 (.v 4) (.i 1)) <|
    .leaf (.jump 0 [(.v 8),(.v 7)])))
   (.leaf (.jump 1 [(.v 5)])))
def SortTo (f : It → Int) (d : List It) (i : Nat) : Prop := ∀ (p q : Nat) (hq : q < d.length) (hp : p < q),q < i → f (d[p]'(by omega)) ≤ f d[q]
def SortBut (f : It → Int) (d : List It) (i j : Nat) : Prop := ∀ (p q : Nat) (hq : q < d.length) (hp : p < q),q ≤ i → q ≠ j → f (d[p]'(by omega)) ≤ f d[q]
theorem SortBut.swap {f : It → Int} {d : List It} {i j : Nat} (hj : j < d.length) (h0 : 0 < j) (hji : j ≤ i) (h : SortBut f d i j) (hlt : f d[j] < f (d[j - 1]'(by omega))) : SortBut f ((d.set j (d[j - 1]'(by omega))).set (j - 1) d[j]) i (j - 1) := by
 intro p q hq hp hqi hqj
 simp only [List.length_set] at hq
 simp only [List.getElem_set]
 have e : (j - 1 = q) = False := by simp; omega
 simp only [e,if_false]
 by_cases hq1 : j = q
 · subst hq1
   simp only [if_true]
   by_cases hp1 : j - 1 = p
   · subst hp1; simp only [if_true]; omega
   · have : ¬ j = p := by omega
     simp only [hp1,this,if_false]
     exact h p (j - 1) (by omega) (by omega) (by omega) (by omega)
 · simp only [hq1,if_false]
   by_cases hp1 : j - 1 = p
   · subst hp1; simp only [if_true]
     exact h j q hq (by omega) hqi (fun e => hq1 e.symm)
   · simp only [hp1,if_false]
     by_cases hp2 : j = p
     · simp only [hp2,if_true]
       subst hp2
       exact h (j - 1) q hq (by omega) hqi (fun e => hq1 e.symm)
     · simp only [hp2,if_false]
       exact h p q hq hp hqi (fun e => hq1 e.symm)
theorem SortBut.done {f : It → Int} {d : List It} {i j : Nat} (hj : j < d.length) (hji : j ≤ i) (h : SortBut f d i j) (hx : j = 0 ∨ ∃ h0 : 0 < j,¬ f d[j] < f (d[j - 1]'(by omega))) : SortTo f d (i + 1) := by
 intro p q hq hp hqi
 by_cases hqj : q = j
 · subst hqj
   rcases hx with hx | ⟨h0,hx⟩
   · omega
   · by_cases hp1 : p = q - 1
     · subst hp1; omega
     · have := h p (q - 1) (by omega) (by omega) (by omega) (by omega)
       omega
 · exact h p q hq hp (by omega) hqj
theorem ins_law {t : Nat} {F : List L → Option (List L)} (f : It → Int) (hF : ∀ x y : It,∃ c : Int,F [.i x.key,.i x.cookie,.i x.off,.i x.size,.i y.key,.i y.cookie,.i y.off,.i y.size] = some [.i c] ∧ (c < 0 ↔ f x < f y))
   (l0 la lb : L) (l : List It) (hr : l0.asR = l.map itR) (hn : l.length ≤ 1000) (ha : la.asI = 0) (hb : lb.asI = l.length) :
   ∃ o,outO ((insFir t F).den [l0,la,lb]) = some o ∧ ∃ (x : L) (d : List It),o = [x] ∧ x.asR = d.map itR ∧ d.Perm l ∧ SortTo f d d.length := by
 refine outO_of_wp ?_
 unfold insFir
 repeat ((first | refine sN rfl ?_ | refine s_join ?_); (try dsimp only [At.ev,d1,d2,d3,d4,d5,d6,d7,d8,d9,e0]))
 rw [ha]
 have w01 : IntKind.wrap .i64 (0 + 1) = 1 := by decide
 rw [w01]
 refine wp_loop (I := fun a => ∃ (i : Nat) (x : L) (d : List It),a = [.i i,x] ∧ 1 ≤ i ∧ (i ≤ l.length ∨ i = 1) ∧ x.asR = d.map itR ∧ d.Perm l ∧ SortTo f d i) (mu := fun a => match a with | [.i i,_] => l.length - i.toNat | _ => 0) ⟨1,l0,l,rfl,by omega,by omega,hr,List.Perm.refl _,fun p q hq hp h => by omega⟩ ?_
 rintro a ⟨i,x,d,rfl,e1,e2,hx,hp,hs⟩
 have hdl := hp.length_eq
 repeat ((first | refine sN rfl ?_ | refine s_join ?_); (try dsimp only [At.ev,d1,d2,d3,d4,d5,d6,d7,d8,d9,e0]))
 refine s_ite (fun hc => ?_) (fun hc => ?_)
 rotate_left
 · have hc : ¬ (i : Int) < lb.asI := of_decide_eq_false hc
   refine s_leaf ⟨x,d,rfl,hx,hp,fun p q hq hpq hqn => hs p q hq hpq (by omega)⟩
 have hc : (i : Int) < lb.asI := of_decide_eq_true hc
 have hi : i < l.length := by omega
 refine s_join ?_
 refine wp_loop (I := fun a => ∃ (j : Nat) (x : L) (d : List It),a = [.i j,x] ∧ j ≤ i ∧ x.asR = d.map itR ∧ d.Perm l ∧ SortBut f d i j) (mu := fun a => match a with | [.i j,_] => j.toNat | _ => 0) ⟨i,x,d,rfl,Nat.le_refl i,hx,hp,fun p q hq hpq hqi hqn => hs p q hq hpq (by omega)⟩ ?_
 clear hx hp hs hdl
 rintro a ⟨j,y,e,rfl,f1,hy,hp,hs⟩
 have hel := hp.length_eq
 have hj : j < e.length := by omega
 have hjn : (0 : Int) ≤ (j : Int) := Int.natCast_nonneg j
 have fin : ∀ z : Bool,(z = true ↔ ∃ h0 : 0 < j,f e[j] < f (e[j - 1]'(by omega))) → True := fun _ _ => trivial
 have out : SortTo f e (i + 1) → ∃ (i_1 : Nat) (x : L) (d : List It),[L.i (IntKind.wrap .i64 ((i : Int) + 1)),y] = [.i i_1,x] ∧ 1 ≤ i_1 ∧ (i_1 ≤ l.length ∨ i_1 = 1) ∧ x.asR = d.map itR ∧ d.Perm l ∧ SortTo f d i_1 := fun h => ⟨i + 1,y,e,by rw [wrap_up (by omega)],by omega,by omega,hy,hp,h⟩
 have outm : l.length - (IntKind.wrap .i64 ((i : Int) + 1)).toNat < l.length - i := by rw [wrap_up (by omega)]; omega
 repeat ((first | refine sN rfl ?_ | refine s_join ?_); (try dsimp only [At.ev,d1,d2,d3,d4,d5,d6,d7,d8,d9,e0]))
 refine s_ite (fun hc => ?_) (fun hc => ?_)
 rotate_left
 · have hc : ¬ la.asI < (j : Int) := of_decide_eq_false hc
   refine s_leaf (s_else rfl (s_leaf ?_))
   exact s_bi rfl (s_leaf ⟨out (hs.done hj f1 (.inl (by omega))),outm⟩)
 have hc : la.asI < (j : Int) := of_decide_eq_true hc
 have hj1 : j - 1 < e.length := by omega
 have w1 : IntKind.wrap .i64 ((j : Int) - 1) = ((j - 1 : Nat) : Int) := by rw [wrap64 (by omega) (by omega)]; omega
 have rj : y.asR[j]? = some (itR e[j]) := it_at hy hj
 have rj1 : y.asR[j - 1]? = some (itR e[j - 1]) := it_at hy hj1
 have hjn1 : (0 : Int) ≤ ((j - 1 : Nat) : Int) := Int.natCast_nonneg _
 refine s_row (r := itR e[j]) hjn rj rfl ?_
 dsimp only [At.ev,d1,d2,d3,d4,d5,d6,d7,d8,d9,e0]
 refine s_rc (r := itR e[j]) rj rfl rfl ?_
 dsimp only [At.ev,d1,d2,d3,d4,d5,d6,d7,d8,d9,e0]
 refine s_rc (r := itR e[j]) rj rfl rfl ?_
 dsimp only [At.ev,d1,d2,d3,d4,d5,d6,d7,d8,d9,e0]
 refine s_rc (r := itR e[j]) rj rfl rfl ?_
 dsimp only [At.ev,d1,d2,d3,d4,d5,d6,d7,d8,d9,e0]
 refine s_rc (r := itR e[j]) rj rfl rfl ?_
 dsimp only [At.ev,d1,d2,d3,d4,d5,d6,d7,d8,d9,e0]
 repeat ((first | refine sN rfl ?_ | refine s_join ?_); (try dsimp only [At.ev,d1,d2,d3,d4,d5,d6,d7,d8,d9,e0]))
 rw [w1]
 refine s_row (r := itR e[j - 1]) hjn1 rj1 rfl ?_
 dsimp only [At.ev,d1,d2,d3,d4,d5,d6,d7,d8,d9,e0]
 refine s_rc (r := itR e[j - 1]) rj1 rfl rfl ?_
 dsimp only [At.ev,d1,d2,d3,d4,d5,d6,d7,d8,d9,e0]
 refine s_rc (r := itR e[j - 1]) rj1 rfl rfl ?_
 dsimp only [At.ev,d1,d2,d3,d4,d5,d6,d7,d8,d9,e0]
 refine s_rc (r := itR e[j - 1]) rj1 rfl rfl ?_
 dsimp only [At.ev,d1,d2,d3,d4,d5,d6,d7,d8,d9,e0]
 refine s_rc (r := itR e[j - 1]) rj1 rfl rfl ?_
 dsimp only [At.ev,d1,d2,d3,d4,d5,d6,d7,d8,d9,e0]
 obtain ⟨c,hcf,hcl⟩ := hF e[j] e[j - 1]
 refine s_call hcf rfl rfl ?_
 dsimp only [At.ev,d1,d2,d3,d4,d5,d6,d7,d8,d9,e0]
 repeat ((first | refine sN rfl ?_ | refine s_join ?_); (try dsimp only [At.ev,d1,d2,d3,d4,d5,d6,d7,d8,d9,e0]))
 refine s_leaf (s_ite (fun hz => ?_) (fun hz => ?_))
 rotate_left
 · have hz : ¬ c < 0 := of_decide_eq_false hz
   refine s_leaf ?_
   exact s_bi rfl (s_leaf ⟨out (hs.done hj f1 (.inr ⟨by omega,fun h => hz (hcl.2 h)⟩)),outm⟩)
 have hz : c < 0 := of_decide_eq_true hz
 show Fir.wp (Fir.op _ _) [l0,la,lb,.i 1,.i i,x,.b (decide ((i : Int) < lb.asI)),.i j,y,.b (decide (c < 0))] _
 repeat ((first | refine sN rfl ?_ | refine s_join ?_); (try dsimp only [At.ev,d1,d2,d3,d4,d5,d6,d7,d8,d9,e0]))
 rw [w1]
 refine s_row (r := itR e[j - 1]) hjn1 rj1 rfl ?_
 dsimp only [At.ev,d1,d2,d3,d4,d5,d6,d7,d8,d9,e0]
 refine s_rc (r := itR e[j - 1]) rj1 rfl rfl ?_
 dsimp only [At.ev,d1,d2,d3,d4,d5,d6,d7,d8,d9,e0]
 refine s_rc (r := itR e[j - 1]) rj1 rfl rfl ?_
 dsimp only [At.ev,d1,d2,d3,d4,d5,d6,d7,d8,d9,e0]
 refine s_rc (r := itR e[j - 1]) rj1 rfl rfl ?_
 dsimp only [At.ev,d1,d2,d3,d4,d5,d6,d7,d8,d9,e0]
 refine s_rc (r := itR e[j - 1]) rj1 rfl rfl ?_
 dsimp only [At.ev,d1,d2,d3,d4,d5,d6,d7,d8,d9,e0]
 refine s_row (r := itR e[j]) hjn rj rfl ?_
 dsimp only [At.ev,d1,d2,d3,d4,d5,d6,d7,d8,d9,e0]
 refine s_rc (r := itR e[j]) rj rfl rfl ?_
 dsimp only [At.ev,d1,d2,d3,d4,d5,d6,d7,d8,d9,e0]
 refine s_rc (r := itR e[j]) rj rfl rfl ?_
 dsimp only [At.ev,d1,d2,d3,d4,d5,d6,d7,d8,d9,e0]
 refine s_rc (r := itR e[j]) rj rfl rfl ?_
 dsimp only [At.ev,d1,d2,d3,d4,d5,d6,d7,d8,d9,e0]
 refine s_rc (r := itR e[j]) rj rfl rfl ?_
 dsimp only [At.ev,d1,d2,d3,d4,d5,d6,d7,d8,d9,e0]
 refine s_row (r := itR e[j]) hjn rj rfl ?_
 dsimp only [At.ev,d1,d2,d3,d4,d5,d6,d7,d8,d9,e0]
 refine s_setI (d := e) (j := j) (z := e[j - 1]) hy rfl hj rfl rfl fun y1 hy1 => ?_
 dsimp only [At.ev,d1,d2,d3,d4,d5,d6,d7,d8,d9,e0]
 have hj1' : j - 1 < (e.set j e[j - 1]).length := by rw [List.length_set]; exact hj1
 refine s_row (r := itR (e.set j e[j - 1])[j - 1]) hjn1 (it_at hy1 hj1') rfl ?_
 dsimp only [At.ev,d1,d2,d3,d4,d5,d6,d7,d8,d9,e0]
 refine s_setI (d := e.set j e[j - 1]) (j := j - 1) (z := e[j]) hy1 rfl hj1' rfl rfl fun y2 hy2 => ?_
 dsimp only [At.ev,d1,d2,d3,d4,d5,d6,d7,d8,d9,e0]
 repeat ((first | refine sN rfl ?_ | refine s_join ?_); (try dsimp only [At.ev,d1,d2,d3,d4,d5,d6,d7,d8,d9,e0]))
 rw [w1]
 refine s_leaf ⟨⟨j - 1,y2,_,rfl,by omega,hy2,(List.set_set_perm hj hj1).trans hp,hs.swap hj (by omega) f1 (hcl.1 hz)⟩,?_⟩
 show ((j - 1 : Nat) : Int).toNat < ((j : Nat) : Int).toNat
 omega
end
end Go.Proofs.YtndegphojkiblaaGreatDoor
