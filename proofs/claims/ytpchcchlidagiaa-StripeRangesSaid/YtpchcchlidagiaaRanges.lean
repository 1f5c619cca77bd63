/-
  For every slice of bytes b and all ints off and n, the law StripeRanges returns true: the pieces of a range, read from the shards, are the bytes of the range. No conditions.
-/
import Derived.Test.YtpchcchlidagiaaRows
import Derived.Test.YtpchcchlidagiaaSeg
import Derived.WalkKit
import Derived.ProofKit
import Derived.OpenShut
import Derived.ShutString
import Derived.ChangeOld
import Derived.Below
namespace Go.Proofs.Ytpchcchlidagiaa.stripeRanges
open Go.ChangeShapes Go.WideShapes Go.ChangeAt Go.RowKit
open Go.ChangeMaps (open_string shut_string)
set_option linter.unusedVariables false

theorem own : ownKnob Try.prog.godebug = none := by kernel_rfl
theorem laidOut : laidOutB Try.prog = true := by kernel_rfl

/-- WHAT THE WALK IS TOLD OF A SLICE OF INTEGERS THAT CAME IN: it is nil; or it leads to a row of 'cap' cells, the numbers 'zs' (the first 'len' are its elements, the rest its spare room), each fitting its kind. -/
def IsRow (k : IntKind) (w : World) (a : Option Addr) (len cap : Nat) (zs : List Int) : Prop :=
  (a = none ∧ len = 0 ∧ cap = 0 ∧ zs = []) ∨
  ∃ x, a = some x ∧ len ≤ cap ∧ cap ≤ maxLen ∧ zs.length = cap ∧ (∀ i, i < zs.length → w.cell? (x.add i) = some (.int k (zs.getD i 0))) ∧ ∀ n ∈ zs, (Lit.int k n).wf = true

/-! The walk: the Go text returns true and writes nothing that was there. -/
set_option maxRecDepth 100000 in
set_option maxHeartbeats 1000000 in
theorem walk (a0 : Option Addr) (len0 cap0 : Nat) (z0 : List Int) (a1 : Int) (a2 : Int) (w : World) (w0 : IsRow .u8 w a0 len0 cap0 z0) (w1 : (Lit.int .i64 a1).wf = true) (w2 : (Lit.int .i64 a2).wf = true) :
    Calls Try.prog 7 #[.slice a0 len0 cap0, .int .i64 a1, .int .i64 a2] w fun e w' => e = .returned (.bool true) ∧ Below w.heap.size w w' := by
  obtain ⟨iz, hiz, hz0, hz1, hz2⟩ := info_parts info5
  obtain ⟨hl, hm, hb⟩ := byt_of_row w0
  obtain ⟨b0, b1⟩ := bounds_i64 w1
  obtain ⟨c0, c1⟩ := bounds_i64 w2
  clear w0 w1 w2
  obtain ⟨n, hn⟩ : ∃ n, min len0 3000 = n := ⟨_, rfl⟩
  have hn1 : n ≤ len0 := by omega
  have hn2 : n ≤ 3000 := by omega
  have hb' := hb n hn1
  have Hn := Lib.hid hn
  clear hn hb
  obtain ⟨m1, m2⟩ := tmod_bd a1 ((n : Int) + 1) (by omega)
  obtain ⟨fr, hfr, f1⟩ := emod_nat (a1.tmod ((n : Int) + 1) + (n : Int) + 1) ((n : Int) + 1) (by omega)
  obtain ⟨m3, m4⟩ := tmod_bd a2 ((n : Int) - (fr : Int) + 1) (by omega)
  obtain ⟨mn, hmn, f2⟩ := emod_nat (a2.tmod ((n : Int) - (fr : Int) + 1) + (n : Int) - (fr : Int) + 1) ((n : Int) - (fr : Int) + 1) (by omega)
  have f3 : fr ≤ n := by omega
  go_enter Try.func7, Try.ntmps7
  go_wp2_with fail
  refine (cut_any a0 len0 cap0 w hl hm).mono ?_
  rintro e w' ⟨rfl, rfl⟩
  rw [Hn.out]
  go_wp2_with fail
  simp only [hfr, hmn]
  clear hfr hmn m1 m2 m3 m4 f1 b0 b1 c0 c1
  have f4 : fr + mn ≤ n := by omega
  refine (Split_any a0 n cap0 _ w (by omega) (by omega) hm hb').mono ?_
  rintro e w1 ⟨G, cG, h, rfl, hcG, hcG2, hS1, hB1⟩
  go_wp2_with fail
  refine (Pieces_yes (fr : Int) (mn : Int) w1 (by omega) (by omega) (by omega) (by omega)).mono ?_
  rintro e w2 ⟨v, K, rfl, hK, hrow, hB2⟩
  have hKf := hK.few (by omega) (by omega)
  have hS2 := hS1.below hB2
  have hbb := hB1.trans (hB2.mono hB1.size)
  have hb2 := hb'.below hbb
  have hwz : w.heap.size ≤ w2.heap.size := hbb.size
  obtain ⟨A, c, rfl, hKc, hcm, hA⟩ := row_form hrow
  have hKfew : (K : Int) ≤ (mn : Int) / 64 + 2 := by omega
  have HK := Lib.hid hK
  have HS2 := Lib.hid hS2
  clear hK hKf hS1 hB1 hB2 hrow hb' hS2
  go_wp2_with fail
  generalize hf : (fun i => z0.getD i 0) = f at *
  clear hf f2
  obtain ⟨m, hm64⟩ : ∃ m, szN n = m := ⟨_, rfl⟩
  have Hm := Lib.hid hm64
  rw [hm64] at HS2
  have hm2 : m ≤ 1048576 := by rw [← hm64]; unfold szN; omega
  clear hm64
  obtain ⟨wo, rfl⟩ : ∃ wo : World, wo = w2 := ⟨_, rfl⟩
  go_loopw [12, 74] (fun v i W => ∃ k t : Nat, k ≤ K ∧ i = .int .i64 k ∧ Hid (pst (fr : Int) ((fr : Int) + (mn : Int)) k = (t : Int)) ∧ fr ≤ t ∧ t ≤ fr + mn ∧ W.ownsRow wo.heap.size 5 1 v (t - fr) (seg f fr (t - fr)) ∧ Below wo.heap.size wo W)
    (fun _ i _ => K - (intOf i).toNat)
  case atStart => exact ⟨0, fr, by omega, rfl, rfl, by omega, by omega, by rw [Nat.sub_self]; exact World.ownsRow_nil _ _ _ _, Below.refl _ _⟩
  case round =>
    obtain ⟨k, t, hk, rfl, ht, ht1, ht2, hown, hB⟩ := hrel
    by_cases hlt : k < K
    · obtain ⟨g, rfl, hg1, hg2, hgc, _⟩ := hA (by omega)
      obtain ⟨p1, p2, p3⟩ := pcs_at (fr : Int) ((fr : Int) + (mn : Int)) k K hlt
      have hlt' := HK.out.2 k hlt
      rw [ht.out] at p1 p2 p3 hlt'
      have hpl := plOf_bd ((fr : Int) + (mn : Int)) (t : Int) hlt'
      obtain ⟨q, hq⟩ : ∃ q : Nat, plOf ((fr : Int) + (mn : Int)) (t : Int) = (q : Int) := ⟨(plOf ((fr : Int) + (mn : Int)) (t : Int)).toNat, by omega⟩
      rw [hq] at hpl p3
      rw [shOf_nat] at p1
      rw [atOf_nat] at p2
      have hq1 : 1 ≤ q := by omega
      have hq2 : t % 64 + q ≤ 64 := by omega
      have hq3 : t + q ≤ fr + mn := by omega
      have hnext : Hid (pst (fr : Int) ((fr : Int) + (mn : Int)) (k + 1) = ((t + q : Nat) : Int)) := by
        show pst (fr : Int) ((fr : Int) + (mn : Int)) k + plOf ((fr : Int) + (mn : Int)) (pst (fr : Int) ((fr : Int) + (mn : Int)) k) = _
        rw [ht.out, hq]; omega
      have e1 := (hB.cell (p := ⟨g, k * 3, none⟩) hg2).trans (hgc _ _ p1)
      have e2 := (hB.cell (p := ⟨g, k * 3 + 1, none⟩) hg2).trans (hgc _ _ p2)
      have e3 := (hB.cell (p := ⟨g, k * 3 + 2, none⟩) hg2).trans (hgc _ _ p3)
      have hsh := shN_lt t
      have hfit : atN t + q ≤ m := by have := at_fits (L := n) hq2 (by omega); have := Hm.out; omega
      have hSr := HS2.out.below hB
      have d0 := hSr.head (shN t) hsh
      obtain ⟨_, _, hrw⟩ := hSr.rows (shN t) hsh
      have hsrc : ∀ j, j < q → wr.cell? ⟨h (shN t), atN t + j, none⟩ = some (.int .u8 (f (t + j))) := fun j hj => by
        rw [hrw.cell (by omega), fill_at f hq2 (by omega) hj]
      have hrlt := hrw.lt
      have hGl : G < wr.heap.size := Nat.lt_of_lt_of_le hSr.low.2 (Nat.le_refl _)
      have d1 : ∀ C, (wr.alloc (.cells C 35)).cell? ⟨G, shN t, none⟩ = some (.slice (some ⟨h (shN t), 0, none⟩) m m) := fun C => (World.cell?_alloc_lt wr _ ⟨G, shN t, none⟩ hGl).trans d0
      clear hgc p1 p2 p3 hlt' hpl hq ht hSr hrw hA d0
      generalize shN t = sn at *
      generalize atN t = an at *
      have i0 : (0 : Int) ≤ (sn : Int) := by omega
      have i1 : (sn : Int) < 4 := by omega
      have i2 : (0 : Int) ≤ (an : Int) := by omega
      have i3 : (1 : Int) ≤ (q : Int) := by omega
      have i4 : (q : Int) ≤ 64 := by omega
      have i5 : (an : Int) + (q : Int) ≤ (m : Int) := by omega
      have i6 : (k : Int) < (K : Int) := by omega
      have i7 : (0 : Int) ≤ (k : Int) := by omega
      have i8 : (an : Int) ≤ (an : Int) + (q : Int) := by omega
      have i9 : ¬ m = an := by omega
      go_wp2_with fail
      have j0 : (0 : Int) ≤ (an : Int) + (q : Int) := by omega
      have j2 : ((an : Int) + (q : Int)).toNat = an + q := by omega
      have j1 : IntKind.i64.wrap ((an : Int) + (q : Int)) = (an : Int) + (q : Int) := IntWalk.i64_in _ (by omega)
      go_quiet (fail)
      clear j0 j1 j2
      go_wp2_with fail
      have j0 : (0 : Int) ≤ (an : Int) + (q : Int) := by omega
      have j2 : ((an : Int) + (q : Int)).toNat = an + q := by omega
      have j1 : IntKind.i64.wrap ((an : Int) + (q : Int)) = (an : Int) + (q : Int) := IntWalk.i64_in _ (by omega)
      refine wp_region_tail 14 (by kernel_rfl) (by kernel_rfl) ?_
      simp only [List.take_succ_cons, List.take_zero, List.drop_succ_cons, List.drop_zero]
      repeat still_step
      refine wpStill_nil ?_
      clear j0 j1 j2
      refine wpList_append_own _ (by rfl) (.tmp 115) (.tmp 128) 40 (by rfl) wo.heap.size 5 iz (.int .u8 0) 1 1 Try.underlying40 hiz hz0 hz1 hz2 rfl (by decide) _ (t - fr) (seg f fr (t - fr)) (by rfl) (hown.alloc _) ⟨h sn, an, none⟩ q (m - an) (seg f t q) (by rfl) (by rw [seg_length]; omega) ?_ (seg_one f t q) (by unfold maxLen; omega) (by omega) (by have := hB.size; show _ ≤ (wr.alloc _).heap.size; rw [World.size_alloc]; omega) ?_
      · intro j v hv
        have hj : j < q := by
          rcases Nat.lt_or_ge j q with h | h
          · exact h
          · rw [List.getElem?_eq_none (by rw [seg_length]; exact h)] at hv; cases hv
        rw [seg_at _ _ _ hj] at hv
        cases hv
        rw [show (⟨h sn, an, none⟩ : Addr).add j = ⟨h sn, an + j, none⟩ by unfold Addr.add; split <;> simp_all]
        exact (World.cell?_alloc_lt wr _ ⟨h sn, an + j, none⟩ hrlt).trans (hsrc j hj)
      · intro v' w4 hown' hgrow _
        have hgr2 : Below wo.heap.size wo w4 := by
          refine Below.grown (below_drewN (hB.alloc hB.size _) _).drew hgrow (by have := hB.size; show _ ≤ (wr.alloc _).heap.size; rw [World.size_alloc]; omega) (fun r e => (hown.lt r e).1)
        go_wp2_with fail
        go_roundw
        case rel => exact ⟨k + 1, t + q, by omega, by go_num, hnext, by omega, by omega, by
          have e := seg_append f fr (t - fr) q
          rw [show fr + (t - fr) = t by omega] at e
          rw [show t + q - fr = t - fr + q by omega, ← e]
          exact hown', hgr2⟩
        case measure => simp [intOf]; omega
    · obtain rfl : k = K := by omega
      obtain rfl : t = fr + mn := by have h1 := ht.out; have h2 := HK.out.1; omega
      rw [show fr + mn - fr = mn by omega] at hown
      obtain ⟨A', c', rfl, _, _, hA'⟩ := row_form hown
      have hby : Byt wr A' mn (fun i => f (fr + i)) := fun h0 => by
        obtain ⟨g', rfl, _, _, hc', _⟩ := hA' h0
        exact ⟨g', 0, rfl, fun i hi => by rw [Nat.zero_add]; exact hc' i _ (seg_at f fr mn hi)⟩
      have hb3 := hb2.below hB
      have hBB := hbb.trans (hB.mono hwz)
      have r1 := conv_bytes wr.drew A' mn c' _ hby
      clear hA hA' hown hby ht HK HS2
      have i1 : (fr : Int) ≤ (fr : Int) + (mn : Int) := by omega
      have i2 : (fr : Int) + (mn : Int) ≤ (cap0 : Int) := by omega
      have i3 : (0 : Int) ≤ (fr : Int) := by omega
      by_cases hz : mn = 0
      · subst hz
        have r2 := fun A c => conv_bytes wr.drew A 0 c (fun i => f (fr + i)) (fun h0 => absurd h0 (by omega))
        clear r1
        generalize strOfNums (lst 0 (fun i => f (fr + i))) = str at r2
        have i4 : (fr : Int) ≤ (cap0 : Int) := by omega
        go_wp2_with fail
        have j1 : IntKind.i64.wrap (fr : Int) = (fr : Int) := IntWalk.i64_in _ (by omega)
        refine wp_region_tail 11 (by kernel_rfl) (by kernel_rfl) ?_
        simp only [List.take_succ_cons, List.take_zero, List.drop_succ_cons, List.drop_zero]
        repeat still_step
        refine wpStill_nil ?_
        go_wp2_with (go_at_call 14; refine (awake_any _).mono ?_; rintro e w' ⟨rfl, hB'⟩)
        all_goals
          go_ret
          exact ⟨rfl, (hBB.drew).trans (hB'.mono hBB.size)⟩
      · obtain ⟨ga, oa, rfl, hfb⟩ := hb3 (by omega)
        have r2 := conv_bytes wr.drew (some ⟨ga, oa + fr, none⟩) mn (cap0 - fr) (fun i => f (fr + i)) (fun h0 => ⟨ga, oa + fr, rfl, fun i hi => by
          rw [Nat.add_assoc]; exact hfb (fr + i) (by omega)⟩)
        clear hfb hb2
        generalize strOfNums (lst mn (fun i => f (fr + i))) = str at r1 r2
        have i4 : ¬ cap0 = fr := by omega
        go_wp2_with fail
        have j0 : (0 : Int) ≤ (fr : Int) + (mn : Int) := by omega
        have j2 : ((fr : Int) + (mn : Int)).toNat = fr + mn := by omega
        have j3 : fr + mn - fr = mn := by omega
        have j1 : IntKind.i64.wrap ((fr : Int) + (mn : Int)) = (fr : Int) + (mn : Int) := IntWalk.i64_in _ (by omega)
        refine wp_region_tail 11 (by kernel_rfl) (by kernel_rfl) ?_
        simp only [List.take_succ_cons, List.take_zero, List.drop_succ_cons, List.drop_zero]
        repeat still_step
        refine wpStill_nil ?_
        clear j0 j1 j2
        go_wp2_with (go_at_call 14; refine (awake_any _).mono ?_; rintro e w' ⟨rfl, hB'⟩)
        go_ret
        exact ⟨rfl, (hBB.drew).trans (hB'.mono hBB.size)⟩

/-! The row's step. -/
set_option maxRecDepth 100000 in
theorem lifted (os : Os) (started : os.Started) (H : Type) (enc : TypeId × Value → H) :
    ReturnsInHanded {} Try.checked os 7 .any (Rows.stripeRangesSpec.pre6 enc Try.prog Try.f7 Rows.stripeRangesRow.domain false) (Rows.stripeRangesSpec.post enc Try.prog Try.f7 false true false false) := by
  refine returnsInHanded_of_change (C := Try.checked) own started (by kernel_rfl) Try.func7
    (ChangeSpec.witness6 (enc := enc) (C := Try.checked) false ⟨#[], #[.slice none 0 0, .int .i64 0, .int .i64 0], []⟩ 8 (by kernel_rfl) (by kernel_rfl) (by kernel_rfl) (by kernel_rfl)) ?_
  intro W base args ds gs before hval0 hW hcnd _
  have hval : ∀ (j : Nat) t v, Try.f7.params[j]? = some t → args[j]? = some v → Value.okWide Try.prog W .any base t v := hval0
  have hW' := hW
  obtain ⟨p, q, hA0, hV, rfl, hfz, hnd⟩ := hW
  have hA : DataW.TrodAll enc Try.prog W 0 (fun _ => true) true Try.f7.params.toList args.toList ds p := hA0
  rw [Try.params7] at hA hval
  obtain ⟨v0, vs0, d0, ds0, p0, q0, hargs, rfl, rfl, h0, r0⟩ := trodAll_cons hA
  obtain ⟨v1, vs1, d1, ds1, p1, q1, rfl, rfl, rfl, h1, r1⟩ := trodAll_cons r0
  obtain ⟨v2, vs2, d2, ds2, p2, q2, rfl, rfl, rfl, h2, r2⟩ := trodAll_cons r1
  obtain ⟨rfl, rfl, rfl⟩ := trodAll_nil r2
  obtain rfl : args = #[v0, v1, v2] := by cases args; simp_all
  obtain ⟨rfl, rfl⟩ := trodVars_none hV
  obtain ⟨a0, len0, cap0, rfl⟩ := okWide_slice Try.underlying40 (hval 0 40 v0 rfl rfl)
  have k0 := h0
  have lt0 : ∀ x ∈ p0, x.block < W.heap.size := by obtain ⟨m, hm⟩ := k0; exact DataW.trod_lt m _ _ _ hm
  obtain ⟨z0, w0⟩ : ∃ zs, IsRow .u8 W a0 len0 cap0 zs := by
    obtain ⟨fuel, hf⟩ := h0
    rcases open_ints Try.underlying40 Try.underlying5 (by kernel_rfl) hf with ⟨hcs, _⟩ | ⟨x, l, c, zs, hcs, _, hl, hm, hz, _, hcell, hwz⟩
    · simp [Value.cells] at hcs
      obtain ⟨rfl, rfl, rfl⟩ := hcs
      exact ⟨[], .inl ⟨rfl, rfl, rfl, rfl⟩⟩
    · simp [Value.cells] at hcs
      obtain ⟨rfl, rfl, rfl⟩ := hcs
      exact ⟨zs, .inr ⟨_, rfl, hl, hm, by simpa using hz, hcell, hwz⟩⟩
  obtain ⟨a1, rfl, rfl, rfl, w1⟩ := open_int Try.underlying3 (hval 1 3 v1 rfl rfl) h1
  obtain ⟨a2, rfl, rfl, rfl, w2⟩ := open_int Try.underlying3 (hval 2 3 v2 rfl rfl) h2
  clear hA0 hval0
  refine (walk a0 len0 cap0 z0 a1 a2 W w0 w1 w2).mono fun e W' ⟨he, bel⟩ => ?_
  subst he
  exact ⟨_, rfl, _, _, _, [], _, [], hW', trodAll_mk1 (shut_bool Try.underlying4 _), (trodAll_cons_mk (Below.trod laidOut (by kernel_rfl) (of_decide_eq_true (by kernel_rfl)) k0 bel lt0) (trodAll_cons_mk (shut_int Try.underlying3 w1) (trodAll_cons_mk (shut_int Try.underlying3 w2) trodAll_mk0))), rfl, bel.frame _, fun h => by cases h⟩

theorem over : Rows.stripeRangesRow.holds Try.pinned (OpenSpec.ofChange Rows.stripeRangesSpec) :=
  OpenClaim.holds_of_wide 7 Try.f7 rfl rfl rfl rfl rfl rfl rfl ⟨rfl, rfl, rfl, rfl, rfl⟩ rfl rfl rfl rfl rfl (by kernel_rfl) Try.func7 (by kernel_rfl)
    (of_decide_eq_true (by kernel_rfl)) (by unfold Func.isWrapper; first | (rw [if_pos (by decide +kernel)]; kernel_rfl) | (rw [if_neg (by decide +kernel)]; exact ⟨rfl, rfl⟩))
    (fun os started H enc _ => lifted os started H enc)

/-- The statement. -/
theorem proved : Rows.StripeRangesSaid := over
#print axioms proved
end Go.Proofs.Ytpchcchlidagiaa.stripeRanges
