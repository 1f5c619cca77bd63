/-
  For every two int64 off and n, the law StripePieces returns true: Pieces of package stripe equals the reference's. No conditions.
-/
import Derived.Test.YtpchcchlidagiaaRows
import Derived.Test.YtpchcchlidagiaaRows2
import Derived.WalkKit
import Derived.Deep.QuietTactic
import Derived.BigQuiet
import Derived.ProofKit
import Derived.OpenShut
import Derived.Below
import Derived.ShutString
namespace Go.Proofs.Ytpchcchlidagiaa.stripePieces
open Go.ChangeShapes Go.WideShapes Go.ChangeAt Go.RowKit
open Go.ChangeMaps (open_string shut_string)
set_option linter.unusedVariables false      -- a walk need not use every 'w<i>' (that an integer argument fits its kind)

theorem own : ownKnob Try.prog.godebug = none := by kernel_rfl

/-! The walk: the Go text returns true and writes nothing that was there. -/
set_option maxRecDepth 100000 in
set_option maxHeartbeats 2000000 in
theorem walk (a0 : Int) (a1 : Int) (w0 : (Lit.int .i64 a0).wf = true) (w1 : (Lit.int .i64 a1).wf = true) (w : World) :
    Calls Try.prog 4 #[.int .i64 a0, .int .i64 a1] w fun e w' => e = .returned (.bool true) ∧ Below w.heap.size w w' := by
  obtain ⟨b0, b1⟩ := bounds_i64 w0
  obtain ⟨c0, c1⟩ := bounds_i64 w1
  clear w0 w1
  by_cases hm : 5000 < a1 ∧ a1 ≤ 1048576
  · obtain ⟨h1, h2⟩ := hm
    have hq0 : 0 ≤ a1 % 5000 := by omega
    have hq1 : a1 % 5000 ≤ 1048576 := by omega
    generalize hq : a1 % 5000 = q at hq0 hq1
    by_cases hbad : badP a0 q
    · go_enter Try.func4, Try.ntmps4
      go_wp2_with (first | (go_at_call 15; refine (Pieces_no a0 q _ hbad).mono ?_; rintro e w' ⟨rfl, rfl⟩) | (go_at_call 16; refine (rPieces_no a0 q _ hbad).mono ?_; rintro e w' ⟨rfl, rfl⟩))
      go_loop [42] (fun i => i = .int .i64 0) (fun _ => 0)
      case atStart => exact rfl
      case round =>
        subst hrel
        go_wp2_with (go_at_call 14; refine (awake_any _).mono ?_; rintro e w' ⟨rfl, hB⟩)
        go_ret
        exact ⟨rfl, hB⟩
    · obtain ⟨g0, g1⟩ : 0 ≤ a0 ∧ a0 ≤ 4611686018427387904 := by unfold badP at hbad; omega
      clear hbad
      go_enter Try.func4, Try.ntmps4
      go_wp2_with fail
      clear h1 h2 b0 b1 c0 c1
      subst hq
      generalize a1 % 5000 = q at hq0 hq1 ⊢
      refine (Pieces_yes a0 q _ (by omega) (by omega) (by omega) (by omega)).mono ?_
      rintro e w1 ⟨v, K, rfl, hK, hrow, hB⟩
      go_wp2_with fail
      refine (rPieces_yes a0 q _ (by omega) (by omega) (by omega) (by omega)).mono ?_
      rintro e w2 ⟨v2, K2, rfl, hK2, hrow2, hB2⟩
      obtain rfl : K = K2 := hK.uniq hK2
      have hKq := hK.le (by omega)
      have hr1 := ownsRow_below hrow hB2
      have hB3 := hB.trans (hB2.mono hB.size)
      clear hK hK2 hrow hB hB2
      obtain ⟨A, c, rfl, hKc, hcm, hA⟩ := row_form hr1
      obtain ⟨A2, c2, rfl, hKc2, hcm2, hA2⟩ := row_form hrow2
      clear hr1 hrow2
      go_wp2_with fail
      go_loopw [42] (fun i wr => ∃ k : Nat, k ≤ K ∧ i = .int .i64 k ∧ ∃ N, wr = w2.drewN N) (fun i _ => K - (intOf i).toNat)
      case atStart => exact ⟨0, Nat.zero_le _, rfl, 0, rfl⟩
      case round =>
        obtain ⟨k, hk, rfl, N, rfl⟩ := hrel
        by_cases hlt : k < K
        · obtain ⟨g, rfl, hg1, hg2, hgc, hgf⟩ := hA (by omega)
          obtain ⟨g2, rfl, hg3, hg4, hgc2, hgf2⟩ := hA2 (by omega)
          obtain ⟨p1, p2, p3⟩ := pcs_at a0 (a0 + q) k K hlt
          have d1 := hgc _ _ p1
          have d2 := hgc _ _ p2
          have d3 := hgc _ _ p3
          have e1 := hgc2 _ _ p1
          have e2 := hgc2 _ _ p2
          have e3 := hgc2 _ _ p3
          clear hgc hgf hgc2 hgf2 p1 p2 p3 hA hA2
          have k0 : (0 : Int) ≤ (k : Int) := by omega
          have k1 : (k : Int) < (K : Int) := by omega
          generalize shOf (pst a0 (a0 + q) k) = x at d1 e1
          generalize atOf (pst a0 (a0 + q) k) = y at d2 e2
          generalize plOf (a0 + q) (pst a0 (a0 + q) k) = z at d3 e3
          go_wp2_with fail
          go_quiet (fail)
          go_wp2_with fail
          go_roundw
          case rel => exact ⟨k + 1, by omega, by go_num, _, rfl⟩
          case measure => simp [intOf]; omega
        · obtain rfl : k = K := by omega
          clear hA hA2
          go_wp2_with (go_at_call 14; refine (awake_any _).mono ?_; rintro e w' ⟨rfl, hB⟩)
          go_ret
          exact ⟨rfl, (below_drewN hB3 N).trans (hB.mono hB3.size)⟩
  · by_cases h5 : 5000 < a1
    · have h2 : 1048576 < a1 := by omega
      have hbad : badP a0 a1 := by unfold badP; omega
      clear hm
      go_enter Try.func4, Try.ntmps4
      go_wp2_with (first | (go_at_call 15; refine (Pieces_no a0 a1 _ hbad).mono ?_; rintro e w' ⟨rfl, rfl⟩) | (go_at_call 16; refine (rPieces_no a0 a1 _ hbad).mono ?_; rintro e w' ⟨rfl, rfl⟩))
      go_loop [42] (fun i => i = .int .i64 0) (fun _ => 0)
      case atStart => exact rfl
      case round =>
        subst hrel
        go_wp2_with (go_at_call 14; refine (awake_any _).mono ?_; rintro e w' ⟨rfl, hB⟩)
        go_ret
        exact ⟨rfl, hB⟩
    · clear hm
      by_cases hbad : badP a0 a1
      · go_enter Try.func4, Try.ntmps4
        go_wp2_with (first | (go_at_call 15; refine (Pieces_no a0 a1 _ hbad).mono ?_; rintro e w' ⟨rfl, rfl⟩) | (go_at_call 16; refine (rPieces_no a0 a1 _ hbad).mono ?_; rintro e w' ⟨rfl, rfl⟩))
        go_loop [42] (fun i => i = .int .i64 0) (fun _ => 0)
        case atStart => exact rfl
        case round =>
          subst hrel
          go_wp2_with (go_at_call 14; refine (awake_any _).mono ?_; rintro e w' ⟨rfl, hB⟩)
          go_ret
          exact ⟨rfl, hB⟩
      · obtain ⟨g0, g1⟩ : 0 ≤ a0 ∧ a0 ≤ 4611686018427387904 := by unfold badP at hbad; omega
        obtain ⟨hq0, hq1⟩ : 0 ≤ a1 ∧ a1 ≤ 1048576 := by unfold badP at hbad; omega
        clear hbad
        go_enter Try.func4, Try.ntmps4
        go_wp2_with fail
        clear h5 b0 b1 c0 c1
        refine (Pieces_yes a0 a1 _ (by omega) (by omega) (by omega) (by omega)).mono ?_
        rintro e w1 ⟨v, K, rfl, hK, hrow, hB⟩
        go_wp2_with fail
        refine (rPieces_yes a0 a1 _ (by omega) (by omega) (by omega) (by omega)).mono ?_
        rintro e w2 ⟨v2, K2, rfl, hK2, hrow2, hB2⟩
        obtain rfl : K = K2 := hK.uniq hK2
        have hKq := hK.le (by omega)
        have hr1 := ownsRow_below hrow hB2
        have hB3 := hB.trans (hB2.mono hB.size)
        clear hK hK2 hrow hB hB2
        obtain ⟨A, c, rfl, hKc, hcm, hA⟩ := row_form hr1
        obtain ⟨A2, c2, rfl, hKc2, hcm2, hA2⟩ := row_form hrow2
        clear hr1 hrow2
        go_wp2_with fail
        go_loopw [42] (fun i wr => ∃ k : Nat, k ≤ K ∧ i = .int .i64 k ∧ ∃ N, wr = w2.drewN N) (fun i _ => K - (intOf i).toNat)
        case atStart => exact ⟨0, Nat.zero_le _, rfl, 0, rfl⟩
        case round =>
          obtain ⟨k, hk, rfl, N, rfl⟩ := hrel
          by_cases hlt : k < K
          · obtain ⟨g, rfl, hg1, hg2, hgc, hgf⟩ := hA (by omega)
            obtain ⟨g2, rfl, hg3, hg4, hgc2, hgf2⟩ := hA2 (by omega)
            obtain ⟨p1, p2, p3⟩ := pcs_at a0 (a0 + a1) k K hlt
            have d1 := hgc _ _ p1
            have d2 := hgc _ _ p2
            have d3 := hgc _ _ p3
            have e1 := hgc2 _ _ p1
            have e2 := hgc2 _ _ p2
            have e3 := hgc2 _ _ p3
            clear hgc hgf hgc2 hgf2 p1 p2 p3 hA hA2
            have k0 : (0 : Int) ≤ (k : Int) := by omega
            have k1 : (k : Int) < (K : Int) := by omega
            generalize shOf (pst a0 (a0 + a1) k) = x at d1 e1
            generalize atOf (pst a0 (a0 + a1) k) = y at d2 e2
            generalize plOf (a0 + a1) (pst a0 (a0 + a1) k) = z at d3 e3
            go_wp2_with fail
            go_quiet (fail)
            go_wp2_with fail
            go_roundw
            case rel => exact ⟨k + 1, by omega, by go_num, _, rfl⟩
            case measure => simp [intOf]; omega
          · obtain rfl : k = K := by omega
            clear hA hA2
            go_wp2_with (go_at_call 14; refine (awake_any _).mono ?_; rintro e w' ⟨rfl, hB⟩)
            go_ret
            exact ⟨rfl, (below_drewN hB3 N).trans (hB.mono hB3.size)⟩

/-! The row's step. -/
set_option maxRecDepth 100000 in
theorem lifted (os : Os) (started : os.Started) (H : Type) (enc : TypeId × Value → H) :
    ReturnsInHanded {} Try.checked os 4 .any (Rows.stripePiecesSpec.pre6 enc Try.prog Try.f4 Rows.stripePiecesRow.domain false) (Rows.stripePiecesSpec.post enc Try.prog Try.f4 false true false false) := by
  refine returnsInHanded_of_change (C := Try.checked) own started (by kernel_rfl) Try.func4
    (ChangeSpec.witness6 (enc := enc) (C := Try.checked) false ⟨#[], #[.int .i64 0, .int .i64 0], []⟩ 8 (by kernel_rfl) (by kernel_rfl) (by kernel_rfl) (by kernel_rfl)) ?_
  intro W base args ds gs before hval0 hW hcnd _
  have hval : ∀ (j : Nat) t v, Try.f4.params[j]? = some t → args[j]? = some v → Value.okWide Try.prog W .any base t v := hval0
  have hW' := hW
  obtain ⟨p, q, hA0, hV, rfl, hfz, hnd⟩ := hW
  have hA : DataW.TrodAll enc Try.prog W 0 (fun _ => true) true Try.f4.params.toList args.toList ds p := hA0
  rw [Try.params4] at hA hval
  obtain ⟨v0, vs0, d0, ds0, p0, q0, hargs, rfl, rfl, h0, r0⟩ := trodAll_cons hA
  obtain ⟨v1, vs1, d1, ds1, p1, q1, rfl, rfl, rfl, h1, r1⟩ := trodAll_cons r0
  obtain ⟨rfl, rfl, rfl⟩ := trodAll_nil r1
  obtain rfl : args = #[v0, v1] := by cases args; simp_all
  obtain ⟨rfl, rfl⟩ := trodVars_none hV
  obtain ⟨a0, rfl, rfl, rfl, w0⟩ := open_int Try.underlying2 (hval 0 2 v0 rfl rfl) h0
  obtain ⟨a1, rfl, rfl, rfl, w1⟩ := open_int Try.underlying2 (hval 1 2 v1 rfl rfl) h1
  clear hA0 hval0
  simp only [List.append_nil] at hW'
  refine (walk a0 a1 w0 w1 W).mono fun e W' ⟨he, hg⟩ => ?_
  subst he
  exact ⟨_, rfl, _, _, _, [], [], [], hW', trodAll_mk1 (shut_bool Try.underlying4 _), (trodAll_cons_mk (shut_int Try.underlying2 w0) (trodAll_cons_mk (shut_int Try.underlying2 w1) trodAll_mk0)), rfl, hg.frame _, fun h => by cases h⟩

theorem over : Rows.stripePiecesRow.holds Try.pinned (OpenSpec.ofChange Rows.stripePiecesSpec) :=
  OpenClaim.holds_of_wide 4 Try.f4 rfl rfl rfl rfl rfl rfl rfl ⟨rfl, rfl, rfl, rfl, rfl⟩ rfl rfl rfl rfl rfl (by kernel_rfl) Try.func4 (by kernel_rfl)
    (of_decide_eq_true (by kernel_rfl)) (by unfold Func.isWrapper; first | (rw [if_pos (by decide +kernel)]; kernel_rfl) | (rw [if_neg (by decide +kernel)]; exact ⟨rfl, rfl⟩))
    (fun os started H enc _ => lifted os started H enc)

/-- The statement. -/
theorem proved : Rows.StripePiecesSaid :=
  over
#print axioms proved
end Go.Proofs.Ytpchcchlidagiaa.stripePieces
