/-
  For every two uint32 a and b, the law StripePlaces returns true: different bytes have different places, and neighbours in a block are neighbours in the shard. No conditions.
-/
import Derived.Test.YtpchcchlidagiaaRows
import Derived.Test.YtpchcchlidagiaaAwake
import Derived.WalkKit
import Derived.ProofKit
import Derived.OpenShut
import Derived.Below
import Derived.ShutString
namespace Go.Proofs.Ytpchcchlidagiaa.stripePlaces
open Go.ChangeShapes Go.WideShapes Go.ChangeAt Go.RowKit
open Go.ChangeMaps (open_string shut_string)
set_option linter.unusedVariables false      -- a walk need not use every 'w<i>' (that an integer argument fits its kind)

theorem own : ownKnob Try.prog.godebug = none := by kernel_rfl

/-! The walk: the Go text returns true and writes nothing that was there. -/
set_option maxHeartbeats 1000000 in
theorem walk (a0 : Int) (a1 : Int) (w0 : (Lit.int .u32 a0).wf = true) (w1 : (Lit.int .u32 a1).wf = true) (w : World) :
    Calls Try.prog 5 #[.int .u32 a0, .int .u32 a1] w fun e w' => e = .returned (.bool true) ∧ Below w.heap.size w w' := by
  obtain ⟨b0, b1⟩ := bounds_u32 w0
  obtain ⟨c0, c1⟩ := bounds_u32 w1
  clear w0 w1
  obtain ⟨s0, s1⟩ := shOf_bd a0
  obtain ⟨t0, t1⟩ := shOf_bd a1
  obtain ⟨x0, x1⟩ := atOf_bd a0 b0
  obtain ⟨y0, y1⟩ := atOf_bd a1 c0
  by_cases hab : a0 = a1
  · subst hab
    clear t0 t1 y0 y1 c0 c1
    have e1 : (atOf a0 - atOf a0 == a0 - a0) = true := by simp
    go_enter Try.func5, Try.ntmps5
    go_wp2_with (first | (go_at_call 10; refine (Place_yes _ _ (by omega) (by omega)).mono ?_; rintro e w' ⟨rfl, rfl⟩) | (go_at_call 14; refine (awake_any _).mono ?_; rintro e w' ⟨rfl, hB⟩))
    go_ret
    exact ⟨rfl, hB⟩
  · have e0 : (a0 == a1) = false := by simp [hab]
    by_cases hs : shOf a0 = shOf a1
    · have e1 : (shOf a0 == shOf a1) = true := by simp [hs]
      have hx : atOf a0 ≠ atOf a1 := by unfold shOf at hs; unfold atOf; omega
      have e2 : (atOf a0 == atOf a1) = false := by simp [hx]
      by_cases hq : a0 / 64 = a1 / 64
      · have e3 : (a0 / 64 != a1 / 64) = false := by simp [hq]
        have e4 : (atOf a0 - atOf a1 == a0 - a1) = true := by
          have : atOf a0 - atOf a1 = a0 - a1 := by unfold atOf; omega
          simp [this]
        clear hs hq hab hx
        go_enter Try.func5, Try.ntmps5
        go_wp2_with (first | (go_at_call 10; refine (Place_yes _ _ (by omega) (by omega)).mono ?_; rintro e w' ⟨rfl, rfl⟩) | (go_at_call 14; refine (awake_any _).mono ?_; rintro e w' ⟨rfl, hB⟩))
        go_ret
        exact ⟨rfl, hB⟩
      · have e3 : (a0 / 64 != a1 / 64) = true := by simp [hq]
        clear hs hq hab hx
        go_enter Try.func5, Try.ntmps5
        go_wp2_with (first | (go_at_call 10; refine (Place_yes _ _ (by omega) (by omega)).mono ?_; rintro e w' ⟨rfl, rfl⟩) | (go_at_call 14; refine (awake_any _).mono ?_; rintro e w' ⟨rfl, hB⟩))
        go_ret
        exact ⟨rfl, hB⟩
    · have e1 : (shOf a0 == shOf a1) = false := by simp [hs]
      have hq : a0 / 64 ≠ a1 / 64 := by unfold shOf at hs; omega
      have e3 : (a0 / 64 != a1 / 64) = true := by simp [hq]
      clear hs hq hab
      go_enter Try.func5, Try.ntmps5
      go_wp2_with (first | (go_at_call 10; refine (Place_yes _ _ (by omega) (by omega)).mono ?_; rintro e w' ⟨rfl, rfl⟩) | (go_at_call 14; refine (awake_any _).mono ?_; rintro e w' ⟨rfl, hB⟩))
      go_ret
      exact ⟨rfl, hB⟩

/-! The row's step. -/
set_option maxRecDepth 100000 in
theorem lifted (os : Os) (started : os.Started) (H : Type) (enc : TypeId × Value → H) :
    ReturnsInHanded {} Try.checked os 5 .any (Rows.stripePlacesSpec.pre6 enc Try.prog Try.f5 Rows.stripePlacesRow.domain false) (Rows.stripePlacesSpec.post enc Try.prog Try.f5 false true false false) := by
  refine returnsInHanded_of_change (C := Try.checked) own started (by kernel_rfl) Try.func5
    (ChangeSpec.witness6 (enc := enc) (C := Try.checked) false ⟨#[], #[.int .u32 0, .int .u32 0], []⟩ 8 (by kernel_rfl) (by kernel_rfl) (by kernel_rfl) (by kernel_rfl)) ?_
  intro W base args ds gs before hval0 hW hcnd _
  have hval : ∀ (j : Nat) t v, Try.f5.params[j]? = some t → args[j]? = some v → Value.okWide Try.prog W .any base t v := hval0
  have hW' := hW
  obtain ⟨p, q, hA0, hV, rfl, hfz, hnd⟩ := hW
  have hA : DataW.TrodAll enc Try.prog W 0 (fun _ => true) true Try.f5.params.toList args.toList ds p := hA0
  rw [Try.params5] at hA hval
  obtain ⟨v0, vs0, d0, ds0, p0, q0, hargs, rfl, rfl, h0, r0⟩ := trodAll_cons hA
  obtain ⟨v1, vs1, d1, ds1, p1, q1, rfl, rfl, rfl, h1, r1⟩ := trodAll_cons r0
  obtain ⟨rfl, rfl, rfl⟩ := trodAll_nil r1
  obtain rfl : args = #[v0, v1] := by cases args; simp_all
  obtain ⟨rfl, rfl⟩ := trodVars_none hV
  obtain ⟨a0, rfl, rfl, rfl, w0⟩ := open_int Try.underlying38 (hval 0 38 v0 rfl rfl) h0
  obtain ⟨a1, rfl, rfl, rfl, w1⟩ := open_int Try.underlying38 (hval 1 38 v1 rfl rfl) h1
  clear hA0 hval0
  simp only [List.append_nil] at hW'
  refine (walk a0 a1 w0 w1 W).mono fun e W' ⟨he, hg⟩ => ?_
  subst he
  exact ⟨_, rfl, _, _, _, [], [], [], hW', trodAll_mk1 (shut_bool Try.underlying4 _), (trodAll_cons_mk (shut_int Try.underlying38 w0) (trodAll_cons_mk (shut_int Try.underlying38 w1) trodAll_mk0)), rfl, hg.frame _, fun h => by cases h⟩

theorem over : Rows.stripePlacesRow.holds Try.pinned (OpenSpec.ofChange Rows.stripePlacesSpec) :=
  OpenClaim.holds_of_wide 5 Try.f5 rfl rfl rfl rfl rfl rfl rfl ⟨rfl, rfl, rfl, rfl, rfl⟩ rfl rfl rfl rfl rfl (by kernel_rfl) Try.func5 (by kernel_rfl)
    (of_decide_eq_true (by kernel_rfl)) (by unfold Func.isWrapper; first | (rw [if_pos (by decide +kernel)]; kernel_rfl) | (rw [if_neg (by decide +kernel)]; exact ⟨rfl, rfl⟩))
    (fun os started H enc _ => lifted os started H enc)

/-- The statement. -/
theorem proved : Rows.StripePlacesSaid :=
  over
#print axioms proved
end Go.Proofs.Ytpchcchlidagiaa.stripePlaces
