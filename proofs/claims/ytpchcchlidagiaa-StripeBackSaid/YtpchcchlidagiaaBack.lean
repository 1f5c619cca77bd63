/-
  For every slice of bytes b and every slice of slices of bytes, the law StripeBack returns true: joining the shards of a volume restores it. No conditions.
-/
import Derived.Test.YtpchcchlidagiaaRows
import Derived.Test.YtpchcchlidagiaaMat
import Derived.WalkKit
import Derived.Deep.QuietTactic
import Derived.BigQuiet
import Derived.ProofKit
import Derived.OpenShut
import Derived.ShutString
import Derived.ChangeOld
import Derived.Below
namespace Go.Proofs.Ytpchcchlidagiaa.stripeBack
open Go.ChangeShapes Go.WideShapes Go.ChangeAt Go.RowKit
open Go.ChangeMaps (open_string shut_string)
set_option linter.unusedVariables false

theorem own : ownKnob Try.prog.godebug = none := by kernel_rfl
theorem laidOut : laidOutB Try.prog = true := by kernel_rfl

/-- A slice of integers that came in. -/
def IsRow (k : IntKind) (w : World) (a : Option Addr) (len cap : Nat) (zs : List Int) : Prop :=
  (a = none ∧ len = 0 ∧ cap = 0 ∧ zs = []) ∨
  ∃ x, a = some x ∧ len ≤ cap ∧ cap ≤ maxLen ∧ zs.length = cap ∧ (∀ i, i < zs.length → w.cell? (x.add i) = some (.int k (zs.getD i 0))) ∧ ∀ n ∈ zs, (Lit.int k n).wf = true

set_option maxRecDepth 100000 in
set_option maxHeartbeats 1000000 in
theorem walk (a0 : Option Addr) (len0 cap0 : Nat) (z0 : List Int) (a1 : Option Addr) (len1 cap1 : Nat) (w : World) (w0 : IsRow .u8 w a0 len0 cap0 z0) (w1 : IsMat w a1 len1 cap1) :
    Calls Try.prog 9 #[.slice a0 len0 cap0, .slice a1 len1 cap1] w fun e w' => e = .returned (.bool true) ∧ Below w.heap.size w w' := by
  obtain ⟨hl, hm, hb⟩ := byt_of_row w0
  obtain ⟨As, ln, cp, f1, hml, hmc, hH, -, hnil⟩ := w1
  clear w0
  obtain ⟨n, hn⟩ : ∃ n, min len0 3000 = n := ⟨_, rfl⟩
  have hn1 : n ≤ len0 := by omega
  have hn2 : n ≤ 3000 := by omega
  have hb' := hb n hn1
  have Hn := Lib.hid hn
  clear hn hb
  generalize hf : (fun i => z0.getD i 0) = f at *
  clear hf
  go_enter Try.func9, Try.ntmps9
  go_wp2_with fail
  refine (cut_any a0 len0 cap0 w hl hm).mono ?_
  rintro e w' ⟨rfl, rfl⟩
  rw [Hn.out]
  go_wp2_with fail
  refine (Split_any a0 n cap0 _ w (by omega) (by omega) hm hb').mono ?_
  rintro e w1 ⟨G, cG, h, rfl, hcG, hcG2, hS, hB⟩
  obtain ⟨m, hm64⟩ : ∃ m, szN n = m := ⟨_, rfl⟩
  have Hm := Lib.hid hm64
  rw [hm64] at hS
  have hm2 : m ≤ 1048576 := by rw [← hm64]; unfold szN; omega
  clear hm64
  by_cases h4 : 4 < len1
  · have i4 : (4 : Int) < (len1 : Int) := by omega
    clear hS
    go_wp2_with (go_at_call 14; refine (awake_any _).mono ?_; rintro e w' ⟨rfl, hB'⟩)
    go_ret
    exact ⟨rfl, hB.trans (hB'.mono hB.size)⟩
  · have i4 : (len1 : Int) ≤ 4 := by omega
    have HS := Lib.hid hS
    clear hS
    go_wp2_with fail
    obtain ⟨wo, rfl⟩ : ∃ wo : World, wo = w1 := ⟨_, rfl⟩
    go_loopw [29] (fun i W => ∃ k : Nat, k ≤ 4 ∧ i = .int .i64 k ∧ Below wo.heap.size wo W) (fun i _ => 4 - (intOf i).toNat)
    case atStart => exact ⟨0, by omega, rfl, Below.refl _ _⟩
    case round =>
      obtain ⟨k, hk, rfl, hB2⟩ := hrel
      by_cases hlt : k < 4
      · have c1 := (HS.out.below hB2).head k hlt
        have k0 : (0 : Int) ≤ (k : Int) := by omega
        have k1 : (k : Int) < 4 := by omega
        go_wp2_with fail
        go_quiet ((go_at_call 12; exact Calls.quiet_of_same ((Size_is n m _ (by omega) Hm.out).mono fun _ _ h => ⟨h.1, h.2.symm⟩)))
        go_wp2_with fail
        go_roundw
        case rel => exact ⟨k + 1, by omega, by go_num, below_drewN hB2 _⟩
        case measure => simp [intOf]; omega
      · obtain rfl : k = 4 := by omega
        have hS2 := HS.out.below hB2
        have hbs : ∀ w : World, (Instr.buildSlice 43 0 #[]).run Try.prog w = .ok (.slice (some ⟨w.heap.size, 0, none⟩) 0 0) (w.alloc (.cells #[] 40)) := fun _ => by kernel_rfl
        obtain ⟨ih, hih, hy0, hy1, hy2⟩ := info_parts info40
        have hmade := World.ownsRow_made (base := wr.heap.size) (e := 40) (size := 1) wr #[] 0 (Nat.le_refl _) (by unfold maxLen; omega) rfl
        have hnews : ∀ j u, (heads h m 4)[j]? = some u → (wr.alloc (.cells #[] 40)).cell? ((⟨G, 0, none⟩ : Addr).add j) = some u := by
          intro j u hu
          have hj : j < 4 := by
            rcases Nat.lt_or_ge j 4 with h | h
            · exact h
            · rw [List.getElem?_eq_none (by simp [heads]; omega)] at hu; cases hu
          rw [heads_at _ _ _ hj] at hu
          cases hu
          rw [add_plain, Nat.zero_add]
          exact (World.cell?_alloc_lt wr _ ⟨G, j, none⟩ hS2.low.2).trans (hS2.head j hj)
        have hone : ∀ u ∈ heads h m 4, u.oneCell' = true := by
          intro u hu
          obtain ⟨j, _, rfl⟩ := List.mem_map.1 hu
          rfl
        have hhl : (heads h m 4).length = 4 := by simp [heads]
        have hmores : ∀ W, Below wr.heap.size wr W → ∀ x : Addr, a1 = some x → ∀ j u, ((List.range len1).map fun i => Value.slice (As i) (ln i) (cp i))[j]? = some u → W.cell? (x.add j) = some u := by
          rintro W hW x rfl j u hu
          have hj : j < len1 := by
            rcases Nat.lt_or_ge j len1 with h | h
            · exact h
            · rw [List.getElem?_eq_none (by simpa using h)] at hu; cases hu
          obtain ⟨g0, o0, e0, hc0⟩ := hH.1 (by omega)
          cases e0
          have hcj := hc0 j hj
          simp [hj] at hu
          subst hu
          rw [add_plain]
          have hB3 : Below w.heap.size w W := (hB.trans (hB2.mono hB.size)).trans (hW.mono (Nat.le_trans hB.size hB2.size))
          exact (hB3.cell (p := ⟨g0, o0 + j, none⟩) (World.block_lt_of_cell? w _ hcj)).trans hcj
        have hmone : ∀ u ∈ (List.range len1).map fun i => Value.slice (As i) (ln i) (cp i), u.oneCell' = true := by
          intro u hu
          obtain ⟨j, _, rfl⟩ := List.mem_map.1 hu
          rfl
        have hml2 : ((List.range len1).map fun i => Value.slice (As i) (ln i) (cp i)).length = len1 := by simp
        generalize hmr : ((List.range len1).map fun i => Value.slice (As i) (ln i) (cp i)) = mores at *
        generalize hhd : heads h m 4 = hs4 at *
        have Hmr := Lib.hid hmr
        have Hhd := Lib.hid hhd
        clear hmr hhd
        have hBr : Below wr.heap.size wr (wr.alloc (.cells #[] 40)) := (Below.refl _ wr).alloc (Nat.le_refl _) _
        have fin : ∀ v2 w3, w3.ownsRow wr.heap.size 40 1 v2 (4 + len1) (hs4 ++ mores) → Below wr.heap.size wr w3 → Calls Try.prog 21 #[v2, .int .i64 (n : Int)] w3 (JoinPost w3 n (fill f n)) := fun v2 w3 h1 h2 => by
          rw [← Hmr.out, ← Hhd.out] at h1
          exact back_join (by omega) Hm.out hm2 (hS2.below h2) hH.2 h1
        have hwB : Below w.heap.size w wr := hB.trans (hB2.mono hB.size)
        have tok1 : True := trivial
        cases a1 with
        | none =>
          obtain ⟨rfl, rfl⟩ := hnil rfl
          go_wp2_with (first
            | (at_builtin; have _t := tok1; refine wpList_append_own _ rfl (.tmp 43) (.tmp 44) 43 rfl wr.heap.size 40 ih (.slice none 0 0) 1 24 Try.underlying43 hih hy0 hy1 hy2 rfl (by decide) _ 0 [] rfl hmade ⟨G, 0, none⟩ 4 cG hs4 rfl (by rw [hhl]) hnews hone (by unfold maxLen; omega) (by omega) (by simp) ?_; intro v1 w2 hown1 hgrow1 _; clear tok1)
            | (at_builtin; go_must (refine wpList_append_own_none rfl (.tmp 45) (.tmp 46) 43 rfl wr.heap.size 40 ih 1 Try.underlying43 hih _ 4 ([] ++ hs4) rfl hown1 rfl ?_)))
          have hw3 : Below wr.heap.size wr w2 := hBr.grown hgrow1 (by simp) (fun r e => by cases e; exact Nat.le_refl _)
          have hmn : mores = [] := List.eq_nil_of_length_eq_zero hml2
          refine (fin v1 w2 (by rw [hmn, List.append_nil]; exact hown1) hw3).mono ?_
          rintro e w4 ⟨vj, rfl, hownJ, hB4⟩
          have hBB : Below w.heap.size w w4 := (hwB.trans (hw3.mono hwB.size)).trans (hB4.mono (Nat.le_trans hwB.size hw3.size))
          obtain ⟨AJ, cJ, rfl, _, _, hAJ⟩ := row_form hownJ
          have hby : Byt w4 AJ n (fun i => jb (fill f n) (0 + i)) := fun h0 => by
            obtain ⟨g', rfl, _, _, hc', _⟩ := hAJ h0
            exact ⟨g', 0, rfl, fun i hi => by rw [Nat.zero_add]; exact hc' i _ (seg_at _ 0 n hi)⟩
          have r1 := conv_bytes w4 AJ n cJ _ hby
          have r2 := conv_bytes w4 a0 n cap0 f (hb'.below hBB)
          rw [show lst n (fun i => jb (fill f n) (0 + i)) = lst n f from joined_list f n] at r1
          generalize strOfNums (lst n f) = str at r1 r2
          clear hby hAJ hownJ hB4 hw3 hwB fin hb' hS2 HS hmores
          go_wp2_with (go_at_call 14; refine (awake_any _).mono ?_; rintro e w' ⟨rfl, hB'⟩)
          go_ret
          exact ⟨rfl, hBB.trans (hB'.mono hBB.size)⟩
        | some x =>
          go_wp2_with (first
            | (at_builtin; have _t := tok1; refine wpList_append_own _ rfl (.tmp 43) (.tmp 44) 43 rfl wr.heap.size 40 ih (.slice none 0 0) 1 24 Try.underlying43 hih hy0 hy1 hy2 rfl (by decide) _ 0 [] rfl hmade ⟨G, 0, none⟩ 4 cG hs4 rfl (by rw [hhl]) hnews hone (by unfold maxLen; omega) (by omega) (by simp) ?_; intro v1 w2 hown1 hgrow1 _; clear tok1; have hBw2 : Below wr.heap.size wr w2 := hBr.grown hgrow1 (by simp) (fun r e => by cases e; exact Nat.le_refl _))
            | (at_builtin; go_must (refine wpList_append_own _ rfl (.tmp 45) (.tmp 46) 43 rfl wr.heap.size 40 ih (.slice none 0 0) 1 24 Try.underlying43 hih hy0 hy1 hy2 rfl (by decide) _ 4 ([] ++ hs4) rfl hown1 x len1 cap1 mores rfl (by rw [hml2]; omega) (hmores _ hBw2 x rfl) hmone (by unfold maxLen; omega) (by omega) hBw2.size ?_); intro v2 w3 hown2 hgrow2 _))
          have hw3 : Below wr.heap.size wr w3 := hBw2.grown hgrow2 hBw2.size (fun r e => (hown1.lt r e).1)
          refine (fin v2 w3 hown2 hw3).mono ?_
          rintro e w4 ⟨vj, rfl, hownJ, hB4⟩
          have hBB : Below w.heap.size w w4 := (hwB.trans (hw3.mono hwB.size)).trans (hB4.mono (Nat.le_trans hwB.size hw3.size))
          obtain ⟨AJ, cJ, rfl, _, _, hAJ⟩ := row_form hownJ
          have hby : Byt w4 AJ n (fun i => jb (fill f n) (0 + i)) := fun h0 => by
            obtain ⟨g', rfl, _, _, hc', _⟩ := hAJ h0
            exact ⟨g', 0, rfl, fun i hi => by rw [Nat.zero_add]; exact hc' i _ (seg_at _ 0 n hi)⟩
          have r1 := conv_bytes w4 AJ n cJ _ hby
          have r2 := conv_bytes w4 a0 n cap0 f (hb'.below hBB)
          rw [show lst n (fun i => jb (fill f n) (0 + i)) = lst n f from joined_list f n] at r1
          generalize strOfNums (lst n f) = str at r1 r2
          clear hby hAJ hownJ hB4 hw3 hwB fin hb' hS2 HS hmores
          go_wp2_with (go_at_call 14; refine (awake_any _).mono ?_; rintro e w' ⟨rfl, hB'⟩)
          go_ret
          exact ⟨rfl, hBB.trans (hB'.mono hBB.size)⟩

/-! The row's step. -/
set_option maxRecDepth 100000 in
theorem lifted (os : Os) (started : os.Started) (H : Type) (enc : TypeId × Value → H) :
    ReturnsInHanded {} Try.checked os 9 .any (Rows.stripeBackSpec.pre6 enc Try.prog Try.f9 Rows.stripeBackRow.domain false) (Rows.stripeBackSpec.post enc Try.prog Try.f9 false true false false) := by
  refine returnsInHanded_of_change (C := Try.checked) own started (by kernel_rfl) Try.func9
    (ChangeSpec.witness6 (enc := enc) (C := Try.checked) false ⟨#[], #[.slice none 0 0, .slice none 0 0], []⟩ 8 (by kernel_rfl) (by kernel_rfl) (by kernel_rfl) (by kernel_rfl)) ?_
  intro W base args ds gs before hval0 hW hcnd _
  have hval : ∀ (j : Nat) t v, Try.f9.params[j]? = some t → args[j]? = some v → Value.okWide Try.prog W .any base t v := hval0
  have hW' := hW
  obtain ⟨p, q, hA0, hV, rfl, hfz, hnd⟩ := hW
  have hA : DataW.TrodAll enc Try.prog W 0 (fun _ => true) true Try.f9.params.toList args.toList ds p := hA0
  rw [Try.params9] at hA hval
  obtain ⟨v0, vs0, d0, ds0, p0, q0, hargs, rfl, rfl, h0, r0⟩ := trodAll_cons hA
  obtain ⟨v1, vs1, d1, ds1, p1, q1, rfl, rfl, rfl, h1, r1⟩ := trodAll_cons r0
  obtain ⟨rfl, rfl, rfl⟩ := trodAll_nil r1
  obtain rfl : args = #[v0, v1] := by cases args; simp_all
  obtain ⟨rfl, rfl⟩ := trodVars_none hV
  obtain ⟨a0, len0, cap0, rfl⟩ := okWide_slice Try.underlying40 (hval 0 40 v0 rfl rfl)
  have k0 := h0
  have lt0 : ∀ x ∈ p0, x.block < W.heap.size := by obtain ⟨m, hm⟩ := k0; exact DataW.trod_lt m _ _ _ hm
  obtain ⟨z0, w0⟩ : ∃ zs, IsRow .u8 W a0 len0 cap0 zs := by
    obtain ⟨fuel, hf⟩ := h0
    rcases open_ints Try.underlying40 Try.underlying5 (by kernel_rfl) hf with ⟨hcs, _⟩ | ⟨x, l, c, zs, hcs, _, hl, hm, hz, _, hcell, hwz⟩
    · simp [Value.cells] at hcs
      obtain ⟨rfl, rfl, rfl⟩ := hcs
      exact ⟨[], .inl ⟨rfl, rfl, rfl, rfl⟩⟩
    · simp [Value.cells] at hcs
      obtain ⟨rfl, rfl, rfl⟩ := hcs
      exact ⟨zs, .inr ⟨_, rfl, hl, hm, by simpa using hz, hcell, hwz⟩⟩
  obtain ⟨a1, len1, cap1, rfl⟩ := okWide_slice Try.underlying43 (hval 1 43 v1 rfl rfl)
  have k1 := h1
  have lt1 : ∀ x ∈ p1, x.block < W.heap.size := by obtain ⟨m, hm⟩ := k1; exact DataW.trod_lt m _ _ _ hm
  have w1 : IsMat W a1 len1 cap1 := by
    obtain ⟨fuel, hf⟩ := h1
    exact isMat_of_trod (by simpa [Value.cells] using hf)
  clear hA0 hval0
  refine (walk a0 len0 cap0 z0 a1 len1 cap1 W w0 w1).mono fun e W' ⟨he, bel⟩ => ?_
  subst he
  exact ⟨_, rfl, _, _, _, [], _, [], hW', trodAll_mk1 (shut_bool Try.underlying4 _), (trodAll_cons_mk (Below.trod laidOut (by kernel_rfl) (of_decide_eq_true (by kernel_rfl)) k0 bel lt0) (trodAll_cons_mk (Below.trod laidOut (by kernel_rfl) (of_decide_eq_true (by kernel_rfl)) k1 bel lt1) trodAll_mk0)), rfl, bel.frame _, fun h => by cases h⟩

theorem over : Rows.stripeBackRow.holds Try.pinned (OpenSpec.ofChange Rows.stripeBackSpec) :=
  OpenClaim.holds_of_wide 9 Try.f9 rfl rfl rfl rfl rfl rfl rfl ⟨rfl, rfl, rfl, rfl, rfl⟩ rfl rfl rfl rfl rfl (by kernel_rfl) Try.func9 (by kernel_rfl)
    (of_decide_eq_true (by kernel_rfl)) (by unfold Func.isWrapper; first | (rw [if_pos (by decide +kernel)]; kernel_rfl) | (rw [if_neg (by decide +kernel)]; exact ⟨rfl, rfl⟩))
    (fun os started H enc _ => lifted os started H enc)

/-- The statement. -/
theorem proved : Rows.StripeBackSaid := over
#print axioms proved
end Go.Proofs.Ytpchcchlidagiaa.stripeBack
