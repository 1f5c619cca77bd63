/-
  For every slice of slices of bytes l, every slice of bytes b and every int64 n, the law StripeJoins returns true: Join of package stripe equals the reference's. No conditions.
-/
import Derived.Test.YtpchcchlidagiaaRows
import Derived.Test.YtpchcchlidagiaaGen
import Derived.WalkKit
import Derived.Deep.QuietTactic
import Derived.BigQuiet
import Derived.ProofKit
import Derived.OpenShut
import Derived.ShutString
import Derived.ChangeOld
import Derived.Below
namespace Go.Proofs.Ytpchcchlidagiaa.stripeJoins
open Go.ChangeShapes Go.WideShapes Go.ChangeAt Go.RowKit
open Go.ChangeMaps (open_string shut_string)
set_option linter.unusedVariables false

theorem own : ownKnob Try.prog.godebug = none := by kernel_rfl
theorem laidOut : laidOutB Try.prog = true := by kernel_rfl

/-- A slice of integers that came in. -/
def IsRow (k : IntKind) (w : World) (a : Option Addr) (len cap : Nat) (zs : List Int) : Prop :=
  (a = none ∧ len = 0 ∧ cap = 0 ∧ zs = []) ∨
  ∃ x, a = some x ∧ len ≤ cap ∧ cap ≤ maxLen ∧ zs.length = cap ∧ (∀ i, i < zs.length → w.cell? (x.add i) = some (.int k (zs.getD i 0))) ∧ ∀ n ∈ zs, (Lit.int k n).wf = true

set_option maxRecDepth 100000 in
set_option maxHeartbeats 1000000 in
theorem walk (a0 : Option Addr) (len0 cap0 : Nat) (a1 : Option Addr) (len1 cap1 : Nat) (z1 : List Int) (a2 : Int) (w : World) (w0 : IsMat w a0 len0 cap0) (w1 : IsRow .u8 w a1 len1 cap1 z1) (w2 : (Lit.int .i64 a2).wf = true) :
    Calls Try.prog 8 #[.slice a0 len0 cap0, .slice a1 len1 cap1, .int .i64 a2] w fun e w' => e = .returned (.bool true) ∧ Below w.heap.size w w' := by
  obtain ⟨hl, hm, hb⟩ := byt_of_row w1
  obtain ⟨As, ln, cp, f0, hml, hmc, hH, hBt, hnil⟩ := w0
  obtain ⟨b0, b1⟩ := bounds_i64 w2
  clear w1 w2
  obtain ⟨n, hn⟩ : ∃ n, min len1 3000 = n := ⟨_, rfl⟩
  have hn1 : n ≤ len1 := by omega
  have hn2 : n ≤ 3000 := by omega
  have hb' := hb n hn1
  have Hn := Lib.hid hn
  clear hn hb
  generalize hf : (fun i => z1.getD i 0) = f at *
  clear hf
  by_cases h20 : 20 < len0
  · have i20 : (20 : Int) < (len0 : Int) := by omega
    go_enter Try.func8, Try.ntmps8
    go_wp2_with (go_at_call 14; refine (awake_any _).mono ?_; rintro e w' ⟨rfl, hB'⟩)
    go_ret
    exact ⟨rfl, hB'⟩
  · have i20 : (len0 : Int) ≤ 20 := by omega
    go_enter Try.func8, Try.ntmps8
    go_wp2_with fail
    go_loop [22] (fun i => ∃ k : Nat, k ≤ len0 ∧ i = .int .i64 k ∧ Hid (∀ j, j < k → ln j ≤ 500)) (fun i => len0 - (intOf i).toNat)
    case atStart => exact ⟨0, by omega, rfl, fun j hj => absurd hj (by omega)⟩
    case round =>
      obtain ⟨k, hk, rfl, hall⟩ := hrel
      by_cases hlt : k < len0
      · obtain ⟨g, o, rfl, hc⟩ := hH.1 (by omega)
        have c1 := hc k hlt
        have k0 : (0 : Int) ≤ (k : Int) := by omega
        have k1 : (k : Int) < (len0 : Int) := by omega
        clear hc
        by_cases h5 : 500 < ln k
        · have i5 : (500 : Int) < (ln k : Int) := by omega
          go_wp2_with (go_at_call 14; refine (awake_any _).mono ?_; rintro e w' ⟨rfl, hB'⟩)
          go_ret
          exact ⟨rfl, hB'⟩
        · have i5 : (ln k : Int) ≤ 500 := by omega
          go_wp2_with fail
          go_round
          case rel => exact ⟨k + 1, by omega, by go_num, fun j hj => by
            rcases Nat.lt_or_ge j k with h | h
            · exact hall.out j h
            · obtain rfl : j = k := by omega
              omega⟩
          case measure => simp [intOf]; omega
      · obtain rfl : k = len0 := by omega
        have hM0 : Mat w a0 k cap0 ln f0 := ⟨As, cp, hml, hmc, hH, hBt, fun i hi => by have := hall.out i hi; omega⟩
        clear hall hH hBt
        go_wp2_with fail
        refine (cut_any a1 len1 cap1 w hl hm).mono ?_
        rintro e w' ⟨rfl, rfl⟩
        rw [Hn.out]
        go_wp2_with fail
        refine (rSplit_any a1 n cap1 _ w (by omega) (by omega) hm hb').mono ?_
        rintro e w2 ⟨G, cG, h, rfl, hcG, hcG2, hS, hB⟩
        go_wp2_with fail
        obtain ⟨m, hm64⟩ : ∃ m, szN n = m := ⟨_, rfl⟩
        rw [hm64] at hS
        have hm2 : m ≤ 65536 := by rw [← hm64]; unfold szN; omega
        clear hm64
        obtain ⟨w3, hw3⟩ : ∃ w3, w2.alloc (.cells #[.slice a0 k cap0, .slice (some ⟨G, 0, none⟩) 4 cG] 43) = w3 := ⟨_, rfl⟩
        have hB3 : Below w2.heap.size w2 w3 := by rw [← hw3]; exact (Below.refl _ _).alloc (Nat.le_refl _) _
        have hBw : Below w.heap.size w w3 := hB.trans (hB3.mono hB.size)
        have hz3 : w2.heap.size < w3.heap.size := by rw [← hw3]; simp
        have hblk : w3.heap[w2.heap.size]? = some (.cells #[.slice a0 k cap0, .slice (some ⟨G, 0, none⟩) 4 cG] 43 (0, 0)) := by rw [← hw3]; exact World.alloc_heap_new _ _
        obtain ⟨sA, sL, sC, sn, sf, hsj⟩ : ∃ (sA : Nat → Option Addr) (sL sC : Nat → Nat) (sn : Nat → Nat → Nat) (sf : Nat → Nat → Nat → Int), ∀ j, j < 2 → w3.cell? ⟨w2.heap.size, j, none⟩ = some (.slice (sA j) (sL j) (sC j)) ∧ Mat w3 (sA j) (sL j) (sC j) (sn j) (sf j) := by
          refine ⟨fun j => if j = 0 then a0 else some ⟨G, 0, none⟩, fun j => if j = 0 then k else 4, fun j => if j = 0 then cap0 else cG, fun j => if j = 0 then ln else fun _ => m, fun j => if j = 0 then f0 else fill f n, fun j hj => ?_⟩
          have hc0 : w3.cell? ⟨w2.heap.size, j, none⟩ = #[Value.slice a0 k cap0, .slice (some ⟨G, 0, none⟩) 4 cG][j]? := cell_of_row w3 _ j _ _ _ hblk
          match j, hj with
          | 0, _ => exact ⟨hc0, hM0.below hBw⟩
          | 1, _ =>
            refine ⟨hc0, ?_⟩
            have hS3 := hS.below hB3
            exact ⟨fun i => some ⟨h i, 0, none⟩, fun _ => m, hcG, hcG2, ⟨fun _ => ⟨G, 0, rfl, fun i hi => by rw [Nat.zero_add]; exact hS3.head i hi⟩, fun i _ => ⟨Nat.le_refl _, by show m ≤ 9223372036854775807; omega⟩⟩, fun i hi => (hS3.rows i hi).2.2.byt, fun i _ => hm2⟩
        rw [hw3]
        clear hS hM0 hblk hw3 hB hB3 hml hmc
        go_loopw [39] (fun i W => ∃ j : Nat, j ≤ 2 ∧ i = .int .i64 j ∧ Below w3.heap.size w3 W) (fun i _ => 2 - (intOf i).toNat)
        case atStart => exact ⟨0, by omega, rfl, Below.refl _ _⟩
        case round =>
          obtain ⟨j, hj, rfl, hBj⟩ := hrel
          by_cases hltj : j < 2
          · obtain ⟨hcj, hMj⟩ := hsj j hltj
            have hcj' := (hBj.cell (p := ⟨w2.heap.size, j, none⟩) hz3).trans hcj
            have hMj' := hMj.below hBj
            have k0 : (0 : Int) ≤ (j : Int) := by omega
            have k1 : (j : Int) < 2 := by omega
            clear hsj hcj hMj
            go_wp2_with fail
            refine (cut_any a1 len1 cap1 wr hl hm).mono ?_
            rintro e w' ⟨rfl, rfl⟩
            rw [Hn.out]
            go_wp2_with fail
            obtain ⟨q0, q1⟩ := bounds_i64 (wf_bits BinOp.and IntKind.i64 a2 2047)
            generalize bits BinOp.and IntKind.i64 a2 2047 = qa at q0 q1 ⊢
            obtain ⟨w4, hw4⟩ : ∃ w4, wr.alloc (.cells #[.int .i64 a2, .int .i64 (n : Int), .int .i64 qa] 2) = w4 := ⟨_, rfl⟩
            have hB4 : Below wr.heap.size wr w4 := by rw [← hw4]; exact (Below.refl _ _).alloc (Nat.le_refl _) _
            have hz4 : wr.heap.size < w4.heap.size := by rw [← hw4]; simp
            have hblk : w4.heap[wr.heap.size]? = some (.cells #[.int .i64 a2, .int .i64 (n : Int), .int .i64 qa] 2 (0, 0)) := by rw [← hw4]; exact World.alloc_heap_new _ _
            obtain ⟨kf, hkf⟩ : ∃ kf : Nat → Int, ∀ r, r < 3 → w4.cell? ⟨wr.heap.size, r, none⟩ = some (.int .i64 (kf r)) ∧ -9223372036854775808 ≤ kf r ∧ kf r ≤ 9223372036854775807 := by
              refine ⟨fun r => if r = 0 then a2 else if r = 1 then (n : Int) else qa, fun r hr => ?_⟩
              have hc0 : w4.cell? ⟨wr.heap.size, r, none⟩ = #[Value.int .i64 a2, .int .i64 (n : Int), .int .i64 qa][r]? := cell_of_row w4 _ r _ _ _ hblk
              match r, hr with
              | 0, _ => exact ⟨hc0, b0, b1⟩
              | 1, _ => exact ⟨hc0, by show _ ≤ (n : Int); omega, by show (n : Int) ≤ _; omega⟩
              | 2, _ => exact ⟨hc0, q0, q1⟩
            have hM4 := hMj'.below hB4
            have hB4j : Below w3.heap.size w3 w4 := hBj.trans (hB4.mono hBj.size)
            rw [hw4]
            clear hblk hw4 q0 q1 b0 b1 hMj' hcj' hnil
            obtain ⟨wo, rfl⟩ : ∃ wo : World, wo = wr := ⟨_, rfl⟩
            go_loopw [51] (fun i W => ∃ r : Nat, r ≤ 3 ∧ i = .int .i64 r ∧ Below w4.heap.size w4 W) (fun i _ => 3 - (intOf i).toNat)
            case atStart => exact ⟨0, by omega, rfl, Below.refl _ _⟩
            case round =>
              obtain ⟨r, hr, rfl, hBr⟩ := hrel
              by_cases hltr : r < 3
              · obtain ⟨hcr, g0, g1⟩ := hkf r hltr
                have hcr' := (hBr.cell (p := ⟨wo.heap.size, r, none⟩) hz4).trans hcr
                have hMr := hM4.below hBr
                have i0 : (0 : Int) ≤ (r : Int) := by omega
                have i1 : (r : Int) < 3 := by omega
                clear hkf hcr
                generalize kf r = kr at *
                go_wp2_with fail
                refine (Join_gen (sA j) (sL j) (sC j) (sn j) (sf j) kr _ hMr g0 g1).mono ?_
                rintro e w5 ⟨Av, cv, rfl, hbx, hB5⟩
                go_wp2_with fail
                refine (rJoin_gen (sA j) (sL j) (sC j) (sn j) (sf j) kr _ (hMr.below hB5) g0 g1).mono ?_
                rintro e w6 ⟨Av2, cv2, rfl, hby, hB6⟩
                have r1 := conv_bytes w6 Av _ cv _ (hbx.below hB6)
                have r2 := conv_bytes w6 Av2 _ cv2 _ hby
                generalize strOfNums (lst (jM (sL j) (sn j) kr) (jb (sf j))) = str at r1 r2
                generalize jM (sL j) (sn j) kr = M at *
                generalize jE (sL j) (sn j) kr = E at *
                have hB7 := (hBr.trans (hB5.mono hBr.size)).trans (hB6.mono (Nat.le_trans hBr.size hB5.size))
                clear hbx hby hMr hM4
                go_wp2_with fail
                go_roundw
                case rel => exact ⟨r + 1, by omega, by go_num, hB7⟩
                case measure => simp [intOf]; omega
              · obtain rfl : r = 3 := by omega
                clear hkf
                go_wp2_with fail
                go_roundw
                case rel => exact ⟨j + 1, by omega, by go_num, hB4j.trans (hBr.mono hB4j.size)⟩
                case measure => simp [intOf]; omega
          · obtain rfl : j = 2 := by omega
            clear hsj
            go_wp2_with (go_at_call 14; refine (awake_any _).mono ?_; rintro e w' ⟨rfl, hB'⟩)
            go_ret
            have hBx := hBw.trans (hBj.mono hBw.size)
            exact ⟨rfl, hBx.trans (hB'.mono hBx.size)⟩

/-! The row's step. -/
set_option maxRecDepth 100000 in
theorem lifted (os : Os) (started : os.Started) (H : Type) (enc : TypeId × Value → H) :
    ReturnsInHanded {} Try.checked os 8 .any (Rows.stripeJoinsSpec.pre6 enc Try.prog Try.f8 Rows.stripeJoinsRow.domain false) (Rows.stripeJoinsSpec.post enc Try.prog Try.f8 false true false false) := by
  refine returnsInHanded_of_change (C := Try.checked) own started (by kernel_rfl) Try.func8
    (ChangeSpec.witness6 (enc := enc) (C := Try.checked) false ⟨#[], #[.slice none 0 0, .slice none 0 0, .int .i64 0], []⟩ 8 (by kernel_rfl) (by kernel_rfl) (by kernel_rfl) (by kernel_rfl)) ?_
  intro W base args ds gs before hval0 hW hcnd _
  have hval : ∀ (j : Nat) t v, Try.f8.params[j]? = some t → args[j]? = some v → Value.okWide Try.prog W .any base t v := hval0
  have hW' := hW
  obtain ⟨p, q, hA0, hV, rfl, hfz, hnd⟩ := hW
  have hA : DataW.TrodAll enc Try.prog W 0 (fun _ => true) true Try.f8.params.toList args.toList ds p := hA0
  rw [Try.params8] at hA hval
  obtain ⟨v0, vs0, d0, ds0, p0, q0, hargs, rfl, rfl, h0, r0⟩ := trodAll_cons hA
  obtain ⟨v1, vs1, d1, ds1, p1, q1, rfl, rfl, rfl, h1, r1⟩ := trodAll_cons r0
  obtain ⟨v2, vs2, d2, ds2, p2, q2, rfl, rfl, rfl, h2, r2⟩ := trodAll_cons r1
  obtain ⟨rfl, rfl, rfl⟩ := trodAll_nil r2
  obtain rfl : args = #[v0, v1, v2] := by cases args; simp_all
  obtain ⟨rfl, rfl⟩ := trodVars_none hV
  obtain ⟨a0, len0, cap0, rfl⟩ := okWide_slice Try.underlying43 (hval 0 43 v0 rfl rfl)
  have k0 := h0
  have lt0 : ∀ x ∈ p0, x.block < W.heap.size := by obtain ⟨m, hm⟩ := k0; exact DataW.trod_lt m _ _ _ hm
  have w0 : IsMat W a0 len0 cap0 := by
    obtain ⟨fuel, hf⟩ := h0
    exact isMat_of_trod (by simpa [Value.cells] using hf)
  obtain ⟨a1, len1, cap1, rfl⟩ := okWide_slice Try.underlying40 (hval 1 40 v1 rfl rfl)
  have k1 := h1
  have lt1 : ∀ x ∈ p1, x.block < W.heap.size := by obtain ⟨m, hm⟩ := k1; exact DataW.trod_lt m _ _ _ hm
  obtain ⟨z1, w1⟩ : ∃ zs, IsRow .u8 W a1 len1 cap1 zs := by
    obtain ⟨fuel, hf⟩ := h1
    rcases open_ints Try.underlying40 Try.underlying5 (by kernel_rfl) hf with ⟨hcs, _⟩ | ⟨x, l, c, zs, hcs, _, hl, hm, hz, _, hcell, hwz⟩
    · simp [Value.cells] at hcs
      obtain ⟨rfl, rfl, rfl⟩ := hcs
      exact ⟨[], .inl ⟨rfl, rfl, rfl, rfl⟩⟩
    · simp [Value.cells] at hcs
      obtain ⟨rfl, rfl, rfl⟩ := hcs
      exact ⟨zs, .inr ⟨_, rfl, hl, hm, by simpa using hz, hcell, hwz⟩⟩
  obtain ⟨a2, rfl, rfl, rfl, w2⟩ := open_int Try.underlying2 (hval 2 2 v2 rfl rfl) h2
  clear hA0 hval0
  refine (walk a0 len0 cap0 a1 len1 cap1 z1 a2 W w0 w1 w2).mono fun e W' ⟨he, bel⟩ => ?_
  subst he
  exact ⟨_, rfl, _, _, _, [], _, [], hW', trodAll_mk1 (shut_bool Try.underlying4 _), (trodAll_cons_mk (Below.trod laidOut (by kernel_rfl) (of_decide_eq_true (by kernel_rfl)) k0 bel lt0) (trodAll_cons_mk (Below.trod laidOut (by kernel_rfl) (of_decide_eq_true (by kernel_rfl)) k1 bel lt1) (trodAll_cons_mk (shut_int Try.underlying2 w2) trodAll_mk0))), rfl, bel.frame _, fun h => by cases h⟩

theorem over : Rows.stripeJoinsRow.holds Try.pinned (OpenSpec.ofChange Rows.stripeJoinsSpec) :=
  OpenClaim.holds_of_wide 8 Try.f8 rfl rfl rfl rfl rfl rfl rfl ⟨rfl, rfl, rfl, rfl, rfl⟩ rfl rfl rfl rfl rfl (by kernel_rfl) Try.func8 (by kernel_rfl)
    (of_decide_eq_true (by kernel_rfl)) (by unfold Func.isWrapper; first | (rw [if_pos (by decide +kernel)]; kernel_rfl) | (rw [if_neg (by decide +kernel)]; exact ⟨rfl, rfl⟩))
    (fun os started H enc _ => lifted os started H enc)

/-- The statement. -/
theorem proved : Rows.StripeJoinsSaid := over
#print axioms proved
end Go.Proofs.Ytpchcchlidagiaa.stripeJoins
