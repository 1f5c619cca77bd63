/- The contract of stripe.Join where it refuses; what is known of shards that came in. -/
import Derived.Test.YtpchcchlidagiaaSeg
namespace Go.Proofs.Ytpchcchlidagiaa
open Go.RowKit

/-- A slice of slices that came in, as it is read: its headers. -/
def Hdrs (w : World) (A : Option Addr) (len : Nat) (As : Nat → Option Addr) (ln cp : Nat → Nat) : Prop :=
  (0 < len → ∃ g o, A = some ⟨g, o, none⟩ ∧ ∀ i, i < len → w.cell? ⟨g, o + i, none⟩ = some (.slice (As i) (ln i) (cp i))) ∧ ∀ i, i < len → ln i ≤ cp i ∧ cp i ≤ 9223372036854775807

theorem Hdrs.below {w w' : World} {A : Option Addr} {len : Nat} {As : Nat → Option Addr} {ln cp : Nat → Nat} (h : Hdrs w A len As ln cp) (hB : Below w.heap.size w w') : Hdrs w' A len As ln cp :=
  ⟨fun hl => by
    obtain ⟨g, o, rfl, hc⟩ := h.1 hl
    exact ⟨g, o, rfl, fun i hi => (hB.cell (p := ⟨g, o + i, none⟩) (World.block_lt_of_cell? w _ (hc i hi))).trans (hc i hi)⟩, h.2⟩

theorem rSize_is (n z : Int) (w : World) (h0 : -9223372036854775808 ≤ n) (h1 : n ≤ 9223372036854775807) (hz : szOf n = z) :
    Calls Try.prog 13 #[.int .i64 n] w fun e w' => e = .returned (.int .i64 z) ∧ w' = w := by
  subst hz
  exact (rSize_any n w h0 h1).mono fun e w' h => ⟨h.1, h.2.symm⟩

/-- What Join refuses. -/
def badJ (len : Nat) (ln : Nat → Nat) (n : Int) : Prop := len < 4 ∨ n < 0 ∨ ∃ i, i < 4 ∧ (ln i : Int) ≠ szOf n

set_option maxRecDepth 100000 in
set_option maxHeartbeats 1000000 in
theorem Join_bad (A : Option Addr) (len cap : Nat) (As : Nat → Option Addr) (ln cp : Nat → Nat) (n : Int) (w : World) (hlc : len ≤ cap) (hcm : cap ≤ 9223372036854775807) (hH : Hdrs w A len As ln cp)
    (n0 : -9223372036854775808 ≤ n) (n1 : n ≤ 9223372036854775807) (hbad : badJ len ln n) :
    Calls Try.prog 21 #[.slice A len cap, .int .i64 n] w fun e w' => e = .returned (.tuple #[.slice none 0 0, .int .i64 1]) ∧ Below w.heap.size w w' := by
  by_cases hl : len < 4
  · have h4 : (len : Int) < 4 := by omega
    go_enter Try.func21, Try.ntmps21
    go_wp2_with fail
    go_ret2
    exact ⟨rfl, (Below.refl _ _).alloc (Nat.le_refl _) _⟩
  · by_cases hn : n < 0
    · have h4 : (4 : Int) ≤ (len : Int) := by omega
      go_enter Try.func21, Try.ntmps21
      go_wp2_with fail
      go_ret2
      exact ⟨rfl, (Below.refl _ _).alloc (Nat.le_refl _) _⟩
    · obtain ⟨j, hj, hjz⟩ : ∃ i, i < 4 ∧ (ln i : Int) ≠ szOf n := by
        rcases hbad with h | h | h
        · exact absurd h hl
        · exact absurd h hn
        · exact h
      have h4 : (4 : Int) ≤ (len : Int) := by omega
      have h5 : (4 : Int) ≤ (cap : Int) := by omega
      have hn' : 0 ≤ n := by omega
      obtain ⟨g, o, rfl, hc⟩ := hH.1 (by omega)
      obtain ⟨z, hz⟩ : ∃ z, szOf n = z := ⟨_, rfl⟩
      have Hz := Lib.hid hz
      rw [hz] at hjz
      clear hz hbad
      go_enter Try.func21, Try.ntmps21
      go_wp2_with fail
      go_loop [21] (fun i => ∃ k : Nat, k ≤ j ∧ i = .int .i64 k) (fun i => 4 - (intOf i).toNat)
      case atStart => exact ⟨0, by omega, rfl⟩
      case round =>
        obtain ⟨k, hk, rfl⟩ := hrel
        have c1 : ∀ C, (w.alloc (.cells C 43)).cell? ⟨g, o + k, none⟩ = some (.slice (As k) (ln k) (cp k)) := fun C => (World.cell?_alloc_lt w _ ⟨g, o + k, none⟩ (World.block_lt_of_cell? w _ (hc k (by omega)))).trans (hc k (by omega))
        have k0 : (0 : Int) ≤ (k : Int) := by omega
        have k1 : (k : Int) < 4 := by omega
        have hl1 : (ln k : Int) ≤ 9223372036854775807 := by have := hH.2 k (by omega); omega
        by_cases he : (ln k : Int) = z
        · have hkj : k < j := by
            rcases Nat.lt_or_ge k j with h | h
            · exact h
            · obtain rfl : k = j := by omega
              exact absurd he hjz
          have e1 : ((ln k : Int) != z) = false := by simp [he]
          clear he hjz hc
          go_wp2_with (go_at_call 12; refine (Size_any n _ n0 n1).mono ?_; rintro e w' ⟨rfl, rfl⟩; rw [Hz.out])
          go_round
          case rel => exact ⟨k + 1, by omega, by go_num⟩
          case measure => simp [intOf]; omega
        · have e1 : ((ln k : Int) != z) = true := by simp [he]
          clear he hjz hc
          go_wp2_with (go_at_call 12; refine (Size_any n _ n0 n1).mono ?_; rintro e w' ⟨rfl, rfl⟩; rw [Hz.out])
          go_ret2
          exact ⟨rfl, (Below.refl _ _).alloc (Nat.le_refl _) _⟩

set_option maxRecDepth 100000 in
set_option maxHeartbeats 1000000 in
theorem rJoin_bad (A : Option Addr) (len cap : Nat) (As : Nat → Option Addr) (ln cp : Nat → Nat) (n : Int) (w : World) (hlc : len ≤ cap) (hcm : cap ≤ 9223372036854775807) (hH : Hdrs w A len As ln cp)
    (n0 : -9223372036854775808 ≤ n) (n1 : n ≤ 9223372036854775807) (hbad : badJ len ln n) :
    Calls Try.prog 22 #[.slice A len cap, .int .i64 n] w fun e w' => e = .returned (.tuple #[.slice none 0 0, .int .i64 1]) ∧ Below w.heap.size w w' := by
  by_cases hl : len < 4
  · have h4 : (len : Int) < 4 := by omega
    go_enter Try.func22, Try.ntmps22
    go_wp2_with fail
    go_ret2
    exact ⟨rfl, Below.refl _ _⟩
  · by_cases hn : n < 0
    · have h4 : (4 : Int) ≤ (len : Int) := by omega
      go_enter Try.func22, Try.ntmps22
      go_wp2_with fail
      go_ret2
      exact ⟨rfl, Below.refl _ _⟩
    · obtain ⟨j, hj, hjz⟩ : ∃ i, i < 4 ∧ (ln i : Int) ≠ szOf n := by
        rcases hbad with h | h | h
        · exact absurd h hl
        · exact absurd h hn
        · exact h
      have h4 : (4 : Int) ≤ (len : Int) := by omega
      have hn' : 0 ≤ n := by omega
      obtain ⟨g, o, rfl, hc⟩ := hH.1 (by omega)
      obtain ⟨z, hz⟩ : ∃ z, szOf n = z := ⟨_, rfl⟩
      have Hz := Lib.hid hz
      rw [hz] at hjz
      clear hz hbad
      go_enter Try.func22, Try.ntmps22
      go_wp2_with fail
      go_loopw [6] (fun i W => ∃ k : Nat, k ≤ j ∧ i = .int .i64 k ∧ Below w.heap.size w W) (fun i _ => 4 - (intOf i).toNat)
      case atStart => exact ⟨0, by omega, rfl, Below.refl _ _⟩
      case round =>
        obtain ⟨k, hk, rfl, hB⟩ := hrel
        have c1 := (hB.cell (p := ⟨g, o + k, none⟩) (World.block_lt_of_cell? w _ (hc k (by omega)))).trans (hc k (by omega))
        have k0 : (0 : Int) ≤ (k : Int) := by omega
        have k1 : (k : Int) < 4 := by omega
        have k2 : (k : Int) < (len : Int) := by omega
        have hl1 : (ln k : Int) ≤ 9223372036854775807 := by have := hH.2 k (by omega); omega
        by_cases he : (ln k : Int) = z
        · have hkj : k < j := by
            rcases Nat.lt_or_ge k j with h | h
            · exact h
            · obtain rfl : k = j := by omega
              exact absurd he hjz
          have e1 : ((ln k : Int) != z) = false := by simp [he]
          clear he hjz hc
          go_wp2_with fail
          go_quiet ((go_at_call 13; exact Calls.quiet_of_same (rSize_is n z _ n0 n1 Hz.out)))
          go_wp2_with fail
          go_roundw
          case rel => exact ⟨k + 1, by omega, by go_num, below_drewN hB _⟩
          case measure => simp [intOf]; omega
        · have e1 : ((ln k : Int) != z) = true := by simp [he]
          clear he hjz hc
          go_wp2_with fail
          go_quiet ((go_at_call 13; exact Calls.quiet_of_same (rSize_is n z _ n0 n1 Hz.out)))
          go_wp2_with fail
          go_ret2
          exact ⟨rfl, below_drewN hB _⟩

end Go.Proofs.Ytpchcchlidagiaa
