/- How the shards fill: plain arithmetic of places over Nat; no program in sight. -/
import Derived.Test.YtpchcchlidagiaaPlain
namespace Go.Proofs.Ytpchcchlidagiaa

/-- The byte of the volume that lies in shard i at j. -/
def vof (i j : Nat) : Nat := j / 64 * 256 + i * 64 + j % 64
def shN (t : Nat) : Nat := t / 64 % 4
def atN (t : Nat) : Nat := t / 64 / 4 * 64 + t % 64
def szN (L : Nat) : Nat := (L + 255) / 256 * 64

theorem shOf_nat (t : Nat) : shOf (t : Int) = (shN t : Int) := by unfold shOf shN; omega
theorem atOf_nat (t : Nat) : atOf (t : Int) = (atN t : Int) := by unfold atOf atN; omega
theorem szOf_nat (L : Nat) : szOf (L : Int) = (szN L : Int) := by unfold szOf szN; split <;> omega
theorem shN_lt (t : Nat) : shN t < 4 := by unfold shN; omega

theorem vof_in {i j t p : Nat} (hi : i < 4) (hp : t % 64 + p ≤ 64) : (t ≤ vof i j ∧ vof i j < t + p) ↔ (i = shN t ∧ atN t ≤ j ∧ j < atN t + p) := by
  unfold vof shN atN; omega
theorem vof_at {j t p : Nat} (hp : t % 64 + p ≤ 64) (h : atN t ≤ j ∧ j < atN t + p) : vof (shN t) j = t + (j - atN t) := by
  unfold vof shN; unfold atN at *; omega
theorem at_fits {L t p : Nat} (hp : t % 64 + p ≤ 64) (h : t + p ≤ L) : atN t + p ≤ szN L := by
  unfold atN szN; omega

/-- The bytes of shard i when the first t bytes of the volume have been laid. -/
def fill (f : Nat → Int) (t i j : Nat) : Int := if vof i j < t then f (vof i j) else 0
theorem fill_zero (f : Nat → Int) (i j : Nat) : fill f 0 i j = 0 := by simp [fill]
theorem fill_step (f : Nat → Int) {t p i j : Nat} (hi : i < 4) (hp : t % 64 + p ≤ 64) :
    fill f (t + p) i j = if i = shN t ∧ atN t ≤ j ∧ j < atN t + p then f (t + (j - atN t)) else fill f t i j := by
  have h1 := vof_in (j := j) hi hp
  unfold fill
  by_cases hc : i = shN t ∧ atN t ≤ j ∧ j < atN t + p
  · obtain ⟨rfl, h2⟩ := hc
    have h3 := vof_at hp h2
    rw [if_pos (show vof (shN t) j < t + p by omega), if_pos ⟨rfl, h2⟩, h3]
  · rw [if_neg hc]
    by_cases h2 : vof i j < t
    · rw [if_pos h2, if_pos (show vof i j < t + p by omega)]
    · have h3 : ¬ vof i j < t + p := fun h => hc (h1.1 ⟨by omega, h⟩)
      rw [if_neg h2, if_neg h3]

end Go.Proofs.Ytpchcchlidagiaa
