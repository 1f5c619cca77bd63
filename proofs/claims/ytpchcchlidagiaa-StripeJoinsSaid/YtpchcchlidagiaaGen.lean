/- Join, stripe's and the reference's, at whatever shards and length: one result. -/
import Derived.Test.YtpchcchlidagiaaMat
namespace Go.Proofs.Ytpchcchlidagiaa
open Go.RowKit

/-- Shards that came in or were made: their headers, their bytes, none longer than 65536. -/
def Mat (w : World) (A : Option Addr) (len cap : Nat) (ln : Nat → Nat) (f : Nat → Nat → Int) : Prop :=
  ∃ (As : Nat → Option Addr) (cp : Nat → Nat), len ≤ cap ∧ cap ≤ 9223372036854775807 ∧ Hdrs w A len As ln cp ∧ (∀ i, i < len → Byt w (As i) (ln i) (f i)) ∧ ∀ i, i < len → ln i ≤ 65536

theorem Mat.below {w w' : World} {A : Option Addr} {len cap : Nat} {ln : Nat → Nat} {f : Nat → Nat → Int} (h : Mat w A len cap ln f) (hB : Below w.heap.size w w') : Mat w' A len cap ln f := by
  obtain ⟨As, cp, h1, h2, h3, h4, h5⟩ := h
  exact ⟨As, cp, h1, h2, h3.below hB, fun i hi => (h4 i hi).below hB, h5⟩

open Classical in
/-- The error of a join. -/
noncomputable def jE (len : Nat) (ln : Nat → Nat) (n : Int) : Int := if badJ len ln n then 1 else 0
open Classical in
/-- The length of what is joined. -/
noncomputable def jM (len : Nat) (ln : Nat → Nat) (n : Int) : Nat := if badJ len ln n then 0 else n.toNat

/-- How a join ends. -/
def GenPost (w : World) (len : Nat) (ln : Nat → Nat) (f : Nat → Nat → Int) (n : Int) (e : Ending) (w' : World) : Prop :=
  ∃ Av cv, e = .returned (.tuple #[.slice Av (jM len ln n) cv, .int .i64 (jE len ln n)]) ∧ Byt w' Av (jM len ln n) (jb f) ∧ Below w.heap.size w w'

theorem gen_bad {w : World} {len : Nat} {ln : Nat → Nat} {f : Nat → Nat → Int} {n : Int} (hb : badJ len ln n) {e : Ending} {w' : World} (h : e = .returned (.tuple #[.slice none 0 0, .int .i64 1]) ∧ Below w.heap.size w w') : GenPost w len ln f n e w' := by
  obtain ⟨rfl, hB⟩ := h
  have e1 : jM len ln n = 0 := by unfold jM; rw [if_pos hb]
  have e2 : jE len ln n = 1 := by unfold jE; rw [if_pos hb]
  exact ⟨none, 0, by rw [e1, e2], by rw [e1]; exact fun h0 => absurd h0 (by omega), hB⟩
theorem gen_ok {w : World} {len : Nat} {ln : Nat → Nat} {f : Nat → Nat → Int} {N : Nat} (hb : ¬ badJ len ln (N : Int)) {e : Ending} {w' : World} (h : JoinPost w N f e w') : GenPost w len ln f (N : Int) e w' := by
  obtain ⟨v, rfl, hown, hB⟩ := h
  have e1 : jM len ln (N : Int) = N := by unfold jM; rw [if_neg hb]; simp
  have e2 : jE len ln (N : Int) = 0 := by unfold jE; rw [if_neg hb]
  obtain ⟨A, c, rfl, _, _, hA⟩ := row_form hown
  refine ⟨A, c, by rw [e1, e2], ?_, hB⟩
  rw [e1]
  intro h0
  obtain ⟨g, rfl, _, _, hc, _⟩ := hA h0
  exact ⟨g, 0, rfl, fun i hi => by
    have := hc i _ (seg_at (jb f) 0 N hi)
    rwa [Nat.zero_add] at this ⊢⟩

theorem gen_parts {w : World} {A : Option Addr} {len cap : Nat} {ln : Nat → Nat} {f : Nat → Nat → Int} {n : Int} (hM : Mat w A len cap ln f) (hb : ¬ badJ len ln n) :
    ∃ (N m : Nat), n = (N : Int) ∧ 4 ≤ len ∧ N ≤ 1048576 ∧ szN N = m ∧ ∀ i, i < 4 → ln i = m := by
  obtain ⟨As, cp, h1, h2, h3, h4, h5⟩ := hM
  have hl : 4 ≤ len := Nat.le_of_not_lt fun h => hb (.inl h)
  have hn : 0 ≤ n := Int.le_of_not_gt fun h => hb (.inr (.inl h))
  obtain ⟨N, rfl⟩ := Int.eq_ofNat_of_zero_le hn
  have hi : ∀ i, i < 4 → ln i = szN N := fun i hi => by
    have : (ln i : Int) = szOf (N : Int) := Classical.byContradiction fun h => hb (.inr (.inr ⟨i, hi, h⟩))
    rw [szOf_nat] at this
    omega
  have h0 := hi 0 (by omega)
  have h6 := h5 0 (by omega)
  refine ⟨N, szN N, rfl, hl, ?_, rfl, hi⟩
  have : szN N ≤ 65536 := by omega
  unfold szN at this
  omega

theorem Join_gen (A : Option Addr) (len cap : Nat) (ln : Nat → Nat) (f : Nat → Nat → Int) (n : Int) (w : World) (hM : Mat w A len cap ln f) (n0 : -9223372036854775808 ≤ n) (n1 : n ≤ 9223372036854775807) :
    Calls Try.prog 21 #[.slice A len cap, .int .i64 n] w (GenPost w len ln f n) := by
  by_cases hb : badJ len ln n
  · obtain ⟨As, cp, h1, h2, h3, h4, h5⟩ := hM
    exact (Join_bad A len cap As ln cp n w h1 h2 h3 n0 n1 hb).mono fun _ _ h => gen_bad hb h
  · obtain ⟨N, m, rfl, hl, hN, hm, hi⟩ := gen_parts hM hb
    obtain ⟨As, cp, h1, h2, h3, h4, h5⟩ := hM
    exact (Join_ok A len cap As ln cp N m f w hl h1 h2 h3 hN hm hi (fun i h => by rw [← hi i h]; exact h4 i (by omega))).mono fun _ _ h => gen_ok hb h

theorem rJoin_gen (A : Option Addr) (len cap : Nat) (ln : Nat → Nat) (f : Nat → Nat → Int) (n : Int) (w : World) (hM : Mat w A len cap ln f) (n0 : -9223372036854775808 ≤ n) (n1 : n ≤ 9223372036854775807) :
    Calls Try.prog 22 #[.slice A len cap, .int .i64 n] w (GenPost w len ln f n) := by
  by_cases hb : badJ len ln n
  · obtain ⟨As, cp, h1, h2, h3, h4, h5⟩ := hM
    exact (rJoin_bad A len cap As ln cp n w h1 h2 h3 n0 n1 hb).mono fun _ _ h => gen_bad hb h
  · obtain ⟨N, m, rfl, hl, hN, hm, hi⟩ := gen_parts hM hb
    obtain ⟨As, cp, h1, h2, h3, h4, h5⟩ := hM
    exact (rJoin_ok A len cap As ln cp N m f w hl h1 h2 h3 hN hm hi (fun i h => by rw [← hi i h]; exact h4 i (by omega))).mono fun _ _ h => gen_ok hb h

end Go.Proofs.Ytpchcchlidagiaa
