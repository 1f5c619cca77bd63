/- How the pieces' slice reads: its form, and the three cells of piece k. -/
import Derived.Test.YtpchcchlidagiaaAwake
namespace Go.Proofs.Ytpchcchlidagiaa
open Go.RowKit

theorem row_form {w : World} {base e size : Nat} {v : Value} {n : Nat} {xs : List Value} (h : w.ownsRow base e size v n xs) :
    ∃ A c, v = .slice A n c ∧ n ≤ c ∧ c ≤ 9223372036854775807 ∧ (0 < n → ∃ g, A = some ⟨g, 0, none⟩ ∧ base ≤ g ∧ g < w.heap.size ∧ (∀ j u, xs[j]? = some u → w.cell? ⟨g, j, none⟩ = some u) ∧ ∀ j, w.frozen? ⟨g, j, none⟩ = false) := by
  rcases h.2 with ⟨rfl, rfl⟩ | ⟨g, cap, cur, rfl, hg, hgg, h1, h2, _⟩
  · exact ⟨none, 0, rfl, by omega, by omega, fun h => absurd h (by omega)⟩
  · refine ⟨_, cap, rfl, h1, by unfold maxLen at h2; omega, fun _ => ⟨g, rfl, hg, (Array.getElem?_eq_some_iff.1 hgg).1, fun j u hu => ?_, fun j => h.frozenAt j⟩⟩
    have := h.cells rfl j u hu
    have hadd : (⟨g, 0, none⟩ : Addr).add j = ⟨g, j, none⟩ := by unfold Addr.add; split <;> simp_all
    rwa [hadd] at this

theorem pcs_at (off e : Int) (k : Nat) : ∀ K, k < K → (pcs off e K)[k * 3]? = some (.int .i64 (shOf (pst off e k))) ∧ (pcs off e K)[k * 3 + 1]? = some (.int .i64 (atOf (pst off e k))) ∧ (pcs off e K)[k * 3 + 2]? = some (.int .i64 (plOf e (pst off e k)))
  | K + 1, h => by
    have hl := pcs_length off e K
    rcases Nat.lt_or_ge k K with hk | hk
    · obtain ⟨h1, h2, h3⟩ := pcs_at off e k K hk
      simp only [pcs]
      rw [List.getElem?_append_left (by omega), List.getElem?_append_left (by omega), List.getElem?_append_left (by omega)]
      exact ⟨h1, h2, h3⟩
    · obtain rfl : k = K := by omega
      simp only [pcs]
      rw [List.getElem?_append_right (by omega), List.getElem?_append_right (by omega), List.getElem?_append_right (by omega), hl]
      rw [show k * 3 - k * 3 = 0 by omega, show k * 3 + 1 - k * 3 = 1 by omega, show k * 3 + 2 - k * 3 = 2 by omega]
      exact ⟨rfl, rfl, rfl⟩

/-- What another call's work leaves of a row. -/
theorem ownsRow_below {w w' : World} {base e size : Nat} {v : Value} {n : Nat} {xs : List Value} (h : w.ownsRow base e size v n xs) (hB : Below w.heap.size w w') : w'.ownsRow base e size v n xs :=
  h.kept (row := none) ⟨hB.os, hB.tape, hB.output, hB.size, fun k hk _ => hB.block k hk⟩ (Classical.em _)
theorem below_drewN {B : Nat} {a w : World} (h : Below B a w) (n : Nat) : Below B a (w.drewN n) := ⟨h.os, h.tape, h.output, h.size, h.block⟩

end Go.Proofs.Ytpchcchlidagiaa
