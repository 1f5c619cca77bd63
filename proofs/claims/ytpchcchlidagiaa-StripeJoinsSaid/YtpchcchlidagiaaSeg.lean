/- Runs of bytes; how many pieces a range has. -/
import Derived.Test.YtpchcchlidagiaaSame
namespace Go.Proofs.Ytpchcchlidagiaa
open Go.RowKit

/-- len bytes of f from a on. -/
def seg (f : Nat → Int) (a len : Nat) : List Value := (List.range len).map fun j => .int .u8 (f (a + j))
theorem seg_length (f : Nat → Int) (a len : Nat) : (seg f a len).length = len := by simp [seg]
theorem seg_at (f : Nat → Int) (a len : Nat) {j : Nat} (hj : j < len) : (seg f a len)[j]? = some (.int .u8 (f (a + j))) := by simp [seg, hj]
theorem seg_append (f : Nat → Int) (a l1 l2 : Nat) : seg f a l1 ++ seg f (a + l1) l2 = seg f a (l1 + l2) := by
  apply List.ext_getElem?
  intro i
  by_cases h1 : i < l1
  · rw [List.getElem?_append_left (by rw [seg_length]; exact h1), seg_at _ _ _ h1, seg_at _ _ _ (by omega)]
  · rw [List.getElem?_append_right (by rw [seg_length]; omega), seg_length]
    by_cases h2 : i < l1 + l2
    · rw [seg_at _ _ _ (by omega), seg_at _ _ _ h2, show a + l1 + (i - l1) = a + i by omega]
    · rw [List.getElem?_eq_none (by rw [seg_length]; omega), List.getElem?_eq_none (by rw [seg_length]; omega)]
theorem seg_one (f : Nat → Int) (a len : Nat) : ∀ v ∈ seg f a len, v.oneCell' = true := by
  intro v hv
  obtain ⟨j, _, rfl⟩ := List.mem_map.1 hv
  rfl

theorem pst_block (off e : Int) (h0 : 0 ≤ off) (h : off ≤ e) : ∀ k, pst off e (k + 1) < e → pst off e (k + 1) = (off / 64 + (k + 1 : Nat)) * 64
  | 0, hk => by
    have h1 : pst off e 1 = off + plOf e off := rfl
    rw [h1] at hk ⊢
    unfold plOf at *
    omega
  | k + 1, hk => by
    have h1 : pst off e (k + 1 + 1) = pst off e (k + 1) + plOf e (pst off e (k + 1)) := rfl
    have h2 := pst_bd off e h (k + 1)
    have hlt : pst off e (k + 1) < e := by
      have := plOf_bd' e _ h2.2
      rcases Int.lt_or_le (pst off e (k + 1)) e with hl | hl
      · exact hl
      · omega
    have h3 := pst_block off e h0 h k hlt
    rw [h1] at hk ⊢
    unfold plOf at *
    omega

theorem Full.few {off e : Int} {K : Nat} (hK : Full off e K) (h0 : 0 ≤ off) (h : off ≤ e) : (K : Int) ≤ (e - off) / 64 + 2 := by
  match K, hK with
  | 0, _ => omega
  | 1, _ => omega
  | k + 2, hK =>
    have h1 := hK.2 (k + 1) (by omega)
    have h2 := pst_block off e h0 h k h1
    omega

/-- What piece (t, q) of the shards is. -/
theorem fill_at (f : Nat → Int) {L t q j : Nat} (hq : t % 64 + q ≤ 64) (hL : t + q ≤ L) (hj : j < q) : fill f L (shN t) (atN t + j) = f (t + j) := by
  have h := vof_at (t := t) (p := q) (j := atN t + j) hq ⟨by omega, by omega⟩
  unfold fill
  rw [h, if_pos (by omega)]
  congr 1
  omega

theorem tmod_bd (a d : Int) (hd : 0 < d) : -d < a.tmod d ∧ a.tmod d < d := by
  have h := Int.natAbs_tmod a d
  have h2 := Nat.mod_lt a.natAbs (show 0 < d.natAbs by omega)
  omega
theorem emod_nat (x d : Int) (hd : 0 < d) : ∃ k : Nat, x % d = (k : Int) ∧ (k : Int) < d := by
  have h1 := Int.emod_nonneg x (show d ≠ 0 by omega)
  have h2 := Int.emod_lt_of_pos x hd
  exact ⟨(x % d).toNat, by omega, by omega⟩

end Go.Proofs.Ytpchcchlidagiaa
