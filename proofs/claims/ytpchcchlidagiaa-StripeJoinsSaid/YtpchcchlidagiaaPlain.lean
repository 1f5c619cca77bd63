/- The plain functions of chapter 5 over Int: shard and place of a byte, the length of a shard; no program in sight. -/
namespace Go.Proofs.Ytpchcchlidagiaa

/-- The shard of the byte at n (0 or more). -/
def shOf (n : Int) : Int := n / 64 % 4
/-- Its place there. -/
def atOf (n : Int) : Int := n / 64 / 4 * 64 + n % 64
/-- The length of a shard. -/
def szOf (n : Int) : Int := if n ≤ 0 then 0 else ((n - 1) / 256 + 1) * 64

theorem shOf_bd (n : Int) : 0 ≤ shOf n ∧ shOf n ≤ 3 := by unfold shOf; omega
theorem atOf_bd (n : Int) (h : 0 ≤ n) : 0 ≤ atOf n ∧ atOf n ≤ n := by unfold atOf; omega

/-- The length of the piece that begins at s, where the range ends at e. -/
def plOf (e s : Int) : Int := min (64 - s % 64) (e - s)
/-- Where the k-th piece begins. -/
def pst (off e : Int) : Nat → Int
  | 0 => off
  | k + 1 => pst off e k + plOf e (pst off e k)

theorem plOf_bd (e s : Int) (h : s < e) : 1 ≤ plOf e s ∧ plOf e s ≤ 64 - s % 64 ∧ plOf e s ≤ e - s := by unfold plOf; omega
theorem plOf_bd' (e s : Int) (h : s ≤ e) : 0 ≤ plOf e s ∧ plOf e s ≤ e - s := by unfold plOf; omega
theorem pst_bd (off e : Int) (h : off ≤ e) : ∀ k, off ≤ pst off e k ∧ pst off e k ≤ e
  | 0 => ⟨Int.le_refl _, h⟩
  | k + 1 => by
    have h1 := pst_bd off e h k
    have h2 := plOf_bd' e (pst off e k) h1.2
    unfold pst; omega

theorem pst_ge (off e : Int) (h : off ≤ e) : ∀ k, pst off e k < e → off + k ≤ pst off e k
  | 0, _ => by simp [pst]
  | k + 1, hk => by
    have h1 := pst_bd off e h k
    have h2 := plOf_bd' e (pst off e k) h1.2
    have hlt : pst off e k < e := by
      rcases Int.lt_or_le (pst off e k) e with hl | hl
      · exact hl
      · unfold pst at hk; omega
    have h3 := plOf_bd e (pst off e k) hlt
    have h4 := pst_ge off e h k hlt
    unfold pst; omega

/-- The pieces are K: the K-th begins where the range ends, and none before it does. -/
def Full (off e : Int) (K : Nat) : Prop := pst off e K = e ∧ ∀ j, j < K → pst off e j < e
theorem Full.uniq {off e : Int} {K L : Nat} (h : Full off e K) (h' : Full off e L) : K = L := by
  rcases Nat.lt_trichotomy K L with hl | hl | hl
  · have := h'.2 K hl; have := h.1; omega
  · exact hl
  · have := h.2 L hl; have := h'.1; omega
theorem Full.le {off e : Int} {K : Nat} (h : Full off e K) (ho : off ≤ e) : (K : Int) ≤ e - off := by
  cases K with
  | zero => simp; omega
  | succ k =>
    have h1 := h.2 k (by omega)
    have h2 := pst_ge off e ho k h1
    omega

end Go.Proofs.Ytpchcchlidagiaa
