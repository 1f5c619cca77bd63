/- cut; SameRows of equal shards; StripeSplits's parts. -/
import Derived.Test.YtpchcchlidagiaaRSplit
import Derived.Deep.QuietTactic
import Derived.BigQuiet
import Derived.Laws.BytesArg
namespace Go.Proofs.Ytpchcchlidagiaa
open Go.RowKit

/-- A slice of bytes that came in, as the rows open it. -/
theorem byt_of_row {w : World} {A : Option Addr} {len cap : Nat} {zs : List Int}
    (h : (A = none ∧ len = 0 ∧ cap = 0 ∧ zs = []) ∨ ∃ x, A = some x ∧ len ≤ cap ∧ cap ≤ maxLen ∧ zs.length = cap ∧ (∀ i, i < zs.length → w.cell? (x.add i) = some (.int .u8 (zs.getD i 0))) ∧ ∀ n ∈ zs, (Lit.int .u8 n).wf = true) :
    len ≤ cap ∧ cap ≤ 9223372036854775807 ∧ ∀ n, n ≤ len → Byt w A n (fun i => zs.getD i 0) := by
  rcases h with ⟨rfl, rfl, rfl, rfl⟩ | ⟨⟨b, off, spot⟩, rfl, hl, hm, hz, hcell, _⟩
  · exact ⟨by omega, by omega, fun n hn h0 => absurd h0 (by omega)⟩
  · refine ⟨hl, by unfold maxLen at hm; omega, fun n hn h0 => ?_⟩
    have hc := hcell 0 (by omega)
    have hspot : spot = none := by simpa [Addr.add] using World.cell?_spot hc
    subst hspot
    refine ⟨b, off, rfl, fun i hi => ?_⟩
    have := hcell i (by omega)
    rwa [show (⟨b, off, none⟩ : Addr).add i = ⟨b, off + i, none⟩ by unfold Addr.add; split <;> simp_all] at this

theorem Shards.below {w w' : World} {base G : Nat} {h : Nat → Nat} {m : Nat} {c : Nat → Nat → Int} (hS : Shards w base G h m c) (hB : Below w.heap.size w w') : Shards w' base G h m c := by
  refine ⟨fun i hi => ?_, ⟨hS.low.1, Nat.lt_of_lt_of_le hS.low.2 hB.size⟩, fun i hi => ?_, hS.apart⟩
  · exact (hB.cell (p := ⟨G, i, none⟩) hS.low.2).trans (hS.head i hi)
  · obtain ⟨h1, h2, h3⟩ := hS.rows i hi
    exact ⟨h1, h2, h3.keep (hB.block _ h3.lt)⟩

/-- The bytes as a list. -/
def lst (m : Nat) (c : Nat → Int) : List Int := (List.range m).map c
theorem lst_length (m : Nat) (c : Nat → Int) : (lst m c).length = m := by simp [lst]
theorem lst_at (m : Nat) (c : Nat → Int) {i : Nat} (hi : i < m) : (lst m c).getD i 0 = c i := by simp [lst, List.getD, hi]

theorem conv_bytes (w : World) (A : Option Addr) (len cap : Nat) (c : Nat → Int) (h : Byt w A len c) :
    (convert 40 9 (.slice A len cap)).run Try.prog w = .ok (.string (strOfNums (lst len c))) w := by
  rcases Nat.eq_zero_or_pos len with h0 | h0
  · subst h0
    cases A with
    | none => exact run_convert_bytes_nil w 40 5 Try.underlying40 Try.underlying5 0 cap 9 Try.underlying9
    | some a =>
      rw [run_convert_bytes_string w 40 9 5 _ 0 cap Try.underlying40 Try.underlying5 Try.underlying9]
      simp [Conv.bytesToString, lst, strOfNums]
      rfl
  · obtain ⟨g, o, rfl, hc⟩ := h h0
    exact run_convert_bytes_arg w 40 5 Try.underlying40 Try.underlying5 g o len cap (lst len c) (lst_length _ _) (fun i hi => by rw [lst_at _ _ hi]; exact hc i hi) 9 Try.underlying9

set_option maxRecDepth 100000 in
set_option maxHeartbeats 1000000 in
theorem Same_true (G1 c1 G2 c2 : Nat) (w : World) (b1 b2 : Nat) (h1 h2 : Nat → Nat) (m : Nat) (c : Nat → Nat → Int)
    (hS1 : Shards w b1 G1 h1 m c) (hS2 : Shards w b2 G2 h2 m c) :
    Calls Try.prog 18 #[.slice (some ⟨G1, 0, none⟩) 4 c1, .slice (some ⟨G2, 0, none⟩) 4 c2] w fun e w' => e = .returned (.bool true) ∧ Below w.heap.size w w' := by
  go_enter Try.func18, Try.ntmps18
  go_wp2_with fail
  go_loopw [5] (fun i W => ∃ k : Nat, k ≤ 4 ∧ i = .int .i64 k ∧ ∃ N, W = w.drewN N) (fun i _ => 4 - (intOf i).toNat)
  case atStart => exact ⟨0, by omega, rfl, 0, rfl⟩
  case round =>
    obtain ⟨k, hk, rfl, N, rfl⟩ := hrel
    by_cases hlt : k < 4
    · have d1 := hS1.head k hlt
      have d2 := hS2.head k hlt
      have r1 := fun N => conv_bytes (w.drewN N) (some ⟨h1 k, 0, none⟩) m m (c k) ((hS1.rows k hlt).2.2.keep (w' := w.drewN N) rfl).byt
      have r2 := fun N => conv_bytes (w.drewN N) (some ⟨h2 k, 0, none⟩) m m (c k) ((hS2.rows k hlt).2.2.keep (w' := w.drewN N) rfl).byt
      clear hS1 hS2
      generalize strOfNums (lst m (c k)) = s at r1 r2
      have k0 : (0 : Int) ≤ (k : Int) := by omega
      have k1 : (k : Int) < 4 := by omega
      go_wp2_with fail
      go_quiet (fail)
      go_wp2_with fail
      go_roundw
      case rel => exact ⟨k + 1, by omega, by go_num, _, rfl⟩
      case measure => simp [intOf]; omega
    · obtain rfl : k = 4 := by omega
      clear hS1 hS2
      go_wp2_with fail
      go_ret
      exact ⟨rfl, below_drewN (Below.refl _ _) N⟩

set_option maxHeartbeats 400000 in
theorem cut_any (A : Option Addr) (L cap : Nat) (w : World) (hc : L ≤ cap) (hm : cap ≤ 9223372036854775807) :
    Calls Try.prog 17 #[.slice A L cap] w fun e w' => e = .returned (.slice A (min L 3000) cap) ∧ w = w' := by
  by_cases h : 3000 < L
  · have h1 : 3000 ≤ cap := by omega
    have h2 : (3000 : Int) < (L : Int) := by omega
    have h3 : (3000 : Int) ≤ (cap : Int) := by omega
    have h4 : min L 3000 = 3000 := by omega
    rw [h4]
    clear h4
    go_enter Try.func17, Try.ntmps17
    go_wp2
    go_ret
    exact ⟨rfl, rfl⟩
  · have h2 : (L : Int) ≤ 3000 := by omega
    have h4 : min L 3000 = L := by omega
    rw [h4]
    clear h4
    go_enter Try.func17, Try.ntmps17
    go_wp2
    go_ret
    exact ⟨rfl, rfl⟩

end Go.Proofs.Ytpchcchlidagiaa
