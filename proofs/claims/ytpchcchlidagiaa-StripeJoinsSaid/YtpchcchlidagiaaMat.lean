/- A [][]byte that came in: opened to what the walks read. -/
import Derived.Test.YtpchcchlidagiaaJoin2
import Derived.Deep.Matrix
import Derived.Laws.AppendOwnNone
import Derived.ProofKit
namespace Go.Proofs.Ytpchcchlidagiaa
open Go.RowKit Go.ChangeShapes Go.WideShapes

/-- What the walk is told of a slice of slices of bytes. -/
def IsMat (w : World) (A : Option Addr) (len cap : Nat) : Prop :=
  ∃ (As : Nat → Option Addr) (ln cp : Nat → Nat) (f : Nat → Nat → Int), len ≤ cap ∧ cap ≤ 9223372036854775807 ∧ Hdrs w A len As ln cp ∧ (∀ i, i < len → Byt w (As i) (ln i) (f i)) ∧ (A = none → len = 0 ∧ cap = 0)

theorem Try.cells40 : Try.prog.cellsOf 40 = 1 := by kernel_rfl
theorem Try.cells5 : Try.prog.cellsOf 5 = 1 := by kernel_rfl

theorem addr_plain {w : World} {a : Addr} {v : Value} (h : w.cell? (a.add 0) = some v) : a = ⟨a.block, a.off, none⟩ := by
  obtain ⟨b, off, spot⟩ := a
  have h2 : spot = none := World.cell?_spot h
  subst h2; rfl
theorem add_plain (b off i : Nat) : (⟨b, off, none⟩ : Addr).add i = ⟨b, off + i, none⟩ := by unfold Addr.add; split <;> simp_all

theorem isMat_of_trod {H : Type} {enc : TypeId × Value → H} {w : World} {A : Option Addr} {len cap fuel : Nat} {x : DataW H × List MemPlace}
    (h : DataW.trod enc Try.prog w 0 (fun _ => true) true fuel 43 [.slice A len cap] = some x) : IsMat w A len cap := by
  rcases Deep.open_int_rows Try.underlying43 Try.underlying40 Try.underlying5 Try.cells40 Try.cells5 h with ⟨hcs, _⟩ | ⟨a, len', cap', As, L, C, Z, hcs, _, hl, hm, _, hr⟩
  · simp at hcs
    obtain ⟨rfl, rfl, rfl⟩ := hcs
    exact ⟨fun _ => none, fun _ => 0, fun _ => 0, fun _ _ => 0, by omega, by omega, ⟨fun h => absurd h (by omega), fun i hi => absurd hi (by omega)⟩, fun i hi => absurd hi (by omega), fun _ => ⟨rfl, rfl⟩⟩
  · simp at hcs
    obtain ⟨rfl, rfl, rfl⟩ := hcs
    refine ⟨As, L, C, fun i j => (Z i).getD j 0, hl, by unfold maxLen at hm; omega, ⟨fun h0 => ?_, fun i hi => ?_⟩, fun i hi h0 => ?_, fun h => by cases h⟩
    · have ha := addr_plain (hr 0 (by omega)).1
      refine ⟨a.block, a.off, by rw [← ha], fun i hi => ?_⟩
      have := (hr i (by omega)).1
      rw [ha, add_plain] at this
      exact this
    · have := hr i (by omega)
      exact ⟨this.2.1, by have := this.2.2.1; unfold maxLen at this; omega⟩
    · obtain ⟨_, h1, h2, _, _, h5, h6⟩ := hr i (by omega)
      cases hA : As i with
      | none => have := h5 hA; omega
      | some a' =>
        obtain ⟨_, hc⟩ := h6 a' hA
        have ha := addr_plain (hc 0 (by omega))
        refine ⟨a'.block, a'.off, by rw [← ha], fun j hj => ?_⟩
        have := hc j (by omega)
        rw [ha, add_plain] at this
        exact this

/-- Join of a slice that holds four shards and further slices. -/
theorem back_join {w3 : World} {base b2 G m n len1 : Nat} {h : Nat → Nat} {v2 : Value} {f : Nat → Int} {As : Nat → Option Addr} {ln cp : Nat → Nat} (hn : n ≤ 1048576) (hm : szN n = m) (hm2 : m ≤ 1048576)
    (hS : Shards w3 b2 G h m (fill f n)) (hcp : ∀ i, i < len1 → ln i ≤ cp i ∧ cp i ≤ 9223372036854775807)
    (hown : w3.ownsRow base 40 1 v2 (4 + len1) (heads h m 4 ++ (List.range len1).map fun i => Value.slice (As i) (ln i) (cp i))) :
    Calls Try.prog 21 #[v2, .int .i64 (n : Int)] w3 (JoinPost w3 n (fill f n)) := by
  obtain ⟨A, c, rfl, hc1, hc2, hA⟩ := row_form hown
  obtain ⟨g, rfl, _, _, hcell, _⟩ := hA (by omega)
  refine Join_ok (some ⟨g, 0, none⟩) (4 + len1) c (fun i => if i < 4 then some ⟨h i, 0, none⟩ else As (i - 4)) (fun i => if i < 4 then m else ln (i - 4)) (fun i => if i < 4 then m else cp (i - 4)) n m (fill f n) w3 (by omega) hc1 hc2 ⟨fun _ => ⟨g, 0, rfl, fun i hi => ?_⟩, fun i hi => ?_⟩ hn hm (fun i hi => by rw [if_pos hi]) (fun i hi => ?_)
  · rw [Nat.zero_add]
    refine hcell i _ ?_
    show _ = some (Value.slice (if i < 4 then some ⟨h i, 0, none⟩ else As (i - 4)) (if i < 4 then m else ln (i - 4)) (if i < 4 then m else cp (i - 4)))
    by_cases h4 : i < 4
    · rw [List.getElem?_append_left (by simp [heads]; omega), heads_at _ _ _ h4, if_pos h4, if_pos h4, if_pos h4]
    · rw [List.getElem?_append_right (by simp [heads]; omega), if_neg h4, if_neg h4, if_neg h4]
      have e : (heads h m 4).length = 4 := by simp [heads]
      rw [e]
      simp [show i - 4 < len1 by omega]
  · show (if i < 4 then m else ln (i - 4)) ≤ (if i < 4 then m else cp (i - 4)) ∧ (if i < 4 then m else cp (i - 4)) ≤ _
    by_cases h4 : i < 4
    · rw [if_pos h4, if_pos h4]; omega
    · rw [if_neg h4, if_neg h4]; exact hcp _ (by omega)
  · show Byt w3 (if i < 4 then some ⟨h i, 0, none⟩ else As (i - 4)) m (fill f n i)
    rw [if_pos hi]
    exact (hS.rows i hi).2.2.byt

/-- What was joined reads as the volume. -/
theorem joined_list (f : Nat → Int) (n : Nat) : (List.range n).map (fun i => jb (fill f n) (0 + i)) = (List.range n).map f := by
  apply List.map_congr_left
  intro i hi
  have := List.mem_range.1 hi
  have h := fill_at f (L := n) (t := i) (q := 1) (j := 0) (by omega) (by omega) (by omega)
  rw [Nat.zero_add]
  simpa [jb] using h

end Go.Proofs.Ytpchcchlidagiaa
