/- Bytes and shards in memory: what is read, what is owned, and what a store into a shard leaves. -/
import Derived.Test.YtpchcchlidagiaaFill
import Derived.Test.YtpchcchlidagiaaRows2
namespace Go.Proofs.Ytpchcchlidagiaa
open Go.RowKit

/-- The first len bytes behind the address A are f. -/
def Byt (w : World) (A : Option Addr) (len : Nat) (f : Nat → Int) : Prop :=
  0 < len → ∃ g o, A = some ⟨g, o, none⟩ ∧ ∀ i, i < len → w.cell? ⟨g, o + i, none⟩ = some (.int .u8 (f i))

theorem Byt.below {w w' : World} {A : Option Addr} {len : Nat} {f : Nat → Int} (h : Byt w A len f) (hB : Below w.heap.size w w') : Byt w' A len f := fun hl => by
  obtain ⟨g, o, rfl, hc⟩ := h hl
  exact ⟨g, o, rfl, fun i hi => (hB.cell (p := ⟨g, o + i, none⟩) (World.block_lt_of_cell? w _ (hc i hi))).trans (hc i hi)⟩

/-- Block g is m bytes c, whole. -/
def Row (w : World) (g m : Nat) (c : Nat → Int) : Prop :=
  ∃ L : List Value, w.heap[g]? = some (.cells L.toArray 5 (0, 0)) ∧ L.length = m ∧ ∀ j, j < m → L[j]? = some (.int .u8 (c j))

theorem Row.lt {w : World} {g m : Nat} {c : Nat → Int} (h : Row w g m c) : g < w.heap.size := by
  obtain ⟨L, h1, _⟩ := h; exact (Array.getElem?_eq_some_iff.1 h1).1
theorem Row.keep {w w' : World} {g m : Nat} {c : Nat → Int} (h : Row w g m c) (hk : w'.heap[g]? = w.heap[g]?) : Row w' g m c := by
  obtain ⟨L, h1, h2⟩ := h; exact ⟨L, hk.trans h1, h2⟩
theorem Row.congr {w : World} {g m : Nat} {c c' : Nat → Int} (h : Row w g m c) (hc : ∀ j, j < m → c j = c' j) : Row w g m c' := by
  obtain ⟨L, h1, h2, h3⟩ := h; exact ⟨L, h1, h2, fun j hj => by rw [← hc j hj]; exact h3 j hj⟩
theorem Row.byt {w : World} {g m : Nat} {c : Nat → Int} (h : Row w g m c) : Byt w (some ⟨g, 0, none⟩) m c := fun _ => by
  obtain ⟨L, h1, h2, h3⟩ := h
  refine ⟨g, 0, rfl, fun i hi => ?_⟩
  rw [cell_of_row w g (0 + i) _ _ _ h1, Nat.zero_add]
  simpa using h3 i hi
theorem Row.cell {w : World} {g m : Nat} {c : Nat → Int} (h : Row w g m c) {j : Nat} (hj : j < m) : w.cell? ⟨g, j, none⟩ = some (.int .u8 (c j)) := by
  obtain ⟨L, h1, h2, h3⟩ := h
  rw [cell_of_row w g j _ _ _ h1]
  simpa using h3 j hj
theorem Row.frozen {w : World} {g m : Nat} {c : Nat → Int} (h : Row w g m c) (j : Nat) : w.frozen? ⟨g, j, none⟩ = false := by
  obtain ⟨L, h1, _⟩ := h
  simp [World.frozen?, h1]
/-- A new row of zeros. -/
theorem Row.made (w : World) (m : Nat) : Row (w.alloc (.cells (madeCells (Value.int .u8 0).cells (m * 1)) 5)) w.heap.size m (fun _ => 0) := by
  refine ⟨(madeCells (Value.int .u8 0).cells (m * 1)).toList, by simpa using heap_alloc_new w _, by simp [size_madeCells], fun j hj => ?_⟩
  simp [madeCells, Value.cells, hj, Nat.mod_one]
/-- One byte stored. -/
theorem Row.set {w : World} {g m : Nat} {c : Nat → Int} (h : Row w g m c) (j : Nat) (x : Int) : Row (w.setCell ⟨g, j, none⟩ (.int .u8 x)) g m (fun i => if i = j then x else c i) := by
  obtain ⟨L, h1, h2, h3⟩ := h
  rw [setCell_eq_setRow w g j _ 5 (0, 0) _ h1]
  refine ⟨L.set j (.int .u8 x), by simpa using setRow_heap w g _ _ 5 (0, 0) h1, by simpa using h2, fun i hi => ?_⟩
  rw [List.getElem?_set]
  by_cases hj : j = i
  · subst hj
    simp [h2, hi]
  · rw [if_neg hj, h3 i hi]
    show _ = some (Value.int .u8 (if i = j then x else c i))
    rw [if_neg (fun e => hj e.symm)]
/-- Bytes copied in. -/
theorem Row.copy {w : World} {g m : Nat} {c : Nat → Int} (L : List Value) (h1 : w.heap[g]? = some (.cells L.toArray 5 (0, 0))) (h2 : L.length = m) (h3 : ∀ j, j < m → L[j]? = some (.int .u8 (c j)))
    (off : Nat) (cs : List Value) (d : Nat → Int) (hcs : ∀ j, j < cs.length → cs[j]? = some (.int .u8 (d j))) (hfit : off + cs.length ≤ m) :
    Row (w.setRow g (L.take off ++ (cs ++ L.drop (off + cs.length))).toArray) g m (fun j => if off ≤ j ∧ j < off + cs.length then d (j - off) else c j) := by
  refine ⟨_, setRow_heap w g _ _ 5 (0, 0) h1, by simp; omega, fun j hj => ?_⟩
  show _ = some (Value.int .u8 (if off ≤ j ∧ j < off + cs.length then d (j - off) else c j))
  by_cases hlo : j < off
  · rw [List.getElem?_append_left (by simp; omega), List.getElem?_take, if_pos hlo, h3 j hj, if_neg (by omega)]
  · rw [List.getElem?_append_right (by simp; omega)]
    have e1 : (L.take off).length = off := by simp; omega
    rw [e1]
    by_cases hhi : j < off + cs.length
    · rw [List.getElem?_append_left (by omega), hcs _ (by omega), if_pos ⟨by omega, hhi⟩]
    · rw [List.getElem?_append_right (by omega), List.getElem?_drop, if_neg (by omega)]
      rw [show off + cs.length + (j - off - cs.length) = j by omega]
      exact h3 j hj

end Go.Proofs.Ytpchcchlidagiaa
