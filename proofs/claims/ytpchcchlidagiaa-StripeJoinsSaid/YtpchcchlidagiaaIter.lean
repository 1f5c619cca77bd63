/- The iterator of package stripe (a closure that keeps its place in a captured variable): its contract, for every loop body that leaves the captured variable alone. -/
import Derived.Test.YtpchcchlidagiaaBase
import Derived.RangeFuncBox
import Derived.RangeFuncCalls
import Derived.RangeFuncLeaves
import Derived.Shelf.Abstract
import Derived.OwnWalkIn
import Derived.TacticsInMore
import Derived.LoopNIn
import Derived.LoopIn
namespace Go.Proofs.Ytpchcchlidagiaa
open Go.RowKit Go.Shelf

attribute [local go_sem] Oper.semAt_some

/-- A box as three facts that the walk can use. -/
theorem boxed_lt_ne {W : World} {B C : Nat} {t t' : TypeId} {v v' : Value} (h : Boxed W B t v) (h' : W.heap[C]? = some (.cells #[v'] t' (0, 0))) (hne : B ≠ C) : B < W.heap.size ∧ C < W.heap.size ∧ B ≠ C :=
  ⟨h.lt, (Array.getElem?_eq_some_iff.1 h').1, hne⟩

/-- The number in a box. -/
def cellInt (w : World) (B : Nat) : Int := match w.cell? ⟨B, 0, none⟩ with | some v => intOf v | none => 0
theorem cellInt_eq {w : World} {B : Nat} {t : TypeId} {s : Int} (h : Boxed w B t (.int .i64 s)) : cellInt w B = s := by unfold cellInt; rw [h.cell]; rfl

set_option maxRecDepth 100000 in
set_option maxHeartbeats 1000000 in
theorem pieces1_in (m : Nat) (hm : 1 ≤ m) (l Bo Bn : Nat) (off n : Int) (h0 : 0 ≤ off) (hn0 : 0 ≤ n) (hs : off + n ≤ 9223372036854775807) (J : Nat → World → Prop)
    (hst : ∀ k W v, J k W → J k (W.setCell ⟨Bo, 0, none⟩ v))
    (hY : ∀ k W s p, pst off (off + n) k = s → plOf (off + n) s = p → J k W → s < off + n → YieldAt Fence.wide (m - 1) Try.prog l
      #[.int .i64 s, .agg #[.int .i64 (shOf s), .int .i64 (atOf s), .int .i64 p]] W
      fun e W' => e = .returned (.bool true) ∧ J (k + 1) W' ∧ W'.heap[Bo]? = W.heap[Bo]?)
    (W : World) (ho : Boxed W Bo 2 (.int .i64 off)) (hn : Boxed W Bn 2 (.int .i64 n)) (hJ : J 0 W) :
    CallsIn Fence.wide m Try.prog 25 #[.func (.yield l) #[] #[], .pointer (some ⟨Bo, 0, none⟩), .pointer (some ⟨Bn, 0, none⟩)] W
      fun e W' => (∃ v, e = .returned v) ∧ ∃ K, Full off (off + n) K ∧ J K W' := by
  have hco := ho.cell
  have hcn := hn.cell
  refine callsIn_of_wp Try.func25 rfl trivial ?_ rfl
  simp only [Try.ntmps25, List.size_toArray, List.length_cons, List.length_nil, Nat.reduceAdd, Nat.reduceSub, Array.replicate_succ, Array.replicate_zero, List.push_toArray, List.append_toArray, List.nil_append, List.cons_append]
  gi_wp2
  gi_loopw [5] (fun _ wr => ∃ (k : Nat) (s : Int), Hid (pst off (off + n) k = s) ∧ Hid (∀ j, j < k → pst off (off + n) j < off + n) ∧ off ≤ s ∧ s ≤ off + n ∧ Boxed wr Bo 2 (.int .i64 s) ∧ J k wr)
    (fun _ wr => (off + n - cellInt wr Bo).toNat)
  case atStart => exact ⟨0, off, rfl, fun j hj => absurd hj (by omega), by omega, by omega, ho, hJ⟩
  case round =>
    obtain ⟨k, s, hk, hall, hs1, hs2, hb, hJs⟩ := hrel
    clear ho hn hco hcn
    have hcs := hb.cell
    have hfs := hb.frozen
    by_cases hlt : s < off + n
    · by_cases hc : 64 - s % 64 ≤ off + n - s
      · have hp : plOf (off + n) s = 64 - s % 64 := by unfold plOf; omega
        obtain ⟨fn, tmps, assign, body, hy, hR⟩ := hY k wr s _ hk.out hp hJs hlt
        have hk' : Hid (pst off (off + n) (k + 1) = s + (64 - s % 64)) := by
          have e := hk.out
          show pst off (off + n) k + plOf (off + n) (pst off (off + n) k) = _
          rw [e, hp]
        have hall' : Hid (∀ j, j < k + 1 → pst off (off + n) j < off + n) := fun j hj => by
          rcases Nat.lt_or_ge j k with h | h
          · exact hall.out j h
          · obtain rfl : j = k := by omega
            have e := hk.out
            omega
        clear hp
        gi_wp2_with (refine ⟨trivial, ?_⟩; gi_at_call 23; refine (callsIn_wide.2 (place_any s _ (by omega) (by omega))).mono ?_; rintro e w' ⟨rfl, rfl⟩)
        refine hR.mono ?_
        rintro e W3 ⟨rfl, hJ3, hk3⟩
        have hb3 : Boxed W3 Bo 2 (.int .i64 s) := hk3.trans hb
        have hc3 := hb3.cell
        have hf3 := hb3.frozen
        gi_wp2
        go_roundw
        case rel => exact ⟨k + 1, _, hk', hall', by omega, by omega, hb3.set _, hst _ _ _ hJ3⟩
        case measure => rw [cellInt_eq hb, cellInt_eq (hb3.set _)]; omega
      · have hp : plOf (off + n) s = off + n - s := by unfold plOf; omega
        obtain ⟨fn, tmps, assign, body, hy, hR⟩ := hY k wr s _ hk.out hp hJs hlt
        have hk' : Hid (pst off (off + n) (k + 1) = s + (off + n - s)) := by
          have e := hk.out
          show pst off (off + n) k + plOf (off + n) (pst off (off + n) k) = _
          rw [e, hp]
        have hall' : Hid (∀ j, j < k + 1 → pst off (off + n) j < off + n) := fun j hj => by
          rcases Nat.lt_or_ge j k with h | h
          · exact hall.out j h
          · obtain rfl : j = k := by omega
            have e := hk.out
            omega
        clear hp
        gi_wp2_with (refine ⟨trivial, ?_⟩; gi_at_call 23; refine (callsIn_wide.2 (place_any s _ (by omega) (by omega))).mono ?_; rintro e w' ⟨rfl, rfl⟩)
        refine hR.mono ?_
        rintro e W3 ⟨rfl, hJ3, hk3⟩
        have hb3 : Boxed W3 Bo 2 (.int .i64 s) := hk3.trans hb
        have hc3 := hb3.cell
        have hf3 := hb3.frozen
        gi_wp2
        go_roundw
        case rel => exact ⟨k + 1, _, hk', hall', by omega, by omega, hb3.set _, hst _ _ _ hJ3⟩
        case measure => rw [cellInt_eq hb, cellInt_eq (hb3.set _)]; omega
    · obtain rfl : s = off + n := by omega
      gi_wp2
      go_end0
      exact ⟨⟨_, rfl⟩, k, ⟨hk.out, hall.out⟩, hJs⟩

end Go.Proofs.Ytpchcchlidagiaa
