/- The refusals of stripe.Pieces; the contract of the reference's Pieces. -/
import Derived.Test.YtpchcchlidagiaaPieces
namespace Go.Proofs.Ytpchcchlidagiaa
open Go.RowKit

/-- What Pieces refuses. -/
def badP (off n : Int) : Prop := off < 0 ∨ n < 0 ∨ 1048576 < n ∨ 4611686018427387904 < off

set_option maxHeartbeats 400000 in
theorem Pieces_no (off n : Int) (w : World) (h : badP off n) :
    Calls Try.prog 15 #[.int .i64 off, .int .i64 n] w fun e w' => e = .returned (.tuple #[.slice none 0 0, .int .i64 1]) ∧ w = w' := by
  unfold badP at h
  by_cases h1 : off < 0
  · clear h
    go_enter Try.func15, Try.ntmps15
    go_wp2
    go_ret2
    exact ⟨rfl, rfl⟩
  · by_cases h2 : n < 0
    · clear h
      go_enter Try.func15, Try.ntmps15
      go_wp2
      go_ret2
      exact ⟨rfl, rfl⟩
    · by_cases h3 : 1048576 < n
      · clear h
        go_enter Try.func15, Try.ntmps15
        go_wp2
        go_ret2
        exact ⟨rfl, rfl⟩
      · have h4 : 4611686018427387904 < off := by omega
        clear h
        go_enter Try.func15, Try.ntmps15
        go_wp2
        go_ret2
        exact ⟨rfl, rfl⟩

set_option maxHeartbeats 400000 in
theorem rPieces_no (off n : Int) (w : World) (h : badP off n) :
    Calls Try.prog 16 #[.int .i64 off, .int .i64 n] w fun e w' => e = .returned (.tuple #[.slice none 0 0, .int .i64 1]) ∧ w = w' := by
  unfold badP at h
  by_cases h1 : off < 0
  · clear h
    go_enter Try.func16, Try.ntmps16
    go_wp2
    go_ret2
    exact ⟨rfl, rfl⟩
  · by_cases h2 : 4611686018427387904 < off
    · clear h
      go_enter Try.func16, Try.ntmps16
      go_wp2
      go_ret2
      exact ⟨rfl, rfl⟩
    · by_cases h3 : n < 0
      · clear h
        go_enter Try.func16, Try.ntmps16
        go_wp2
        go_ret2
        exact ⟨rfl, rfl⟩
      · have h4 : 1048576 < n := by omega
        clear h
        go_enter Try.func16, Try.ntmps16
        go_wp2
        go_ret2
        exact ⟨rfl, rfl⟩

set_option maxRecDepth 100000 in
set_option maxHeartbeats 1000000 in
theorem rPieces_yes (off n : Int) (w : World) (h0 : 0 ≤ off) (h1 : off ≤ 4611686018427387904) (hn0 : 0 ≤ n) (hn1 : n ≤ 1048576) :
    Calls Try.prog 16 #[.int .i64 off, .int .i64 n] w (PiecesPost 36 off n w) := by
  obtain ⟨i0, hi, hz0, hz1, hz2⟩ := info_parts info36
  go_enter Try.func16, Try.ntmps16
  go_wp2
  rename_i hcond _ _
  clear hcond
  go_loopw [6, 7] (fun v d wr => ∃ (k : Nat) (t : Int), d = .int .i64 t ∧ Hid (pst off (off + n) k = off + t) ∧ Hid (∀ j, j < k → pst off (off + n) j < off + n) ∧ (k : Int) ≤ t ∧ t ≤ n ∧ wr.ownsRow w.heap.size 36 3 v k (pcs off (off + n) k) ∧ Below w.heap.size w wr)
    (fun _ d _ => (n - intOf d).toNat)
  case atStart => exact ⟨0, 0, rfl, by show off = off + 0; omega, fun j hj => absurd hj (by omega), by omega, by omega, World.ownsRow_nil _ _ _ _, Below.refl _ _⟩
  case round =>
    obtain ⟨k, t, rfl, hk, hall, hkt, htn, hrow, hB⟩ := hrel
    have hBs := hB.size
    by_cases hlt : t < n
    · by_cases hc : 64 - (off + t) % 64 ≤ n - t
      · have hp : plOf (off + n) (off + t) = 64 - (off + t) % 64 := by unfold plOf; omega
        have hk' : Hid (pst off (off + n) (k + 1) = off + (t + (64 - (off + t) % 64))) := by
          have e := hk.out
          show pst off (off + n) k + plOf (off + n) (pst off (off + n) k) = _
          rw [e, hp]; omega
        have hall' : Hid (∀ j, j < k + 1 → pst off (off + n) j < off + n) := fun j hj => by
          rcases Nat.lt_or_ge j k with h | h
          · exact hall.out j h
          · obtain rfl : j = k := by omega
            have e := hk.out
            omega
        have hsnoc : Hid (pcs off (off + n) (k + 1) = pcs off (off + n) k ++ [.int .i64 (shOf (off + t)), .int .i64 (atOf (off + t)), .int .i64 (64 - (off + t) % 64)]) := by
          show _ = _
          simp only [pcs, pc]; rw [hk.out, hp]
        clear hp
        go_wp2_with (first | (go_at_call 11; refine (rPlace_yes _ _ (by omega) (by omega)).mono ?_; rintro e w' ⟨rfl, rfl⟩) | (at_builtin; refine wpList_append_own _ rfl _ _ 31 rfl w.heap.size 36 i0 (.agg #[.int .i64 0, .int .i64 0, .int .i64 0]) 3 24 Try.underlying31 hi hz0 hz1 hz2 rfl (by decide) _ _ _ rfl (hrow.alloc _) ⟨wr.heap.size, 0, none⟩ 1 1 [.int .i64 (shOf (off + t)), .int .i64 (atOf (off + t)), .int .i64 (64 - (off + t) % 64)] rfl rfl (World.news_of_block (World.alloc_heap_new wr _)) (by simp [Value.oneCell']) (by unfold maxLen; omega) (by omega) (by simp; omega) ?_; intro v' w1 hown' hgrow _))
        go_roundw
        case rel => exact ⟨k + 1, _, rfl, hk', hall', by omega, by omega, by rw [hsnoc.out]; exact hown', (hB.alloc hBs _).grown hgrow (by simp; omega) (fun r e => (hrow.lt r e).1)⟩
        case measure => simp [intOf]; omega
      · have hp : plOf (off + n) (off + t) = n - t := by unfold plOf; omega
        have hk' : Hid (pst off (off + n) (k + 1) = off + (t + (n - t))) := by
          have e := hk.out
          show pst off (off + n) k + plOf (off + n) (pst off (off + n) k) = _
          rw [e, hp]; omega
        have hall' : Hid (∀ j, j < k + 1 → pst off (off + n) j < off + n) := fun j hj => by
          rcases Nat.lt_or_ge j k with h | h
          · exact hall.out j h
          · obtain rfl : j = k := by omega
            have e := hk.out
            omega
        have hsnoc : Hid (pcs off (off + n) (k + 1) = pcs off (off + n) k ++ [.int .i64 (shOf (off + t)), .int .i64 (atOf (off + t)), .int .i64 (n - t)]) := by
          show _ = _
          simp only [pcs, pc]; rw [hk.out, hp]
        clear hp
        go_wp2_with (first | (go_at_call 11; refine (rPlace_yes _ _ (by omega) (by omega)).mono ?_; rintro e w' ⟨rfl, rfl⟩) | (at_builtin; refine wpList_append_own _ rfl _ _ 31 rfl w.heap.size 36 i0 (.agg #[.int .i64 0, .int .i64 0, .int .i64 0]) 3 24 Try.underlying31 hi hz0 hz1 hz2 rfl (by decide) _ _ _ rfl (hrow.alloc _) ⟨wr.heap.size, 0, none⟩ 1 1 [.int .i64 (shOf (off + t)), .int .i64 (atOf (off + t)), .int .i64 (n - t)] rfl rfl (World.news_of_block (World.alloc_heap_new wr _)) (by simp [Value.oneCell']) (by unfold maxLen; omega) (by omega) (by simp; omega) ?_; intro v' w1 hown' hgrow _))
        go_roundw
        case rel => exact ⟨k + 1, _, rfl, hk', hall', by omega, by omega, by rw [hsnoc.out]; exact hown', (hB.alloc hBs _).grown hgrow (by simp; omega) (fun r e => (hrow.lt r e).1)⟩
        case measure => simp [intOf]; omega
    · obtain rfl : n = t := by omega
      go_wp2
      go_ret2
      exact ⟨_, k, rfl, ⟨hk.out, hall.out⟩, hrow, hB⟩

end Go.Proofs.Ytpchcchlidagiaa
