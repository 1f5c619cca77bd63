/- The chapter's examples hold: awake returns true. -/
import Derived.Test.YtpchcchlidagiaaPieces2
namespace Go.Proofs.Ytpchcchlidagiaa
open Go.RowKit

theorem sz0 : szOf 0 = 0 := by decide
theorem sz1 : szOf 1 = 64 := by decide
theorem sz256 : szOf 256 = 64 := by decide
theorem sz257 : szOf 257 = 128 := by decide
theorem sh256 : shOf 256 = 0 := by decide
theorem at256 : atOf 256 = 64 := by decide

theorem full60 : Full 60 68 2 := by
  refine ⟨by decide, fun j hj => ?_⟩
  match j, hj with
  | 0, _ => decide
  | 1, _ => decide
theorem pcs60 : pcs 60 68 2 = [.int .i64 0, .int .i64 60, .int .i64 4, .int .i64 1, .int .i64 0, .int .i64 4] := by rfl

theorem Pieces_60 (w : World) :
    Calls Try.prog 15 #[.int .i64 60, .int .i64 8] w fun e w' => (∃ g cap, e = .returned (.tuple #[.slice (some ⟨g, 0, none⟩) 2 cap, .int .i64 0]) ∧ 2 ≤ cap ∧ cap ≤ 9223372036854775807 ∧
      w'.cell? ⟨g, 0, none⟩ = some (.int .i64 0) ∧ w'.cell? ⟨g, 1, none⟩ = some (.int .i64 60) ∧ w'.cell? ⟨g, 2, none⟩ = some (.int .i64 4) ∧
      w'.cell? ⟨g, 3, none⟩ = some (.int .i64 1) ∧ w'.cell? ⟨g, 4, none⟩ = some (.int .i64 0) ∧ w'.cell? ⟨g, 5, none⟩ = some (.int .i64 4)) ∧ Below w.heap.size w w' := by
  refine (Pieces_yes 60 8 w (by omega) (by omega) (by omega) (by omega)).mono ?_
  rintro e w' ⟨v, K, rfl, hK, hrow, hB⟩
  obtain rfl : K = 2 := hK.uniq full60
  refine ⟨?_, hB⟩
  obtain ⟨g, cap, rfl⟩ := ownsRow_succ hrow
  rw [show ((60 : Int) + 8) = 68 from rfl, pcs60] at hrow
  have hc := hrow.cells rfl
  have hcap : 2 ≤ cap ∧ cap ≤ 9223372036854775807 := by
    rcases hrow.2 with ⟨h, _⟩ | ⟨g', cap', cur, h, _, _, h1, h2, _⟩
    · cases h
    · cases h; unfold maxLen at h2; exact ⟨h1, by omega⟩
  exact ⟨g, cap, rfl, hcap.1, hcap.2, hc 0 _ rfl, hc 1 _ rfl, hc 2 _ rfl, hc 3 _ rfl, hc 4 _ rfl, hc 5 _ rfl⟩

set_option maxRecDepth 100000 in
set_option maxHeartbeats 1000000 in
theorem awake_any (w : World) : Calls Try.prog 14 #[] w fun e w' => e = .returned (.bool true) ∧ Below w.heap.size w w' := by
  have e1 := sz0
  have e2 := sz1
  have e3 := sz256
  have e4 := sz257
  have e5 := sh256
  have e6 := at256
  go_enter Try.func14, Try.ntmps14
  go_wp2_with (first | (go_at_call 10; refine (Place_yes _ _ (by omega) (by omega)).mono ?_; rintro e w' ⟨rfl, rfl⟩) | (go_at_call 12; refine (Size_any _ _ (by omega) (by omega)).mono ?_; rintro e w' ⟨rfl, rfl⟩) | (go_at_call 15; refine (Pieces_60 _).mono ?_; rintro e w' ⟨⟨g, cap, rfl, hcap, hcap2, c0, c1, c2, c3, c4, c5⟩, hB⟩))
  go_ret
  exact ⟨rfl, hB⟩

end Go.Proofs.Ytpchcchlidagiaa
