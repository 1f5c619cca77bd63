/- The contract of stripe.Pieces: the documented ranges, three cells a piece, in a slice of the call's own. -/
import Derived.Test.YtpchcchlidagiaaRange
import Derived.Maps.AppendAt
import Derived.Deep.AppendLies
import Derived.Deep.Onto
import Derived.Lib.Hide
namespace Go.Proofs.Ytpchcchlidagiaa
open Go.RowKit Go.Shelf

attribute [local go_sem] Oper.semAt_some

theorem info35 : (Try.prog.info? 35).map (fun i => (i.zero, i.size, i.bytes)) = some (some (.agg #[.int .i64 0, .int .i64 0, .int .i64 0]), 3, 24) := by kernel_rfl
theorem info36 : (Try.prog.info? 36).map (fun i => (i.zero, i.size, i.bytes)) = some (some (.agg #[.int .i64 0, .int .i64 0, .int .i64 0]), 3, 24) := by kernel_rfl

/-- The cells of one piece. -/
def pc (e s : Int) : List Value := [.int .i64 (shOf s), .int .i64 (atOf s), .int .i64 (plOf e s)]
/-- The cells of the first K pieces. -/
def pcs (off e : Int) : Nat → List Value
  | 0 => []
  | k + 1 => pcs off e k ++ pc e (pst off e k)
theorem pcs_length (off e : Int) : ∀ k, (pcs off e k).length = k * 3
  | 0 => rfl
  | k + 1 => by simp [pcs, pc, pcs_length off e k]; omega

/-- How Pieces ends: a slice of the call's own that holds the pieces' cells, and OK. -/
def PiecesPost (E : TypeId) (off n : Int) (w : World) (e : Ending) (w' : World) : Prop :=
  ∃ v K, e = .returned (.tuple #[v, .int .i64 0]) ∧ Full off (off + n) K ∧ w'.ownsRow w.heap.size E 3 v K (pcs off (off + n) K) ∧ Below w.heap.size w w'

set_option maxHeartbeats 400000 in
theorem pieces_any (off n : Int) (w : World) :
    Calls Try.prog 24 #[.int .i64 off, .int .i64 n] w fun e w' => e = .returned (.func (.func 25) #[] #[.pointer (some ⟨w.heap.size, 0, none⟩), .pointer (some ⟨w.heap.size + 1, 0, none⟩)]) ∧
      (w.alloc (.cells #[.int .i64 off] 2)).alloc (.cells #[.int .i64 n] 2) = w' := by
  go_enter Try.func24, Try.ntmps24
  go_wp2
  go_ret
  exact ⟨rfl, rfl⟩

set_option maxRecDepth 100000 in
set_option maxHeartbeats 1000000 in
theorem Pieces_yes (off n : Int) (w : World) (h0 : 0 ≤ off) (h1 : off ≤ 4611686018427387904) (hn0 : 0 ≤ n) (hn1 : n ≤ 1048576) :
    Calls Try.prog 15 #[.int .i64 off, .int .i64 n] w (PiecesPost 35 off n w) := by
  obtain ⟨i0, hi, hz0, hz1, hz2⟩ := info_parts info35
  refine (callsIn_wide (n := 3)).1 ?_
  refine callsIn_of_wp_marks Try.func15 rfl trivial ?_ rfl
  simp only [Try.ntmps15, List.size_toArray, List.length_cons, List.length_nil, Nat.reduceAdd, Nat.reduceSub, Array.replicate_succ, Array.replicate_zero, List.push_toArray, List.append_toArray, List.nil_append, List.cons_append]
  gi_wp2_with (refine ⟨trivial, ?_⟩; gi_at_call 24; refine (callsIn_wide.2 (pieces_any off n _)).mono ?_; rintro e w' ⟨rfl, rfl⟩)
  rename_i hcond _ _
  clear hcond
  refine range_pieces 3 (by omega) (w.heap.size + 1) (w.heap.size + 1 + 1) off n h0 hn0 (by omega) rfl ?ho ?hn rfl
    (fun k W => ∃ v, Boxed W w.heap.size 28 v ∧ W.ownsRow (w.heap.size + 3) 35 3 v k (pcs off (off + n) k) ∧ Below w.heap.size w W ∧ w.heap.size + 3 ≤ W.heap.size) ?hI ?hi0
    (fun s p B => { tmps := #[.int .i64 off, .int .i64 n, undef, undef, .slice none 0 0, .int .i64 0, .pointer (some { block := w.heap.size, off := 0 }), undef, .pointer (some ⟨B, 0, none⟩),
        .int .i64 off, .bool (decide (off < 0)), .bool (decide (off < 0)), .int .i64 n, .bool (decide (n < 0)), .bool (decide (off < 0) || decide (n < 0)),
        .bool (decide (off < 0) || decide (n < 0)), .int .i64 n, .bool (decide (1048576 < n)), .bool (decide (off < 0) || decide (n < 0) || decide (1048576 < n)),
        .bool (decide (off < 0) || decide (n < 0) || decide (1048576 < n)), .int .i64 off, .bool (decide (4611686018427387904 < off)),
        .bool (decide (off < 0) || decide (n < 0) || decide (1048576 < n) || decide (4611686018427387904 < off)), .int .i64 off, .int .i64 n,
        .func (.func 25) #[] #[.pointer (some { block := w.heap.size + 1, off := 0 }), .pointer (some { block := w.heap.size + 1 + 1, off := 0 })],
        .int .i64 s, .agg #[.int .i64 (shOf s), .int .i64 (atOf s), .int .i64 p], undef, undef, undef, undef, undef], defers := [] }) ?assign ?body ?done
  case ho => have := Boxed.new (w.alloc (.cells #[.slice none 0 0] 28)) 2 (.int .i64 off); rw [World.size_alloc] at this; exact this.alloc _
  case hn => have := Boxed.new ((w.alloc (.cells #[.slice none 0 0] 28)).alloc (.cells #[.int .i64 off] 2)) 2 (.int .i64 n); rw [World.size_alloc, World.size_alloc] at this; exact this
  case hI =>
    rintro k W W' row ⟨v, hv, hrow, hB, hsz⟩ hg hr
    refine ⟨v, keep_box hv hg ?_, keep_row hrow hg ?_, hB.grown hg hB.size ?_, Nat.le_trans hsz hg.size⟩
    · intro r e; rcases hr r e with rfl | ⟨_, h⟩
      · exact .inl (by omega)
      · exact .inr h
    · intro r e; rcases hr r e with rfl | ⟨_, h⟩
      · exact .inl (by omega)
      · exact .inr h
    · intro r e; rcases hr r e with rfl | ⟨h, _⟩
      · omega
      · simp at h; omega
  case hi0 =>
    exact ⟨_, ((Boxed.new w 28 _).alloc _).alloc _, World.ownsRow_nil _ _ _ _, (((Below.refl _ w).alloc (Nat.le_refl _) _).alloc (by simp) _).alloc (by simp; omega) _, by simp⟩
  case assign =>
    intro l s p W K hK
    gi_wp2
    exact hK
  case body =>
    rintro l k s p W B hk hp hs1 hlt ⟨v, hv, hrow, hB, hsz⟩ hbk hBB
    have hkn : (k : Int) < n := by
      have := pst_ge off (off + n) (by omega) k (by omega)
      omega
    have hsnoc : pcs off (off + n) (k + 1) = pcs off (off + n) k ++ [.int .i64 (shOf s), .int .i64 (atOf s), .int .i64 p] := by
      simp only [pcs, pc]; rw [hk, hp]
    have Hsnoc := Lib.hid hsnoc
    clear hsnoc hk hp
    have hc := hv.cell
    have hb0 : W.cell? ⟨B, 0, none⟩ = some (.int .i64 (shOf s)) := cell_of_row W B 0 _ _ _ hbk
    have hb1 : W.cell? ⟨B, 1, none⟩ = some (.int .i64 (atOf s)) := cell_of_row W B 1 _ _ _ hbk
    have hb2 : W.cell? ⟨B, 2, none⟩ = some (.int .i64 p) := cell_of_row W B 2 _ _ _ hbk
    clear hbk
    gi_wp2_with (gi_at_builtin; refine wpListIn_append_own _ rfl _ _ 28 rfl (w.heap.size + 3) 35 i0 (.agg #[.int .i64 0, .int .i64 0, .int .i64 0]) 3 24 Try.underlying28 hi hz0 hz1 hz2 rfl (by decide) _ _ _ rfl (hrow.alloc _) ⟨W.heap.size, 0, none⟩ 1 1 [.int .i64 (shOf s), .int .i64 (atOf s), .int .i64 p] rfl rfl (World.news_of_block (World.alloc_heap_new W _)) (by simp [Value.oneCell']) (by unfold maxLen; omega) (by omega) (by simp; omega) ?_; intro v' w1 hown' hgrow _; obtain ⟨g', cap', rfl⟩ := ownsRow_succ hown'; obtain ⟨hv1, hv2, hr2, hk2, hb2⟩ := hv.appended (by decide) (hrow.mono (by omega)) hB.size (Nat.le_refl _) (hown'.mono (by omega)) hgrow; have hc1 := hv1.cell; have hf1 := hv1.frozen)
    have hgb : ∀ r, v.ownBlock = some r → w.heap.size + 3 ≤ r := fun r e => (hrow.lt r e).1
    refine ⟨rfl, hk2, ?_, _, hv2, ?_, hB.trans hb2, ?_⟩
    · have h1 : (W.alloc (.cells #[.int .i64 (shOf s), .int .i64 (atOf s), .int .i64 p] 35)).heap[w.heap.size + 1]? = W.heap[w.heap.size + 1]? := Below.heap_alloc _ _ _ (by omega)
      have h2 := hgrow.block (w.heap.size + 1) (by simp; omega) (fun e => by have := hgb _ e.symm; omega)
      exact (Below.heap_setCell _ _ _ _ (by simp)).trans (h2.trans h1)
    · rw [Hsnoc.out]
      exact hown'.kept (grownBy_setCell' w1 w.heap.size _) (.inr (hv1.not_row (by decide) hown').symm)
    · exact Nat.le_trans hsz hk2.size
  case done =>
    rintro D K W hK ⟨v, hv, hrow, hB, hsz⟩ hD hd
    have hc := hv.cell
    gi_wp2
    refine ⟨by simp, .inl ⟨_, _, rfl, run_takeDeferred hd, ?_⟩⟩
    exact ⟨_, results_tmp2 rfl _ _ _, v, K, rfl, hK, (ownsRow_putObj hrow _ hd rfl).mono (by omega), hB.trans (belowK_b (w := w) (Nat.le_refl _) W D _ _ (by simp at hD; omega) hd rfl rfl)⟩

end Go.Proofs.Ytpchcchlidagiaa
