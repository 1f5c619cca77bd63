/- A loop over the iterator of package stripe: the law of the statement, for an invariant of the caller's own. -/
import Derived.Test.YtpchcchlidagiaaIter
namespace Go.Proofs.Ytpchcchlidagiaa
open Go.RowKit Go.Shelf

/-- How a round of such a loop is left: off its end; whatever is no cells, and the captured variable, as they were. -/
def roundEnd (Bo : Nat) (I : World → Prop) (W : World) (ex : Exit) (_ : Act) (W' : World) : Prop :=
  ex = .normal ∧ KeepsOthers W W' ∧ W'.heap[Bo]? = W.heap[Bo]? ∧ I W'

theorem range_pieces {g : Operand} {ps : Array Tmp} {assign body : Code} {Q : Exit → Act → World → Prop} {a : Act} {w : World}
    (m : Nat) (hm : 2 ≤ m) (Bo Bn : Nat) (off n : Int) (h0 : 0 ≤ off) (hn0 : 0 ≤ n) (hs : off + n ≤ 9223372036854775807)
    (hg : a.eval g = .func (.func 25) #[] #[.pointer (some ⟨Bo, 0, none⟩), .pointer (some ⟨Bn, 0, none⟩)])
    (ho : Boxed w Bo 2 (.int .i64 off)) (hn : Boxed w Bn 2 (.int .i64 n)) (hps : ps.size = 2)
    (I : Nat → World → Prop)
    (hI : ∀ k W W' row, I k W → W.grownBy W' row → (∀ r, row = some r → r = Bo ∨ (w.heap.size ≤ r ∧ ∃ o : Obj, W.heap[r]? = some o ∧ o.isCells = false)) → I k W')
    (hi0 : I 0 w) (Ax : Int → Int → Nat → Act)
    (hassign : ∀ (l : Nat) (s p : Int) (W : World) (K : Act → World → Prop),
      K (Ax s p W.heap.size) (W.alloc (.cells #[.int .i64 (shOf s), .int .i64 (atOf s), .int .i64 p] 35)) →
      assign.wpIn (Fence.wide.inRound l) (m - 1 - 1) Try.prog (Exit.then K (fun _ _ _ => False))
        { tmps := (ps.zip #[.int .i64 s, .agg #[.int .i64 (shOf s), .int .i64 (atOf s), .int .i64 p]]).foldl (fun t (p, v) => t.setIfInBounds p v) a.tmps, defers := [] } W)
    (hbody : ∀ (l k : Nat) (s p : Int) (W : World) (B : Nat), pst off (off + n) k = s → plOf (off + n) s = p → off ≤ s → s < off + n → I k W →
      W.heap[B]? = some (.cells #[.int .i64 (shOf s), .int .i64 (atOf s), .int .i64 p] 35 (0, 0)) → w.heap.size + 2 ≤ B →
      body.wpIn (Fence.wide.inRound l) (m - 1 - 1) Try.prog (roundEnd Bo (I (k + 1)) W) (Ax s p B) W)
    (hdone : ∀ (D K : Nat) (W : World), Full off (off + n) K → I K W → w.heap.size ≤ D → W.heap[D]? = some (.deferred (some [])) →
      Q .normal { a with defers := { target := .collected D, args := #[] } :: a.defers } W) :
    (Code.rangeFunc g ps assign body).wpIn Fence.wide m Try.prog Q a w := by
  have hBo := ho.lt
  refine wpIn_rangeFunc ?_
  intro fn hfn
  obtain ⟨rec, hrec⟩ : ∃ rec : LoopState → Option Code → Loop, rec = fun st pe => { state := st, pending := pe, fn, tmps := a.tmps, params := ps, assign, body, defers := w.heap.size } := ⟨_, rfl⟩
  obtain ⟨W1, hW1⟩ : ∃ W1, (w.alloc (.deferred (some []))).alloc (.loop (rec .ready none)) = W1 := ⟨_, rfl⟩
  have hg1 : w.grownBy (w.alloc (.deferred (some []))) none := World.grownBy_alloc _ _ _
  have hg2 : (w.alloc (.deferred (some []))).grownBy W1 none := by rw [← hW1]; exact World.grownBy_alloc _ _ _
  have hs1 : W1.heap.size = w.heap.size + 2 := by rw [← hW1]; simp
  have hL1 : W1.heap[w.heap.size + 1]? = some (.loop (rec .ready none)) := by
    rw [← hW1]; have := World.alloc_heap_new (w.alloc (.deferred (some []))) (.loop (rec .ready none)); rwa [World.size_alloc] at this
  have hD1 : W1.heap[w.heap.size]? = some (.deferred (some [])) := by
    rw [← hW1]; exact (Below.heap_alloc _ _ _ (by simp)).trans (World.alloc_heap_new w _)
  have hi1 : I 0 W1 := hI _ _ _ none (hI _ _ _ none hi0 hg1 (fun r e => by cases e)) hg2 (fun r e => by cases e)
  have ho1 : Boxed W1 Bo 2 (.int .i64 off) := (ho.kept hg1 (by simp)).kept hg2 (by simp)
  have hn1 : Boxed W1 Bn 2 (.int .i64 n) := (hn.kept hg1 (by simp)).kept hg2 (by simp)
  refine ⟨w.heap.size + 1, [{ target := .collected w.heap.size, args := #[] }], W1,
    { target := .fn (.func 25) #[.pointer (some ⟨Bo, 0, none⟩), .pointer (some ⟨Bn, 0, none⟩)], args := #[.func (.yield (w.heap.size + 1)) #[] #[]] }, W1, 25,
    #[.func (.yield (w.heap.size + 1)) #[] #[], .pointer (some ⟨Bo, 0, none⟩), .pointer (some ⟨Bn, 0, none⟩)], W1, ?_, ?_, ?_, ?_, fun _ => by omega, ?_⟩
  · rw [← hW1, hrec]; exact run_enterLoop_outer _ _ _ _ _
  · simp only [resolve, hg]
    simp [go_sem]
  · intro f' _; trivial
  · simp [invoke, go_sem]
  · refine (pieces1_in (m - 1) (by omega) (w.heap.size + 1) Bo Bn off n h0 hn0 hs
      (fun k W => I k W ∧ W.heap[w.heap.size + 1]? = some (.loop (rec .ready none)) ∧ W.heap[w.heap.size]? = some (.deferred (some [])))
      ?_ ?_ W1 ho1 hn1 ⟨hi1, hL1, hD1⟩).mono ?_
    · rintro k W v ⟨hi, hl, hd⟩
      exact ⟨hI _ _ _ (some Bo) hi (grownBy_setCell' W Bo v) (fun r e => by cases e; exact .inl rfl),
        (Below.heap_setCell _ _ _ _ (by simp; omega)).trans hl, (Below.heap_setCell _ _ _ _ (by simp; omega)).trans hd⟩
    · -- one round
      rintro k W s p hk hp ⟨hi, hl, hd⟩ hlt
      have hltl : w.heap.size + 1 < W.heap.size := (Array.getElem?_eq_some_iff.1 hl).1
      have hsb := pst_bd off (off + n) (by omega) k
      rw [hk] at hsb
      have hy := run_yield (P := Try.prog) (args := #[.int .i64 s, .agg #[.int .i64 (shOf s), .int .i64 (atOf s), .int .i64 p]]) hl (by rw [hrec]; simp [hps])
      rw [hrec] at hy
      refine ⟨fn, _, assign, body, hy, roundIn_of_wpIn hfn (hassign _ s p W _ ?_)⟩
      generalize hA : W.alloc (.cells #[.int .i64 (shOf s), .int .i64 (atOf s), .int .i64 p] 35) = W2
      have hgA : W.grownBy W2 none := by rw [← hA]; exact World.grownBy_alloc _ _ _
      have hsA : W2.heap.size = W.heap.size + 1 := by rw [← hA]; simp
      have hnA : W2.heap[W.heap.size]? = some (.cells #[.int .i64 (shOf s), .int .i64 (atOf s), .int .i64 p] 35 (0, 0)) := by rw [← hA]; exact World.alloc_heap_new _ _
      have hl2 : W2.heap[w.heap.size + 1]? = some (.loop (rec .ready none)) := (hgA.block _ hltl (by simp)).trans hl
      have hd2 : W2.heap[w.heap.size]? = some (.deferred (some [])) := (hgA.block _ (by omega) (by simp)).trans hd
      refine ⟨_, run_beginRound hl2 (by rw [hrec]), ?_⟩
      have hl3 : (W2.putObj (w.heap.size + 1) (.loop { rec .ready none with state := .busy })).heap[w.heap.size + 1]? = some (.loop { rec .ready none with state := .busy }) := World.putObj_heap_same (by omega)
      have hd3 : (W2.putObj (w.heap.size + 1) (.loop { rec .ready none with state := .busy })).heap[w.heap.size]? = some (.deferred (some [])) := (World.putObj_heap_other (by omega)).trans hd2
      have hn3 : (W2.putObj (w.heap.size + 1) (.loop { rec .ready none with state := .busy })).heap[W.heap.size]? = some (.cells #[.int .i64 (shOf s), .int .i64 (atOf s), .int .i64 p] 35 (0, 0)) := (World.putObj_heap_other (by omega)).trans hnA
      have hi3 : I k (W2.putObj (w.heap.size + 1) (.loop { rec .ready none with state := .busy })) :=
        hI _ _ _ (some (w.heap.size + 1)) (hI _ _ _ none hi hgA (fun r e => by cases e)) (grownBy_putObj' _ _ _) (fun r e => by cases e; exact .inr ⟨by omega, _, hl2, rfl⟩)
      have hbo3 : (W2.putObj (w.heap.size + 1) (.loop { rec .ready none with state := .busy })).heap[Bo]? = W.heap[Bo]? := (World.putObj_heap_other (by omega)).trans (hgA.block _ (by omega) (by simp))
      generalize W2.putObj (w.heap.size + 1) (.loop { rec .ready none with state := .busy }) = W3 at hl3 hd3 hn3 hi3 hbo3
      refine wpIn_mono (hbody _ k s p W3 W.heap.size hk hp hsb.1 hlt hi3 hn3 (by omega)) ?_
      rintro ex a4 W4 ⟨rfl, hk4, hbo4, hi4⟩
      have hl4 := hk4.same _ _ hl3 rfl
      have hd4 := hk4.same _ _ hd3 rfl
      have hend := run_endRound (P := Try.prog) none hl4
      refine ⟨_, _, hend, rfl, ⟨hI _ _ _ (some (w.heap.size + 1)) hi4 (grownBy_putObj' _ _ _) (fun r e => by cases e; exact .inr ⟨by omega, _, hl4, rfl⟩), ?_, (World.putObj_heap_other (by omega)).trans hd4⟩,
        ((World.putObj_heap_other (by omega)).trans hbo4).trans hbo3⟩
      rw [World.putObj_heap_same (Array.getElem?_eq_some_iff.1 hl4).1, hrec]
      rfl
    · rintro e W2 ⟨⟨v, rfl⟩, K, hK, hi, hl, hd⟩
      have hend := run_endLoop (P := Try.prog) hl (by rw [hrec]; simp)
      refine ⟨_, _, hend, ?_⟩
      rw [hrec]
      exact hdone w.heap.size K _ hK (hI _ _ _ (some (w.heap.size + 1)) hi (grownBy_putObj' _ _ _) (fun r e => by cases e; exact .inr ⟨by omega, _, hl, rfl⟩)) (Nat.le_refl _) ((World.putObj_heap_other (by omega)).trans hd)

theorem keep_row {W W' : World} {row : Option Nat} {base : Nat} {e : TypeId} {size : Nat} {v : Value} {n : Nat} {xs : List Value} (h : W.ownsRow base e size v n xs) (hg : W.grownBy W' row)
    (hr : ∀ r, row = some r → r < base ∨ ∃ o : Obj, W.heap[r]? = some o ∧ o.isCells = false) : W'.ownsRow base e size v n xs := by
  refine h.kept hg ?_
  rcases h.2 with ⟨rfl, _⟩ | ⟨g, cap, cur, rfl, hb, hgb, _⟩
  · exact .inl rfl
  · refine .inr fun e' => ?_
    rcases hr g (by simpa [Value.ownBlock] using e'.symm) with hlt | ⟨o, ho, hc⟩
    · omega
    · rw [hgb] at ho; cases ho; cases hc
theorem keep_box {W W' : World} {row : Option Nat} {B : Nat} {t : TypeId} {v : Value} (h : Boxed W B t v) (hg : W.grownBy W' row)
    (hr : ∀ r, row = some r → r ≠ B ∨ ∃ o : Obj, W.heap[r]? = some o ∧ o.isCells = false) : Boxed W' B t v := by
  refine h.kept hg fun e' => ?_
  rcases hr B e'.symm with hne | ⟨o, ho, hc⟩
  · exact hne rfl
  · rw [show W.heap[B]? = _ from h] at ho; cases ho; cases hc

end Go.Proofs.Ytpchcchlidagiaa
