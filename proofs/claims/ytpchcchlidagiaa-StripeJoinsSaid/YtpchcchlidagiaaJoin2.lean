/- The contracts of Join, stripe's and the reference's, where they join. -/
import Derived.Test.YtpchcchlidagiaaJoin
import Derived.Maps.AppendAt
namespace Go.Proofs.Ytpchcchlidagiaa
open Go.RowKit Go.Shelf

attribute [local go_sem] Oper.semAt_some

/-- The byte of the volume at t, out of the shards c. -/
def jb (c : Nat → Nat → Int) (t : Nat) : Int := c (shN t) (atN t)

def JoinPost (w : World) (N : Nat) (c : Nat → Nat → Int) (e : Ending) (w' : World) : Prop :=
  ∃ v, e = .returned (.tuple #[v, .int .i64 0]) ∧ w'.ownsRow w.heap.size 5 1 v N (seg (jb c) 0 N) ∧ Below w.heap.size w w'

theorem piece_jb (c : Nat → Nat → Int) {t q j : Nat} (hq : t % 64 + q ≤ 64) (hj : j < q) : jb c (t + j) = c (shN t) (atN t + j) := by
  unfold jb
  rw [show shN (t + j) = shN t by unfold shN; omega, show atN (t + j) = atN t + j by unfold atN; omega]

theorem make_cap (n : Nat) (hn : n ≤ 1048576) (w : World) :
    (Instr.makeSlice 40 (.int .i64 0) (.int .i64 (n : Int))).run Try.prog w = .ok (.slice (some ⟨w.heap.size, 0, none⟩) 0 n) (w.alloc (.cells (madeCells #[Value.int .u8 0] n) 5)) := by
  obtain ⟨i0, hi, hz0, hz1, hz2⟩ := info_parts info5
  have h := run_make (P := Try.prog) w 40 5 i0 (.int .u8 0) Try.underlying40 hi hz0 .i64 .i64 0 (n : Int) (by omega) (by omega) (by rw [hz2]; omega) (by omega)
  rw [hz1, Nat.mul_one] at h
  simp only [Int.toNat_natCast, Int.toNat_zero] at h
  exact h

theorem Size_is (n m : Nat) (w : World) (hn : n ≤ 1048576) (hz : szN n = m) :
    Calls Try.prog 12 #[.int .i64 (n : Int)] w fun e w' => e = .returned (.int .i64 (m : Int)) ∧ w = w' := Size_nat n m w hn hz

/-- Where the loop over the pieces stands: t bytes have been joined. -/
structure JoinRun (w : World) (A : Option Addr) (len cap : Nat) (c : Nat → Nat → Int) (t : Nat) (v : Value) (W : World) : Prop where
  b0 : W.heap[w.heap.size]? = some (.cells #[.slice A len cap] 43 (0, 0))
  b2 : Boxed W (w.heap.size + 1 + 1) 40 v
  own : W.ownsRow w.heap.size 5 1 v t (seg (jb c) 0 t)
  off : v.ownBlock ≠ some (w.heap.size + 1 + 1 + 1)
  low : Below w.heap.size w W
  size : w.heap.size + 5 ≤ W.heap.size

theorem JoinRun.kept {w W W' : World} {A : Option Addr} {len cap t : Nat} {c : Nat → Nat → Int} {v : Value} (h : JoinRun w A len cap c t v W) {row : Option Nat} (hg : W.grownBy W' row)
    (hr : ∀ r, row = some r → r = w.heap.size + 1 + 1 + 1 ∨ (w.heap.size + 5 ≤ r ∧ ∃ o : Obj, W.heap[r]? = some o ∧ o.isCells = false)) : JoinRun w A len cap c t v W' := by
  have hr' : ∀ j, j ≠ w.heap.size + 1 + 1 + 1 → ∀ r, row = some r → r ≠ j ∨ ∃ o : Obj, W.heap[r]? = some o ∧ o.isCells = false := fun j hj r e => by
    rcases hr r e with rfl | ⟨_, h⟩
    · exact .inl (fun e => hj e.symm)
    · exact .inr h
  refine ⟨(keep_blk h.b0 hg (hr' _ (by omega))).trans h.b0, keep_box h.b2 hg (hr' _ (by omega)), ?_, h.off, h.low.grown hg h.low.size ?_, Nat.le_trans h.size hg.size⟩
  · refine h.own.kept hg ?_
    rcases h.own.2 with ⟨rfl, _⟩ | ⟨g, cap', cur, rfl, _, hgb, _⟩
    · exact .inl rfl
    · refine .inr fun e' => ?_
      have e2 := e'.symm
      rw [show (Value.slice (some ⟨g, 0, none⟩) t cap').ownBlock = some g from rfl] at e2
      rcases hr g e2 with he | ⟨_, o, ho, hc⟩
      · exact h.off (by rw [← he]; rfl)
      · rw [hgb] at ho; cases ho; cases hc
  · intro r e
    rcases hr r e with rfl | ⟨h, _⟩ <;> omega

set_option maxRecDepth 100000 in
set_option maxHeartbeats 2000000 in
theorem Join_ok (A : Option Addr) (len cap : Nat) (As : Nat → Option Addr) (ln cp : Nat → Nat) (N m : Nat) (c : Nat → Nat → Int) (w : World) (h4 : 4 ≤ len) (hlc : len ≤ cap) (hcm : cap ≤ 9223372036854775807)
    (hH : Hdrs w A len As ln cp) (hN : N ≤ 1048576) (hm : szN N = m) (hl : ∀ i, i < 4 → ln i = m) (hb : ∀ i, i < 4 → Byt w (As i) m (c i)) :
    Calls Try.prog 21 #[.slice A len cap, .int .i64 (N : Int)] w (JoinPost w N c) := by
  obtain ⟨iz, hiz, hz0, hz1, hz2⟩ := info_parts info5
  have hmk := make_cap N hN
  have Hm := Lib.hid hm
  clear hm
  have h4i : (4 : Int) ≤ (len : Int) := by omega
  have h4c : (4 : Int) ≤ (cap : Int) := by omega
  obtain ⟨g, o, rfl, hc⟩ := hH.1 (by omega)
  have Hl := Lib.hid hl
  clear hl
  refine (callsIn_wide (n := 3)).1 ?_
  refine callsIn_of_wp_marks Try.func21 rfl trivial ?_ rfl
  simp only [Try.ntmps21, List.size_toArray, List.length_cons, List.length_nil, Nat.reduceAdd, Nat.reduceSub, Array.replicate_succ, Array.replicate_zero, List.push_toArray, List.append_toArray, List.nil_append, List.cons_append]
  refine wpIn_wide.2 ?_
  go_wp2_with fail
  go_loop [21] (fun i => ∃ k : Nat, k ≤ 4 ∧ i = .int .i64 k) (fun i => 4 - (intOf i).toNat)
  case atStart => exact ⟨0, by omega, rfl⟩
  case round =>
    obtain ⟨k, hk, rfl⟩ := hrel
    by_cases hlt : k < 4
    · have c1 : ∀ C, (w.alloc (.cells C 43)).cell? ⟨g, o + k, none⟩ = some (.slice (As k) m (cp k)) := fun C => by
        rw [← Hl.out k hlt]
        exact (World.cell?_alloc_lt w _ ⟨g, o + k, none⟩ (World.block_lt_of_cell? w _ (hc k (by omega)))).trans (hc k (by omega))
      have k0 : (0 : Int) ≤ (k : Int) := by omega
      have k1 : (k : Int) < 4 := by omega
      clear hc hmk
      go_wp2_with (go_at_call 12; refine (Size_is N m _ hN Hm.out).mono ?_; rintro e w' ⟨rfl, rfl⟩)
      go_round
      case rel => exact ⟨k + 1, by omega, by go_num⟩
      case measure => simp [intOf]; omega
    · obtain rfl : k = 4 := by omega
      have c2 : ∀ C, (w.alloc (.cells C 43)).heap.size = w.heap.size + 1 := fun C => World.size_alloc _ _
      go_wp2_with (go_at_call 24; refine (pieces_any _ _ _).mono ?_; rintro e w' ⟨rfl, rfl⟩)
      clear c2
      have B0 : ((((w.alloc (.cells #[.slice (some ⟨g, o, none⟩) len cap] 43)).alloc (.cells (madeCells #[Value.int .u8 0] N) 5)).alloc (.cells #[.slice (some ⟨w.heap.size + 1, 0, none⟩) 0 N] 40)).alloc (.cells #[.int .i64 0] 2)).heap.size = w.heap.size + 1 + 1 + 1 + 1 := by simp
      have B1 : (((w.alloc (.cells #[.slice (some ⟨g, o, none⟩) len cap] 43)).alloc (.cells (madeCells #[Value.int .u8 0] N) 5)).alloc (.cells #[.slice (some ⟨w.heap.size + 1, 0, none⟩) 0 N] 40)).heap.size = w.heap.size + 1 + 1 + 1 := by simp
      have B2 : ((w.alloc (.cells #[.slice (some ⟨g, o, none⟩) len cap] 43)).alloc (.cells (madeCells #[Value.int .u8 0] N) 5)).heap.size = w.heap.size + 1 + 1 := by simp
      have HB0 := Lib.hid B0
      have HB1 := Lib.hid B1
      have HB2 := Lib.hid B2
      clear B0 B1 B2
      refine wpIn_wide.1 (range_pieces (m := 3) (by omega) (w.heap.size + 1 + 1 + 1) (w.heap.size + 1 + 1 + 1 + 1) 0 (N : Int) (by omega) (by omega) (by omega) rfl ?ho ?hn rfl
        (fun k W => ∃ (t : Nat) (v : Value), Hid (pst 0 (0 + (N : Int)) k = (t : Int)) ∧ JoinRun w (some ⟨g, o, none⟩) len cap c t v W) ?hI ?hi0
        (fun s p B => { tmps := #[.slice (some { block := g, off := o }) len cap, .int .i64 N, .pointer (some { block := w.heap.size, off := 0 }), undef, u4, u5, undef, u7, .pointer (some { block := w.heap.size + 1 + 1, off := 0 }), undef, .pointer (some ⟨B, 0, none⟩),
          .slice (some { block := g, off := o }) len cap, .int .i64 len, .bool (decide ((len : Int) < 4)), .bool (decide ((len : Int) < 4)), .int .i64 N, .bool (decide ((N : Int) < 0)), .bool (decide ((len : Int) < 4) || decide ((N : Int) < 0)),
          .slice (some { block := g, off := o }) len cap, .slice (some { block := g, off := o }) 4 cap, .int .i64 4, .int .i64 4, .bool false, u23, u24, u25, u26, u27, u28, u29, u30, .int .i64 N, .slice (some { block := w.heap.size + 1, off := 0 }) 0 N, .int .i64 N,
          .func (.func 25) #[] #[.pointer (some { block := w.heap.size + 1 + 1 + 1, off := 0 }), .pointer (some { block := w.heap.size + 1 + 1 + 1 + 1, off := 0 })],
          .int .i64 s, .agg #[.int .i64 (shOf s), .int .i64 (atOf s), .int .i64 p], undef, undef, undef, undef, undef, undef, undef, undef, undef, undef, undef, undef, undef, undef, undef, undef], defers := [] }) ?assign ?body ?done)
      case ho => have := Boxed.new (((w.alloc (.cells #[.slice (some ⟨g, o, none⟩) len cap] 43)).alloc (.cells (madeCells #[Value.int .u8 0] N) 5)).alloc (.cells #[.slice (some ⟨w.heap.size + 1, 0, none⟩) 0 N] 40)) 2 (.int .i64 0); rw [HB1.out] at this; exact this.alloc _
      case hn => have := Boxed.new ((((w.alloc (.cells #[.slice (some ⟨g, o, none⟩) len cap] 43)).alloc (.cells (madeCells #[Value.int .u8 0] N) 5)).alloc (.cells #[.slice (some ⟨w.heap.size + 1, 0, none⟩) 0 N] 40)).alloc (.cells #[.int .i64 0] 2)) 2 (.int .i64 (N : Int)); rw [HB0.out] at this; exact this
      case hI =>
        rintro k W W' row ⟨t, v, ht, hrun⟩ hg hr
        refine ⟨t, v, ht, hrun.kept hg fun r e => ?_⟩
        rcases hr r e with rfl | ⟨h, o⟩
        · exact .inl rfl
        · exact .inr ⟨by simp at h; omega, o⟩
      case hi0 =>
        refine ⟨0, .slice (some ⟨w.heap.size + 1, 0, none⟩) 0 N, rfl, ?_, ?_, ?_, ?_, ?_, ?_⟩
        · have a1 := heap_alloc_new w (.cells #[.slice (some ⟨g, o, none⟩) len cap] 43)
          rw [Below.heap_alloc _ _ _ (by simp; omega), Below.heap_alloc _ _ _ (by simp; omega), Below.heap_alloc _ _ _ (by simp; omega), Below.heap_alloc _ _ _ (by simp)]; exact a1
        · have := Boxed.new ((w.alloc (.cells #[.slice (some ⟨g, o, none⟩) len cap] 43)).alloc (.cells (madeCells #[Value.int .u8 0] N) 5)) 40 (.slice (some ⟨w.heap.size + 1, 0, none⟩) 0 N)
          rw [HB2.out] at this
          exact (this.alloc _).alloc _
        · have := World.ownsRow_made (base := w.heap.size) (e := 5) (size := 1) (w.alloc (.cells #[.slice (some ⟨g, o, none⟩) len cap] 43)) (madeCells #[Value.int .u8 0] N) N (by simp) (by unfold maxLen; omega) (by simp [size_madeCells])
          rw [World.size_alloc] at this
          exact ((this.alloc _).alloc _).alloc _
        · simp [Value.ownBlock]
        · exact ((((((Below.refl _ w).alloc (Nat.le_refl _) _).alloc (by simp) _).alloc (by simp; omega) _).alloc (by simp; omega) _).alloc (by simp; omega) _)
        · simp
      case assign =>
        intro l s p W K hK
        gi_wp2
        exact hK
      case body =>
        rintro l k s p W B hk hp hs1 hlt ⟨t, v, ht, hrun⟩ hbk hBB
        have hBw : w.heap.size + 5 ≤ B := by simp at hBB; omega
        clear hBB HB0 HB1 HB2
        obtain rfl : s = (t : Int) := hk.symm.trans ht.out
        have htl : t < N := by omega
        have hpl := plOf_bd (0 + (N : Int)) (t : Int) hlt
        rw [hp] at hpl
        obtain ⟨q, rfl⟩ : ∃ q : Nat, p = (q : Int) := ⟨p.toNat, by omega⟩
        have hq1 : 1 ≤ q := by omega
        have hq2 : t % 64 + q ≤ 64 := by omega
        have hq3 : t + q ≤ N := by omega
        have hnext : Hid (pst 0 (0 + (N : Int)) (k + 1) = ((t + q : Nat) : Int)) := by
          show pst 0 (0 + (N : Int)) k + plOf (0 + (N : Int)) (pst 0 (0 + (N : Int)) k) = _
          rw [hk, hp]; omega
        have hfit : atN t + q ≤ m := by have := at_fits hq2 hq3; have := Hm.out; omega
        have hsh := shN_lt t
        rw [shOf_nat, atOf_nat] at hbk ⊢
        clear hk hp hs1 hlt hpl ht
        have hcc := hc (shN t) (by omega)
        have hmc := hH.2 (shN t) (by omega)
        rw [Hl.out (shN t) hsh] at hcc hmc
        obtain ⟨gs, os, hAs, hbs⟩ := hb (shN t) hsh (by omega)
        rw [hAs] at hcc
        have d5 : W.cell? ⟨g, o + shN t, none⟩ = some (.slice (some ⟨gs, os, none⟩) m (cp (shN t))) := (hrun.low.cell (p := ⟨g, o + shN t, none⟩) (World.block_lt_of_cell? w _ hcc)).trans hcc
        have hsrc : ∀ j, j < q → W.cell? ⟨gs, os + atN t + j, none⟩ = some (.int .u8 (jb c (t + j))) := fun j hj => by
          have h1 := hbs (atN t + j) (by omega)
          rw [Nat.add_assoc, piece_jb c hq2 hj]
          exact (hrun.low.cell (p := ⟨gs, os + (atN t + j), none⟩) (World.block_lt_of_cell? w _ h1)).trans h1
        have d0 : W.cell? ⟨B, 0, none⟩ = some (.int .i64 (shN t : Int)) := cell_of_row W B 0 _ _ _ hbk
        have d1 : W.cell? ⟨B, 1, none⟩ = some (.int .i64 (atN t : Int)) := cell_of_row W B 1 _ _ _ hbk
        have d2 : W.cell? ⟨B, 2, none⟩ = some (.int .i64 (q : Int)) := cell_of_row W B 2 _ _ _ hbk
        have d3 : W.cell? ⟨w.heap.size + 1 + 1, 0, none⟩ = some v := hrun.b2.cell
        have d4 : W.cell? ⟨w.heap.size, 0, none⟩ = some (.slice (some ⟨g, o, none⟩) len cap) := cell_of_row W _ 0 _ _ _ hrun.b0
        obtain ⟨hmc1, hmc2⟩ := hmc
        have Hbk := Lib.hid hbk
        clear hbk hc hcc hbs hAs hmk
        generalize cp (shN t) = cps at *
        generalize shN t = sn at *
        generalize atN t = an at *
        have i0 : (0 : Int) ≤ (sn : Int) := by omega
        have i1 : (sn : Int) < (len : Int) := by omega
        have i2 : (0 : Int) ≤ (an : Int) := by omega
        have i3 : (an : Int) ≤ (an : Int) + (q : Int) := by omega
        have i4 : (an : Int) + (q : Int) ≤ (cps : Int) := by omega
        have i8n : ¬ cps = an := by omega
        have j0 : (0 : Int) ≤ (an : Int) + (q : Int) := by omega
        have j2 : ((an : Int) + (q : Int)).toNat = an + q := by omega
        have j1 : IntKind.i64.wrap ((an : Int) + (q : Int)) = (an : Int) + (q : Int) := IntWalk.i64_in _ (by omega)
        refine wpIn_block ?_
        refine wpIn_region_tail 14 (by kernel_rfl) (by kernel_rfl) (by rfl) ?hno ?_
        case hno =>
          rintro ⟨a, w', hx⟩
          exact absurd hx.1 (by simp)
        simp only [List.take_succ_cons, List.take_zero, List.drop_succ_cons, List.drop_zero]
        repeat still_step
        refine wpStill_nil ?_
        clear j0 j1 j2
        refine wpList_append_own_at _ rfl (.tmp 37) (.tmp 50) 40 rfl w.heap.size 5 iz (.int .u8 0) 1 1 Try.underlying40 hiz hz0 hz1 hz2 rfl (by decide) v t (seg (jb c) 0 t) rfl hrun.own ⟨gs, os + an, none⟩ q (cps - an) (seg (jb c) t q) rfl (by rw [seg_length]; omega) ?_ (seg_one _ _ _) (by unfold maxLen; omega) (by omega) hrun.low.size ?_
        · intro j x hx
          have hj : j < q := by
            rcases Nat.lt_or_ge j q with h | h
            · exact h
            · rw [List.getElem?_eq_none (by rw [seg_length]; exact h)] at hx; cases hx
          rw [seg_at _ _ _ hj] at hx
          cases hx
          rw [show (⟨gs, os + an, none⟩ : Addr).add j = ⟨gs, os + an + j, none⟩ by unfold Addr.add; split <;> simp_all]
          exact hsrc j hj
        · intro v' w4 hown' hgrow _ hloc
          have hb4 : Boxed w4 (w.heap.size + 1 + 1) 40 v := Boxed.kept (W := W.drew) hrun.b2 hgrow (hrun.b2.not_row (by decide) hrun.own)
          have hgb : ∀ r, v.ownBlock = some r → w.heap.size ≤ r := fun r e => (hrun.own.lt r e).1
          have hsb := seg_append (jb c) 0 t q
          rw [Nat.zero_add] at hsb
          rw [hsb] at hown'
          have hne0 : v.ownBlock ≠ some w.heap.size := fun e => by
            rcases hrun.own.2 with ⟨rfl, _⟩ | ⟨g', cap', cur, rfl, _, hgb', _⟩
            · cases e
            · have : g' = w.heap.size := by simpa [Value.ownBlock] using e
              subst this
              have := hrun.b0.symm.trans hgb'
              simp at this
          have hoff' : v'.ownBlock ≠ some (w.heap.size + 1 + 1 + 1) := by
            rcases hloc with h | h
            · rw [h]; exact hrun.off
            · rw [h]; intro e; have h1 : W.heap.size = w.heap.size + 1 + 1 + 1 := by injection e
              have := hrun.size; omega
          obtain ⟨g', cap', rfl⟩ : ∃ g cap, v' = .slice (some ⟨g, 0, none⟩) (t + q) cap := by
            obtain ⟨A', c', e1, _, _, hA'⟩ := row_form hown'
            obtain ⟨g', e2, _⟩ := hA' (by omega)
            exact ⟨g', c', by rw [e1, e2]⟩
          have hc4 := hb4.cell
          have hf4 := hb4.frozen
          have hsz4 := hgrow.size
          clear hsrc d0 d1 d2 d3 d4 d5
          go_wp2_with fail
          have hgrW : W.grownBy w4 v.ownBlock := ⟨hgrow.os, hgrow.tape, hgrow.output, hgrow.size, hgrow.block⟩
          have hgs := grownBy_setCell' w4 (w.heap.size + 1 + 1) (.slice (some ⟨g', 0, none⟩) (t + q) cap')
          have hko : KeepsOthers W (w4.setCell ⟨w.heap.size + 1 + 1, 0, none⟩ (.slice (some ⟨g', 0, none⟩) (t + q) cap')) := by
            refine (KeepsOthers.of_grownBy hgrW fun j x e hj => ?_).trans (KeepsOthers.setCell _ _ _)
            rcases hrun.own.2 with ⟨rfl, _⟩ | ⟨g2, cap2, cur2, rfl, _, hgb2, _⟩
            · simp [Value.ownBlock] at e
            · obtain rfl : g2 = j := by simpa [Value.ownBlock] using e
              rw [hgb2] at hj; cases hj; rfl
          have hk1 : ∀ j, j < W.heap.size → j ≠ w.heap.size + 1 + 1 → some j ≠ v.ownBlock → (w4.setCell ⟨w.heap.size + 1 + 1, 0, none⟩ (.slice (some ⟨g', 0, none⟩) (t + q) cap')).heap[j]? = W.heap[j]? := fun j h1 h2 h3 =>
            (Below.heap_setCell _ _ _ j h2).trans (hgrW.block j h1 h3)
          have hsz := hrun.size
          refine ⟨rfl, hko, hk1 _ (by omega) (by omega) (fun e => hrun.off e.symm), t + q, _, hnext, (hk1 _ (by omega) (by omega) (fun e => hne0 e.symm)).trans hrun.b0, hb4.set _, ?_, hoff', ?_, Nat.le_trans hsz hko.size⟩
          · exact hown'.kept hgs (.inr (hb4.not_row (by decide) hown').symm)
          · exact (hrun.low.grown hgrW hrun.low.size hgb).setCell (by simp; omega) _
      case done =>
        rintro D K W hK ⟨t, v, ht, hrun⟩ hD hd
        obtain rfl : t = N := by have h1 := ht.out; have h2 := hK.1; omega
        have c3 := hrun.b2.cell
        go_wp2_with fail
        refine ⟨by simp, .inl ⟨_, _, rfl, run_takeDeferred hd, ?_⟩⟩
        exact ⟨_, results_tmp2 rfl _ _ _, v, rfl, ownsRow_putObj hrun.own _ hd rfl, hrun.low.trans (belowK_b (w := w) (Nat.le_refl _) W D _ _ (by simp at hD; omega) hd rfl rfl)⟩

theorem rSize_is_nat (n m : Nat) (w : World) (hn : n ≤ 1048576) (hz : szN n = m) :
    Calls Try.prog 13 #[.int .i64 (n : Int)] w fun e w' => e = .returned (.int .i64 (m : Int)) ∧ w' = w :=
  (rSize_nat n m w hn hz).mono fun _ _ h => ⟨h.1, h.2.symm⟩

set_option maxRecDepth 100000 in
set_option maxHeartbeats 2000000 in
theorem rJoin_ok (A : Option Addr) (len cap : Nat) (As : Nat → Option Addr) (ln cp : Nat → Nat) (N m : Nat) (c : Nat → Nat → Int) (w : World) (h4 : 4 ≤ len) (_hlc : len ≤ cap) (_hcm : cap ≤ 9223372036854775807)
    (hH : Hdrs w A len As ln cp) (hN : N ≤ 1048576) (hm : szN N = m) (hl : ∀ i, i < 4 → ln i = m) (hb : ∀ i, i < 4 → Byt w (As i) m (c i)) :
    Calls Try.prog 22 #[.slice A len cap, .int .i64 (N : Int)] w (JoinPost w N c) := by
  obtain ⟨iz, hiz, hz0, hz1, hz2⟩ := info_parts info5
  have Hm := Lib.hid hm
  have hm2 : m ≤ 1048576 := by rw [← hm]; unfold szN; omega
  clear hm
  have h4i : (4 : Int) ≤ (len : Int) := by omega
  obtain ⟨g, o, rfl, hc⟩ := hH.1 (by omega)
  have Hl := Lib.hid hl
  clear hl
  go_enter Try.func22, Try.ntmps22
  go_wp2_with fail
  go_loopw [6] (fun i W => ∃ k : Nat, k ≤ 4 ∧ i = .int .i64 k ∧ Below w.heap.size w W) (fun i _ => 4 - (intOf i).toNat)
  case atStart => exact ⟨0, by omega, rfl, Below.refl _ _⟩
  case round =>
    obtain ⟨k, hk, rfl, hB⟩ := hrel
    by_cases hlt : k < 4
    · have c1 : wr.cell? ⟨g, o + k, none⟩ = some (.slice (As k) m (cp k)) := by
        rw [← Hl.out k hlt]
        exact (hB.cell (p := ⟨g, o + k, none⟩) (World.block_lt_of_cell? w _ (hc k (by omega)))).trans (hc k (by omega))
      have k0 : (0 : Int) ≤ (k : Int) := by omega
      have k1 : (k : Int) < 4 := by omega
      have k2 : (k : Int) < (len : Int) := by omega
      clear hc
      go_wp2_with fail
      go_quiet ((go_at_call 13; exact Calls.quiet_of_same (rSize_is_nat N m _ hN Hm.out)))
      go_wp2_with fail
      go_roundw
      case rel => exact ⟨k + 1, by omega, by go_num, below_drewN hB _⟩
      case measure => simp [intOf]; omega
    · obtain rfl : k = 4 := by omega
      go_wp2_with fail
      simp only [Int.cast_ofNat_Int]
      obtain ⟨wo, rfl⟩ : ∃ wo : World, wo = wr := ⟨_, rfl⟩
      have hwo := hB.size
      go_loopw [7, 8] (fun v i W => ∃ t : Nat, t ≤ N ∧ i = .int .i64 t ∧ W.ownsRow w.heap.size 5 1 v t (seg (jb c) 0 t) ∧ Below w.heap.size w W) (fun _ i _ => N - (intOf i).toNat)
      case atStart => exact ⟨0, by omega, rfl, World.ownsRow_nil _ _ _ _, hB⟩
      case round =>
        clear hB hwo
        obtain ⟨t, ht, rfl, hown, hB⟩ := hrel
        have hBs := hB.size
        by_cases hlt2 : t < N
        · have hsh := shN_lt t
          have hfit : atN t + 1 ≤ m := by have := at_fits (L := N) (t := t) (p := 1) (by omega) (by omega); have := Hm.out; omega
          have hcc := hc (shN t) (by omega)
          have hmc := hH.2 (shN t) (by omega)
          rw [Hl.out (shN t) hsh] at hcc hmc
          obtain ⟨gs, os, hAs, hbs⟩ := hb (shN t) hsh (by omega)
          rw [hAs] at hcc
          have d5 : wr.cell? ⟨g, o + shN t, none⟩ = some (.slice (some ⟨gs, os, none⟩) m (cp (shN t))) := (hB.cell (p := ⟨g, o + shN t, none⟩) (World.block_lt_of_cell? w _ hcc)).trans hcc
          have d6 : wr.cell? ⟨gs, os + atN t, none⟩ = some (.int .u8 (jb c t)) := by
            have h1 := hbs (atN t) (by omega)
            exact (hB.cell (p := ⟨gs, os + atN t, none⟩) (World.block_lt_of_cell? w _ h1)).trans h1
          obtain ⟨hmc1, hmc2⟩ := hmc
          clear hc hcc hbs hAs
          have Hlist : Hid (seg (jb c) 0 (t + 1) = seg (jb c) 0 t ++ [.int .u8 (jb c t)]) := by
            have := seg_append (jb c) 0 t 1
            rw [Nat.zero_add] at this
            exact this.symm
          generalize hxx : jb c t = x at d6 Hlist
          clear hxx
          generalize hsn : shN t = sn at *
          generalize han : atN t = an at *
          have Hsn := Lib.hid hsn
          have Han := Lib.hid han
          clear hsn han
          have i0 : (0 : Int) ≤ (sn : Int) := by omega
          have i1 : (sn : Int) < (len : Int) := by omega
          have i2 : (0 : Int) ≤ (an : Int) := by omega
          have i3 : (an : Int) < (m : Int) := by omega
          have i4 : (0 : Int) ≤ (t : Int) := by omega
          have i5 : (t : Int) < (N : Int) := by omega
          go_wp2_with (first | (go_at_call 11; refine (rPlace_nat t _ (by omega) sn an Hsn.out Han.out).mono ?_; rintro e w' ⟨rfl, rfl⟩) | (at_builtin; go_must (refine wpList_append_own _ rfl _ _ 40 rfl w.heap.size 5 iz (.int .u8 0) 1 1 Try.underlying40 hiz hz0 hz1 hz2 rfl (by decide) _ _ _ rfl (hown.alloc _) ⟨wr.heap.size, 0, none⟩ 1 1 [.int .u8 x] rfl rfl (cell_one_new _ _ _) (by simp [Value.oneCell']) (by unfold maxLen; omega) (by omega) (by simp; omega) ?_); intro v' w1 hown' hgrow _))
          go_roundw
          case rel => exact ⟨t + 1, by omega, by go_num, by rw [Hlist.out]; exact hown', (hB.alloc hBs _).grown hgrow (by simp; omega) (fun r e => (hown.lt r e).1)⟩
          case measure => simp [intOf]; omega
        · obtain rfl : t = N := by omega
          go_wp2_with fail
          go_ret2
          exact ⟨_, rfl, hown, hB⟩

end Go.Proofs.Ytpchcchlidagiaa
