/- The contract of the reference's Split. -/
import Derived.Test.YtpchcchlidagiaaSplit
namespace Go.Proofs.Ytpchcchlidagiaa
open Go.RowKit

theorem rSize_nat (L m : Nat) (w : World) (hL : L ≤ 1048576) (h : szN L = m) :
    Calls Try.prog 13 #[.int .i64 (L : Int)] w fun e w' => e = .returned (.int .i64 (m : Int)) ∧ w = w' := by
  refine (rSize_any (L : Int) w (by omega) (by omega)).mono ?_
  rintro e w' ⟨rfl, rfl⟩
  rw [szOf_nat, h]
  exact ⟨rfl, rfl⟩

theorem rPlace_nat (t : Nat) (w : World) (ht : t ≤ 1048576) (s a : Nat) (hs : shN t = s) (ha : atN t = a) :
    Calls Try.prog 11 #[.int .i64 (t : Int)] w fun e w' => e = .returned (.tuple #[.int .i64 (s : Int), .int .i64 (a : Int), .int .i64 0]) ∧ w = w' := by
  refine (rPlace_yes (t : Int) w (by omega) (by omega)).mono ?_
  rintro e w' ⟨rfl, rfl⟩
  rw [shOf_nat, atOf_nat, hs, ha]
  exact ⟨rfl, rfl⟩

/-- The headers of the first k shards. -/
def heads (h : Nat → Nat) (m k : Nat) : List Value := (List.range k).map fun i => .slice (some ⟨h i, 0, none⟩) m m
theorem heads_succ (h : Nat → Nat) (m k g : Nat) : heads (fun i => if i = k then g else h i) m (k + 1) = heads h m k ++ [.slice (some ⟨g, 0, none⟩) m m] := by
  unfold heads
  rw [List.range_succ, List.map_append]
  congr 1
  · apply List.map_congr_left
    intro i hi
    have := List.mem_range.1 hi
    show Value.slice (some ⟨if i = k then g else h i, 0, none⟩) m m = _
    rw [if_neg (by omega)]
  · simp
theorem heads_at (h : Nat → Nat) (m k : Nat) {i : Nat} (hi : i < k) : (heads h m k)[i]? = some (.slice (some ⟨h i, 0, none⟩) m m) := by simp [heads, hi]

theorem news2 (W : World) (C : Array Value) (x : Value) : ∀ j u, [x][j]? = some u → ((W.alloc (.cells C 5)).alloc (.cells #[x] 40)).cell? ((⟨W.heap.size + 1, 0, none⟩ : Addr).add j) = some u := by
  have := World.news_of_block (w := (W.alloc (.cells C 5)).alloc (.cells #[x] 40)) (World.alloc_heap_new _ _)
  rw [World.size_alloc] at this
  exact this

/-- Where the first loop stands. -/
def RMid (w : World) (m k : Nat) (v : Value) (W : World) : Prop :=
  ∃ h : Nat → Nat, W.ownsRow w.heap.size 40 1 v k (heads h m k) ∧ (∀ i, i < k → w.heap.size ≤ h i ∧ Row W (h i) m (fun _ => 0)) ∧ (∀ i j, i < k → j < k → h i = h j → i = j) ∧ Below w.heap.size w W

theorem RMid.step {w W w1 : World} {m k : Nat} {v v' : Value} {X : Obj} {h : Nat → Nat} (hrow : W.ownsRow w.heap.size 40 1 v k (heads h m k)) (hr : ∀ i, i < k → w.heap.size ≤ h i ∧ Row W (h i) m (fun _ => 0))
    (ha : ∀ i j, i < k → j < k → h i = h j → i = j) (hB : Below w.heap.size w W)
    (hown' : w1.ownsRow w.heap.size 40 1 v' (k + 1) (heads h m k ++ [.slice (some ⟨W.heap.size, 0, none⟩) m m]))
    (hgrow : ((W.alloc (.cells (madeCells #[Value.int .u8 0] m) 5)).alloc X).grownBy w1 v.ownBlock) : RMid w m (k + 1) v' w1 := by
  have o1 : ∀ j, j < W.heap.size → ((W.alloc (.cells (madeCells #[Value.int .u8 0] m) 5)).alloc X).heap[j]? = W.heap[j]? := fun j hj =>
    (Below.heap_alloc _ _ _ (by simp; omega)).trans (Below.heap_alloc _ _ _ hj)
  have hne : ∀ j c, Row W j m c → some j ≠ v.ownBlock := by
    rintro j c ⟨Lj, h1, _⟩ e
    rcases hrow.2 with ⟨rfl, _⟩ | ⟨g, cap, cur, rfl, _, hg, _⟩
    · simp [Value.ownBlock] at e
    · obtain rfl : j = g := by simpa [Value.ownBlock] using e
      rw [h1] at hg; cases hg
  have hnew : Row ((W.alloc (.cells (madeCells #[Value.int .u8 0] m) 5)).alloc X) W.heap.size m (fun _ => 0) := (Row.made' W m).keep (Below.heap_alloc _ _ _ (by simp))
  refine ⟨fun i => if i = k then W.heap.size else h i, by rw [heads_succ]; exact hown', fun i hi => ?_, fun i j hi hj e => ?_, ?_⟩
  · show w.heap.size ≤ (if i = k then W.heap.size else h i) ∧ Row w1 (if i = k then W.heap.size else h i) m _
    by_cases hik : i = k
    · rw [if_pos hik]
      refine ⟨hB.size, hnew.keep (hgrow.block _ (by simp; omega) (fun e => ?_))⟩
      have := hrow.lt _ e.symm
      omega
    · rw [if_neg hik]
      obtain ⟨h1, h2⟩ := hr i (by omega)
      exact ⟨h1, h2.keep ((hgrow.block _ (by have := h2.lt; simp; omega) (hne _ _ h2)).trans (o1 _ h2.lt))⟩
  · simp only at e
    by_cases hik : i = k <;> by_cases hjk : j = k
    · omega
    · rw [if_pos hik, if_neg hjk] at e
      have := (hr j (by omega)).2.lt; omega
    · rw [if_neg hik, if_pos hjk] at e
      have := (hr i (by omega)).2.lt; omega
    · rw [if_neg hik, if_neg hjk] at e
      exact ha i j (by omega) (by omega) e
  · exact ((hB.alloc hB.size _).alloc (by have := hB.size; simp; omega) _).grown hgrow (by have := hB.size; simp; omega) (fun r e => (hrow.lt r e).1)

theorem Shards.step {W : World} {base G : Nat} {h : Nat → Nat} {m t s a : Nat} {f : Nat → Int} (hS : Shards W base G h m (fill f t)) (hs : shN t = s) (ha : atN t = a) (N : Nat) :
    Shards ((W.drewN N).setCell ⟨h s, a, none⟩ (.int .u8 (f t))) base G h m (fill f (t + 1)) := by
  have hs4 := shN_lt t
  rw [hs] at hs4
  have hst : ∀ i j, i < 4 → fill f (t + 1) i j = if i = s ∧ a ≤ j ∧ j < a + 1 then f (t + (j - a)) else fill f t i j := fun i j hi => by
    have := fill_step f (t := t) (p := 1) (i := i) (j := j) hi (by omega)
    rwa [hs, ha] at this
  have hGn : G ≠ h s := fun e => (hS.rows s hs4).2.1 e.symm
  refine ⟨fun i hi => ?_, ⟨hS.low.1, by simpa [World.setCell] using hS.low.2⟩, fun i hi => ?_, hS.apart⟩
  · exact (World.cell?_of_block (w := W) (a := ⟨G, i, none⟩) (Below.heap_setCell _ _ _ _ hGn)).trans (hS.head i hi)
  · obtain ⟨h1, h2, h3⟩ := hS.rows i hi
    refine ⟨h1, h2, ?_⟩
    by_cases his : i = s
    · subst his
      refine (Row.set (w := W.drewN N) h3 a (f t)).congr fun j _ => ?_
      show (if j = a then f t else fill f t i j) = _
      rw [hst i j hi]
      by_cases hja : j = a
      · rw [if_pos hja, if_pos ⟨rfl, by omega, by omega⟩, show t + (j - a) = t by omega]
      · rw [if_neg hja, if_neg (fun h => hja (by omega))]
    · refine (h3.keep (Below.heap_setCell (W.drewN N) _ _ _ (fun e => his (hS.apart i s hi hs4 e)))).congr fun j _ => ?_
      rw [hst i j hi, if_neg (fun h => his h.1)]

set_option maxRecDepth 100000 in
set_option maxHeartbeats 1000000 in
theorem rSplit_any (A : Option Addr) (L cap : Nat) (f : Nat → Int) (w : World) (hL : L ≤ 1048576) (_hc : L ≤ cap) (_hcap : cap ≤ 9223372036854775807) (hb : Byt w A L f) :
    Calls Try.prog 20 #[.slice A L cap] w (SplitPost w (szN L) (fill f L)) := by
  obtain ⟨i0, hi, hz0, hz1, hz2⟩ := info_parts info40
  obtain ⟨m, hm⟩ : ∃ m, szN L = m := ⟨_, rfl⟩
  have hm2 : m ≤ 1048576 := by rw [← hm]; unfold szN; omega
  have hmk := make_bytes m hm2
  have Hm := Lib.hid hm
  rw [hm]
  clear hm
  go_enter Try.func20, Try.ntmps20
  go_wp2_with fail
  go_loopw [3, 4] (fun v i W => ∃ k : Nat, k ≤ 4 ∧ i = .int .i64 k ∧ RMid w m k v W) (fun _ i _ => 4 - (intOf i).toNat)
  case atStart => exact ⟨0, by omega, rfl, fun _ => 0, World.ownsRow_nil _ _ _ _, fun i hi => absurd hi (by omega), fun i j hi => absurd hi (by omega), Below.refl _ _⟩
  case round =>
    obtain ⟨k, hk, rfl, h, hrow, hr, ha, hB⟩ := hrel
    have hBs := hB.size
    by_cases hlt : k < 4
    · have k1 : (k : Int) < 4 := by omega
      go_wp2_with (first | (go_at_call 13; refine (rSize_nat L m _ hL Hm.out).mono ?_; rintro e w' ⟨rfl, rfl⟩) | (at_builtin; go_must (refine wpList_append_own _ rfl _ _ 43 rfl w.heap.size 40 i0 (.slice none 0 0) 1 24 Try.underlying43 hi hz0 hz1 hz2 rfl (by decide) _ _ _ rfl ((hrow.alloc _).alloc _) ⟨wr.heap.size + 1, 0, none⟩ 1 1 [.slice (some ⟨wr.heap.size, 0, none⟩) m m] rfl rfl (news2 _ _ _) (by simp [Value.oneCell']) (by unfold maxLen; omega) (by omega) (by simp; omega) ?_); intro v' w1 hown' hgrow _))
      go_roundw
      case rel => exact ⟨k + 1, by omega, by go_num, RMid.step hrow hr ha hB hown' hgrow⟩
      case measure => simp [intOf]; omega
    · obtain rfl : k = 4 := by omega
      obtain ⟨A4, c4, rfl, hc4, hcm4, hA4⟩ := row_form hrow
      obtain ⟨G, rfl, hG1, hG2, hG3, hG4⟩ := hA4 (by omega)
      have hS0 : Shards wr w.heap.size G h m (fill f 0) := by
        refine ⟨fun i hi => hG3 i _ (heads_at h m 4 hi), ⟨hG1, hG2⟩, fun i hi => ⟨(hr i hi).1, ?_, (hr i hi).2.congr fun j _ => (fill_zero f i j).symm⟩, ha⟩
        rintro rfl
        obtain ⟨Lj, h1, _⟩ := (hr i hi).2
        rcases hrow.2 with ⟨h0, _⟩ | ⟨g, cap', cur, h0, _, hg, _⟩
        · cases h0
        · cases h0
          rw [h1] at hg; cases hg
      clear hrow hr ha hG1 hG2 hG3 hG4 hmk
      go_wp2_with fail
      simp only [Int.cast_ofNat_Int]
      obtain ⟨wo, rfl⟩ : ∃ wo : World, wo = wr := ⟨_, rfl⟩
      go_loopw [5] (fun i W => ∃ t : Nat, t ≤ L ∧ i = .int .i64 t ∧ Shards W w.heap.size G h m (fill f t) ∧ Below w.heap.size w W) (fun i _ => L - (intOf i).toNat)
      case atStart => exact ⟨0, by omega, rfl, hS0, hB⟩
      case round =>
        clear hS0 hB hBs
        obtain ⟨t, ht, rfl, hS, hB⟩ := hrel
        by_cases hlt2 : t < L
        · obtain ⟨ga, oa, rfl, hfb⟩ := hb (by omega)
          have hsh := shN_lt t
          have hfit : atN t + 1 ≤ m := by have := at_fits (L := L) (t := t) (p := 1) (by omega) (by omega); have := Hm.out; omega
          obtain ⟨hr1, hr2, hr3⟩ := hS.rows (shN t) hsh
          have d0 := hS.head (shN t) hsh
          have d1 := hr3.cell (j := atN t) (by omega)
          have d2 := hr3.frozen (atN t)
          have d3 : wr.cell? ⟨ga, oa + t, none⟩ = some (.int .u8 (f t)) := (hB.cell (p := ⟨ga, oa + t, none⟩) (World.block_lt_of_cell? w _ (hfb t hlt2))).trans (hfb t hlt2)
          have d4 : h (shN t) ≠ ga := fun e => by
            have := World.block_lt_of_cell? w _ (hfb t hlt2)
            simp only at this
            omega
          clear hr1 hr2 hr3
          generalize hsn : shN t = sn at *
          generalize han : atN t = an at *
          generalize fill f t sn an = old at d1
          have Hsn := Lib.hid hsn
          have Han := Lib.hid han
          clear hsn han
          have i0 : (0 : Int) ≤ (sn : Int) := by omega
          have i1 : (sn : Int) < 4 := by omega
          have i2 : (0 : Int) ≤ (an : Int) := by omega
          have i3 : (an : Int) < (m : Int) := by omega
          have i4 : (0 : Int) ≤ (t : Int) := by omega
          have i5 : (t : Int) < (L : Int) := by omega
          go_wp2_with (go_at_call 11; refine (rPlace_nat t _ (by omega) sn an Hsn.out Han.out).mono ?_; rintro e w' ⟨rfl, rfl⟩)
          go_still_tail 10, (by kernel_rfl)
          go_wp2
          go_roundw
          case rel => exact ⟨t + 1, by omega, by go_num, hS.step Hsn.out Han.out 1, (hB.setCell (p := ⟨h sn, an, none⟩) (hS.rows sn hsh).1 _).drew⟩
          case measure => simp [intOf]; omega
        · obtain rfl : t = L := by omega
          go_wp2
          go_ret
          exact ⟨G, c4, h, rfl, hc4, hcm4, hS, hB⟩

end Go.Proofs.Ytpchcchlidagiaa
