/- The contract of stripe.Split. -/
import Derived.Test.YtpchcchlidagiaaMem
import Derived.Test.YtpchcchlidagiaaBridge
import Derived.Deep.RegionHeld3
import Derived.IntWalk
import Derived.Laws.CopyOwn
namespace Go.Proofs.Ytpchcchlidagiaa
open Go.RowKit Go.Shelf

attribute [local go_sem] Oper.semAt_some

theorem info5 : (Try.prog.info? 5).map (fun i => (i.zero, i.size, i.bytes)) = some (some (.int .u8 0), 1, 1) := by kernel_rfl
theorem info40 : (Try.prog.info? 40).map (fun i => (i.zero, i.size, i.bytes)) = some (some (.slice none 0 0), 1, 24) := by kernel_rfl

/-- make([]byte, m). -/
theorem make_bytes (m : Nat) (hm : m ≤ 1048576) (w : World) :
    (Instr.makeSlice 40 (.int .i64 (m : Int)) (.int .i64 (m : Int))).run Try.prog w = .ok (.slice (some ⟨w.heap.size, 0, none⟩) m m) (w.alloc (.cells (madeCells (Value.int .u8 0).cells (m * 1)) 5)) := by
  obtain ⟨i0, hi, hz0, hz1, hz2⟩ := info_parts info5
  have h := run_make (P := Try.prog) w 40 5 i0 (.int .u8 0) Try.underlying40 hi hz0 .i64 .i64 (m : Int) (m : Int) (by omega) (by omega) (by rw [hz2]; omega) (by omega)
  rw [hz1] at h
  simpa only [Int.toNat_natCast] using h

theorem Size_nat (L m : Nat) (w : World) (hL : L ≤ 1048576) (h : szN L = m) :
    Calls Try.prog 12 #[.int .i64 (L : Int)] w fun e w' => e = .returned (.int .i64 (m : Int)) ∧ w = w' := by
  refine (Size_any (L : Int) w (by omega) (by omega)).mono ?_
  rintro e w' ⟨rfl, rfl⟩
  rw [szOf_nat, h]
  exact ⟨rfl, rfl⟩

/-- The cells of the slice of shards when k of them have been made. -/
def hdr (h : Nat → Nat) (m k : Nat) : List Value := (List.range 4).map fun i => if i < k then .slice (some ⟨h i, 0, none⟩) m m else .slice none 0 0
theorem hdr_length (h : Nat → Nat) (m k : Nat) : (hdr h m k).length = 4 := by simp [hdr]
theorem hdr_at (h : Nat → Nat) (m k : Nat) {i : Nat} (hi : i < 4) : (hdr h m k)[i]? = some (if i < k then .slice (some ⟨h i, 0, none⟩) m m else .slice none 0 0) := by
  simp [hdr, hi]
theorem hdr_set (h : Nat → Nat) (m : Nat) {k : Nat} (hk : k < 4) : (hdr h m k).set k (.slice (some ⟨h k, 0, none⟩) m m) = hdr h m (k + 1) := by
  apply List.ext_getElem?
  intro i
  rw [List.getElem?_set]
  by_cases hi : i < 4
  · rw [hdr_at _ _ _ hi, hdr_at _ _ _ hi, hdr_length]
    by_cases e : k = i
    · subst e; simp [hi]
    · rw [if_neg e]
      by_cases h1 : i < k
      · rw [if_pos h1, if_pos (by omega)]
      · rw [if_neg h1, if_neg (by omega)]
  · rw [List.getElem?_eq_none (by rw [hdr_length]; omega), List.getElem?_eq_none (by rw [hdr_length]; omega), if_neg (by omega)]

/-- Four shards of m bytes c: the slice's own block G, the shards' blocks h. -/
structure Shards (w : World) (base G : Nat) (h : Nat → Nat) (m : Nat) (c : Nat → Nat → Int) : Prop where
  head : ∀ i, i < 4 → w.cell? ⟨G, i, none⟩ = some (.slice (some ⟨h i, 0, none⟩) m m)
  low : base ≤ G ∧ G < w.heap.size
  rows : ∀ i, i < 4 → base ≤ h i ∧ h i ≠ G ∧ Row w (h i) m (c i)
  apart : ∀ i j, i < 4 → j < 4 → h i = h j → i = j

def SplitPost (w : World) (m : Nat) (c : Nat → Nat → Int) (e : Ending) (w' : World) : Prop :=
  ∃ G cap h, e = .returned (.slice (some ⟨G, 0, none⟩) 4 cap) ∧ 4 ≤ cap ∧ cap ≤ 9223372036854775807 ∧ Shards w' w.heap.size G h m c ∧ Below w.heap.size w w'

/-- Where the first loop stands: k shards have been made. -/
def SplitMid (w : World) (A : Option Addr) (L cap m k : Nat) (W : World) : Prop :=
  W.heap[w.heap.size]? = some (.cells #[.slice A L cap] 40 (0, 0)) ∧ W.heap[w.heap.size + 1]? = some (.cells (hdr (fun i => w.heap.size + 3 + i) m k).toArray 40 (0, 0)) ∧
  W.heap[w.heap.size + 1 + 1]? = some (.cells #[.slice (some ⟨w.heap.size + 1, 0, none⟩) 4 4] 43 (0, 0)) ∧ W.heap.size = w.heap.size + 3 + k ∧
  (∀ i, i < k → Row W (w.heap.size + 3 + i) m (fun _ => 0)) ∧ Below w.heap.size w W

theorem Row.made' (w : World) (m : Nat) : Row (w.alloc (.cells (madeCells #[Value.int .u8 0] m) 5)) w.heap.size m (fun _ => 0) := by
  have := Row.made w m
  rwa [Nat.mul_one] at this

theorem SplitMid.step {w W : World} {A : Option Addr} {L cap m k : Nat} (h : SplitMid w A L cap m k W) (hk : k < 4) :
    SplitMid w A L cap m (k + 1) ((W.setCell ⟨w.heap.size + 1, k, none⟩ (.slice (some ⟨W.heap.size, 0, none⟩) m m)).alloc (.cells (madeCells #[Value.int .u8 0] m) 5)).drew := by
  obtain ⟨h1, h2, h3, h4, h5, h6⟩ := h
  have hz : (W.setCell ⟨w.heap.size + 1, k, none⟩ (.slice (some ⟨W.heap.size, 0, none⟩) m m)).heap.size = W.heap.size := by simp [World.setCell]
  have o1 : ∀ j, j < W.heap.size → ((W.setCell ⟨w.heap.size + 1, k, none⟩ (.slice (some ⟨W.heap.size, 0, none⟩) m m)).alloc (.cells (madeCells #[Value.int .u8 0] m) 5)).drew.heap[j]? = (W.setCell ⟨w.heap.size + 1, k, none⟩ (.slice (some ⟨W.heap.size, 0, none⟩) m m)).heap[j]? :=
    fun j hj => Below.heap_alloc _ _ j (by rw [hz]; exact hj)
  have o2 : ∀ j, j ≠ w.heap.size + 1 → (W.setCell ⟨w.heap.size + 1, k, none⟩ (.slice (some ⟨W.heap.size, 0, none⟩) m m)).heap[j]? = W.heap[j]? := fun j hj => Below.heap_setCell _ _ _ j hj
  refine ⟨(o1 _ (by omega)).trans ((o2 _ (by omega)).trans h1), ?_, (o1 _ (by omega)).trans ((o2 _ (by omega)).trans h3), ?_, fun i hi => ?_, ?_⟩
  · rw [o1 _ (by omega), setCell_eq_setRow _ _ _ _ 40 (0, 0) _ h2, setRow_heap _ _ _ _ 40 (0, 0) h2, ← hdr_set _ m hk, h4]
    simp
  · show ((W.setCell _ _).alloc _).heap.size = _
    rw [World.size_alloc, hz]; omega
  · rcases Nat.lt_or_ge i k with hlt | hge
    · exact (h5 i hlt).keep ((o1 _ (by omega)).trans (o2 _ (by omega)))
    · obtain rfl : i = k := by omega
      have hm := Row.made' (W.setCell ⟨w.heap.size + 1, i, none⟩ (.slice (some ⟨W.heap.size, 0, none⟩) m m)) m
      rw [hz, h4] at hm
      rw [h4]
      exact hm
  · exact (((h6.setCell (by simp) _).alloc (by rw [hz]; omega) _)).drew

theorem SplitMid.start (w : World) (A : Option Addr) (L cap m : Nat) :
    SplitMid w A L cap m 0 (((w.alloc (.cells #[.slice A L cap] 40)).alloc (.cells #[.slice none 0 0, .slice none 0 0, .slice none 0 0, .slice none 0 0] 40)).alloc (.cells #[.slice (some ⟨w.heap.size + 1, 0, none⟩) 4 4] 43)) := by
  have a1 := heap_alloc_new w (.cells #[.slice A L cap] 40)
  have a2 := heap_alloc_new (w.alloc (.cells #[.slice A L cap] 40)) (.cells #[.slice none 0 0, .slice none 0 0, .slice none 0 0, .slice none 0 0] 40)
  have a3 := heap_alloc_new ((w.alloc (.cells #[.slice A L cap] 40)).alloc (.cells #[.slice none 0 0, .slice none 0 0, .slice none 0 0, .slice none 0 0] 40)) (.cells #[.slice (some ⟨w.heap.size + 1, 0, none⟩) 4 4] 43)
  simp only [World.size_alloc] at a2 a3
  refine ⟨?_, ?_, a3, by simp, fun i hi => absurd hi (by omega), ?_⟩
  · rw [Below.heap_alloc _ _ _ (by simp; omega), Below.heap_alloc _ _ _ (by simp)]; exact a1
  · rw [Below.heap_alloc _ _ _ (by simp)]; exact a2
  · exact (((Below.refl _ w).alloc (Nat.le_refl _) _).alloc (by simp) _).alloc (by simp; omega) _

/-- Where the second loop stands: the first t bytes have been laid. -/
structure SplitRun (w : World) (A : Option Addr) (L cap m : Nat) (f : Nat → Int) (t : Nat) (W : World) : Prop where
  b0 : W.heap[w.heap.size]? = some (.cells #[.slice A L cap] 40 (0, 0))
  b1 : W.heap[w.heap.size + 1]? = some (.cells (hdr (fun i => w.heap.size + 3 + i) m 4).toArray 40 (0, 0))
  b2 : W.heap[w.heap.size + 1 + 1]? = some (.cells #[.slice (some ⟨w.heap.size + 1, 0, none⟩) 4 4] 43 (0, 0))
  rows : ∀ i, i < 4 → Row W (w.heap.size + 3 + i) m (fill f t i)
  low : Below w.heap.size w W
  size : w.heap.size + 9 ≤ W.heap.size

theorem keep_blk {W W' : World} {row : Option Nat} {j : Nat} {cs : Array Value} {ty : TypeId} {fr : Nat × Nat} (h : W.heap[j]? = some (.cells cs ty fr)) (hg : W.grownBy W' row)
    (hr : ∀ r, row = some r → r ≠ j ∨ ∃ o : Obj, W.heap[r]? = some o ∧ o.isCells = false) : W'.heap[j]? = W.heap[j]? := by
  refine hg.block j (Array.getElem?_eq_some_iff.1 h).1 fun e' => ?_
  rcases hr j e'.symm with hne | ⟨o, ho, hc⟩
  · exact hne rfl
  · rw [h] at ho; cases ho; cases hc

theorem SplitRun.kept {w W W' : World} {A : Option Addr} {L cap m t : Nat} {f : Nat → Int} (h : SplitRun w A L cap m f t W) {row : Option Nat} (hg : W.grownBy W' row)
    (hr : ∀ r, row = some r → r = w.heap.size + 3 + 4 ∨ (w.heap.size + 9 ≤ r ∧ ∃ o : Obj, W.heap[r]? = some o ∧ o.isCells = false)) : SplitRun w A L cap m f t W' := by
  have hr' : ∀ j, j ≠ w.heap.size + 3 + 4 → ∀ r, row = some r → r ≠ j ∨ ∃ o : Obj, W.heap[r]? = some o ∧ o.isCells = false := fun j hj r e => by
    rcases hr r e with rfl | ⟨_, h⟩
    · exact .inl (fun e => hj e.symm)
    · exact .inr h
  refine ⟨(keep_blk h.b0 hg (hr' _ (by omega))).trans h.b0, (keep_blk h.b1 hg (hr' _ (by omega))).trans h.b1, (keep_blk h.b2 hg (hr' _ (by omega))).trans h.b2, fun i hi => ?_, h.low.grown hg h.low.size ?_, Nat.le_trans h.size hg.size⟩
  · obtain ⟨Li, h1, h2⟩ := h.rows i hi
    exact ⟨Li, (keep_blk h1 hg (hr' _ (by omega))).trans h1, h2⟩
  · intro r e
    rcases hr r e with rfl | ⟨h, _⟩ <;> omega

set_option maxRecDepth 100000 in
set_option maxHeartbeats 1000000 in
theorem Split_any (A : Option Addr) (L cap : Nat) (f : Nat → Int) (w : World) (hL : L ≤ 1048576) (hc : L ≤ cap) (hcap : cap ≤ 9223372036854775807) (hb : Byt w A L f) :
    Calls Try.prog 19 #[.slice A L cap] w (SplitPost w (szN L) (fill f L)) := by
  have hmk4 : ∀ w : World, (Instr.makeSlice 43 (.int .i64 4) (.int .i64 4)).run Try.prog w = .ok (.slice (some ⟨w.heap.size, 0, none⟩) 4 4) (w.alloc (.cells #[.slice none 0 0, .slice none 0 0, .slice none 0 0, .slice none 0 0] 40)) := fun _ => by kernel_rfl
  obtain ⟨m, hm⟩ : ∃ m, szN L = m := ⟨_, rfl⟩
  have hm2 : m ≤ 1048576 := by rw [← hm]; unfold szN; omega
  have hmk := make_bytes m hm2
  have Hm := Lib.hid hm
  rw [hm]
  clear hm
  refine (callsIn_wide (n := 3)).1 ?_
  refine callsIn_of_wp_marks Try.func19 rfl trivial ?_ rfl
  simp only [Try.ntmps19, List.size_toArray, List.length_cons, List.length_nil, Nat.reduceAdd, Nat.reduceSub, Array.replicate_succ, Array.replicate_zero, List.push_toArray, List.append_toArray, List.nil_append, List.cons_append]
  refine wpIn_wide.2 ?_
  go_wp2_with fail
  go_loopw [10] (fun i W => ∃ k : Nat, k ≤ 4 ∧ i = .int .i64 k ∧ SplitMid w A L cap m k W) (fun i _ => 4 - (intOf i).toNat)
  case atStart => exact ⟨0, by omega, rfl, SplitMid.start w A L cap m⟩
  case round =>
    obtain ⟨k, hk, rfl, h1, h2, h3, h4, h5, h6⟩ := hrel
    by_cases hlt : k < 4
    · have c1 : wr.cell? ⟨w.heap.size, 0, none⟩ = some (.slice A L cap) := cell_of_row wr _ 0 _ _ _ h1
      have c3 : wr.cell? ⟨w.heap.size + 1 + 1, 0, none⟩ = some (.slice (some ⟨w.heap.size + 1, 0, none⟩) 4 4) := cell_of_row wr _ 0 _ _ _ h3
      have k0 : (0 : Int) ≤ (k : Int) := by omega
      have k1 : (k : Int) < 4 := by omega
      have c2 : wr.cell? ⟨w.heap.size + 1, k, none⟩ = some (.slice none 0 0) := by
        rw [cell_of_row wr _ k _ _ _ h2]
        simpa using hdr_at _ m k hlt
      have f2 : wr.frozen? ⟨w.heap.size + 1, k, none⟩ = false := by simp [World.frozen?, h2]
      have n1 := World.new_ne wr _ c1
      have n2 := World.new_ne wr _ c2
      have n3 := World.new_ne wr _ c3
      have H1 := Lib.hid h1
      have H2 := Lib.hid h2
      have H3 := Lib.hid h3
      have H4 := Lib.hid h4
      have l2 : w.heap.size + 1 < wr.heap.size := World.block_lt_of_cell? wr _ c2
      have ca : ∀ N C, ((wr.drewN N).alloc (.cells C 5)).cell? ⟨w.heap.size + 1, k, none⟩ = some (.slice none 0 0) := fun N C => (World.cell?_alloc_lt (wr.drewN N) _ ⟨w.heap.size + 1, k, none⟩ l2).trans c2
      have fa : ∀ N C, ((wr.drewN N).alloc (.cells C 5)).frozen? ⟨w.heap.size + 1, k, none⟩ = false := fun N C => (World.frozen?_of_block (w := wr.drewN N) (Below.heap_alloc (wr.drewN N) _ _ l2)).trans f2
      clear h1 h2 h3 h4
      go_wp2_with fail
      go_region_held3 (fun W => W.cell? ⟨w.heap.size, 0, none⟩ = some (.slice A L cap) ∧ W.cell? ⟨w.heap.size + 1 + 1, 0, none⟩ = some (.slice (some ⟨w.heap.size + 1, 0, none⟩) 4 4)) (go_keep) (first | (go_at_call 12; refine (Size_nat L m _ hL Hm.out).mono ?_; rintro e w' ⟨rfl, rfl⟩))
      all_goals go_wp2_with fail
      go_roundw
      case rel => exact ⟨k + 1, by omega, by go_num, SplitMid.step ⟨H1.out, H2.out, H3.out, H4.out, h5, h6⟩ hlt⟩
      case measure => simp [intOf]; omega
    · obtain rfl : k = 4 := by omega
      have c1 : wr.cell? ⟨w.heap.size, 0, none⟩ = some (.slice A L cap) := cell_of_row wr _ 0 _ _ _ h1
      have H1 := Lib.hid h1
      have H2 := Lib.hid h2
      have H3 := Lib.hid h3
      have H4 := Lib.hid h4
      clear h1 h2 h3 h4 hmk hmk4
      go_wp2_with (go_at_call 24; refine (pieces_any _ _ _).mono ?_; rintro e w' ⟨rfl, rfl⟩)
      refine wpIn_wide.1 (range_pieces (m := 3) (by omega) (wr.heap.size) (wr.heap.size + 1) 0 (L : Int) (by omega) (by omega) (by omega) rfl ?ho ?hn rfl
        (fun k W => ∃ t : Nat, Hid (pst 0 (0 + (L : Int)) k = (t : Int)) ∧ SplitRun w A L cap m f t W) ?hI ?hi0
        (fun s p B => { tmps := #[.slice A L cap, .pointer (some { block := w.heap.size, off := 0 }), .slice none 0 0, .pointer (some { block := w.heap.size + 1 + 1, off := 0 }), u4, .int .i64 s, .pointer (some ⟨B, 0, none⟩),
          .slice (some { block := w.heap.size + 1, off := 0 }) 4 4, .slice (some { block := w.heap.size + 1, off := 0 }) 4 4, .int .i64 4, .int .i64 4, .bool false, u12, u13, u14, u15, u16, u17, u18, u19, u20,
          .slice A L cap, .int .i64 L, .func (.func 25) #[] #[.pointer (some { block := wr.heap.size, off := 0 }), .pointer (some { block := wr.heap.size + 1, off := 0 })],
          .int .i64 s, .agg #[.int .i64 (shOf s), .int .i64 (atOf s), .int .i64 p], undef, undef, undef, undef, undef, undef, undef, undef, undef, undef, undef, undef, undef, undef, undef, undef, undef, undef], defers := [] }) ?assign ?body ?done)
      case ho => exact (Boxed.new wr 2 (.int .i64 0)).alloc _
      case hn => have := Boxed.new (wr.alloc (.cells #[.int .i64 0] 2)) 2 (.int .i64 (L : Int)); rw [World.size_alloc] at this; exact this
      case hI =>
        rintro k W W' row ⟨t, ht, hrun⟩ hg hr
        have h4 := H4.out
        refine ⟨t, ht, hrun.kept hg fun r e => ?_⟩
        rcases hr r e with rfl | ⟨h, o⟩
        · exact .inl h4
        · exact .inr ⟨by simp at h; omega, o⟩
      case hi0 =>
        have h4 := H4.out
        have o1 : ∀ j, j < wr.heap.size → ((wr.alloc (.cells #[.int .i64 0] 2)).alloc (.cells #[.int .i64 (L : Int)] 2)).heap[j]? = wr.heap[j]? := fun j hj =>
          (Below.heap_alloc _ _ _ (by simp; omega)).trans (Below.heap_alloc _ _ _ hj)
        refine ⟨0, rfl, (o1 _ (by omega)).trans H1.out, (o1 _ (by omega)).trans H2.out, (o1 _ (by omega)).trans H3.out, fun i hi => ?_, (h6.alloc h6.size _).alloc (by simp; omega) _, by simp; omega⟩
        exact ((h5 i hi).keep (o1 _ (by omega))).congr fun j _ => (fill_zero f i j).symm
      case assign =>
        intro l s p W K hK
        gi_wp2
        exact hK
      case body =>
        rintro l k s p W B hk hp hs1 hlt ⟨t, ht, hrun⟩ hbk hBB
        have h4 := H4.out
        have hBw : w.heap.size + 9 ≤ B := by simp at hBB; omega
        obtain rfl : s = (t : Int) := hk.symm.trans ht.out
        have htl : t < L := by omega
        have hpl := plOf_bd (0 + (L : Int)) (t : Int) hlt
        rw [hp] at hpl
        obtain ⟨q, rfl⟩ : ∃ q : Nat, p = (q : Int) := ⟨p.toNat, by omega⟩
        have hq1 : 1 ≤ q := by omega
        have hq2 : t % 64 + q ≤ 64 := by omega
        have hq3 : t + q ≤ L := by omega
        have hnext : Hid (pst 0 (0 + (L : Int)) (k + 1) = ((t + q : Nat) : Int)) := by
          show pst 0 (0 + (L : Int)) k + plOf (0 + (L : Int)) (pst 0 (0 + (L : Int)) k) = _
          rw [hk, hp]; omega
        have hfit : atN t + q ≤ m := by have := at_fits hq2 hq3; have := Hm.out; omega
        have hsh := shN_lt t
        rw [shOf_nat, atOf_nat] at hbk ⊢
        clear hk hp hs1 hlt hpl h4 hBB ht
        obtain ⟨ga, oa, rfl, hfb⟩ := hb (by omega)
        have d0 : W.cell? ⟨B, 0, none⟩ = some (.int .i64 (shN t : Int)) := cell_of_row W B 0 _ _ _ hbk
        have d1 : W.cell? ⟨B, 1, none⟩ = some (.int .i64 (atN t : Int)) := cell_of_row W B 1 _ _ _ hbk
        have d2 : W.cell? ⟨B, 2, none⟩ = some (.int .i64 (q : Int)) := cell_of_row W B 2 _ _ _ hbk
        have d3 : W.cell? ⟨w.heap.size + 1 + 1, 0, none⟩ = some (.slice (some ⟨w.heap.size + 1, 0, none⟩) 4 4) := cell_of_row W _ 0 _ _ _ hrun.b2
        have d4 : W.cell? ⟨w.heap.size, 0, none⟩ = some (.slice (some ⟨ga, oa, none⟩) L cap) := cell_of_row W _ 0 _ _ _ hrun.b0
        have d5 : W.cell? ⟨w.heap.size + 1, shN t, none⟩ = some (.slice (some ⟨w.heap.size + 3 + shN t, 0, none⟩) m m) := by
          rw [cell_of_row W _ (shN t) _ _ _ hrun.b1]
          simpa [hsh] using hdr_at (fun i => w.heap.size + 3 + i) m 4 hsh
        obtain ⟨Li, hLi, hLl, hLc⟩ := hrun.rows (shN t) hsh
        generalize hsn : shN t = sn at *
        generalize han : atN t = an at *
        have Hsn := Lib.hid hsn
        have Han := Lib.hid han
        have HLi := Lib.hid hLi
        have HLc := Lib.hid hLc
        have HLl := Lib.hid hLl
        have Hbk := Lib.hid hbk
        clear hsn han hLi hLc hLl hbk
        have i0 : (0 : Int) ≤ (sn : Int) := by omega
        have i1 : (sn : Int) < 4 := by omega
        have i2 : (0 : Int) ≤ (an : Int) := by omega
        have i3 : (an : Int) ≤ (an : Int) + (q : Int) := by omega
        have i4 : (an : Int) + (q : Int) ≤ (m : Int) := by omega
        have i5 : (0 : Int) ≤ (t : Int) := by omega
        have i6 : (t : Int) ≤ (L : Int) := by omega
        have i7 : (t : Int) < (cap : Int) := by omega
        have i8 : an < m := by omega
        have i9 : t < cap := by omega
        have i8n : ¬ m = an := by omega
        have i9n : ¬ cap = t := by omega
        have j0 : (0 : Int) ≤ (an : Int) + (q : Int) := by omega
        have j2 : ((an : Int) + (q : Int)).toNat = an + q := by omega
        have j1 : IntKind.i64.wrap ((an : Int) + (q : Int)) = (an : Int) + (q : Int) := IntWalk.i64_in _ (by omega)
        refine wpIn_block ?_
        refine wpIn_region_tail 16 (by kernel_rfl) (by kernel_rfl) (by rfl) ?hno ?_
        case hno =>
          rintro ⟨a, w', hx⟩
          exact absurd hx.1 (by simp)
        simp only [List.take_succ_cons, List.take_zero, List.drop_succ_cons, List.drop_zero]
        repeat still_step
        refine wpStill_nil ?_
        clear j0 j1 j2
        obtain ⟨cs, hcs⟩ : ∃ cs : List Value, cs = (List.range q).map (fun j => Value.int .u8 (f (t + j))) := ⟨_, rfl⟩
        have hcl : cs.length = q := by rw [hcs]; simp
        have hcc : ∀ j, j < cs.length → cs[j]? = some (.int .u8 (f (t + j))) := fun j hj => by rw [hcl] at hj; rw [hcs]; simp [hj]
        refine wpList_copy_own rfl (.tmp 38) (.tmp 41) 40 40 rfl 5 Try.underlying40 (by kernel_rfl) (w.heap.size + 3 + sn) an q (m - an) ⟨ga, oa + t, none⟩ (L - t) (cap - t) rfl rfl Li.toArray 5 HLi.out cs ?_ ?_ ?_ ?_ ?_
        · rw [hcl]; simp only [Nat.min_def]; split <;> omega
        · intro j v hv
          have hj : j < cs.length := by
            rcases Nat.lt_or_ge j cs.length with h | h
            · exact h
            · rw [List.getElem?_eq_none h] at hv; cases hv
          have hadd : (⟨ga, oa + t, none⟩ : Addr).add j = ⟨ga, oa + t + j, none⟩ := by unfold Addr.add; split <;> simp_all
          rw [hcc j hj] at hv
          cases hv
          rw [hadd, Nat.add_assoc]
          have hcell := hfb (t + j) (by omega)
          exact (hrun.low.cell (p := ⟨ga, oa + (t + j), none⟩) (World.block_lt_of_cell? w _ hcell)).trans hcell
        · have := HLl.out
          rw [hcl]; simp; omega
        · intro v hv
          rw [hcs] at hv
          obtain ⟨j, _, rfl⟩ := List.mem_map.1 hv
          rfl
        · have h4 := H4.out
          have hrow := Row.copy (w := W.drew) Li HLi.out HLl.out HLc.out an cs (fun j => f (t + j)) hcc (by rw [hcl]; exact hfit)
          generalize hW2 : W.drew.setRow (w.heap.size + 3 + sn) (Li.toArray.toList.take an ++ (cs ++ Li.toArray.toList.drop (an + cs.length))).toArray = W2
          rw [show (Li.take an ++ (cs ++ Li.drop (an + cs.length))) = (Li.toArray.toList.take an ++ (cs ++ Li.toArray.toList.drop (an + cs.length))) from rfl, hW2] at hrow
          have hoth : ∀ j, j ≠ w.heap.size + 3 + sn → W2.heap[j]? = W.heap[j]? := fun j hj => by rw [← hW2]; exact setRow_other W.drew _ j _ hj
          have hsz : W2.heap.size = W.heap.size := by rw [← hW2]; simp [World.setRow]
          have hgr : W.grownBy W2 (some (w.heap.size + 3 + sn)) := ⟨by rw [← hW2]; rfl, by rw [← hW2]; rfl, by rw [← hW2]; rfl, by omega, fun j _ hj => hoth j (fun e => hj (by rw [e]))⟩
          refine ⟨rfl, KeepsOthers.of_grownBy hgr (fun j o e hj => ?_), hoth _ (by omega), t + q, hnext, (hoth _ (by omega)).trans hrun.b0, (hoth _ (by omega)).trans hrun.b1, (hoth _ (by omega)).trans hrun.b2, fun i hi => ?_, hrun.low.grown hgr hrun.low.size (fun r e => by cases e; omega), by have := hrun.size; omega⟩
          · cases e
            rw [HLi.out] at hj
            cases hj
            rfl
          · have hst := fun j => fill_step f (t := t) (p := q) (j := j) hi hq2
            rw [Hsn.out, Han.out] at hst
            by_cases hii : i = sn
            · subst hii
              refine hrow.congr fun j _ => ?_
              rw [hst j, hcl]
              by_cases hin : an ≤ j ∧ j < an + q
              · rw [if_pos hin, if_pos ⟨rfl, hin⟩]
              · rw [if_neg hin, if_neg (fun h => hin h.2)]
            · refine ((hrun.rows i hi).keep (hoth _ (by omega))).congr fun j _ => ?_
              rw [hst j, if_neg (fun h => hii h.1)]
      case done =>
        rintro D K W hK ⟨t, ht, hrun⟩ hD hd
        have htL : t = L := by have h1 := ht.out; have h2 := hK.1; omega
        subst htL
        have c3 : W.cell? ⟨w.heap.size + 1 + 1, 0, none⟩ = some (.slice (some ⟨w.heap.size + 1, 0, none⟩) 4 4) := cell_of_row W _ 0 _ _ _ hrun.b2
        go_wp2_with fail
        refine ⟨by simp, .inl ⟨_, _, rfl, run_takeDeferred hd, ?_⟩⟩
        have h4 := H4.out
        have hD9 : w.heap.size + 9 ≤ D := by simp at hD; omega
        have hDk : ∀ j, j < w.heap.size + 9 → (W.putObj D (.deferred none)).heap[j]? = W.heap[j]? := fun j hj => World.putObj_heap_other (by omega)
        have hsz := hrun.size
        refine ⟨_, results_tmp rfl _ _ _, w.heap.size + 1, 4, fun i => w.heap.size + 3 + i, rfl, by omega, by omega, ⟨fun i hi => ?_, ⟨by omega, by rw [World.putObj_size]; omega⟩, fun i hi => ⟨by omega, by omega, (hrun.rows i hi).keep (hDk _ (by omega))⟩, fun i j _ _ h => by omega⟩,
          hrun.low.trans (belowK_b (w := w) (Nat.le_refl _) W D _ _ (by omega) hd rfl rfl)⟩
        rw [cell_of_row _ _ i _ _ _ ((hDk _ (by omega)).trans hrun.b1)]
        simpa [hi] using hdr_at (fun i => w.heap.size + 3 + i) m 4 hi

end Go.Proofs.Ytpchcchlidagiaa
