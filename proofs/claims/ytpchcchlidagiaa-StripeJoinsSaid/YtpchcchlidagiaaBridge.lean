/- In a round of a loop over a function, at the fence that lets all in: a region that draws its order may be walked by the laws of the plain walk. -/
import Derived.Test.YtpchcchlidagiaaRange
import Derived.StillTail
import Derived.StillTailTactics
namespace Go.Proofs.Ytpchcchlidagiaa
open Go.RowKit

section
variable {l n : Nat} {P : Program} {ops : Array Oper} {Q : Exit → Act → World → Prop} {md : Region.Mode}

theorem rows_in {m : Nat} {row : String} {args : Array Value} {w : World} {R : Value → World → Prop} (h : Rows P row args w R) : RowsIn (Fence.wide.inRound l) m P row args w R := fun c cs _ => by
  obtain ⟨v, w', r, s⟩ := h c cs
  exact ⟨v, w', r, stepsIn_wide.2 s⟩

theorem oper_in {o : Oper} {a : Act} {w : World} {K : Act → World → Prop} (hd : ∀ c, o.op ≠ .defer c) (h : o.wp P a w K Q) : o.wpIn (Fence.wide.inRound l) n P a w K Q := by
  unfold Oper.wp at h
  unfold Oper.wpIn
  refine ⟨fun _ _ => trivial, ?_⟩
  rw [show (Fence.wide.inRound l).round = some l from rfl, Oper.semAt_eq _ _ _ hd]
  generalize (execOp a.eval o).run P w = r at h
  cases r with
  | ok x w' =>
    cases x <;> simp only [Oper.upon, Oper.uponIn] at h ⊢ <;>
      first
        | exact h
        | exact ⟨fun e => (by cases e), callsIn_wide.2 h⟩
        | exact ⟨fun e => (by cases e), rows_in h⟩
  | halt x w' => cases x <;> simp only [Oper.upon, Oper.uponIn] at h ⊢ <;> exact h

theorem op_in {i : Nat} {K : Act → World → Prop} {a : Act} {w : World} (hd : ∀ (j : Nat) (o : Oper) c, ops[j]? = some o → o.op ≠ .defer c) (hno : ¬ LetsOut Q) (h : wpOp P ops Q i K a w) :
    wpOpIn (Fence.wide.inRound l) n P ops Q i K a w := by
  unfold wpOp at h
  unfold wpOpIn
  cases ho : ops[i]? with
  | none => simp only [ho] at h ⊢; exact h
  | some o =>
    simp only [ho] at h ⊢
    split
    · rename_i hw
      rw [if_pos hw] at h
      rcases h with h | h
      · exact oper_in (fun c => hd i o c ho) h
      · exact absurd h.2 hno
    · rename_i hw
      rw [if_neg hw] at h
      exact ⟨fun _ _ => trivial, h⟩

theorem any_in (hd : ∀ (j : Nat) (o : Oper) c, ops[j]? = some o → o.op ≠ .defer c) (hno : ¬ LetsOut Q) : ∀ (fuel : Nat) (listed : Array Bool) (a : Act) (w : World), wpAny P md ops Q fuel listed a w →
    wpAnyIn (Fence.wide.inRound l) n P md ops Q fuel listed a w
  | 0, _, _, _, h => h
  | fuel + 1, _, _, _, h => ⟨h.1, fun i hi => wpOpIn_mono (fun a' w' h' => any_in hd hno fuel _ a' w' h') (op_in hd hno (h.2 i hi))⟩

/-- No operation of the region is a 'defer'. -/
def noDefer (L : List Oper) : Bool := L.all fun o => match o.op with | .defer _ => false | _ => true

/-- A region of reads with one tail of writes, in a round: one walk in the text's order. -/
theorem wpIn_region_tail {id : Nat} {a : Act} {w : World} {L : List Oper} (k : Nat) (hm : P.follows .mixedOrders = true) (hB : Region.lexTailB .any L.toArray k = true) (hdB : noDefer L = true) (hno : ¬ LetsOut Q)
    (h : wpStill P L.toArray w.drew (fun a' => wpList P L.toArray Q (L.drop k) a' w.drew) (L.take k) a) : (Code.region id L.toArray true).wpIn (Fence.wide.inRound l) n P Q a w := by
  have hd : ∀ (j : Nat) (o : Oper) c, L.toArray[j]? = some o → o.op ≠ .defer c := by
    intro j o c hj e
    have hm : o ∈ L := List.mem_of_getElem? (by simpa using hj)
    have := List.all_eq_true.1 hdB o hm
    rw [e] at this
    cases this
  simp only [Region.lexTailB, Bool.and_eq_true, decide_eq_true_eq] at hB
  obtain ⟨⟨⟨⟨hsel, hn⟩, hs⟩, hc⟩, hlex⟩ := hB
  have htl : (L.take k).length = k := by simp at hn ⊢; omega
  have inv0 : HeadInv .any L.toArray k (Array.replicate L.toArray.size false) :=
    ⟨by simp, fun j oj _ hl => (by rw [getD_replicate_false] at hl; cases hl), fun t _ ht => getD_in (by simpa using ht) (getD_replicate_false _ _)⟩
  have H := wpAnyL_lex (md := .any) (g := L.toArray.size - k) hsel hs hc hn (L.take k) 0 _ a (fun j hj => by
    have hj' : j < k := by omega
    simp [hj']) (by simpa using htl) inv0 (by rw [htl]; exact hlex) h
  have H2 := wpAny_of_head (Q' := Q) (g := L.toArray.size - k) (fun listed a' hL => by
    have h3 := wpAny_of_seq (md := .any) (Q' := Q) (L.drop k) k listed a' w.drew (fun j => by simp [List.getElem?_drop]) (by rw [show (L.drop k).length = L.toArray.size - k by simp]; exact hL.1) hL.2
    rwa [show (L.drop k).length = L.toArray.size - k by simp] at h3) _ _ _ H
  rw [htl, show k + (L.toArray.size - k) = L.toArray.size by omega] at H2
  exact wpIn_region_any hm (any_in hd hno _ _ _ _ H2)

/-- The same outside every round. -/
theorem wp_region_tail {id : Nat} {a : Act} {w : World} {L : List Oper} (k : Nat) (hm : P.follows .mixedOrders = true) (hB : Region.lexTailB .any L.toArray k = true)
    (h : wpStill P L.toArray w.drew (fun a' => wpList P L.toArray Q (L.drop k) a' w.drew) (L.take k) a) : (Code.region id L.toArray true).wp P Q a w :=
  wp_region_still_tail k hm hB h
end

end Go.Proofs.Ytpchcchlidagiaa
