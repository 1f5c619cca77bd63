/-
  For all acts and every key, the law ReaderPower returns true: a get reports a power failure in its second step, and only there. No conditions but that the five listed package-level variables hold at the call what the program's text lays (the card ties them to it).
-/
import Derived.Test.YtndegphojkiblaaGreatDoorG43
import Derived.Test.YtndegphojkiblaaGreatDoorTie
set_option linter.unusedSimpArgs false
set_option linter.unusedVariables false
set_option maxHeartbeats 4000000
namespace Go.Proofs.YtndegphojkiblaaGreatDoor
section
set_option maxHeartbeats 4000000
set_option maxRecDepth 100000
open Go.ChangeShapes Go.WideShapes Go.ChangeAt Go.RowKit
theorem over : Rows.readerPowerRow.holds Tryz.pinned (OpenSpec.ofChange Rows.readerPowerSpec) :=
 OpenClaim.holds_of_wide 7 Tryz.f7 rfl rfl rfl rfl rfl rfl rfl ⟨rfl,rfl,rfl,rfl,rfl⟩ rfl rfl rfl rfl rfl cf6 Tryz.func7 jf
  (of_decide_eq_true (by kernel_rfl)) (by unfold Func.isWrapper; first | (rw [if_pos (by decide +kernel)]; kernel_rfl) | (rw [if_neg (by decide +kernel)]; exact ⟨rfl,rfl⟩))
  (fun os started H enc _ => lifted_of wit os started H enc)
open Go
theorem readerPower_card : Rows.ReaderPowerCardSaid :=
 Claim7.holds_tied_plain_at .later [] [.data,.data,.data,.data,.pinned] true (true,"ff57f10f30252dff01a77dd786d775009cfab12924bd5d2e0fd5d23442b19ba1") false
  over (fun _ h => by cases h) cf1 (fun _ h => by cases h) readerPower_row_tie rfl ⟨rfl,rfl⟩ cf2 rfl
  (fun f fn hf hfn => by
   obtain rfl : f = 7 := Option.some.inj (cf6.symm.trans hf) |>.symm
   obtain rfl : fn = Tryz.f7 := (Option.some.inj (Tryz.func7.symm.trans hfn)).symm
   exact ⟨cf3,fun j t ht => by
    rw [Tryz.params7] at ht
    have hm : t ∈ [30,22] := by simpa using Array.mem_of_getElem? ht
    exact (show Tryz.prog.wantsStandIn t = false by simpa using List.all_eq_true.1 cf4 t hm)⟩)
  cf5
end
end Go.Proofs.YtndegphojkiblaaGreatDoor
