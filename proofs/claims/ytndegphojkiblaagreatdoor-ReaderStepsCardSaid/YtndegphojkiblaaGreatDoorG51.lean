/-
 For all states, acts, slots, disks, keys and cookies, the law ReaderSteps returns true: New and Step return the documented state and answer, or the documented error, for all states, and for stores with any history. No conditions but that the five listed package-level variables hold at the call what the program's text lays (the card ties them to it).
-/
import Derived.Test.YtndegphojkiblaaGreatDoorG47
import Derived.Test.YtndegphojkiblaaGreatDoorG49
import Derived.Test.YtndegphojkiblaaGreatDoorG50
import Derived.Test.YtndegphojkiblaaGreatDoorTie
set_option linter.all false
set_option maxHeartbeats 4000000
set_option maxRecDepth 100000
namespace Go.Proofs.YtndegphojkiblaaGreatDoor
noncomputable section
section
open Go.ChangeShapes Go.WideShapes Go.ChangeAt Go.RowKit
theorem over:Rows.readerStepsRow.holds Tryz.pinned (OpenSpec.ofChange Rows.readerStepsSpec):=
 OpenClaim.holds_of_wide 3 Tryz.f3 rfl rfl rfl rfl rfl rfl rfl ⟨rfl,rfl,rfl,rfl,rfl⟩ rfl rfl rfl rfl rfl TA Tryz.func3 jf
  (dZ kr) (by unfold Func.isWrapper;first| (rw[bF (by decide+kernel)];kernel_rfl)| (rw[bO (by decide+kernel)];exact⟨rfl,rfl⟩))
  (λos a H enc _=>ait M8 os a H enc)
open Go
theorem readerSteps_card:Rows.ReaderStepsCardSaid:=
 Claim7.holds_tied_plain_at .later [] [.data,.data,.data,.data,.pinned] true (true,"ff57f10f30252dff01a77dd786d775009cfab12924bd5d2e0fd5d23442b19ba1") false
  over (λ_ h=>by cases h) cf1 (λ_ h=>by cases h) readerSteps_row_tie rfl ⟨rfl,rfl⟩ cf2 rfl
  (λf fn c a=>by
   obtain rfl:f=3:=pf (TA.symm.trans c)|>.symm;obtain rfl:fn=Tryz.f3:=(pf (Tryz.func3.symm.trans a)).symm;exact⟨cf3,λj t b=>by
    rw[Tryz.params3]at b;have d:t∈ [29,30,33,36,22,23,2]:=by simpa using acW b
    exact(show Tryz.prog.wantsStandIn t=false by simpa using cj.1 cf4 t d)⟩)
  cf5
end
end
end Go.Proofs.YtndegphojkiblaaGreatDoor
