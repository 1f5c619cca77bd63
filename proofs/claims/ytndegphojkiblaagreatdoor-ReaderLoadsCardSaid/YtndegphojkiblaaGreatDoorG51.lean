/-
  For all acts, items and disks, the law ReaderLoads returns true: Load returns the documented needle, or the documented error, for stores with any history, with damaged files. No conditions but that the five listed package-level variables hold at the call what the program's text lays (the card ties them to it).
-/
import Derived.Test.YtndegphojkiblaaGreatDoorG47
import Derived.Test.YtndegphojkiblaaGreatDoorG49
import Derived.Test.YtndegphojkiblaaGreatDoorG50
import Derived.Test.YtndegphojkiblaaGreatDoorTie
set_option linter.all false
set_option maxHeartbeats 4000000
set_option maxRecDepth 100000
namespace Go.Proofs.YtndegphojkiblaaGreatDoor
noncomputable section
section
open Go.ChangeShapes Go.WideShapes Go.ChangeAt Go.RowKit
theorem over:Rows.readerLoadsRow.holds Tryz.pinned (OpenSpec.ofChange Rows.readerLoadsSpec):=
 OpenClaim.holds_of_wide 4 Tryz.f4 rfl rfl rfl rfl rfl rfl rfl ⟨rfl,rfl,rfl,rfl,rfl⟩ rfl rfl rfl rfl rfl Z4 Tryz.func4 jf
  (dz kr) (by unfold Func.isWrapper;first| (rw[au (by decide+kernel)];kernel_rfl)| (rw[aE (by decide+kernel)];exact⟨rfl,rfl⟩))
  (fun os started H enc _=>alV PG os started H enc)
open Go
theorem readerLoads_card:Rows.ReaderLoadsCardSaid:=
 Claim7.holds_tied_plain_at .later [] [.data,.data,.data,.data,.pinned] true (true,"ff57f10f30252dff01a77dd786d775009cfab12924bd5d2e0fd5d23442b19ba1") false
  over (fun _ h=>by cases h) cf1 (fun _ h=>by cases h) readerLoads_row_tie rfl ⟨rfl,rfl⟩ cf2 rfl
  (fun f fn hf hfn=>by
   obtain rfl:f=4:=p9 (Z4.symm.trans hf)|>.symm;obtain rfl:fn=Tryz.f4:=(p9 (Tryz.func4.symm.trans hfn)).symm;exact⟨cf3,fun j t ht=>by
    rw[Tryz.params4]at ht;have hm:t∈ [30,25,3,2,2,36]:=by simpa using SD ht
    exact(show Tryz.prog.wantsStandIn t=false by simpa using bk.1 cf4 t hm)⟩)
  cf5
end
end
end Go.Proofs.YtndegphojkiblaaGreatDoor
