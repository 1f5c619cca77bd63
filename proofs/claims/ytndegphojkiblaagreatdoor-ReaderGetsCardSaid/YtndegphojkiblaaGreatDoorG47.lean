/-
  For all acts and every cookie, the law ReaderGets returns true: a get at a store with any history gives the needle that was put last under its key if the cookie is right and it was not deleted since, and nothing otherwise, whatever rotations and sealings there were. No conditions but that the five listed package-level variables hold at the call what the program's text lays (the card ties them to it).
-/
import Derived.Test.YtndegphojkiblaaGreatDoorG43
import Derived.Test.YtndegphojkiblaaGreatDoorG45
import Derived.Test.YtndegphojkiblaaGreatDoorG46
import Derived.Test.YtndegphojkiblaaGreatDoorTie
set_option linter.all false
set_option maxHeartbeats 4000000
set_option maxRecDepth 100000
namespace Go.Proofs.YtndegphojkiblaaGreatDoor
noncomputable section
section
open Go.ChangeShapes Go.WideShapes Go.ChangeAt Go.RowKit
theorem over:Rows.readerGetsRow.holds Tryz.pinned (OpenSpec.ofChange Rows.readerGetsSpec):=
 OpenClaim.holds_of_wide 5 Tryz.f5 rfl rfl rfl rfl rfl rfl rfl ⟨rfl,rfl,rfl,rfl,rfl⟩ rfl rfl rfl rfl rfl UA Tryz.func5 jf
  (dG kr) (by unfold Func.isWrapper;first| (rw[ay (by decide+kernel)];kernel_rfl)| (rw[aC (by decide+kernel)];exact⟨rfl,rfl⟩))
  (fun os started H enc _=>ajt JU os started H enc)
open Go
theorem readerGets_card:Rows.ReaderGetsCardSaid:=
 Claim7.holds_tied_plain_at .later [] [.data,.data,.data,.data,.pinned] true (true,"ff57f10f30252dff01a77dd786d775009cfab12924bd5d2e0fd5d23442b19ba1") false
  over (fun _ h=>by cases h) cf1 (fun _ h=>by cases h) readerGets_row_tie rfl ⟨rfl,rfl⟩ cf2 rfl
  (fun f fn hf hfn=>by
   obtain rfl:f=5:=rJ (UA.symm.trans hf)|>.symm;obtain rfl:fn=Tryz.f5:=(rJ (Tryz.func5.symm.trans hfn)).symm;exact⟨cf3,fun j t ht=>by
    rw[Tryz.params5]at ht;have hm:t∈ [30,23]:=by simpa using abF ht
    exact(show Tryz.prog.wantsStandIn t=false by simpa using bC.1 cf4 t hm)⟩)
  cf5
end
end
end Go.Proofs.YtndegphojkiblaaGreatDoor
