/-
  For all acts and every key, the law ReaderRetries returns true: a get whose generation is sealed between its two steps looks its key up again and then returns the right needle, and a rotation alone does not make it look again. No conditions but that the five listed package-level variables hold at the call what the program's text lays (the card ties them to it).
-/
import Derived.Test.YtndegphojkiblaaGreatDoorR43
import Derived.Test.YtndegphojkiblaaGreatDoorR45
import Derived.Test.YtndegphojkiblaaGreatDoorR46
import Derived.Test.YtndegphojkiblaaGreatDoorTie
set_option linter.all false
set_option maxHeartbeats 4000000
set_option maxRecDepth 100000
namespace Go.Proofs.YtndegphojkiblaaGreatDoor
noncomputable section
section
open Go.ChangeShapes Go.WideShapes Go.ChangeAt Go.RowKit
theorem over:Rows.readerRetriesRow.holds Tryz.pinned (OpenSpec.ofChange Rows.readerRetriesSpec):=
 OpenClaim.holds_of_wide 6 Tryz.f6 rfl rfl rfl rfl rfl rfl rfl ⟨rfl,rfl,rfl,rfl,rfl⟩ rfl rfl rfl rfl rfl UA Tryz.func6 jf
  (dG kr) (by unfold Func.isWrapper;first| (rw[ay (by decide+kernel)];kernel_rfl)| (rw[aC (by decide+kernel)];exact⟨rfl,rfl⟩))
  (fun os started H enc _=>ajt JU os started H enc)
open Go
theorem readerRetries_card:Rows.ReaderRetriesCardSaid:=
 Claim7.holds_tied_plain_at .later [] [.data,.data,.data,.data,.pinned] true (true,"ff57f10f30252dff01a77dd786d775009cfab12924bd5d2e0fd5d23442b19ba1") false
  over (fun _ h=>by cases h) cf1 (fun _ h=>by cases h) readerRetries_row_tie rfl ⟨rfl,rfl⟩ cf2 rfl
  (fun f fn hf hfn=>by
   obtain rfl:f=6:=rJ (UA.symm.trans hf)|>.symm;obtain rfl:fn=Tryz.f6:=(rJ (Tryz.func6.symm.trans hfn)).symm;exact⟨cf3,fun j t ht=>by
    rw[Tryz.params6]at ht;have hm:t∈ [30,22]:=by simpa using abF ht
    exact(show Tryz.prog.wantsStandIn t=false by simpa using bC.1 cf4 t hm)⟩)
  cf5
end
end
end Go.Proofs.YtndegphojkiblaaGreatDoor
