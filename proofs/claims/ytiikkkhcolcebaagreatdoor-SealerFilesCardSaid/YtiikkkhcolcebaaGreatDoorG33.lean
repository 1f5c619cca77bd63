/-
 For all acts and needles, the law SealerFiles returns true: after a sealing the six shard files are the code of the dat file, the index has its length, its checksums and its items, no temporary file is left, and the dat file is gone. No conditions but that the listed package-level variables hold at the call what the program's text lays (the card ties them to it).
-/
import Derived.Test.YtiikkkhcolcebaaGreatDoorG29
import Derived.Test.YtiikkkhcolcebaaGreatDoorG31
import Derived.Test.YtiikkkhcolcebaaGreatDoorG32
import Derived.Test.YtiikkkhcolcebaaGreatDoorTie
set_option linter.all false
set_option maxHeartbeats 4000000
set_option maxRecDepth 100000
namespace Go.Proofs.YtiikkkhcolcebaaGreatDoor
noncomputable section
section
open Go.ChangeShapes Go.WideShapes Go.ChangeAt Go.RowKit
def over:Rows.sealerFilesRow.holds Tryz.pinned (OpenSpec.ofChange Rows.sealerFilesSpec):=
 OpenClaim.holds_of_wide 6 Tryz.f6 rfl rfl rfl rfl rfl rfl rfl ⟨rfl,rfl,rfl,rfl,rfl⟩ rfl rfl rfl rfl rfl VE Tryz.func6 jf
  (fc kr) (by unfold Func.isWrapper;first| (rw[bB (by decide+kernel)];kernel_rfl)| (rw[bG (by decide+kernel)];exact⟨rfl,rfl⟩))
  (λos a H enc _=>akY KB os a H enc)
open Go
theorem sealerFiles_card:Rows.SealerFilesCardSaid:=
 Claim7.holds_tied_plain_at .later [] [.data,.data,.data,.data,.pinned] true (true,"adc5aa8322c32e5d19e832edafde222addf964dd640a0c62afc5a1b0a3ba6fe5") false
  over (λ_ h=>by cases h) cf1 (λ_ h=>by cases h) sealerFiles_row_tie rfl ⟨rfl,rfl⟩ cf2 rfl
  (λf fn c a=>by
   obtain rfl:f=6:=oc (VE.symm.trans c)|>.symm;obtain rfl:fn=Tryz.f6:=(oc (Tryz.func6.symm.trans a)).symm;exact⟨cf3,λj t b=>by
    rw[Tryz.params6]at b;have d:t∈ [32,33]:=by simpa using Array.mem_of_getElem? b
    exact(show Tryz.prog.wantsStandIn t=false by simpa using cI.1 cf4 t d)⟩)
  cf5
end
end
end Go.Proofs.YtiikkkhcolcebaaGreatDoor
