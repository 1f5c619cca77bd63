/-
 For all acts and needles, the law SealerAll returns true: one sealing after the other seals the frozen generations in ascending order, until there is none. No conditions but that the listed package-level variables hold at the call what the program's text lays (the card ties them to it).
-/
import Derived.Test.YtiikkkhcolcebaaGreatDoorG47
import Derived.Test.YtiikkkhcolcebaaGreatDoorG49
import Derived.Test.YtiikkkhcolcebaaGreatDoorG50
import Derived.Test.YtiikkkhcolcebaaGreatDoorTie
set_option linter.all false
set_option maxHeartbeats 4000000
set_option maxRecDepth 100000
namespace Go.Proofs.YtiikkkhcolcebaaGreatDoor
noncomputable section
section
open Go.ChangeShapes Go.WideShapes Go.ChangeAt Go.RowKit
theorem over:Rows.sealerAllRow.holds Tryz.pinned (OpenSpec.ofChange Rows.sealerAllSpec):=
 OpenClaim.holds_of_wide 5 Tryz.f5 rfl rfl rfl rfl rfl rfl rfl ⟨rfl,rfl,rfl,rfl,rfl⟩ rfl rfl rfl rfl rfl Tp Tryz.func5 jf
  (eE kr) (by unfold Func.isWrapper;first| (rw[bA (by decide+kernel)];kernel_rfl)| (rw[bH (by decide+kernel)];exact⟨rfl,rfl⟩))
  (λos a H enc _=>aia IJ os a H enc)
open Go
theorem sealerAll_card:Rows.SealerAllCardSaid:=
 Claim7.holds_tied_plain_at .later [] [.data,.data,.data,.data,.pinned] true (true,"adc5aa8322c32e5d19e832edafde222addf964dd640a0c62afc5a1b0a3ba6fe5") false
  over (λ_ h=>by cases h) cf1 (λ_ h=>by cases h) sealerAll_row_tie rfl ⟨rfl,rfl⟩ cf2 rfl
  (λf fn c a=>by
   obtain rfl:f=5:=rm (Tp.symm.trans c)|>.symm;obtain rfl:fn=Tryz.f5:=(rm (Tryz.func5.symm.trans a)).symm;exact⟨cf3,λj t b=>by
    rw[Tryz.params5]at b;have d:t∈ [32,33]:=by simpa using Array.mem_of_getElem? b
    exact(show Tryz.prog.wantsStandIn t=false by simpa using cz.1 cf4 t d)⟩)
  cf5
end
end
end Go.Proofs.YtiikkkhcolcebaaGreatDoor
