/- A part. -/
import Derived.Test.YtiikkkhcolcebaaGreatDoorG16
set_option linter.all false
set_option maxHeartbeats 4000000
set_option maxRecDepth 100000
namespace Go.Proofs.YtiikkkhcolcebaaGreatDoor
noncomputable section
section
theorem ayR:(List.range 15).all (λj=>jx (225+j))=true:=kr
theorem awK:(List.range 15).all (λj=>jx (240+j))=true:=kr
end
end
end Go.Proofs.YtiikkkhcolcebaaGreatDoor
