/- A part. -/
import Derived.Test.YtiikkkhcolcebaaGreatDoorG16
set_option linter.all false
set_option maxHeartbeats 4000000
set_option maxRecDepth 100000
namespace Go.Proofs.YtiikkkhcolcebaaGreatDoor
noncomputable section
section
theorem aaf:(List.range 15).all (λj=>jx (150+j))=true:=kr
theorem aoO:(List.range 15).all (λj=>jx (165+j))=true:=kr
theorem anB:(List.range 15).all (λj=>jx (180+j))=true:=kr
theorem aaX:(List.range 15).all (λj=>jx (195+j))=true:=kr
theorem abu:(List.range 15).all (λj=>jx (210+j))=true:=kr
end
end
end Go.Proofs.YtiikkkhcolcebaaGreatDoor
