/- A part. -/
import Derived.Test.YtiikkkhcolcebaaGreatDoorG16
set_option linter.all false
set_option maxHeartbeats 4000000
set_option maxRecDepth 100000
namespace Go.Proofs.YtiikkkhcolcebaaGreatDoor
noncomputable section
section
theorem ayb:(List.range 15).all (λj=>jx (75+j))=true:=kr
theorem asf:(List.range 15).all (λj=>jx (90+j))=true:=kr
theorem aaS:(List.range 15).all (λj=>jx (105+j))=true:=kr
theorem aiV:(List.range 15).all (λj=>jx (120+j))=true:=kr
theorem aAe:(List.range 15).all (λj=>jx (135+j))=true:=kr
end
end
end Go.Proofs.YtiikkkhcolcebaaGreatDoor
