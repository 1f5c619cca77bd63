/- A part. -/
import Derived.Test.YtiikkkhcolcebaaGreatDoorG16
set_option linter.all false
set_option maxHeartbeats 4000000
set_option maxRecDepth 100000
namespace Go.Proofs.YtiikkkhcolcebaaGreatDoor
noncomputable section
section
theorem aqh:(List.range 15).all (λj=>jx (0+j))=true:=kr
theorem agf:(List.range 15).all (λj=>jx (15+j))=true:=kr
theorem arV:(List.range 15).all (λj=>jx (30+j))=true:=kr
theorem ayn:(List.range 15).all (λj=>jx (45+j))=true:=kr
theorem arp:(List.range 15).all (λj=>jx (60+j))=true:=kr
end
end
end Go.Proofs.YtiikkkhcolcebaaGreatDoor
