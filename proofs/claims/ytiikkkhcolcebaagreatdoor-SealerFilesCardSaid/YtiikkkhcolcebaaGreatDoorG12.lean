/- A part. -/
import Derived.Test.YtiikkkhcolcebaaGreatDoorG8
set_option linter.all false
set_option maxHeartbeats 4000000
set_option maxRecDepth 100000
namespace Go.Proofs.YtiikkkhcolcebaaGreatDoor
noncomputable section
section
def aCq:(List.range 15).all (λj=>kC (225+j))=true:=kr
def aAg:(List.range 15).all (λj=>kC (240+j))=true:=kr
end
end
end Go.Proofs.YtiikkkhcolcebaaGreatDoor
