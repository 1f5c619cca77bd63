/- A part. -/
import Derived.Test.YtiikkkhcolcebaaGreatDoorG8
set_option linter.all false
set_option maxHeartbeats 4000000
set_option maxRecDepth 100000
namespace Go.Proofs.YtiikkkhcolcebaaGreatDoor
noncomputable section
section
def aBz:(List.range 15).all (λj=>kC (75+j))=true:=kr
def avF:(List.range 15).all (λj=>kC (90+j))=true:=kr
def adX:(List.range 15).all (λj=>kC (105+j))=true:=kr
def alW:(List.range 15).all (λj=>kC (120+j))=true:=kr
def aDG:(List.range 15).all (λj=>kC (135+j))=true:=kr
end
end
end Go.Proofs.YtiikkkhcolcebaaGreatDoor
