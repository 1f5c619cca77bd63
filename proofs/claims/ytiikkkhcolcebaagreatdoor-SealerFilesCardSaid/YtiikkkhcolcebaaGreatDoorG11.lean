/- A part. -/
import Derived.Test.YtiikkkhcolcebaaGreatDoorG8
set_option linter.all false
set_option maxHeartbeats 4000000
set_option maxRecDepth 100000
namespace Go.Proofs.YtiikkkhcolcebaaGreatDoor
noncomputable section
section
def adj:(List.range 15).all (λj=>kC (150+j))=true:=kr
def arY:(List.range 15).all (λj=>kC (165+j))=true:=kr
def aqL:(List.range 15).all (λj=>kC (180+j))=true:=kr
def aec:(List.range 15).all (λj=>kC (195+j))=true:=kr
def aez:(List.range 15).all (λj=>kC (210+j))=true:=kr
end
end
end Go.Proofs.YtiikkkhcolcebaaGreatDoor
