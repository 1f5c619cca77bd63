/- A part. -/
import Derived.Test.YtiikkkhcolcebaaGreatDoorG8
set_option linter.all false
set_option maxHeartbeats 4000000
set_option maxRecDepth 100000
namespace Go.Proofs.YtiikkkhcolcebaaGreatDoor
noncomputable section
section
def atB:(List.range 15).all (λj=>kC (0+j))=true:=kr
def ajf:(List.range 15).all (λj=>kC (15+j))=true:=kr
def avy:(List.range 15).all (λj=>kC (30+j))=true:=kr
def aBM:(List.range 15).all (λj=>kC (45+j))=true:=kr
def auQ:(List.range 15).all (λj=>kC (60+j))=true:=kr
end
end
end Go.Proofs.YtiikkkhcolcebaaGreatDoor
