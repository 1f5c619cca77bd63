/- A part. -/
import Derived.Test.YtndegphojkiblaaGreatDoorG17
set_option linter.all false
set_option maxHeartbeats 4000000
set_option maxRecDepth 100000
namespace Go.Proofs.YtndegphojkiblaaGreatDoor
noncomputable section
section
theorem apC:(List.range 15).all (λj=>iZ (150+j))=true:=kr
theorem aul:(List.range 15).all (λj=>iZ (165+j))=true:=kr
theorem agW:(List.range 15).all (λj=>iZ (180+j))=true:=kr
theorem alT:(List.range 15).all (λj=>iZ (195+j))=true:=kr
theorem aot:(List.range 15).all (λj=>iZ (210+j))=true:=kr
end
end
end Go.Proofs.YtndegphojkiblaaGreatDoor
