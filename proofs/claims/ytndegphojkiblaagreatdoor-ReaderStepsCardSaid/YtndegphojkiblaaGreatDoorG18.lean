/- A part. -/
import Derived.Test.YtndegphojkiblaaGreatDoorG17
set_option linter.all false
set_option maxHeartbeats 4000000
set_option maxRecDepth 100000
namespace Go.Proofs.YtndegphojkiblaaGreatDoor
noncomputable section
section
theorem ari:(List.range 15).all (λj=>iZ (0+j))=true:=kr
theorem amG:(List.range 15).all (λj=>iZ (15+j))=true:=kr
theorem ajo:(List.range 15).all (λj=>iZ (30+j))=true:=kr
theorem atL:(List.range 15).all (λj=>iZ (45+j))=true:=kr
theorem asz:(List.range 15).all (λj=>iZ (60+j))=true:=kr
end
end
end Go.Proofs.YtndegphojkiblaaGreatDoor
