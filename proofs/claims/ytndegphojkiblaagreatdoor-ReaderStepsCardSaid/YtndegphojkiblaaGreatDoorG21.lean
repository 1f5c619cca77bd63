/- A part. -/
import Derived.Test.YtndegphojkiblaaGreatDoorG17
set_option linter.all false
set_option maxHeartbeats 4000000
set_option maxRecDepth 100000
namespace Go.Proofs.YtndegphojkiblaaGreatDoor
noncomputable section
section
theorem aeY:(List.range 15).all (λj=>iZ (225+j))=true:=kr
theorem adM:(List.range 15).all (λj=>iZ (240+j))=true:=kr
end
end
end Go.Proofs.YtndegphojkiblaaGreatDoor
