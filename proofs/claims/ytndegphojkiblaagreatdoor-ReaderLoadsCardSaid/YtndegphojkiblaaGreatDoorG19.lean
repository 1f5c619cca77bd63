/- Towards the last file's theorem: part 19. -/
import Derived.Test.YtndegphojkiblaaGreatDoorG16
set_option linter.all false
set_option maxHeartbeats 4000000
set_option maxRecDepth 100000
namespace Go.Proofs.YtndegphojkiblaaGreatDoor
noncomputable section
section
theorem aqp:(List.range 15).all (fun j=>ja (150+j))=true:=kr
theorem awV:(List.range 15).all (fun j=>ja (165+j))=true:=kr
theorem aza:(List.range 15).all (fun j=>ja (180+j))=true:=kr
theorem aEj:(List.range 15).all (fun j=>ja (195+j))=true:=kr
theorem auP:(List.range 15).all (fun j=>ja (210+j))=true:=kr
end
end
end Go.Proofs.YtndegphojkiblaaGreatDoor
