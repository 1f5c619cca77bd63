/- Towards the last file's theorem: part 20. -/
import Derived.Test.YtndegphojkiblaaGreatDoorG16
set_option linter.all false
set_option maxHeartbeats 4000000
set_option maxRecDepth 100000
namespace Go.Proofs.YtndegphojkiblaaGreatDoor
noncomputable section
section
theorem aAf:(List.range 15).all (fun j=>ja (225+j))=true:=kr
theorem awl:(List.range 15).all (fun j=>ja (240+j))=true:=kr
end
end
end Go.Proofs.YtndegphojkiblaaGreatDoor
