/- Towards the last file's theorem: part 18. -/
import Derived.Test.YtndegphojkiblaaGreatDoorG16
set_option linter.all false
set_option maxHeartbeats 4000000
set_option maxRecDepth 100000
namespace Go.Proofs.YtndegphojkiblaaGreatDoor
noncomputable section
section
theorem awN:(List.range 15).all (fun j=>ja (75+j))=true:=kr
theorem ayN:(List.range 15).all (fun j=>ja (90+j))=true:=kr
theorem apU:(List.range 15).all (fun j=>ja (105+j))=true:=kr
theorem arR:(List.range 15).all (fun j=>ja (120+j))=true:=kr
theorem aka:(List.range 15).all (fun j=>ja (135+j))=true:=kr
end
end
end Go.Proofs.YtndegphojkiblaaGreatDoor
