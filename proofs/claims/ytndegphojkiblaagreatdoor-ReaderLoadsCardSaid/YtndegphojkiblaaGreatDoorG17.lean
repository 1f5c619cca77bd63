/- Towards the last file's theorem: part 17. -/
import Derived.Test.YtndegphojkiblaaGreatDoorG16
set_option linter.all false
set_option maxHeartbeats 4000000
set_option maxRecDepth 100000
namespace Go.Proofs.YtndegphojkiblaaGreatDoor
noncomputable section
section
theorem ave:(List.range 15).all (fun j=>ja (0+j))=true:=kr
theorem azw:(List.range 15).all (fun j=>ja (15+j))=true:=kr
theorem aqY:(List.range 15).all (fun j=>ja (30+j))=true:=kr
theorem aop:(List.range 15).all (fun j=>ja (45+j))=true:=kr
theorem aDR:(List.range 15).all (fun j=>ja (60+j))=true:=kr
end
end
end Go.Proofs.YtndegphojkiblaaGreatDoor
