/- A part of the proof. -/
import Derived.Test.YtndegphojkiblaaGreatDoorG19
set_option linter.all false
set_option maxHeartbeats 4000000
set_option maxRecDepth 100000
namespace Go.Proofs.YtndegphojkiblaaGreatDoor
noncomputable section
section
theorem azc:(List.range 15).all (fun j=>jh (75+j))=true:=kr
theorem atw:(List.range 15).all (fun j=>jh (90+j))=true:=kr
theorem ada:(List.range 15).all (fun j=>jh (105+j))=true:=kr
theorem ako:(List.range 15).all (fun j=>jh (120+j))=true:=kr
theorem aAY:(List.range 15).all (fun j=>jh (135+j))=true:=kr
end
end
end Go.Proofs.YtndegphojkiblaaGreatDoor
