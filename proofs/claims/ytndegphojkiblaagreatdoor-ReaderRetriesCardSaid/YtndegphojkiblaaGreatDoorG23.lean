/- A part of the proof. -/
import Derived.Test.YtndegphojkiblaaGreatDoorG19
set_option linter.all false
set_option maxHeartbeats 4000000
set_option maxRecDepth 100000
namespace Go.Proofs.YtndegphojkiblaaGreatDoor
noncomputable section
section
theorem azQ:(List.range 15).all (fun j=>jh (225+j))=true:=kr
theorem axM:(List.range 15).all (fun j=>jh (240+j))=true:=kr
end
end
end Go.Proofs.YtndegphojkiblaaGreatDoor
