/- A part of the proof. -/
import Derived.Test.YtndegphojkiblaaGreatDoorG19
set_option linter.all false
set_option maxHeartbeats 4000000
set_option maxRecDepth 100000
namespace Go.Proofs.YtndegphojkiblaaGreatDoor
noncomputable section
section
theorem acr:(List.range 15).all (fun j=>jh (150+j))=true:=kr
theorem aqc:(List.range 15).all (fun j=>jh (165+j))=true:=kr
theorem aoN:(List.range 15).all (fun j=>jh (180+j))=true:=kr
theorem adj:(List.range 15).all (fun j=>jh (195+j))=true:=kr
theorem adF:(List.range 15).all (fun j=>jh (210+j))=true:=kr
end
end
end Go.Proofs.YtndegphojkiblaaGreatDoor
