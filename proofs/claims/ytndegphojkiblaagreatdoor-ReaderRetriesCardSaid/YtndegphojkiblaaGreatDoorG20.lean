/- A part of the proof. -/
import Derived.Test.YtndegphojkiblaaGreatDoorG19
set_option linter.all false
set_option maxHeartbeats 4000000
set_option maxRecDepth 100000
namespace Go.Proofs.YtndegphojkiblaaGreatDoor
noncomputable section
section
theorem arA:(List.range 15).all (fun j=>jh (0+j))=true:=kr
theorem ahN:(List.range 15).all (fun j=>jh (15+j))=true:=kr
theorem atr:(List.range 15).all (fun j=>jh (30+j))=true:=kr
theorem azq:(List.range 15).all (fun j=>jh (45+j))=true:=kr
theorem asP:(List.range 15).all (fun j=>jh (60+j))=true:=kr
end
end
end Go.Proofs.YtndegphojkiblaaGreatDoor
