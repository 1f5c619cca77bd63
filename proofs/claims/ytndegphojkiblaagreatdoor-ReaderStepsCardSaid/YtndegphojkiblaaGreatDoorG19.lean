/- A part. -/
import Derived.Test.YtndegphojkiblaaGreatDoorG17
set_option linter.all false
set_option maxHeartbeats 4000000
set_option maxRecDepth 100000
namespace Go.Proofs.YtndegphojkiblaaGreatDoor
noncomputable section
section
theorem akW:(List.range 15).all (λj=>iZ (75+j))=true:=kr
theorem aql:(List.range 15).all (λj=>iZ (90+j))=true:=kr
theorem amw:(List.range 15).all (λj=>iZ (105+j))=true:=kr
theorem afR:(List.range 15).all (λj=>iZ (120+j))=true:=kr
theorem akr:(List.range 15).all (λj=>iZ (135+j))=true:=kr
end
end
end Go.Proofs.YtndegphojkiblaaGreatDoor
