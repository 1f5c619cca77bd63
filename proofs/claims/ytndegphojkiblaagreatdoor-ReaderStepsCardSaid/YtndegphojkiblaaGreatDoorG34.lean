/- A part. -/
import Derived.Test.YtndegphojkiblaaGreatDoorG28
set_option linter.all false
set_option maxHeartbeats 4000000
set_option maxRecDepth 100000
namespace Go.Proofs.YtndegphojkiblaaGreatDoor
noncomputable section
section
open Go.RowKit AI
theorem mP3:mP [0,1,3,4]=true:=kr
theorem mM3:mM [0,1,3,4]=true:=kr
theorem mR3:mR [0,1,3,4]=true:=kr
theorem mP8:mP [0,2,4,5]=true:=kr
theorem mM8:mM [0,2,4,5]=true:=kr
theorem mR8:mR [0,2,4,5]=true:=kr
theorem aoq:mP [1,3,4,5]=true:=kr
theorem agR:mM [1,3,4,5]=true:=kr
theorem aru:mR [1,3,4,5]=true:=kr
end
end
end Go.Proofs.YtndegphojkiblaaGreatDoor
