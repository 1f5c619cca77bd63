/- A part. -/
import Derived.Test.YtndegphojkiblaaGreatDoorG28
set_option linter.all false
set_option maxHeartbeats 4000000
set_option maxRecDepth 100000
namespace Go.Proofs.YtndegphojkiblaaGreatDoor
noncomputable section
section
open Go.RowKit AI
theorem mP0:mP [0,1,2,3]=true:=kr
theorem mM0:mM [0,1,2,3]=true:=kr
theorem mR0:mR [0,1,2,3]=true:=kr
theorem mP5:mP [0,1,4,5]=true:=kr
theorem mM5:mM [0,1,4,5]=true:=kr
theorem mR5:mR [0,1,4,5]=true:=kr
theorem avw:mP [1,2,3,4]=true:=kr
theorem auR:mM [1,2,3,4]=true:=kr
theorem ahs:mR [1,2,3,4]=true:=kr
end
end
end Go.Proofs.YtndegphojkiblaaGreatDoor
