/- A part. -/
import Derived.Test.YtndegphojkiblaaGreatDoorG28
set_option linter.all false
set_option maxHeartbeats 4000000
set_option maxRecDepth 100000
namespace Go.Proofs.YtndegphojkiblaaGreatDoor
noncomputable section
section
open Go.RowKit AI
theorem mP1:mP [0,1,2,4]=true:=kr
theorem mM1:mM [0,1,2,4]=true:=kr
theorem mR1:mR [0,1,2,4]=true:=kr
theorem mP6:mP [0,2,3,4]=true:=kr
theorem mM6:mM [0,2,3,4]=true:=kr
theorem mR6:mR [0,2,3,4]=true:=kr
theorem avH:mP [1,2,3,5]=true:=kr
theorem alD:mM [1,2,3,5]=true:=kr
theorem aou:mR [1,2,3,5]=true:=kr
end
end
end Go.Proofs.YtndegphojkiblaaGreatDoor
