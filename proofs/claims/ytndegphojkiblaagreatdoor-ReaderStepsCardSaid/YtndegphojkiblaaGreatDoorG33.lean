/- A part. -/
import Derived.Test.YtndegphojkiblaaGreatDoorG28
set_option linter.all false
set_option maxHeartbeats 4000000
set_option maxRecDepth 100000
namespace Go.Proofs.YtndegphojkiblaaGreatDoor
noncomputable section
section
open Go.RowKit AI
theorem mP2:mP [0,1,2,5]=true:=kr
theorem mM2:mM [0,1,2,5]=true:=kr
theorem mR2:mR [0,1,2,5]=true:=kr
theorem mP7:mP [0,2,3,5]=true:=kr
theorem mM7:mM [0,2,3,5]=true:=kr
theorem mR7:mR [0,2,3,5]=true:=kr
theorem apT:mP [1,2,4,5]=true:=kr
theorem aoC:mM [1,2,4,5]=true:=kr
theorem arN:mR [1,2,4,5]=true:=kr
end
end
end Go.Proofs.YtndegphojkiblaaGreatDoor
