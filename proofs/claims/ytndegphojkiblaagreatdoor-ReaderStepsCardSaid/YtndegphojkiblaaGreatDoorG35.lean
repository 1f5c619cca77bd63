/- A part. -/
import Derived.Test.YtndegphojkiblaaGreatDoorG28
set_option linter.all false
set_option maxHeartbeats 4000000
set_option maxRecDepth 100000
namespace Go.Proofs.YtndegphojkiblaaGreatDoor
noncomputable section
section
open Go.RowKit AI
theorem mP4:mP [0,1,3,5]=true:=kr
theorem mM4:mM [0,1,3,5]=true:=kr
theorem mR4:mR [0,1,3,5]=true:=kr
theorem mP9:mP [0,3,4,5]=true:=kr
theorem mM9:mM [0,3,4,5]=true:=kr
theorem mR9:mR [0,3,4,5]=true:=kr
theorem apX:mP [2,3,4,5]=true:=kr
theorem aeP:mM [2,3,4,5]=true:=kr
theorem asm:mR [2,3,4,5]=true:=kr
end
end
end Go.Proofs.YtndegphojkiblaaGreatDoor
