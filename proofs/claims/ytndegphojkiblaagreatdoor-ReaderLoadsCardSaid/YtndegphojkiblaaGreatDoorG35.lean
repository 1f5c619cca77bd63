/- Towards the last file's theorem: part 35. -/
import Derived.Test.YtndegphojkiblaaGreatDoorG30
set_option linter.all false
set_option maxHeartbeats 4000000
set_option maxRecDepth 100000
namespace Go.Proofs.YtndegphojkiblaaGreatDoor
noncomputable section
section
open Go.RowKit AI
theorem mP3:mP [0,1,3,4]=true:=kr
theorem mM3:mM [0,1,3,4]=true:=kr
theorem mR3:mR [0,1,3,4]=true:=kr
theorem mP8:mP [0,2,4,5]=true:=kr
theorem mM8:mM [0,2,4,5]=true:=kr
theorem mR8:mR [0,2,4,5]=true:=kr
theorem azR:mP [1,3,4,5]=true:=kr
theorem ayJ:mM [1,3,4,5]=true:=kr
theorem aAa:mR [1,3,4,5]=true:=kr
end
end
end Go.Proofs.YtndegphojkiblaaGreatDoor
