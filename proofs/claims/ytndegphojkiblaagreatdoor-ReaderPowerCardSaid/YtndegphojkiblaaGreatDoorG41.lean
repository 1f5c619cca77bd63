/- Towards the last file's theorem: part 41. -/
import Derived.Test.YtndegphojkiblaaGreatDoorG40
import Derived.Test.YtndegphojkiblaaGreatDoorRows
import Derived.ProofKit
import Derived.Stop.Joined
set_option linter.unusedSimpArgs false
set_option linter.unusedVariables false
set_option maxHeartbeats 4000000
namespace Go.Proofs.YtndegphojkiblaaGreatDoor
section
set_option maxHeartbeats 4000000
set_option maxRecDepth 100000
open Go
theorem q0 : (Rows.readerPowerRow.wf (OpenSpec.ofChange Rows.readerPowerSpec)) = true := by kernel_rfl
theorem q1 : (laidOutB Tryz.prog) = true := by kernel_rfl
theorem q2 : (mapsRowed Tryz.prog) = true := by kernel_rfl
theorem q3 : (Tryz.f7.params.all (Tryz.prog.readableRec ·)) = true := by kernel_rfl
theorem q4 : (namedTie Tryz.prog Rows.readerPowerRow.named Rows.readerPowerSpec.vars) = true := by kernel_rfl
theorem q5 : ((Rows.readerPowerRow.stops == [])) = true := by kernel_rfl
theorem q6 : ((Tryz.prog.stops == [])) = true := by kernel_rfl
theorem q7 : ((Rows.readerPowerRow.knobs == [])) = true := by kernel_rfl
theorem q8 : ((Tryz.prog.stopKnobs == [])) = true := by kernel_rfl
theorem q9 : ((Rows.readerPowerRow.inPlace == Tryz.prog.inPlace 7)) = true := by kernel_rfl
theorem q10 : ((Rows.readerPowerRow.unfollowed == Tryz.prog.unfollowed 7)) = true := by kernel_rfl
end
end Go.Proofs.YtndegphojkiblaaGreatDoor
