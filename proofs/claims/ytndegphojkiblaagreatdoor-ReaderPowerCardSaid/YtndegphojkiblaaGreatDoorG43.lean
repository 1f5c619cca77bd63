/- Towards the last file's theorem: part 43. -/
import Derived.Test.YtndegphojkiblaaGreatDoorG42
import Derived.Test.YtndegphojkiblaaGreatDoorRows
import Derived.Test.YtndegphojkiblaaGreatDoorCards
import Derived.SevenTiedAt
set_option linter.unusedSimpArgs false
set_option linter.unusedVariables false
set_option maxHeartbeats 4000000
namespace Go.Proofs.YtndegphojkiblaaGreatDoor
section
set_option maxHeartbeats 4000000
set_option maxRecDepth 100000
open Go
theorem cf1 : Rows.readerPowerRow.wfByText (OpenSpec.ofChange Rows.readerPowerSpec) = true := by kernel_rfl
theorem cf2 : Tryz.pinned.checked.prog.mainIs = some (true,"ff57f10f30252dff01a77dd786d775009cfab12924bd5d2e0fd5d23442b19ba1".toList) := by kernel_rfl
theorem cf3 : false = Tryz.pinned.checked.prog.looks [] := by kernel_rfl
theorem cf4 : ([30,22].all fun u => !Tryz.prog.wantsStandIn u) = true := by kernel_rfl
theorem cf5 : false = Rows.readerPowerRow.goesBy Tryz.pinned.checked.prog := by kernel_rfl
theorem cf6 : Tryz.prog.funcNamed "needlestore/needlestorelaw19.ReaderPower" = some 7 := by kernel_rfl
end
end Go.Proofs.YtndegphojkiblaaGreatDoor
