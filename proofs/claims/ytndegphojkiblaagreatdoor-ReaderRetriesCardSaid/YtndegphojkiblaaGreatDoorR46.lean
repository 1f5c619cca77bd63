/- A part of the proof. -/
import Derived.Test.YtndegphojkiblaaGreatDoorRows
import Derived.Test.YtndegphojkiblaaGreatDoorCards
import Derived.SevenTiedAt
set_option linter.all false
set_option maxHeartbeats 4000000
set_option maxRecDepth 100000
namespace Go.Proofs.YtndegphojkiblaaGreatDoor
noncomputable section
section
open Go
theorem cf1:Rows.readerRetriesRow.wfByText (OpenSpec.ofChange Rows.readerRetriesSpec)=true:=by kernel_rfl
theorem cf2:Tryz.pinned.checked.prog.mainIs=some (true,"ff57f10f30252dff01a77dd786d775009cfab12924bd5d2e0fd5d23442b19ba1".toList):=by kernel_rfl
theorem cf3:false=Tryz.pinned.checked.prog.looks []:=by kernel_rfl
theorem cf4:([30,22].all fun u=> !Tryz.prog.wantsStandIn u)=true:=by kernel_rfl
theorem cf5:false=Rows.readerRetriesRow.goesBy Tryz.pinned.checked.prog:=by kernel_rfl
theorem UA:Tryz.prog.funcNamed "needlestore/needlestorelaw19.ReaderRetries" =some 6:=by kernel_rfl
end
end
end Go.Proofs.YtndegphojkiblaaGreatDoor
