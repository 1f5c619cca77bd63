/- A part. -/
import Derived.Test.YtndegphojkiblaaGreatDoorRows
import Derived.ProofKit
import Derived.Stop.Joined
set_option linter.all false
set_option maxHeartbeats 4000000
set_option maxRecDepth 100000
namespace Go.Proofs.YtndegphojkiblaaGreatDoor
noncomputable section
section
open Go
theorem q0:(Rows.readerStepsRow.wf (OpenSpec.ofChange Rows.readerStepsSpec))=true:=by kernel_rfl
theorem q1:(laidOutB Tryz.prog)=true:=by kernel_rfl
theorem q2:(mapsRowed Tryz.prog)=true:=by kernel_rfl
theorem q3:(Tryz.f3.params.all (Tryz.prog.readableRec ·))=true:=by kernel_rfl
theorem q4:(namedTie Tryz.prog Rows.readerStepsRow.named Rows.readerStepsSpec.vars)=true:=by kernel_rfl
theorem q5:((Rows.readerStepsRow.stops==[]))=true:=by kernel_rfl
theorem q6:((Tryz.prog.stops==[]))=true:=by kernel_rfl
theorem q7:((Rows.readerStepsRow.knobs==[]))=true:=by kernel_rfl
theorem q8:((Tryz.prog.stopKnobs==[]))=true:=by kernel_rfl
theorem q9:((Rows.readerStepsRow.inPlace==Tryz.prog.inPlace 3))=true:=by kernel_rfl
theorem BO:((Rows.readerStepsRow.unfollowed==Tryz.prog.unfollowed 3))=true:=by kernel_rfl
end
end
end Go.Proofs.YtndegphojkiblaaGreatDoor
