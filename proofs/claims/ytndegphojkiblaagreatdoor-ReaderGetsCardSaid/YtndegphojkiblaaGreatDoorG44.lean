/- A part of the proof. -/
import Derived.Test.YtndegphojkiblaaGreatDoorRows
import Derived.ProofKit
import Derived.Stop.Joined
set_option linter.all false
set_option maxHeartbeats 4000000
set_option maxRecDepth 100000
namespace Go.Proofs.YtndegphojkiblaaGreatDoor
noncomputable section
section
open Go
theorem q0:(Rows.readerGetsRow.wf (OpenSpec.ofChange Rows.readerGetsSpec))=true:=by kernel_rfl
theorem q1:(laidOutB Tryz.prog)=true:=by kernel_rfl
theorem q2:(mapsRowed Tryz.prog)=true:=by kernel_rfl
theorem q3:(Tryz.f5.params.all (Tryz.prog.readableRec ·))=true:=by kernel_rfl
theorem q4:(namedTie Tryz.prog Rows.readerGetsRow.named Rows.readerGetsSpec.vars)=true:=by kernel_rfl
theorem q5:((Rows.readerGetsRow.stops==[]))=true:=by kernel_rfl
theorem q6:((Tryz.prog.stops==[]))=true:=by kernel_rfl
theorem q7:((Rows.readerGetsRow.knobs==[]))=true:=by kernel_rfl
theorem q8:((Tryz.prog.stopKnobs==[]))=true:=by kernel_rfl
theorem q9:((Rows.readerGetsRow.inPlace==Tryz.prog.inPlace 5))=true:=by kernel_rfl
theorem Mo:((Rows.readerGetsRow.unfollowed==Tryz.prog.unfollowed 5))=true:=by kernel_rfl
end
end
end Go.Proofs.YtndegphojkiblaaGreatDoor
