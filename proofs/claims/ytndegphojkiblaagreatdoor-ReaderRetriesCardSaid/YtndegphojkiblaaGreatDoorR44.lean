/- A part of the proof. -/
import Derived.Test.YtndegphojkiblaaGreatDoorRows
import Derived.ProofKit
import Derived.Stop.Joined
set_option linter.all false
set_option maxHeartbeats 4000000
set_option maxRecDepth 100000
namespace Go.Proofs.YtndegphojkiblaaGreatDoor
noncomputable section
section
open Go
theorem q0:(Rows.readerRetriesRow.wf (OpenSpec.ofChange Rows.readerRetriesSpec))=true:=by kernel_rfl
theorem q1:(laidOutB Tryz.prog)=true:=by kernel_rfl
theorem q2:(mapsRowed Tryz.prog)=true:=by kernel_rfl
theorem q3:(Tryz.f6.params.all (Tryz.prog.readableRec ·))=true:=by kernel_rfl
theorem q4:(namedTie Tryz.prog Rows.readerRetriesRow.named Rows.readerRetriesSpec.vars)=true:=by kernel_rfl
theorem q5:((Rows.readerRetriesRow.stops==[]))=true:=by kernel_rfl
theorem q6:((Tryz.prog.stops==[]))=true:=by kernel_rfl
theorem q7:((Rows.readerRetriesRow.knobs==[]))=true:=by kernel_rfl
theorem q8:((Tryz.prog.stopKnobs==[]))=true:=by kernel_rfl
theorem q9:((Rows.readerRetriesRow.inPlace==Tryz.prog.inPlace 6))=true:=by kernel_rfl
theorem Mo:((Rows.readerRetriesRow.unfollowed==Tryz.prog.unfollowed 6))=true:=by kernel_rfl
end
end
end Go.Proofs.YtndegphojkiblaaGreatDoor
