/- Towards the last file's theorem: part 48. -/
import Derived.Test.YtndegphojkiblaaGreatDoorRows
import Derived.ProofKit
import Derived.Stop.Joined
set_option linter.all false
set_option maxHeartbeats 4000000
set_option maxRecDepth 100000
namespace Go.Proofs.YtndegphojkiblaaGreatDoor
noncomputable section
section
open Go
theorem q0:(Rows.readerLoadsRow.wf (OpenSpec.ofChange Rows.readerLoadsSpec))=true:=by kernel_rfl
theorem q1:(laidOutB Tryz.prog)=true:=by kernel_rfl
theorem q2:(mapsRowed Tryz.prog)=true:=by kernel_rfl
theorem q3:(Tryz.f4.params.all (Tryz.prog.readableRec ·))=true:=by kernel_rfl
theorem q4:(namedTie Tryz.prog Rows.readerLoadsRow.named Rows.readerLoadsSpec.vars)=true:=by kernel_rfl
theorem q5:((Rows.readerLoadsRow.stops==[]))=true:=by kernel_rfl
theorem q6:((Tryz.prog.stops==[]))=true:=by kernel_rfl
theorem q7:((Rows.readerLoadsRow.knobs==[]))=true:=by kernel_rfl
theorem q8:((Tryz.prog.stopKnobs==[]))=true:=by kernel_rfl
theorem q9:((Rows.readerLoadsRow.inPlace==Tryz.prog.inPlace 4))=true:=by kernel_rfl
theorem GM:((Rows.readerLoadsRow.unfollowed==Tryz.prog.unfollowed 4))=true:=by kernel_rfl
end
end
end Go.Proofs.YtndegphojkiblaaGreatDoor
