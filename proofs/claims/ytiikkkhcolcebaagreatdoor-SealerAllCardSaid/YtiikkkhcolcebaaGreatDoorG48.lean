/- A part. -/
import Derived.Test.YtiikkkhcolcebaaGreatDoorRows
import Derived.ProofKit
import Derived.Stop.Joined
set_option linter.all false
set_option maxHeartbeats 4000000
set_option maxRecDepth 100000
namespace Go.Proofs.YtiikkkhcolcebaaGreatDoor
noncomputable section
section
open Go
theorem q0:(Rows.sealerAllRow.wf (OpenSpec.ofChange Rows.sealerAllSpec))=true:=by kernel_rfl
theorem q1:(laidOutB Tryz.prog)=true:=by kernel_rfl
theorem q2:(mapsRowed Tryz.prog)=true:=by kernel_rfl
theorem q3:(Tryz.f5.params.all (Tryz.prog.readableRec ·))=true:=by kernel_rfl
theorem q4:(namedTie Tryz.prog Rows.sealerAllRow.named Rows.sealerAllSpec.vars)=true:=by kernel_rfl
theorem q5:((Rows.sealerAllRow.stops==[]))=true:=by kernel_rfl
theorem q6:((Tryz.prog.stops==[]))=true:=by kernel_rfl
theorem q7:((Rows.sealerAllRow.knobs==[]))=true:=by kernel_rfl
theorem q8:((Tryz.prog.stopKnobs==[]))=true:=by kernel_rfl
theorem q9:((Rows.sealerAllRow.inPlace==Tryz.prog.inPlace 5))=true:=by kernel_rfl
theorem z7:((Rows.sealerAllRow.unfollowed==Tryz.prog.unfollowed 5))=true:=by kernel_rfl
end
end
end Go.Proofs.YtiikkkhcolcebaaGreatDoor
