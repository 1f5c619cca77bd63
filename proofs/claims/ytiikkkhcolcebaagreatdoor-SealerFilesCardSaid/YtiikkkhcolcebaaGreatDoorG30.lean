/- A part. -/
import Derived.Test.YtiikkkhcolcebaaGreatDoorRows
import Derived.ProofKit
import Derived.Stop.Joined
set_option linter.all false
set_option maxHeartbeats 4000000
set_option maxRecDepth 100000
namespace Go.Proofs.YtiikkkhcolcebaaGreatDoor
noncomputable section
section
open Go
def q0:(Rows.sealerFilesRow.wf (OpenSpec.ofChange Rows.sealerFilesSpec))=true:=by kernel_rfl
def q1:(laidOutB Tryz.prog)=true:=by kernel_rfl
def q2:(mapsRowed Tryz.prog)=true:=by kernel_rfl
def q3:(Tryz.f6.params.all (Tryz.prog.readableRec ·))=true:=by kernel_rfl
def q4:(namedTie Tryz.prog Rows.sealerFilesRow.named Rows.sealerFilesSpec.vars)=true:=by kernel_rfl
def q5:((Rows.sealerFilesRow.stops==[]))=true:=by kernel_rfl
def q6:((Tryz.prog.stops==[]))=true:=by kernel_rfl
def q7:((Rows.sealerFilesRow.knobs==[]))=true:=by kernel_rfl
def q8:((Tryz.prog.stopKnobs==[]))=true:=by kernel_rfl
def q9:((Rows.sealerFilesRow.inPlace==Tryz.prog.inPlace 6))=true:=by kernel_rfl
def BK:((Rows.sealerFilesRow.unfollowed==Tryz.prog.unfollowed 6))=true:=by kernel_rfl
end
end
end Go.Proofs.YtiikkkhcolcebaaGreatDoor
