/- A part. -/
import Derived.Test.YtiikkkhcolcebaaGreatDoorRows
import Derived.Test.YtiikkkhcolcebaaGreatDoorCards
import Derived.SevenTiedAt
set_option linter.all false
set_option maxHeartbeats 4000000
set_option maxRecDepth 100000
namespace Go.Proofs.YtiikkkhcolcebaaGreatDoor
noncomputable section
section
open Go
theorem cf1:Rows.sealerAllRow.wfByText (OpenSpec.ofChange Rows.sealerAllSpec)=true:=by kernel_rfl
theorem cf2:Tryz.pinned.checked.prog.mainIs=some (true,"adc5aa8322c32e5d19e832edafde222addf964dd640a0c62afc5a1b0a3ba6fe5".toList):=by kernel_rfl
theorem cf3:false=Tryz.pinned.checked.prog.looks []:=by kernel_rfl
theorem cf4:([32,33].all λu=> !Tryz.prog.wantsStandIn u)=true:=by kernel_rfl
theorem cf5:false=Rows.sealerAllRow.goesBy Tryz.pinned.checked.prog:=by kernel_rfl
theorem Tp:Tryz.prog.funcNamed "needlestore/needlestorelaw21.SealerAll" =some 5:=by kernel_rfl
end
end
end Go.Proofs.YtiikkkhcolcebaaGreatDoor
