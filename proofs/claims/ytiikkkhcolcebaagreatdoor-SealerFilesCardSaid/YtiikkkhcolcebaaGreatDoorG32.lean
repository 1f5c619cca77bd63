/- A part. -/
import Derived.Test.YtiikkkhcolcebaaGreatDoorRows
import Derived.Test.YtiikkkhcolcebaaGreatDoorCards
import Derived.SevenTiedAt
set_option linter.all false
set_option maxHeartbeats 4000000
set_option maxRecDepth 100000
namespace Go.Proofs.YtiikkkhcolcebaaGreatDoor
noncomputable section
section
open Go
def cf1:Rows.sealerFilesRow.wfByText (OpenSpec.ofChange Rows.sealerFilesSpec)=true:=by kernel_rfl
def cf2:Tryz.pinned.checked.prog.mainIs=some (true,"adc5aa8322c32e5d19e832edafde222addf964dd640a0c62afc5a1b0a3ba6fe5".toList):=by kernel_rfl
def cf3:false=Tryz.pinned.checked.prog.looks []:=by kernel_rfl
def cf4:([32,33].all λu=> !Tryz.prog.wantsStandIn u)=true:=by kernel_rfl
def cf5:false=Rows.sealerFilesRow.goesBy Tryz.pinned.checked.prog:=by kernel_rfl
def VE:Tryz.prog.funcNamed "needlestore/needlestorelaw21.SealerFiles" =some 6:=by kernel_rfl
end
end
end Go.Proofs.YtiikkkhcolcebaaGreatDoor
