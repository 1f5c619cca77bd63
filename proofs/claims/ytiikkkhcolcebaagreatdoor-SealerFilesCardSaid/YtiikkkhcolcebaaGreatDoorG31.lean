/- A part. -/
import Derived.Test.YtiikkkhcolcebaaGreatDoorG30
set_option linter.all false
set_option maxHeartbeats 4000000
set_option maxRecDepth 100000
namespace Go.Proofs.YtiikkkhcolcebaaGreatDoor
noncomputable section
section
open Go
def Vt:((Rows.sealerFilesRow.recurses==Tryz.prog.recurses 6))=true:=by kernel_rfl
def q12:((Rows.sealerFilesRow.named==Tryz.prog.varsNamed 6))=true:=by kernel_rfl
def q13:((Rows.sealerFilesRow.maps==(Tryz.f6.params.toList++Rows.sealerFilesSpec.plain.varTypes Tryz.prog).any (Tryz.prog.mapsRec ·)))=true:=by kernel_rfl
def q14:((Rows.sealerFilesRow.ifaces==(Tryz.f6.params.toList++Rows.sealerFilesSpec.plain.varTypes Tryz.prog).any (Tryz.prog.ifacesRec ·)))=true:=by kernel_rfl
def q15:((Rows.sealerFilesRow.mapsOut==Tryz.prog.mapsAmong Tryz.f6.resultTypes.toList))=true:=by kernel_rfl
def q16:((Rows.sealerFilesRow.loops==(Tryz.f6.params.toList++Rows.sealerFilesSpec.plain.varTypes Tryz.prog).any (Tryz.prog.loopsFrom ·)))=true:=by kernel_rfl
def q17:((Rows.sealerFilesRow.wideKeys==(Tryz.f6.params.toList++Rows.sealerFilesSpec.plain.varTypes Tryz.prog++Tryz.f6.resultTypes.toList).any (Tryz.prog.wideKeysFrom ·)))=true:=by kernel_rfl
def q18:(Rows.sealerFilesSpec.vars.all (Tryz.prog.varReadable ·))=true:=by kernel_rfl
def q19:(Tryz.f6.resultTypes.all (λt=>Tryz.prog.readableRec t&&decide (t<Tryz.prog.types.size)))=true:=by kernel_rfl
def q20:((Rows.sealerFilesRow.ifacesOut==Tryz.f6.resultTypes.toList.any (Tryz.prog.ifacesRec ·)))=true:=by kernel_rfl
def q21:((Rows.sealerFilesRow.loopsOut==Tryz.f6.resultTypes.toList.any (Tryz.prog.loopsFrom ·)))=true:=by kernel_rfl
def q22:((Rows.sealerFilesRow.plainKeys==Tryz.prog.plainKeys))=true:=by kernel_rfl
def q23:(Rows.sealerFilesRow.shortTexts.isNone)=true:=by kernel_rfl
def q24:(Tryz.prog.stopsHeard)=true:=by kernel_rfl
def q25:(Tryz.prog.mayEnter)=true:=by kernel_rfl
def q26:((Rows.sealerFilesRow.lifted==Tryz.prog.liftsFinal))=true:=by kernel_rfl
def q27:((Tryz.prog.make==some Rows.sealerFilesRow.make))=true:=by kernel_rfl
def q28:((Rows.sealerFilesRow.kinds==(if Rows.sealerFilesRow.domain.isEmpty then[]else Tryz.f6.params.toList.map λt=>match Tryz.prog.underlying t with|some (.int k)=>some k|_=>none)))=true:=by kernel_rfl
def q29:((Rows.sealerFilesRow.pinned==Rows.sealerFilesRow.pinnedBy))=true:=by kernel_rfl
def q30:((Rows.sealerFilesRow.veiled==(Tryz.f6.params.toList++Rows.sealerFilesSpec.plain.varTypes Tryz.prog++Tryz.f6.resultTypes.toList).any (Tryz.prog.veiledRec ·)))=true:=by kernel_rfl
def q31:(Rows.sealerFilesRow.veiledFits Tryz.prog Tryz.f6.params.toList (Tryz.f6.params.toList++Rows.sealerFilesSpec.plain.varTypes Tryz.prog++Tryz.f6.resultTypes.toList))=true:=by kernel_rfl
def jf:joinedFacts Tryz.prog 6 Tryz.f6 Rows.sealerFilesSpec Rows.sealerFilesRow=true:=by
 unfold joinedFacts;simp only[Bool.and_eq_true];exact⟨⟨⟨⟨⟨⟨⟨⟨⟨⟨⟨⟨⟨⟨⟨⟨⟨⟨⟨⟨⟨⟨⟨⟨⟨⟨⟨⟨⟨⟨⟨q0,q1⟩,q2⟩,q3⟩,q4⟩,q5⟩,q6⟩,q7⟩,q8⟩,q9⟩,BK⟩,Vt⟩,q12⟩,q13⟩,q14⟩,q15⟩,q16⟩,q17⟩,q18⟩,q19⟩,q20⟩,q21⟩,q22⟩,q23⟩,q24⟩,q25⟩,q26⟩,q27⟩,q28⟩,q29⟩,q30⟩,q31⟩
end
end
end Go.Proofs.YtiikkkhcolcebaaGreatDoor
