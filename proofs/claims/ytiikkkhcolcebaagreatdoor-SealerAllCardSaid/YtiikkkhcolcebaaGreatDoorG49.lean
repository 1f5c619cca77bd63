/- A part. -/
import Derived.Test.YtiikkkhcolcebaaGreatDoorG48
set_option linter.all false
set_option maxHeartbeats 4000000
set_option maxRecDepth 100000
namespace Go.Proofs.YtiikkkhcolcebaaGreatDoor
noncomputable section
section
open Go
theorem Te:((Rows.sealerAllRow.recurses==Tryz.prog.recurses 5))=true:=by kernel_rfl
theorem q12:((Rows.sealerAllRow.named==Tryz.prog.varsNamed 5))=true:=by kernel_rfl
theorem q13:((Rows.sealerAllRow.maps==(Tryz.f5.params.toList++Rows.sealerAllSpec.plain.varTypes Tryz.prog).any (Tryz.prog.mapsRec ·)))=true:=by kernel_rfl
theorem q14:((Rows.sealerAllRow.ifaces==(Tryz.f5.params.toList++Rows.sealerAllSpec.plain.varTypes Tryz.prog).any (Tryz.prog.ifacesRec ·)))=true:=by kernel_rfl
theorem q15:((Rows.sealerAllRow.mapsOut==Tryz.prog.mapsAmong Tryz.f5.resultTypes.toList))=true:=by kernel_rfl
theorem q16:((Rows.sealerAllRow.loops==(Tryz.f5.params.toList++Rows.sealerAllSpec.plain.varTypes Tryz.prog).any (Tryz.prog.loopsFrom ·)))=true:=by kernel_rfl
theorem q17:((Rows.sealerAllRow.wideKeys==(Tryz.f5.params.toList++Rows.sealerAllSpec.plain.varTypes Tryz.prog++Tryz.f5.resultTypes.toList).any (Tryz.prog.wideKeysFrom ·)))=true:=by kernel_rfl
theorem q18:(Rows.sealerAllSpec.vars.all (Tryz.prog.varReadable ·))=true:=by kernel_rfl
theorem q19:(Tryz.f5.resultTypes.all (λt=>Tryz.prog.readableRec t&&decide (t<Tryz.prog.types.size)))=true:=by kernel_rfl
theorem q20:((Rows.sealerAllRow.ifacesOut==Tryz.f5.resultTypes.toList.any (Tryz.prog.ifacesRec ·)))=true:=by kernel_rfl
theorem q21:((Rows.sealerAllRow.loopsOut==Tryz.f5.resultTypes.toList.any (Tryz.prog.loopsFrom ·)))=true:=by kernel_rfl
theorem q22:((Rows.sealerAllRow.plainKeys==Tryz.prog.plainKeys))=true:=by kernel_rfl
theorem q23:(Rows.sealerAllRow.shortTexts.isNone)=true:=by kernel_rfl
theorem q24:(Tryz.prog.stopsHeard)=true:=by kernel_rfl
theorem q25:(Tryz.prog.mayEnter)=true:=by kernel_rfl
theorem q26:((Rows.sealerAllRow.lifted==Tryz.prog.liftsFinal))=true:=by kernel_rfl
theorem q27:((Tryz.prog.make==some Rows.sealerAllRow.make))=true:=by kernel_rfl
theorem q28:((Rows.sealerAllRow.kinds==(if Rows.sealerAllRow.domain.isEmpty then[]else Tryz.f5.params.toList.map λt=>match Tryz.prog.underlying t with|some (.int k)=>some k|_=>none)))=true:=by kernel_rfl
theorem q29:((Rows.sealerAllRow.pinned==Rows.sealerAllRow.pinnedBy))=true:=by kernel_rfl
theorem q30:((Rows.sealerAllRow.veiled==(Tryz.f5.params.toList++Rows.sealerAllSpec.plain.varTypes Tryz.prog++Tryz.f5.resultTypes.toList).any (Tryz.prog.veiledRec ·)))=true:=by kernel_rfl
theorem q31:(Rows.sealerAllRow.veiledFits Tryz.prog Tryz.f5.params.toList (Tryz.f5.params.toList++Rows.sealerAllSpec.plain.varTypes Tryz.prog++Tryz.f5.resultTypes.toList))=true:=by kernel_rfl
theorem jf:joinedFacts Tryz.prog 5 Tryz.f5 Rows.sealerAllSpec Rows.sealerAllRow=true:=by
 unfold joinedFacts;simp only[Bool.and_eq_true];exact⟨⟨⟨⟨⟨⟨⟨⟨⟨⟨⟨⟨⟨⟨⟨⟨⟨⟨⟨⟨⟨⟨⟨⟨⟨⟨⟨⟨⟨⟨⟨q0,q1⟩,q2⟩,q3⟩,q4⟩,q5⟩,q6⟩,q7⟩,q8⟩,q9⟩,z7⟩,Te⟩,q12⟩,q13⟩,q14⟩,q15⟩,q16⟩,q17⟩,q18⟩,q19⟩,q20⟩,q21⟩,q22⟩,q23⟩,q24⟩,q25⟩,q26⟩,q27⟩,q28⟩,q29⟩,q30⟩,q31⟩
end
end
end Go.Proofs.YtiikkkhcolcebaaGreatDoor
