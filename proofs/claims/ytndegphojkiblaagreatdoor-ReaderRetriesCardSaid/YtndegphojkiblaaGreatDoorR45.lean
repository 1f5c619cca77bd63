/- A part of the proof. -/
import Derived.Test.YtndegphojkiblaaGreatDoorR44
set_option linter.all false
set_option maxHeartbeats 4000000
set_option maxRecDepth 100000
namespace Go.Proofs.YtndegphojkiblaaGreatDoor
noncomputable section
section
open Go
theorem q11:((Rows.readerRetriesRow.recurses==Tryz.prog.recurses 6))=true:=by kernel_rfl
theorem q12:((Rows.readerRetriesRow.named==Tryz.prog.varsNamed 6))=true:=by kernel_rfl
theorem q13:((Rows.readerRetriesRow.maps==(Tryz.f6.params.toList++Rows.readerRetriesSpec.plain.varTypes Tryz.prog).any (Tryz.prog.mapsRec ·)))=true:=by kernel_rfl
theorem q14:((Rows.readerRetriesRow.ifaces==(Tryz.f6.params.toList++Rows.readerRetriesSpec.plain.varTypes Tryz.prog).any (Tryz.prog.ifacesRec ·)))=true:=by kernel_rfl
theorem q15:((Rows.readerRetriesRow.mapsOut==Tryz.prog.mapsAmong Tryz.f6.resultTypes.toList))=true:=by kernel_rfl
theorem q16:((Rows.readerRetriesRow.loops==(Tryz.f6.params.toList++Rows.readerRetriesSpec.plain.varTypes Tryz.prog).any (Tryz.prog.loopsFrom ·)))=true:=by kernel_rfl
theorem q17:((Rows.readerRetriesRow.wideKeys==(Tryz.f6.params.toList++Rows.readerRetriesSpec.plain.varTypes Tryz.prog++Tryz.f6.resultTypes.toList).any (Tryz.prog.wideKeysFrom ·)))=true:=by kernel_rfl
theorem q18:(Rows.readerRetriesSpec.vars.all (Tryz.prog.varReadable ·))=true:=by kernel_rfl
theorem q19:(Tryz.f6.resultTypes.all (fun t=>Tryz.prog.readableRec t&&decide (t<Tryz.prog.types.size)))=true:=by kernel_rfl
theorem q20:((Rows.readerRetriesRow.ifacesOut==Tryz.f6.resultTypes.toList.any (Tryz.prog.ifacesRec ·)))=true:=by kernel_rfl
theorem q21:((Rows.readerRetriesRow.loopsOut==Tryz.f6.resultTypes.toList.any (Tryz.prog.loopsFrom ·)))=true:=by kernel_rfl
theorem q22:((Rows.readerRetriesRow.plainKeys==Tryz.prog.plainKeys))=true:=by kernel_rfl
theorem q23:(Rows.readerRetriesRow.shortTexts.isNone)=true:=by kernel_rfl
theorem q24:(Tryz.prog.stopsHeard)=true:=by kernel_rfl
theorem q25:(Tryz.prog.mayEnter)=true:=by kernel_rfl
theorem q26:((Rows.readerRetriesRow.lifted==Tryz.prog.liftsFinal))=true:=by kernel_rfl
theorem q27:((Tryz.prog.make==some Rows.readerRetriesRow.make))=true:=by kernel_rfl
theorem q28:((Rows.readerRetriesRow.kinds==(if Rows.readerRetriesRow.domain.isEmpty then[]else Tryz.f6.params.toList.map fun t=>match Tryz.prog.underlying t with|some (.int k)=>some k|_=>none)))=true:=by kernel_rfl
theorem q29:((Rows.readerRetriesRow.pinned==Rows.readerRetriesRow.pinnedBy))=true:=by kernel_rfl
theorem q30:((Rows.readerRetriesRow.veiled==(Tryz.f6.params.toList++Rows.readerRetriesSpec.plain.varTypes Tryz.prog++Tryz.f6.resultTypes.toList).any (Tryz.prog.veiledRec ·)))=true:=by kernel_rfl
theorem q31:(Rows.readerRetriesRow.veiledFits Tryz.prog Tryz.f6.params.toList (Tryz.f6.params.toList++Rows.readerRetriesSpec.plain.varTypes Tryz.prog++Tryz.f6.resultTypes.toList))=true:=by kernel_rfl
theorem jf:joinedFacts Tryz.prog 6 Tryz.f6 Rows.readerRetriesSpec Rows.readerRetriesRow=true:=by
 unfold joinedFacts;simp only[Bool.and_eq_true];exact⟨⟨⟨⟨⟨⟨⟨⟨⟨⟨⟨⟨⟨⟨⟨⟨⟨⟨⟨⟨⟨⟨⟨⟨⟨⟨⟨⟨⟨⟨⟨q0,q1⟩,q2⟩,q3⟩,q4⟩,q5⟩,q6⟩,q7⟩,q8⟩,q9⟩,Mo⟩,q11⟩,q12⟩,q13⟩,q14⟩,q15⟩,q16⟩,q17⟩,q18⟩,q19⟩,q20⟩,q21⟩,q22⟩,q23⟩,q24⟩,q25⟩,q26⟩,q27⟩,q28⟩,q29⟩,q30⟩,q31⟩
end
end
end Go.Proofs.YtndegphojkiblaaGreatDoor
