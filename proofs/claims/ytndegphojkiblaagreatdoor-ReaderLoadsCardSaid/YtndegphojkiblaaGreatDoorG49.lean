/- Towards the last file's theorem: part 49. -/
import Derived.Test.YtndegphojkiblaaGreatDoorG48
set_option linter.all false
set_option maxHeartbeats 4000000
set_option maxRecDepth 100000
namespace Go.Proofs.YtndegphojkiblaaGreatDoor
noncomputable section
section
open Go
theorem q11:((Rows.readerLoadsRow.recurses==Tryz.prog.recurses 4))=true:=by kernel_rfl
theorem q12:((Rows.readerLoadsRow.named==Tryz.prog.varsNamed 4))=true:=by kernel_rfl
theorem q13:((Rows.readerLoadsRow.maps==(Tryz.f4.params.toList++Rows.readerLoadsSpec.plain.varTypes Tryz.prog).any (Tryz.prog.mapsRec ·)))=true:=by kernel_rfl
theorem q14:((Rows.readerLoadsRow.ifaces==(Tryz.f4.params.toList++Rows.readerLoadsSpec.plain.varTypes Tryz.prog).any (Tryz.prog.ifacesRec ·)))=true:=by kernel_rfl
theorem q15:((Rows.readerLoadsRow.mapsOut==Tryz.prog.mapsAmong Tryz.f4.resultTypes.toList))=true:=by kernel_rfl
theorem q16:((Rows.readerLoadsRow.loops==(Tryz.f4.params.toList++Rows.readerLoadsSpec.plain.varTypes Tryz.prog).any (Tryz.prog.loopsFrom ·)))=true:=by kernel_rfl
theorem q17:((Rows.readerLoadsRow.wideKeys==(Tryz.f4.params.toList++Rows.readerLoadsSpec.plain.varTypes Tryz.prog++Tryz.f4.resultTypes.toList).any (Tryz.prog.wideKeysFrom ·)))=true:=by kernel_rfl
theorem q18:(Rows.readerLoadsSpec.vars.all (Tryz.prog.varReadable ·))=true:=by kernel_rfl
theorem q19:(Tryz.f4.resultTypes.all (fun t=>Tryz.prog.readableRec t&&decide (t<Tryz.prog.types.size)))=true:=by kernel_rfl
theorem q20:((Rows.readerLoadsRow.ifacesOut==Tryz.f4.resultTypes.toList.any (Tryz.prog.ifacesRec ·)))=true:=by kernel_rfl
theorem q21:((Rows.readerLoadsRow.loopsOut==Tryz.f4.resultTypes.toList.any (Tryz.prog.loopsFrom ·)))=true:=by kernel_rfl
theorem q22:((Rows.readerLoadsRow.plainKeys==Tryz.prog.plainKeys))=true:=by kernel_rfl
theorem q23:(Rows.readerLoadsRow.shortTexts.isNone)=true:=by kernel_rfl
theorem q24:(Tryz.prog.stopsHeard)=true:=by kernel_rfl
theorem q25:(Tryz.prog.mayEnter)=true:=by kernel_rfl
theorem q26:((Rows.readerLoadsRow.lifted==Tryz.prog.liftsFinal))=true:=by kernel_rfl
theorem q27:((Tryz.prog.make==some Rows.readerLoadsRow.make))=true:=by kernel_rfl
theorem q28:((Rows.readerLoadsRow.kinds==(if Rows.readerLoadsRow.domain.isEmpty then[]else Tryz.f4.params.toList.map fun t=>match Tryz.prog.underlying t with|some (.int k)=>some k|_=>none)))=true:=by kernel_rfl
theorem q29:((Rows.readerLoadsRow.pinned==Rows.readerLoadsRow.pinnedBy))=true:=by kernel_rfl
theorem q30:((Rows.readerLoadsRow.veiled==(Tryz.f4.params.toList++Rows.readerLoadsSpec.plain.varTypes Tryz.prog++Tryz.f4.resultTypes.toList).any (Tryz.prog.veiledRec ·)))=true:=by kernel_rfl
theorem q31:(Rows.readerLoadsRow.veiledFits Tryz.prog Tryz.f4.params.toList (Tryz.f4.params.toList++Rows.readerLoadsSpec.plain.varTypes Tryz.prog++Tryz.f4.resultTypes.toList))=true:=by kernel_rfl
theorem jf:joinedFacts Tryz.prog 4 Tryz.f4 Rows.readerLoadsSpec Rows.readerLoadsRow=true:=by
 unfold joinedFacts;simp only[Bool.and_eq_true];exact⟨⟨⟨⟨⟨⟨⟨⟨⟨⟨⟨⟨⟨⟨⟨⟨⟨⟨⟨⟨⟨⟨⟨⟨⟨⟨⟨⟨⟨⟨⟨q0,q1⟩,q2⟩,q3⟩,q4⟩,q5⟩,q6⟩,q7⟩,q8⟩,q9⟩,GM⟩,q11⟩,q12⟩,q13⟩,q14⟩,q15⟩,q16⟩,q17⟩,q18⟩,q19⟩,q20⟩,q21⟩,q22⟩,q23⟩,q24⟩,q25⟩,q26⟩,q27⟩,q28⟩,q29⟩,q30⟩,q31⟩
end
end
end Go.Proofs.YtndegphojkiblaaGreatDoor
