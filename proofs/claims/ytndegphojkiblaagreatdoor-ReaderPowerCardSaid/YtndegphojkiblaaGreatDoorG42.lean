/- Towards the last file's theorem: part 42. -/
import Derived.Test.YtndegphojkiblaaGreatDoorG41
set_option linter.unusedSimpArgs false
set_option linter.unusedVariables false
set_option maxHeartbeats 4000000
namespace Go.Proofs.YtndegphojkiblaaGreatDoor
section
set_option maxHeartbeats 4000000
set_option maxRecDepth 100000
open Go
theorem q11 : ((Rows.readerPowerRow.recurses == Tryz.prog.recurses 7)) = true := by kernel_rfl
theorem q12 : ((Rows.readerPowerRow.named == Tryz.prog.varsNamed 7)) = true := by kernel_rfl
theorem q13 : ((Rows.readerPowerRow.maps == (Tryz.f7.params.toList ++ Rows.readerPowerSpec.plain.varTypes Tryz.prog).any (Tryz.prog.mapsRec ·))) = true := by kernel_rfl
theorem q14 : ((Rows.readerPowerRow.ifaces == (Tryz.f7.params.toList ++ Rows.readerPowerSpec.plain.varTypes Tryz.prog).any (Tryz.prog.ifacesRec ·))) = true := by kernel_rfl
theorem q15 : ((Rows.readerPowerRow.mapsOut == Tryz.prog.mapsAmong Tryz.f7.resultTypes.toList)) = true := by kernel_rfl
theorem q16 : ((Rows.readerPowerRow.loops == (Tryz.f7.params.toList ++ Rows.readerPowerSpec.plain.varTypes Tryz.prog).any (Tryz.prog.loopsFrom ·))) = true := by kernel_rfl
theorem q17 : ((Rows.readerPowerRow.wideKeys == (Tryz.f7.params.toList ++ Rows.readerPowerSpec.plain.varTypes Tryz.prog ++ Tryz.f7.resultTypes.toList).any (Tryz.prog.wideKeysFrom ·))) = true := by kernel_rfl
theorem q18 : (Rows.readerPowerSpec.vars.all (Tryz.prog.varReadable ·)) = true := by kernel_rfl
theorem q19 : (Tryz.f7.resultTypes.all (fun t => Tryz.prog.readableRec t && decide (t < Tryz.prog.types.size))) = true := by kernel_rfl
theorem q20 : ((Rows.readerPowerRow.ifacesOut == Tryz.f7.resultTypes.toList.any (Tryz.prog.ifacesRec ·))) = true := by kernel_rfl
theorem q21 : ((Rows.readerPowerRow.loopsOut == Tryz.f7.resultTypes.toList.any (Tryz.prog.loopsFrom ·))) = true := by kernel_rfl
theorem q22 : ((Rows.readerPowerRow.plainKeys == Tryz.prog.plainKeys)) = true := by kernel_rfl
theorem q23 : (Rows.readerPowerRow.shortTexts.isNone) = true := by kernel_rfl
theorem q24 : (Tryz.prog.stopsHeard) = true := by kernel_rfl
theorem q25 : (Tryz.prog.mayEnter) = true := by kernel_rfl
theorem q26 : ((Rows.readerPowerRow.lifted == Tryz.prog.liftsFinal)) = true := by kernel_rfl
theorem q27 : ((Tryz.prog.make == some Rows.readerPowerRow.make)) = true := by kernel_rfl
theorem q28 : ((Rows.readerPowerRow.kinds == (if Rows.readerPowerRow.domain.isEmpty then [] else Tryz.f7.params.toList.map fun t => match Tryz.prog.underlying t with | some (.int k) => some k | _ => none))) = true := by kernel_rfl
theorem q29 : ((Rows.readerPowerRow.pinned == Rows.readerPowerRow.pinnedBy)) = true := by kernel_rfl
theorem q30 : ((Rows.readerPowerRow.veiled == (Tryz.f7.params.toList ++ Rows.readerPowerSpec.plain.varTypes Tryz.prog ++ Tryz.f7.resultTypes.toList).any (Tryz.prog.veiledRec ·))) = true := by kernel_rfl
theorem q31 : (Rows.readerPowerRow.veiledFits Tryz.prog Tryz.f7.params.toList (Tryz.f7.params.toList ++ Rows.readerPowerSpec.plain.varTypes Tryz.prog ++ Tryz.f7.resultTypes.toList)) = true := by kernel_rfl
theorem jf : joinedFacts Tryz.prog 7 Tryz.f7 Rows.readerPowerSpec Rows.readerPowerRow = true := by
 unfold joinedFacts
 simp only [Bool.and_eq_true]
 exact ⟨⟨⟨⟨⟨⟨⟨⟨⟨⟨⟨⟨⟨⟨⟨⟨⟨⟨⟨⟨⟨⟨⟨⟨⟨⟨⟨⟨⟨⟨⟨q0,q1⟩,q2⟩,q3⟩,q4⟩,q5⟩,q6⟩,q7⟩,q8⟩,q9⟩,q10⟩,q11⟩,q12⟩,q13⟩,q14⟩,q15⟩,q16⟩,q17⟩,q18⟩,q19⟩,q20⟩,q21⟩,q22⟩,q23⟩,q24⟩,q25⟩,q26⟩,q27⟩,q28⟩,q29⟩,q30⟩,q31⟩
end
end Go.Proofs.YtndegphojkiblaaGreatDoor
