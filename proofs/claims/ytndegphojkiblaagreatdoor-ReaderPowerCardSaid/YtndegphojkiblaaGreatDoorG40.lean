/- Towards the last file's theorem: part 40. -/
import Derived.Test.YtndegphojkiblaaGreatDoorG39
set_option linter.unusedSimpArgs false
set_option linter.unusedVariables false
set_option maxHeartbeats 4000000
namespace Go.Proofs.YtndegphojkiblaaGreatDoor
section
set_option maxHeartbeats 4000000
set_option maxRecDepth 100000
open Go.ChangeShapes Go.WideShapes Go.ChangeAt Go.RowKit
noncomputable def laidWorld (os : Os) : World :=
 let w0 := World.doorLaid Tryz.prog 34 os
 { w0 with heap := w0.heap.modify 4 fun
  | .cells _ t frozen => .cells (Go.Pinned.utf8FirstZ.map fun (n : Nat) => Value.int .u8 n).toArray t frozen
  | o => o }
noncomputable def callW (os : Os) (args : Array Value) : World := (laidWorld os).forCall (fun _ _ => 0) ⟨#[],args,[]⟩
def laidD : List (String × DataW Unit) := laid5.filter fun x => x.2.handleName?.isNone
theorem met1 (os : Os) (args : Array Value) : (DataW.laidRun Tryz.prog (callW os args).memory 8 (laidD.map (·.1))).map (·.1) = some laidD := by kernel_rfl
theorem met2 (os : Os) (args : Array Value) : (DataW.laidRun Tryz.prog (callW os args).memory 8 (laidD.map (·.1))).map (fun x => decide x.2.Nodup && laidRowsB Tryz.prog (callW os args).memory x.2) = some true := by kernel_rfl
theorem met3 (os : Os) (args : Array Value) : (laid5.filter fun x => x.2.handleName?.isSome && x.2.funcsIn?.isNone).all (handleAtB Tryz.prog (callW os args).memory) = true := by kernel_rfl
theorem met4 (os : Os) (args : Array Value) : funcsRun Tryz.prog (callW os args).memory 8 ((funcsListed laid5).map (·.1)) = some ((funcsListed laid5).map (·.2.funcsOut)) := by kernel_rfl
theorem met5 (os : Os) (args : Array Value) : laidMetH Tryz.prog laid5 (callW os args).memory := by
 have h : laidMet Tryz.prog laidD (callW os args).memory := laidMet_of_run' 8 (met1 os args) (met2 os args)
 exact laidMetH_of_parts3 (fuel := 8) h (met3 os args) (met4 os args)
theorem ref1 (os : Os) (args : Array Value) : (callW os args).variablesRefB Tryz.prog = true := by kernel_rfl
theorem ref2 (os : Os) (args : Array Value) : ((callW os args).heap.toList.drop Tryz.prog.globals.size).take ((begin Tryz.prog (fun _ _ => 0) default).world.heap.size - Tryz.prog.globals.size) =
 (begin Tryz.prog (fun _ _ => 0) default).world.heap.toList.drop Tryz.prog.globals.size := by kernel_rfl
def wArgs : Array Value := #[.slice none 0 0,.int .u64 0]
theorem wit1 (os : Os) : Input.okWideB Tryz.prog (callW os wArgs) 7 ⟨#[],wArgs,[]⟩ = true := by kernel_rfl
theorem wit2 (os : Os) (H : Type) (enc : TypeId × Value → H) : Rows.readerPowerSpec.preB enc Tryz.prog Tryz.f7 [] false (callW os wArgs).memory wArgs 8 = true := by kernel_rfl
theorem wit3 (os : Os) (H : Type) (enc : TypeId × Value → H) : Rows.readerPowerSpec.sizedB enc Tryz.prog Tryz.f7 false (callW os wArgs).memory wArgs 8 = true := by kernel_rfl
theorem wit (os : Os) (H : Type) (enc : TypeId × Value → H) : ∃ (w : World) (tape : Tape) (i : Input),w.os = os ∧ (w.forCall tape i).Shaped Tryz.prog ∧ i.vars = [] ∧ Input.okWide Tryz.prog (w.forCall tape i) .any w.heap.size 7 i ∧
  ((Rows.readerPowerSpec.pre enc Tryz.prog Tryz.f7 [] false (w.forCall tape i).memory i.args ∧ laidMetH Tryz.prog laid5 (w.forCall tape i).memory) ∧ sizedMet enc Tryz.prog Tryz.f7 (OpenSpec.ofChange Rows.readerPowerSpec) false (w.forCall tape i).memory i.args) ∧ Assume.holds {} Tryz.prog (lone (Frame.enter Tryz.prog 7 i.args .normal) [] (w.forCall tape i)) :=
 ChangeSpec.witness_shaped (enc := enc) (C := Tryz.checked) (os := os) (X := fun w _ => laidMetH Tryz.prog laid5 w) false (laidWorld os) wArgs 8 rfl (World.shaped_of_RefB (ref1 os wArgs) (ref2 os wArgs)) (wit1 os) (wit2 os H enc) (wit3 os H enc) (met5 os wArgs)
end
end Go.Proofs.YtndegphojkiblaaGreatDoor
