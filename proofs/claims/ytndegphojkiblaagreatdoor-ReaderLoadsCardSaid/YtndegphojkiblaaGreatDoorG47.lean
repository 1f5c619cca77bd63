/- Towards the last file's theorem: part 47. -/
import Derived.Test.YtndegphojkiblaaGreatDoorG46
set_option linter.all false
set_option maxHeartbeats 4000000
set_option maxRecDepth 100000
namespace Go.Proofs.YtndegphojkiblaaGreatDoor
noncomputable section
section
open Go.ChangeShapes Go.WideShapes Go.ChangeAt Go.RowKit
noncomputable def Zw (os:Os):av:=
 let w0:=World.doorLaid Tryz.prog 34 os
 {w0 with heap:=w0.heap.modify 4 fun
  | .cells _ t frozen=> .cells (Go.Pinned.utf8FirstZ.map fun (n:Nat)=>Value.int .u8 n).toArray t frozen
  |o=>o}
noncomputable def m_ (os:Os) (args:Array aD):av:=(Zw os).forCall (fun _ _=>0) ⟨#[],args,[]⟩
def Ek:List (String×DataW Unit):=po.filter fun x=>x.2.handleName?.isNone
theorem ayb (os:Os) (args:Array aD):(DataW.laidRun Tryz.prog (m_ os args).memory 8 (Ek.map (·.1))).map (·.1)=some Ek:=kr
theorem aon (os:Os) (args:Array aD):(DataW.laidRun Tryz.prog (m_ os args).memory 8 (Ek.map (·.1))).map (fun x=>decide x.2.Nodup&&laidRowsB Tryz.prog (m_ os args).memory x.2)=some true:=kr
theorem awY (os:Os) (args:Array aD):(po.filter fun x=>x.2.handleName?.isSome&&x.2.funcsIn?.isNone).all (handleAtB Tryz.prog (m_ os args).memory)=true:=kr
theorem ayD (os:Os) (args:Array aD):funcsRun Tryz.prog (m_ os args).memory 8 ((funcsListed po).map (·.1))=some ((funcsListed po).map (·.2.funcsOut)):=kr
theorem anD (os:Os) (args:Array aD):laidMetH Tryz.prog po (m_ os args).memory:=by
 have h:laidMet Tryz.prog Ek (m_ os args).memory:=laidMet_of_run' 8 (ayb os args) (aon os args);exact laidMetH_of_parts3 (fuel:=8) h (awY os args) (ayD os args)
theorem aCy (os:Os) (args:Array aD):(m_ os args).variablesRefB Tryz.prog=true:=kr
theorem apF (os:Os) (args:Array aD):((m_ os args).heap.toList.drop Tryz.prog.globals.size).take ((begin Tryz.prog (fun _ _=>0) default).world.heap.size-Tryz.prog.globals.size)=
 (begin Tryz.prog (fun _ _=>0) default).world.heap.toList.drop Tryz.prog.globals.size:=kr
def pn:Array aD:= #[.slice none 0 0,.agg #[.int .u64 0,.int .u32 0,.int .i64 0,.int .i64 0],.int .i64 0,.int .i64 0,.int .i64 0,.agg #[.int .i64 0,.int .i64 0,.slice none 0 0]]
theorem aAv (os:Os):Input.okWideB Tryz.prog (m_ os pn) 4 ⟨#[],pn,[]⟩=true:=kr
theorem axK (os:Os) (H:Type) (enc:aw×aD→H):Rows.readerLoadsSpec.preB enc Tryz.prog Tryz.f4 [] false (m_ os pn).memory pn 8=true:=kr
theorem ale (os:Os) (H:Type) (enc:aw×aD→H):Rows.readerLoadsSpec.sizedB enc Tryz.prog Tryz.f4 false (m_ os pn).memory pn 8=true:=kr
theorem PG (os:Os) (H:Type) (enc:aw×aD→H):∃(w:av) (tape:Tape) (i:Input),w.os=os∧(w.forCall tape i).Shaped Tryz.prog∧i.vars=[]∧Input.okWide Tryz.prog (w.forCall tape i) .any w.heap.size 4 i∧
  ((Rows.readerLoadsSpec.pre enc Tryz.prog Tryz.f4 [] false (w.forCall tape i).memory i.args∧laidMetH Tryz.prog po (w.forCall tape i).memory)∧sizedMet enc Tryz.prog Tryz.f4 (OpenSpec.ofChange Rows.readerLoadsSpec) false (w.forCall tape i).memory i.args)∧Assume.holds {} Tryz.prog (lone (Frame.enter Tryz.prog 4 i.args .normal) [] (w.forCall tape i)):=
 ChangeSpec.witness_shaped (enc:=enc) (C:=Tryz.checked) (os:=os) (X:=fun w _=>laidMetH Tryz.prog po w) false (Zw os) pn 8 rfl (World.shaped_of_RefB (aCy os pn) (apF os pn)) (aAv os) (axK os H enc) (ale os H enc) (anD os pn)
end
end
end Go.Proofs.YtndegphojkiblaaGreatDoor
