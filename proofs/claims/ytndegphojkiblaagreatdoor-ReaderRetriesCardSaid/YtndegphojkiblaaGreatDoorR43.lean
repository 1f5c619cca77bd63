/- A part of the proof. -/
import Derived.Test.YtndegphojkiblaaGreatDoorR42
set_option linter.all false
set_option maxHeartbeats 4000000
set_option maxRecDepth 100000
namespace Go.Proofs.YtndegphojkiblaaGreatDoor
noncomputable section
section
open Go.ChangeShapes Go.WideShapes Go.ChangeAt Go.RowKit
noncomputable def Ro (os:Os):a7:=
 let w0:=World.doorLaid Tryz.prog 34 os
 {w0 with heap:=w0.heap.modify 4 fun
  | .cells _ t frozen=> .cells (Go.Pinned.utf8FirstZ.map fun (n:Nat)=>Value.int .u8 n).toArray t frozen
  |o=>o}
noncomputable def mq (os:Os) (args:Array bh):a7:=(Ro os).forCall (fun _ _=>0) ⟨#[],args,[]⟩
def FK:List (String×DataW Unit):=oP.filter fun x=>x.2.handleName?.isNone
theorem axY (os:Os) (args:Array bh):(DataW.laidRun Tryz.prog (mq os args).memory 8 (FK.map (·.1))).map (·.1)=some FK:=kr
theorem avo (os:Os) (args:Array bh):(DataW.laidRun Tryz.prog (mq os args).memory 8 (FK.map (·.1))).map (fun x=>decide x.2.Nodup&&laidRowsB Tryz.prog (mq os args).memory x.2)=some true:=kr
theorem aiT (os:Os) (args:Array bh):(oP.filter fun x=>x.2.handleName?.isSome&&x.2.funcsIn?.isNone).all (handleAtB Tryz.prog (mq os args).memory)=true:=kr
theorem ajB (os:Os) (args:Array bh):funcsRun Tryz.prog (mq os args).memory 8 ((funcsListed oP).map (·.1))=some ((funcsListed oP).map (·.2.funcsOut)):=kr
theorem ajC (os:Os) (args:Array bh):laidMetH Tryz.prog oP (mq os args).memory:=by
 have h:laidMet Tryz.prog FK (mq os args).memory:=laidMet_of_run' 8 (axY os args) (avo os args);exact laidMetH_of_parts3 (fuel:=8) h (aiT os args) (ajB os args)
theorem afh (os:Os) (args:Array bh):(mq os args).variablesRefB Tryz.prog=true:=kr
theorem atM (os:Os) (args:Array bh):((mq os args).heap.toList.drop Tryz.prog.globals.size).take ((begin Tryz.prog (fun _ _=>0) default).world.heap.size-Tryz.prog.globals.size)=
 (begin Tryz.prog (fun _ _=>0) default).world.heap.toList.drop Tryz.prog.globals.size:=kr
def oC:Array bh:= #[.slice none 0 0,.int .u64 0]
theorem avw (os:Os):Input.okWideB Tryz.prog (mq os oC) 6 ⟨#[],oC,[]⟩=true:=kr
theorem ayt (os:Os) (H:Type) (enc:a6×bh→H):Rows.readerRetriesSpec.preB enc Tryz.prog Tryz.f6 [] false (mq os oC).memory oC 8=true:=kr
theorem ahL (os:Os) (H:Type) (enc:a6×bh→H):Rows.readerRetriesSpec.sizedB enc Tryz.prog Tryz.f6 false (mq os oC).memory oC 8=true:=kr
theorem JU (os:Os) (H:Type) (enc:a6×bh→H):∃(w:a7) (tape:Tape) (i:Input),w.os=os∧(w.forCall tape i).Shaped Tryz.prog∧i.vars=[]∧Input.okWide Tryz.prog (w.forCall tape i) .any w.heap.size 6 i∧
  ((Rows.readerRetriesSpec.pre enc Tryz.prog Tryz.f6 [] false (w.forCall tape i).memory i.args∧laidMetH Tryz.prog oP (w.forCall tape i).memory)∧sizedMet enc Tryz.prog Tryz.f6 (OpenSpec.ofChange Rows.readerRetriesSpec) false (w.forCall tape i).memory i.args)∧Assume.holds {} Tryz.prog (lone (Frame.enter Tryz.prog 6 i.args .normal) [] (w.forCall tape i)):=
 ChangeSpec.witness_shaped (enc:=enc) (C:=Tryz.checked) (os:=os) (X:=fun w _=>laidMetH Tryz.prog oP w) false (Ro os) oC 8 rfl (World.shaped_of_RefB (afh os oC) (atM os oC)) (avw os) (ayt os H enc) (ahL os H enc) (ajC os oC)
end
end
end Go.Proofs.YtndegphojkiblaaGreatDoor
