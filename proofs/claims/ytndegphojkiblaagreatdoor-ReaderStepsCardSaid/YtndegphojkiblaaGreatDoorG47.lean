/- A part. -/
import Derived.Test.YtndegphojkiblaaGreatDoorG46
set_option linter.all false
set_option maxHeartbeats 4000000
set_option maxRecDepth 100000
namespace Go.Proofs.YtndegphojkiblaaGreatDoor
noncomputable section
section
open Go.ChangeShapes Go.WideShapes Go.ChangeAt Go.RowKit
def Ul(os:Os):cp:=
 let w0:=World.doorLaid Tryz.prog 34 os
 {w0 with heap:=w0.heap.modify 4 λ
  |.cells _ t frozen=>.cells (Go.Pinned.utf8FirstZ.map λ(n:Nat)=>Value.int .u8 n).toArray t frozen
  |o=>o}
def mw(os:Os)(args:Array cr):cp:=(Ul os).forCall (λ_ _=>0) ⟨#[],args,[]⟩
def Fh:List (String×DataW Unit):=og.filter λx=>x.2.handleName?.isNone
theorem aip(os:Os)(args:Array cr):(DataW.laidRun Tryz.prog (mw os args).memory 8 (Fh.map (·.1))).map (·.1)=some Fh:=kr
theorem aho(os:Os)(args:Array cr):(DataW.laidRun Tryz.prog (mw os args).memory 8 (Fh.map (·.1))).map (λx=>decide x.2.Nodup&&laidRowsB Tryz.prog (mw os args).memory x.2)=some true:=kr
theorem amd(os:Os)(args:Array cr):(og.filter λx=>x.2.handleName?.isSome&&x.2.funcsIn?.isNone).all (handleAtB Tryz.prog (mw os args).memory)=true:=kr
theorem auO(os:Os)(args:Array cr):funcsRun Tryz.prog (mw os args).memory 8 ((funcsListed og).map (·.1))=some ((funcsListed og).map (·.2.funcsOut)):=kr
theorem auw(os:Os)(args:Array cr):laidMetH Tryz.prog og (mw os args).memory:=by
 have h:laidMet Tryz.prog Fh (mw os args).memory:=laidMet_of_run' 8 (aip os args) (aho os args);exact laidMetH_of_parts3 (fuel:=8) h (amd os args) (auO os args)
theorem akm(os:Os)(args:Array cr):(mw os args).variablesRefB Tryz.prog=true:=kr
theorem akZ(os:Os)(args:Array cr):((mw os args).heap.toList.drop Tryz.prog.globals.size).take ((begin Tryz.prog (λ_ _=>0) default).world.heap.size-Tryz.prog.globals.size)=
 (begin Tryz.prog (λ_ _=>0) default).world.heap.toList.drop Tryz.prog.globals.size:=kr
def oG:Array cr:= #[.agg #[.int .u64 0,.int .u32 0,.int .i64 0,.int .i64 0,.int .i64 0,.int .i64 0,.int .u64 0,.int .u32 0,.int .i64 0,.int .i64 0,.int .i64 0],.slice none 0 0,.agg #[.int .i64 0,.int .i64 0,.bool false,.slice none 0 0],.agg #[.int .i64 0,.int .i64 0,.slice none 0 0],.int .u64 0,.int .u32 0,.int .i64 0]
theorem amY(os:Os):Input.okWideB Tryz.prog (mw os oG) 3 ⟨#[],oG,[]⟩=true:=kr
theorem aez(os:Os)(H:Type)(enc:cg×cr->H):Rows.readerStepsSpec.preB enc Tryz.prog Tryz.f3 [] false (mw os oG).memory oG 8=true:=kr
theorem akY(os:Os)(H:Type)(enc:cg×cr->H):Rows.readerStepsSpec.sizedB enc Tryz.prog Tryz.f3 false (mw os oG).memory oG 8=true:=kr
theorem M8(os:Os)(H:Type)(enc:cg×cr->H):∃(w:cp)(tape:Tape)(i:Input),w.os=os/\(w.forCall tape i).Shaped Tryz.prog/\i.vars=[]/\Input.okWide Tryz.prog (w.forCall tape i) .any w.heap.size 3 i/\
 ((Rows.readerStepsSpec.pre enc Tryz.prog Tryz.f3 [] false (w.forCall tape i).memory i.args/\laidMetH Tryz.prog og (w.forCall tape i).memory)/\sizedMet enc Tryz.prog Tryz.f3 (OpenSpec.ofChange Rows.readerStepsSpec) false (w.forCall tape i).memory i.args)/\Assume.holds {} Tryz.prog (lone (Frame.enter Tryz.prog 3 i.args .normal) [] (w.forCall tape i)):=
 ChangeSpec.witness_shaped (enc:=enc) (C:=Tryz.checked) (os:=os) (X:=λw _=>laidMetH Tryz.prog og w) false (Ul os) oG 8 rfl (World.shaped_of_RefB (akm os oG) (akZ os oG)) (amY os) (aez os H enc) (akY os H enc) (auw os oG)
end
end
end Go.Proofs.YtndegphojkiblaaGreatDoor
