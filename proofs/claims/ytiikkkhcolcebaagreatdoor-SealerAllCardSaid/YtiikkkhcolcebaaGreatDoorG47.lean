/- A part. -/
import Derived.Test.YtiikkkhcolcebaaGreatDoorG46
set_option linter.all false
set_option maxHeartbeats 4000000
set_option maxRecDepth 100000
namespace Go.Proofs.YtiikkkhcolcebaaGreatDoor
noncomputable section
section
open Go.ChangeShapes Go.WideShapes Go.ChangeAt Go.RowKit
def Qc(os:Os):bX:=
 let w0:=World.doorLaid Tryz.prog 34 os
 {w0 with heap:=w0.heap.modify 2 λ
  |.cells _ t frozen=>.cells (Go.Pinned.utf8FirstZ.map λ(n:Nat)=>Value.int .u8 n).toArray t frozen
  |o=>o}
def mQ(os:Os)(args:Array b9):bX:=(Qc os).forCall (λ_ _=>0) ⟨#[],args,[]⟩
def Ep:List (String×DataW Unit):=ph.filter λx=>x.2.handleName?.isNone
theorem awT(os:Os)(args:Array b9):(DataW.laidRun Tryz.prog (mQ os args).memory 8 (Ep.map (·.1))).map (·.1)=some Ep:=kr
theorem aua(os:Os)(args:Array b9):(DataW.laidRun Tryz.prog (mQ os args).memory 8 (Ep.map (·.1))).map (λx=>decide x.2.Nodup&&laidRowsB Tryz.prog (mQ os args).memory x.2)=some true:=kr
theorem ahp(os:Os)(args:Array b9):(ph.filter λx=>x.2.handleName?.isSome&&x.2.funcsIn?.isNone).all (handleAtB Tryz.prog (mQ os args).memory)=true:=kr
theorem aij(os:Os)(args:Array b9):funcsRun Tryz.prog (mQ os args).memory 8 ((funcsListed ph).map (·.1))=some ((funcsListed ph).map (·.2.funcsOut)):=kr
theorem aik(os:Os)(args:Array b9):laidMetH Tryz.prog ph (mQ os args).memory:=by
 have h:laidMet Tryz.prog Ep (mQ os args).memory:=laidMet_of_run' 8 (awT os args) (aua os args);exact laidMetH_of_parts3 (fuel:=8) h (ahp os args) (aij os args)
theorem adl(os:Os)(args:Array b9):(mQ os args).variablesRefB Tryz.prog=true:=kr
theorem asx(os:Os)(args:Array b9):((mQ os args).heap.toList.drop Tryz.prog.globals.size).take ((begin Tryz.prog (λ_ _=>0) default).world.heap.size-Tryz.prog.globals.size)=
 (begin Tryz.prog (λ_ _=>0) default).world.heap.toList.drop Tryz.prog.globals.size:=kr
def pb:Array b9:= #[.slice none 0 0,.slice none 0 0]
theorem aul(os:Os):Input.okWideB Tryz.prog (mQ os pb) 5 ⟨#[],pb,[]⟩=true:=kr
theorem axp(os:Os)(H:Type)(enc:cd×b9->H):Rows.sealerAllSpec.preB enc Tryz.prog Tryz.f5 [] false (mQ os pb).memory pb 8=true:=kr
theorem age(os:Os)(H:Type)(enc:cd×b9->H):Rows.sealerAllSpec.sizedB enc Tryz.prog Tryz.f5 false (mQ os pb).memory pb 8=true:=kr
theorem IJ(os:Os)(H:Type)(enc:cd×b9->H):∃(w:bX)(tape:Tape)(i:Input),w.os=os/\(w.forCall tape i).Shaped Tryz.prog/\i.vars=[]/\Input.okWide Tryz.prog (w.forCall tape i) .any w.heap.size 5 i/\
 ((Rows.sealerAllSpec.pre enc Tryz.prog Tryz.f5 [] false (w.forCall tape i).memory i.args/\laidMetH Tryz.prog ph (w.forCall tape i).memory)/\sizedMet enc Tryz.prog Tryz.f5 (OpenSpec.ofChange Rows.sealerAllSpec) false (w.forCall tape i).memory i.args)/\Assume.holds {} Tryz.prog (lone (Frame.enter Tryz.prog 5 i.args .normal) [] (w.forCall tape i)):=
 ChangeSpec.witness_shaped (enc:=enc) (C:=Tryz.checked) (os:=os) (X:=λw _=>laidMetH Tryz.prog ph w) false (Qc os) pb 8 rfl (World.shaped_of_RefB (adl os pb) (asx os pb)) (aul os) (axp os H enc) (age os H enc) (aik os pb)
end
end
end Go.Proofs.YtiikkkhcolcebaaGreatDoor
