/- A part. -/
import Derived.Test.YtiikkkhcolcebaaGreatDoorG28
set_option linter.all false
set_option maxHeartbeats 4000000
set_option maxRecDepth 100000
namespace Go.Proofs.YtiikkkhcolcebaaGreatDoor
noncomputable section
section
open Go.ChangeShapes Go.WideShapes Go.ChangeAt Go.RowKit
def St(os:Os):bW:=
 let w0:=World.doorLaid Tryz.prog 34 os
 {w0 with heap:=w0.heap.modify 2 λ
  |.cells _ t frozen=>.cells (Go.Pinned.utf8FirstZ.map λ(n:Nat)=>Value.int .u8 n).toArray t frozen
  |o=>o}
def od(os:Os)(args:Array b8):bW:=(St os).forCall (λ_ _=>0) ⟨#[],args,[]⟩
def GD:List (String×DataW Unit):=qA.filter λx=>x.2.handleName?.isNone
def aAq(os:Os)(args:Array b8):(DataW.laidRun Tryz.prog (od os args).memory 8 (GD.map (·.1))).map (·.1)=some GD:=kr
def axw(os:Os)(args:Array b8):(DataW.laidRun Tryz.prog (od os args).memory 8 (GD.map (·.1))).map (λx=>decide x.2.Nodup&&laidRowsB Tryz.prog (od os args).memory x.2)=some true:=kr
def akl(os:Os)(args:Array b8):(qA.filter λx=>x.2.handleName?.isSome&&x.2.funcsIn?.isNone).all (handleAtB Tryz.prog (od os args).memory)=true:=kr
def alh(os:Os)(args:Array b8):funcsRun Tryz.prog (od os args).memory 8 ((funcsListed qA).map (·.1))=some ((funcsListed qA).map (·.2.funcsOut)):=kr
def ali(os:Os)(args:Array b8):laidMetH Tryz.prog qA (od os args).memory:=by
 have h:laidMet Tryz.prog GD (od os args).memory:=laidMet_of_run' 8 (aAq os args) (axw os args);exact laidMetH_of_parts3 (fuel:=8) h (akl os args) (alh os args)
def agt(os:Os)(args:Array b8):(od os args).variablesRefB Tryz.prog=true:=kr
def avX(os:Os)(args:Array b8):((od os args).heap.toList.drop Tryz.prog.globals.size).take ((begin Tryz.prog (λ_ _=>0) default).world.heap.size-Tryz.prog.globals.size)=
 (begin Tryz.prog (λ_ _=>0) default).world.heap.toList.drop Tryz.prog.globals.size:=kr
def qj:Array b8:= #[.slice none 0 0,.slice none 0 0]
def axI(os:Os):Input.okWideB Tryz.prog (od os qj) 6 ⟨#[],qj,[]⟩=true:=kr
def aAL(os:Os)(H:Type)(enc:cf×b8->H):Rows.sealerFilesSpec.preB enc Tryz.prog Tryz.f6 [] false (od os qj).memory qj 8=true:=kr
def aje(os:Os)(H:Type)(enc:cf×b8->H):Rows.sealerFilesSpec.sizedB enc Tryz.prog Tryz.f6 false (od os qj).memory qj 8=true:=kr
def KB(os:Os)(H:Type)(enc:cf×b8->H):∃(w:bW)(tape:Tape)(i:Input),w.os=os/\(w.forCall tape i).Shaped Tryz.prog/\i.vars=[]/\Input.okWide Tryz.prog (w.forCall tape i) .any w.heap.size 6 i/\
 ((Rows.sealerFilesSpec.pre enc Tryz.prog Tryz.f6 [] false (w.forCall tape i).memory i.args/\laidMetH Tryz.prog qA (w.forCall tape i).memory)/\sizedMet enc Tryz.prog Tryz.f6 (OpenSpec.ofChange Rows.sealerFilesSpec) false (w.forCall tape i).memory i.args)/\Assume.holds {} Tryz.prog (lone (Frame.enter Tryz.prog 6 i.args .normal) [] (w.forCall tape i)):=
 ChangeSpec.witness_shaped (enc:=enc) (C:=Tryz.checked) (os:=os) (X:=λw _=>laidMetH Tryz.prog qA w) false (St os) qj 8 rfl (World.shaped_of_RefB (agt os qj) (avX os qj)) (axI os) (aAL os H enc) (aje os H enc) (ali os qj)
end
end
end Go.Proofs.YtiikkkhcolcebaaGreatDoor
