/- A part of the proof. -/
import Derived.Test.YtndegphojkiblaaGreatDoorR41
set_option linter.all false
set_option maxHeartbeats 4000000
set_option maxRecDepth 100000
namespace Go.Proofs.YtndegphojkiblaaGreatDoor
noncomputable section
section
open Go.ChangeShapes Go.WideShapes Go.ChangeAt Go.RowKit AI
theorem aic:laidOutB Tryz.prog=true:=kr
def oP:List (String×DataW Unit):=Rows.readerRetriesRow.laid
theorem ajt (JU:∀(os:Os) (H:Type) (enc:a6×bh→H),∃(w:a7) (tape:Tape) (i:Input),w.os=os∧(w.forCall tape i).Shaped Tryz.prog∧i.vars=[]∧Input.okWide Tryz.prog (w.forCall tape i) .any w.heap.size 6 i∧
   ((Rows.readerRetriesSpec.pre enc Tryz.prog Tryz.f6 [] false (w.forCall tape i).memory i.args∧laidMetH Tryz.prog oP (w.forCall tape i).memory)∧sizedMet enc Tryz.prog Tryz.f6 (OpenSpec.ofChange Rows.readerRetriesSpec) false (w.forCall tape i).memory i.args)∧Assume.holds {} Tryz.prog (lone (Frame.enter Tryz.prog 6 i.args .normal) [] (w.forCall tape i)))
  (os:Os) (started:os.Started) (H:Type) (enc:a6×bh→H):
  ReturnsInHanded {} Tryz.checked os 6 .any (fun w args=> (Rows.readerRetriesSpec.pre enc Tryz.prog Tryz.f6 [] false w args∧laidMetH Tryz.prog oP w)∧sizedMet enc Tryz.prog Tryz.f6 (OpenSpec.ofChange Rows.readerRetriesSpec) false w args)
   (Rows.readerRetriesSpec.post enc Tryz.prog Tryz.f6 false true false false):=by
 refine returnsInHanded_of_change_and (C:=Tryz.checked) (X:=fun w _=>laidMetH Tryz.prog oP w) (fun _ _ _ hh h=>h.of_heap hh) awe started kr Tryz.func6 (JU os H enc) ?_;intro W base args ds gs before aby hW _ _ hL _;have hval:∀(j:Nat) t v,Tryz.f6.params[j]? =some t→args[j]? =some v→Value.okWide Tryz.prog W .any base t v:=aby;have hW':=hW;obtain⟨p,q,hA0,hV,rfl,bX,sX⟩:=hW;have hA:DataW.TrodAll enc Tryz.prog W 0 (fun _=>true) true Tryz.f6.params.toList args.toList ds p:=hA0;rw[Tryz.params6]at hA hval;obtain⟨v0,vs0,d0,ds0,p0,q0,od,rfl,rfl,h0,r0⟩:=trodAll_cons hA;obtain⟨v1,vs1,d1,ds1,p1,q1,rfl,rfl,rfl,h1,r1⟩:=trodAll_cons r0;obtain⟨rfl,rfl,rfl⟩:=trodAll_nil r1;obtain rfl:args= #[v0,v1]:=by cases args;simp_all
 obtain⟨rfl,rfl⟩:=trodVars_none hV;obtain⟨a0,aEB,aaF,rfl⟩:=okWide_slice Tryz.underlying30 (hval 0 30 v0 rfl rfl);obtain⟨key,rfl,rfl,rfl,w1⟩:=open_int Tryz.underlying22 (hval 1 22 v1 rfl rfl) h1;have k0:=h0;have lt0:∀x∈p0,x.block<W.heap.size:=by obtain⟨m,hm⟩:=k0;exact DataW.trod_lt m _ _ _ hm
 obtain⟨fuel,hf⟩:=h0;obtain⟨v,pv,e1,⟨rows,rfl,-,hr⟩,hR⟩:=awl _ _ _ hf;have e1:[Value.slice a0 aEB aaF]=[v]:=e1;cases e1;clear hA0 aby;refine(calls6 (key:=key) hR hr).mono fun e W' ⟨he,bel⟩=> ?_
 subst he;exact⟨_,rfl,_,_,_,[],_,[],hW',trodAll_mk1 (shut_bool Tryz.underlying4 _),(trodAll_cons_mk (Below.trod aic kr (dG kr) k0 bel lt0) (trodAll_cons_mk (shut_int Tryz.underlying22 w1) trodAll_mk0)),rfl,bel.frame _,fun h=>by cases h⟩
end
end
end Go.Proofs.YtndegphojkiblaaGreatDoor
