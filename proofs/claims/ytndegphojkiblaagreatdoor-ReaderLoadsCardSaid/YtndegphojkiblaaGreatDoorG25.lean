/- Towards the last file's theorem: part 25. -/
import Derived.Test.YtndegphojkiblaaGreatDoorG23
set_option linter.all false
set_option maxHeartbeats 4000000
set_option maxRecDepth 100000
namespace Go.Proofs.YtndegphojkiblaaGreatDoor
noncomputable section
section
open Go.RowKit
attribute [local irreducible] Fo
def vB:List L→List L
 |[a,b,c,d,e,f,g]=> [.i a.af,.i b.af,.r c.ah,.i d.af,.i e.af,.b f.br,.r g.ah]
 |o=>o
theorem aoS (o:List L):(vB o).length=o.length:=by
 unfold vB;split<;>rfl
noncomputable section
def M1:List L→Option (List L):=fun ls=> (G2 ls).map vB
def PM:az:=⟨11,[cs 0,ci 1],[],2,7,.v (.agg [pi 2,pi 3,ps 4,pi 5,pi 6,.p .bool U7,ps 8,.mp 0]),[(0,.map)],M1,2156⟩
theorem avr:PM.ok Tryz.prog:=by
 intro ls o hl hF ho;have hF:(G2 ls).map vB=some o:=hF;rw[aW]at hF;obtain⟨os,h1,rfl⟩:=hF;have ho:os.length=7:=(aoS os).symm.trans ho
 match ls,hl,os,ho with
 |[a,b],_,[o0,o1,o2,o3,o4,o5,o6],_=>
  have h:=arC [a,b] [o0,o1,o2,o3,o4,o5,o6] rfl h1 rfl;have e:PM.res.aa ([a,b]++vB [o0,o1,o2,o3,o4,o5,o6])=FL.res.aa ([a,b]++ [o0,o1,o2,o3,o4,o5,o6]):=rfl;have e2:PM.out.aa ([a,b]++vB [o0,o1,o2,o3,o4,o5,o6])=FL.out.aa ([a,b]++ [o0,o1,o2,o3,o4,o5,o6]):=rfl;rw[e,e2];exact h
end
end
end
end Go.Proofs.YtndegphojkiblaaGreatDoor
