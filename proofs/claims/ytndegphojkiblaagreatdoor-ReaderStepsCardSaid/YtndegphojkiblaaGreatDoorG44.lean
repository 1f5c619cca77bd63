/- A part. -/
import Derived.Test.YtndegphojkiblaaGreatDoorG13
import Derived.Test.YtndegphojkiblaaGreatDoorG24
set_option linter.all false
set_option maxHeartbeats 4000000
set_option maxRecDepth 100000
namespace Go.Proofs.YtndegphojkiblaaGreatDoor
noncomputable section
section
open Go.RowKit
def sU:List L->List L
 |[a,b,c,d,e,f,g]=>[.i a.a_,.i b.a_,.r c.bm,.i d.a_,.i e.a_,.b f.ck,.r g.bm]
 |o=>o
theorem awA(o:List L):(sU o).length=o.length:=by
 unfold sU;split<;>rfl
noncomputable section
def Lw:List L->Option (List L):=λls=>(yJ ls).map sU
def zI:bB:=⟨11,[cs 0,ci 1],[],2,7,.v (.agg [pi 2,pi 3,ps 4,pi 5,pi 6,.p .bool U7,ps 8,.mp 0]),[(0,.map)],Lw,2156⟩
theorem akx:zI.ok Tryz.prog:=by
 intro ls o n l m;have l:(yJ ls).map sU=some o:=l;rw[bY]at l;obtain⟨os,p,rfl⟩:=l;have m:os.length=7:=(awA os).symm.trans m
 match ls,n,os,m with
 |[a,b],_,[c,d,f,g,i,j,k],_=>
  have h:=(Ok.j zF) [a,b] [c,d,f,g,i,j,k] rfl p rfl;have e:zI.res.a6 ([a,b]++sU [c,d,f,g,i,j,k])=zF.res.a6 ([a,b]++[c,d,f,g,i,j,k]):=rfl;have e2:zI.out.a6 ([a,b]++sU [c,d,f,g,i,j,k])=zF.out.a6 ([a,b]++[c,d,f,g,i,j,k]):=rfl;rw[e,e2];exact h
instance:Ok zI:=⟨akx⟩
end
end
end
end Go.Proofs.YtndegphojkiblaaGreatDoor
