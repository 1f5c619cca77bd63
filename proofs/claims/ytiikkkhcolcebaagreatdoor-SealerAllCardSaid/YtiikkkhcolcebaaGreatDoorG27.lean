/- A part. -/
import Derived.Test.YtiikkkhcolcebaaGreatDoorG15
import Derived.WalkKit
import Derived.Lib.AppendZeros
import Derived.Lib.AppendZerosOnto
import Derived.Lib.Overlaps
import Derived.Laws.Externs
import Derived.Deep.RegionLaw
import Derived.WalkSpells
import Derived.Shelf.Spec.SlicesInsert
import Derived.StillTail
import Derived.IntWalk
import Derived.StillTailTactics
set_option linter.all false
set_option maxHeartbeats 4000000
set_option maxRecDepth 100000
namespace Go.Proofs.YtiikkkhcolcebaaGreatDoor
noncomputable section
section
open Go.RowKit
open Classical
namespace Si
def tU:Code:=((Code.region 7 #[{dst:=some 23,op:=Op.move (Operand.tmp 0),type:=55,pos:= "slices.go:145",after:= #[],guard:=none},{dst:=some 24,op:=Op.move (Operand.tmp 2),type:=55,pos:= "slices.go:145",after:= #[],guard:=none},{dst:=some 25,op:=Op.call {callee:=Callee.builtin Builtin.append,args:= #[Operand.tmp 23,Operand.tmp 24],argTypes:= #[55,55]},type:=55,pos:= "slices.go:145",after:= #[{on:=0,ground:=Ground.data},{on:=1,ground:=Ground.data}],guard:=none},{dst:=some 6,op:=Op.assign (Operand.tmp 25),type:=55,pos:= "slices.go:145",after:= #[{on:=2,ground:=Ground.data},{on:=2,ground:=Ground.chain},{on:=0,ground:=Ground.phase},{on:=1,ground:=Ground.phase},{on:=2,ground:=Ground.phase}],guard:=none}] false).seq Code.ret)
def tD:Code:=((Code.region 10 #[{dst:=some 41,op:=Op.move (Operand.tmp 9),type:=55,pos:= "slices.go:153",after:= #[],guard:=none},{dst:=some 42,op:=Op.move (Operand.tmp 1),type:=3,pos:= "slices.go:153",after:= #[],guard:=none},{dst:=some 43,op:=Op.slice 55 (Operand.tmp 41) (some (Operand.tmp 42)) none none,type:=55,pos:= "slices.go:153",after:= #[{on:=0,ground:=Ground.data},{on:=1,ground:=Ground.data}],guard:=none},{dst:=some 44,op:=Op.move (Operand.tmp 2),type:=55,pos:= "slices.go:153",after:= #[],guard:=none},{dst:=some 45,op:=Op.call {callee:=Callee.builtin Builtin.copy,args:= #[Operand.tmp 43,Operand.tmp 44],argTypes:= #[55,55]},type:=3,pos:= "slices.go:153",after:= #[{on:=2,ground:=Ground.data},{on:=3,ground:=Ground.data}],guard:=none}] false).seq ((Code.region 11 #[{dst:=some 46,op:=Op.move (Operand.tmp 9),type:=55,pos:= "slices.go:154",after:= #[],guard:=none},{dst:=some 47,op:=Op.move (Operand.tmp 1),type:=3,pos:= "slices.go:154",after:= #[],guard:=none},{dst:=some 48,op:=Op.move (Operand.tmp 7),type:=3,pos:= "slices.go:154",after:= #[],guard:=none},{dst:=some 49,op:=Op.binOp BinOp.add 3 (Operand.tmp 47) (Operand.tmp 48) 3,type:=3,pos:= "slices.go:154",after:= #[{on:=1,ground:=Ground.data},{on:=2,ground:=Ground.data}],guard:=none},{dst:=some 50,op:=Op.slice 55 (Operand.tmp 46) (some (Operand.tmp 49)) none none,type:=55,pos:= "slices.go:154",after:= #[{on:=0,ground:=Ground.data},{on:=3,ground:=Ground.data}],guard:=none},{dst:=some 51,op:=Op.move (Operand.tmp 0),type:=55,pos:= "slices.go:154",after:= #[],guard:=none},{dst:=some 52,op:=Op.move (Operand.tmp 1),type:=3,pos:= "slices.go:154",after:= #[],guard:=none},{dst:=some 53,op:=Op.slice 55 (Operand.tmp 51) (some (Operand.tmp 52)) none none,type:=55,pos:= "slices.go:154",after:= #[{on:=5,ground:=Ground.data},{on:=6,ground:=Ground.data}],guard:=none},{dst:=some 54,op:=Op.call {callee:=Callee.builtin Builtin.copy,args:= #[Operand.tmp 50,Operand.tmp 53],argTypes:= #[55,55]},type:=3,pos:= "slices.go:154",after:= #[{on:=4,ground:=Ground.data},{on:=7,ground:=Ground.data}],guard:=none}] true).seq ((Code.region 12 #[{dst:=some 55,op:=Op.move (Operand.tmp 9),type:=55,pos:= "slices.go:155",after:= #[],guard:=none},{dst:=some 6,op:=Op.assign (Operand.tmp 55),type:=55,pos:= "slices.go:155",after:= #[{on:=0,ground:=Ground.data},{on:=0,ground:=Ground.phase}],guard:=none}] false).seq Code.ret)))
def ua:Code:=((Code.region 16 #[{dst:=some 78,op:=Op.move (Operand.tmp 0),type:=55,pos:= "slices.go:186",after:= #[],guard:=none},{dst:=some 79,op:=Op.move (Operand.tmp 1),type:=3,pos:= "slices.go:186",after:= #[],guard:=none},{dst:=some 80,op:=Op.slice 55 (Operand.tmp 78) (some (Operand.tmp 79)) none none,type:=55,pos:= "slices.go:186",after:= #[{on:=0,ground:=Ground.data},{on:=1,ground:=Ground.data}],guard:=none},{dst:=some 81,op:=Op.move (Operand.tmp 2),type:=55,pos:= "slices.go:186",after:= #[],guard:=none},{dst:=some 82,op:=Op.call {callee:=Callee.builtin Builtin.copy,args:= #[Operand.tmp 80,Operand.tmp 81],argTypes:= #[55,55]},type:=3,pos:= "slices.go:186",after:= #[{on:=2,ground:=Ground.data},{on:=3,ground:=Ground.data}],guard:=none}] false).seq ((Code.region 17 #[{dst:=some 83,op:=Op.move (Operand.tmp 0),type:=55,pos:= "slices.go:193",after:= #[],guard:=none},{dst:=some 6,op:=Op.assign (Operand.tmp 83),type:=55,pos:= "slices.go:193",after:= #[{on:=0,ground:=Ground.data},{on:=0,ground:=Ground.phase}],guard:=none}] false).seq Code.ret))
theorem tj:Tryz.f273.body=some (((Code.region 0 #[{dst:=some 6,op:=Op.assign (Operand.const (Value.slice none 0 0)),type:=55,pos:= "slices.go:136",after:= #[],guard:=none}] false).seq ((Code.region 1 #[{dst:=some 10,op:=Op.move (Operand.tmp 0),type:=55,pos:= "slices.go:137",after:= #[],guard:=none},{dst:=some 11,op:=Op.move (Operand.tmp 1),type:=3,pos:= "slices.go:137",after:= #[],guard:=none},{dst:=some 12,op:=Op.slice 55 (Operand.tmp 10) (some (Operand.tmp 11)) none none,type:=55,pos:= "slices.go:137",after:= #[{on:=0,ground:=Ground.data},{on:=1,ground:=Ground.data}],guard:=none}] false).seq ((Code.region 2 #[{dst:=some 13,op:=Op.move (Operand.tmp 2),type:=55,pos:= "slices.go:139",after:= #[],guard:=none},{dst:=some 14,op:=Op.call {callee:=Callee.builtin Builtin.len,args:= #[Operand.tmp 13],argTypes:= #[55]},type:=3,pos:= "slices.go:139",after:= #[{on:=0,ground:=Ground.data}],guard:=none},{dst:=some 7,op:=Op.assign (Operand.tmp 14),type:=3,pos:= "slices.go:139",after:= #[{on:=1,ground:=Ground.data},{on:=0,ground:=Ground.phase},{on:=1,ground:=Ground.phase}],guard:=none}] false).seq (((Code.region 3 #[{dst:=some 15,op:=Op.move (Operand.tmp 7),type:=3,pos:= "slices.go:140",after:= #[],guard:=none},{dst:=some 16,op:=Op.binOp BinOp.eql 3 (Operand.tmp 15) (Operand.const (Value.int IntKind.i64 0)) 3,type:=4,pos:= "slices.go:140",after:= #[{on:=0,ground:=Ground.data}],guard:=none}] false).seq (Code.cond (Operand.tmp 16) ((Code.region 4 #[{dst:=some 17,op:=Op.move (Operand.tmp 0),type:=55,pos:= "slices.go:141",after:= #[],guard:=none},{dst:=some 6,op:=Op.assign (Operand.tmp 17),type:=55,pos:= "slices.go:141",after:= #[{on:=0,ground:=Ground.data},{on:=0,ground:=Ground.phase}],guard:=none}] false).seq Code.ret) Code.skip)).seq ((Code.region 5 #[{dst:=some 18,op:=Op.move (Operand.tmp 0),type:=55,pos:= "slices.go:143",after:= #[],guard:=none},{dst:=some 19,op:=Op.call {callee:=Callee.builtin Builtin.len,args:= #[Operand.tmp 18],argTypes:= #[55]},type:=3,pos:= "slices.go:143",after:= #[{on:=0,ground:=Ground.data}],guard:=none},{dst:=some 8,op:=Op.assign (Operand.tmp 19),type:=3,pos:= "slices.go:143",after:= #[{on:=1,ground:=Ground.data},{on:=0,ground:=Ground.phase},{on:=1,ground:=Ground.phase}],guard:=none}] false).seq (((Code.region 6 #[{dst:=some 20,op:=Op.move (Operand.tmp 1),type:=3,pos:= "slices.go:144",after:= #[],guard:=none},{dst:=some 21,op:=Op.move (Operand.tmp 8),type:=3,pos:= "slices.go:144",after:= #[],guard:=none},{dst:=some 22,op:=Op.binOp BinOp.eql 3 (Operand.tmp 20) (Operand.tmp 21) 3,type:=4,pos:= "slices.go:144",after:= #[{on:=0,ground:=Ground.data},{on:=1,ground:=Ground.data}],guard:=none}] false).seq (Code.cond (Operand.tmp 22) tU Code.skip)).seq (((Code.region 8 #[{dst:=some 26,op:=Op.move (Operand.tmp 8),type:=3,pos:= "slices.go:147",after:= #[],guard:=none},{dst:=some 27,op:=Op.move (Operand.tmp 7),type:=3,pos:= "slices.go:147",after:= #[],guard:=none},{dst:=some 28,op:=Op.binOp BinOp.add 3 (Operand.tmp 26) (Operand.tmp 27) 3,type:=3,pos:= "slices.go:147",after:= #[{on:=0,ground:=Ground.data},{on:=1,ground:=Ground.data}],guard:=none},{dst:=some 29,op:=Op.move (Operand.tmp 0),type:=55,pos:= "slices.go:147",after:= #[],guard:=none},{dst:=some 30,op:=Op.call {callee:=Callee.builtin Builtin.cap,args:= #[Operand.tmp 29],argTypes:= #[55]},type:=3,pos:= "slices.go:147",after:= #[{on:=3,ground:=Ground.data}],guard:=none},{dst:=some 31,op:=Op.binOp BinOp.gtr 3 (Operand.tmp 28) (Operand.tmp 30) 3,type:=4,pos:= "slices.go:147",after:= #[{on:=2,ground:=Ground.data},{on:=4,ground:=Ground.data}],guard:=none}] false).seq (Code.cond (Operand.tmp 31) ((Code.region 9 #[{dst:=some 32,op:=Op.move (Operand.tmp 0),type:=55,pos:= "slices.go:152",after:= #[],guard:=none},{dst:=some 33,op:=Op.move (Operand.tmp 1),type:=3,pos:= "slices.go:152",after:= #[],guard:=none},{dst:=some 34,op:=Op.slice 55 (Operand.tmp 32) none (some (Operand.tmp 33)) none,type:=55,pos:= "slices.go:152",after:= #[{on:=0,ground:=Ground.data},{on:=1,ground:=Ground.data}],guard:=none},{dst:=some 35,op:=Op.move (Operand.tmp 8),type:=3,pos:= "slices.go:152",after:= #[],guard:=none},{dst:=some 36,op:=Op.move (Operand.tmp 7),type:=3,pos:= "slices.go:152",after:= #[],guard:=none},{dst:=some 37,op:=Op.binOp BinOp.add 3 (Operand.tmp 35) (Operand.tmp 36) 3,type:=3,pos:= "slices.go:152",after:= #[{on:=3,ground:=Ground.data},{on:=4,ground:=Ground.data}],guard:=none},{dst:=some 38,op:=Op.move (Operand.tmp 1),type:=3,pos:= "slices.go:152",after:= #[],guard:=none},{dst:=some 39,op:=Op.binOp BinOp.sub 3 (Operand.tmp 37) (Operand.tmp 38) 3,type:=3,pos:= "slices.go:152",after:= #[{on:=5,ground:=Ground.data},{on:=6,ground:=Ground.data}],guard:=none},{dst:=some 40,op:=Op.call {callee:=Callee.builtin Builtin.append,args:= #[Operand.tmp 34,Operand.tmp 39],argTypes:= #[55,3]},type:=55,pos:= "slices.go:152",after:= #[{on:=2,ground:=Ground.data},{on:=7,ground:=Ground.data}],guard:=none},{dst:=some 9,op:=Op.assign (Operand.tmp 40),type:=55,pos:= "slices.go:152",after:= #[{on:=8,ground:=Ground.data},{on:=8,ground:=Ground.chain},{on:=0,ground:=Ground.phase},{on:=1,ground:=Ground.phase},{on:=2,ground:=Ground.phase},{on:=3,ground:=Ground.phase},{on:=4,ground:=Ground.phase},{on:=5,ground:=Ground.phase},{on:=6,ground:=Ground.phase},{on:=7,ground:=Ground.phase},{on:=8,ground:=Ground.phase}],guard:=none}] false).seq tD) Code.skip)).seq ((Code.region 13 #[{dst:=some 56,op:=Op.move (Operand.tmp 0),type:=55,pos:= "slices.go:157",after:= #[],guard:=none},{dst:=some 57,op:=Op.move (Operand.tmp 8),type:=3,pos:= "slices.go:157",after:= #[],guard:=none},{dst:=some 58,op:=Op.move (Operand.tmp 7),type:=3,pos:= "slices.go:157",after:= #[],guard:=none},{dst:=some 59,op:=Op.binOp BinOp.add 3 (Operand.tmp 57) (Operand.tmp 58) 3,type:=3,pos:= "slices.go:157",after:= #[{on:=1,ground:=Ground.data},{on:=2,ground:=Ground.data}],guard:=none},{dst:=some 60,op:=Op.slice 55 (Operand.tmp 56) none (some (Operand.tmp 59)) none,type:=55,pos:= "slices.go:157",after:= #[{on:=0,ground:=Ground.data},{on:=3,ground:=Ground.data}],guard:=none},{dst:=some 0,op:=Op.assign (Operand.tmp 60),type:=55,pos:= "slices.go:157",after:= #[{on:=4,ground:=Ground.data},{on:=0,ground:=Ground.phase},{on:=1,ground:=Ground.phase},{on:=2,ground:=Ground.phase},{on:=3,ground:=Ground.phase},{on:=4,ground:=Ground.phase}],guard:=none}] false).seq (((Code.region 14 #[{dst:=some 61,op:=Op.move (Operand.tmp 2),type:=55,pos:= "slices.go:173",after:= #[],guard:=none},{dst:=some 62,op:=Op.move (Operand.tmp 0),type:=55,pos:= "slices.go:173",after:= #[],guard:=none},{dst:=some 63,op:=Op.move (Operand.tmp 1),type:=3,pos:= "slices.go:173",after:= #[],guard:=none},{dst:=some 64,op:=Op.move (Operand.tmp 7),type:=3,pos:= "slices.go:173",after:= #[],guard:=none},{dst:=some 65,op:=Op.binOp BinOp.add 3 (Operand.tmp 63) (Operand.tmp 64) 3,type:=3,pos:= "slices.go:173",after:= #[{on:=2,ground:=Ground.data},{on:=3,ground:=Ground.data}],guard:=none},{dst:=some 66,op:=Op.slice 55 (Operand.tmp 62) (some (Operand.tmp 65)) none none,type:=55,pos:= "slices.go:173",after:= #[{on:=1,ground:=Ground.data},{on:=4,ground:=Ground.data}],guard:=none},{dst:=some 67,op:=Op.call {callee:=Callee.value (Operand.func 316),args:= #[Operand.tmp 61,Operand.tmp 66],argTypes:= #[55,55]},type:=4,pos:= "slices.go:173",after:= #[{on:=0,ground:=Ground.data},{on:=5,ground:=Ground.data}],guard:=none},{dst:=some 68,op:=Op.unOp UnOp.not 4 (Operand.tmp 67),type:=4,pos:= "slices.go:173",after:= #[{on:=6,ground:=Ground.data}],guard:=none}] false).seq (Code.cond (Operand.tmp 68) ((Code.region 15 #[{dst:=some 69,op:=Op.move (Operand.tmp 0),type:=55,pos:= "slices.go:178",after:= #[],guard:=none},{dst:=some 70,op:=Op.move (Operand.tmp 1),type:=3,pos:= "slices.go:178",after:= #[],guard:=none},{dst:=some 71,op:=Op.move (Operand.tmp 7),type:=3,pos:= "slices.go:178",after:= #[],guard:=none},{dst:=some 72,op:=Op.binOp BinOp.add 3 (Operand.tmp 70) (Operand.tmp 71) 3,type:=3,pos:= "slices.go:178",after:= #[{on:=1,ground:=Ground.data},{on:=2,ground:=Ground.data}],guard:=none},{dst:=some 73,op:=Op.slice 55 (Operand.tmp 69) (some (Operand.tmp 72)) none none,type:=55,pos:= "slices.go:178",after:= #[{on:=0,ground:=Ground.data},{on:=3,ground:=Ground.data}],guard:=none},{dst:=some 74,op:=Op.move (Operand.tmp 0),type:=55,pos:= "slices.go:178",after:= #[],guard:=none},{dst:=some 75,op:=Op.move (Operand.tmp 1),type:=3,pos:= "slices.go:178",after:= #[],guard:=none},{dst:=some 76,op:=Op.slice 55 (Operand.tmp 74) (some (Operand.tmp 75)) none none,type:=55,pos:= "slices.go:178",after:= #[{on:=5,ground:=Ground.data},{on:=6,ground:=Ground.data}],guard:=none},{dst:=some 77,op:=Op.call {callee:=Callee.builtin Builtin.copy,args:= #[Operand.tmp 73,Operand.tmp 76],argTypes:= #[55,55]},type:=3,pos:= "slices.go:178",after:= #[{on:=4,ground:=Ground.data},{on:=7,ground:=Ground.data}],guard:=none}] true).seq ua) Code.skip)).seq ((Code.region 18 #[{dst:=some 84,op:=Op.move (Operand.tmp 0),type:=55,pos:= "slices.go:200",after:= #[],guard:=none},{dst:=some 85,op:=Op.move (Operand.tmp 8),type:=3,pos:= "slices.go:200",after:= #[],guard:=none},{dst:=some 86,op:=Op.slice 55 (Operand.tmp 84) (some (Operand.tmp 85)) none none,type:=55,pos:= "slices.go:200",after:= #[{on:=0,ground:=Ground.data},{on:=1,ground:=Ground.data}],guard:=none},{dst:=some 87,op:=Op.move (Operand.tmp 2),type:=55,pos:= "slices.go:200",after:= #[],guard:=none},{dst:=some 88,op:=Op.call {callee:=Callee.builtin Builtin.copy,args:= #[Operand.tmp 86,Operand.tmp 87],argTypes:= #[55,55]},type:=3,pos:= "slices.go:200",after:= #[{on:=2,ground:=Ground.data},{on:=3,ground:=Ground.data}],guard:=none}] false).seq ((Code.region 19 #[{dst:=some 89,op:=Op.move (Operand.tmp 0),type:=55,pos:= "slices.go:207",after:= #[],guard:=none},{dst:=some 90,op:=Op.move (Operand.tmp 1),type:=3,pos:= "slices.go:207",after:= #[],guard:=none},{dst:=some 91,op:=Op.slice 55 (Operand.tmp 89) (some (Operand.tmp 90)) none none,type:=55,pos:= "slices.go:207",after:= #[{on:=0,ground:=Ground.data},{on:=1,ground:=Ground.data}],guard:=none},{dst:=some 92,op:=Op.move (Operand.tmp 7),type:=3,pos:= "slices.go:207",after:= #[],guard:=none},{dst:=some 93,op:=Op.call {callee:=Callee.value (Operand.func 317),args:= #[Operand.tmp 91,Operand.tmp 92],argTypes:= #[55,3]},type:=0,pos:= "slices.go:207",after:= #[{on:=2,ground:=Ground.data},{on:=3,ground:=Ground.data}],guard:=none}] false).seq ((Code.region 20 #[{dst:=some 94,op:=Op.move (Operand.tmp 0),type:=55,pos:= "slices.go:214",after:= #[],guard:=none},{dst:=some 6,op:=Op.assign (Operand.tmp 94),type:=55,pos:= "slices.go:214",after:= #[{on:=0,ground:=Ground.data},{on:=0,ground:=Ground.phase}],guard:=none}] false).seq Code.ret))))))))))))):=rfl
def oq(l:List (Nat×SV)):List SV:=(List.range 95).map λi=>(l.lookup i).getD (.v (.c .dead))
def o(n:Nat):SV:=.v (.c (.own n))
def n(k:Nat):SV:=.v (.c (.p (.int .i64) (.v k)))
def SE:bq:=⟨oq [(0,o 0),(2,o 1)],[(0,.row 144 (.v 0)),(1,.row 144 (.v 1))],[],2,2⟩
def SA:bq:=⟨oq [(0,o 0),(1,n 2),(2,o 1),(7,n 3),(9,o 2)],[(2,.row 144 (.v 4)),(0,.row 144 (.v 0)),(1,.row 144 (.v 1))],[],3,5⟩
def R1:bq:=⟨oq [(0,o 2),(1,n 1),(2,o 1)],[(2,.row 144 (.v 2)),(1,.row 144 (.v 0))],[],3,3⟩
end Si
namespace Si
def E_(T:bV)(k0 a:Nat)(b:bq)(d:Nat)(e:Ex)(S:bq):Option bl:=match e with
 |.ret=>jmp T k0 a b d .normal S
 |_=>none
theorem ajh{T k0 a b d e S c ρ1}(h:E_ T k0 a b d e S=some c):c.a_ ρ1=((E_ T k0 a b 0 e S).bind (·.a_ ρ1)).map (lift d):=by
 cases e with
 |ret=>
  simp only[E_]at h⊢;exact yq h
 |_=>cases h
def AU(T:bV)(C:eP)(c:Code)(k0:Nat)(rs:List ResultVar)(S:bq):Option vE:=
 match exec T C k0 c (n9 rs) [] (n9 rs) S with
 |some t=>match(merge (n9 rs) k0 S.nv t.p8).map (bq.order k0)with
  |some a=>match t.bind (E_ T k0 S.nv a) 0,yS T rs a with
   |some u,some r=>some ⟨u,r,a.heap.filter (λx=>(reach a.heap 4 (List.range k0++r.names)).contains x.1),a.nv-S.nv⟩
   |_,_=>none
  |none=>none
 |none=>none
theorem Ld{P T C}(j:bV.ok P T)(B:eP.ok P C)(D:P.follows .mixedOrders=true){c k0 rs S o}(l:S.bu=[])(h:AU T C c k0 rs S=some o)
 {ls os} (p:ls.length=S.nv) (g:fQ (o.yY.a_ ls)=some os) {X} (hP:X.P=P) (iN:X.k0=k0):Aw X c (λe st=>e=.ret/\nD P rs (o.res.a_ (ls++os)) (o.out.a_ (ls++os)) e st) (S.a_ ls):=by
 unfold AU at h;split at h
 .rename_i t y;split at h
  .rename_i E F;split at h
   .rename_i u r G H;cases h;have f:=lB j B D c (S:=S) l y;simp only[fQ]at g;split at g
    .rename_i k I q J;cases g;obtain⟨e,z,ρ1,v,K,A,L⟩:=pX (λx ρ1 M=>(f ls x ρ1 p M).bare) (λe z ρ1 y d u1 N=>ajh N) G J;obtain⟨e',O,Q,R,⟨ys,U⟩,V,W⟩:=f ls _ _ p K;cases Q;subst U;have key:e=.ret/\∀X:Fx,X.P=P->X.k0=k0->Le X (z.a_ (ls++ys)) (E.a_ (ls++I.map (At.ev q))):=by
      cases e with
      |ret=>
       obtain⟨Y,zs,Z,_,_,j4⟩:=sW j p R V A L;cases Z;exact⟨rfl,j4⟩
      |_=>cases A
     obtain⟨rfl,s⟩:=key;refine mr (W X hP iN _ ⟨_,s X hP iN,?_⟩);refine⟨rfl,?_,J1 j H,λn b a=>?_⟩;rotate_left
     .rw[eK];rw[cU.qs]at a;simp only[bY]at a;obtain⟨b0,w,rfl⟩:=a;rw[zh w];rfl
     trivial
    .cases g
   .cases h
  .cases h
 .cases h
theorem aru{a k ρ l}(h:Nd.ev ρ a=some l):(bl.op a k).a_ ρ=k.a_ (ρ++l):=by
 simp only[bl.a_,h]
theorem lS{a k ρ l r}(h:Nd.ev ρ a=some l)(b:fQ (k.a_ (ρ++l))=r):fQ ((bl.op a k).a_ ρ)=r:=by rw[aru h];exact b
theorem DX{ρ x lo a size}{l h:Int}{rows:List (List PV)}(b:(lo.ev ρ).br=l)(c:(At.ev ρ a).br=h)(e:(x.ev ρ).bC=rows)(f:0<=l/\l<=h/\h.toNat<=rows.length/\oC size rows=true){d:Nat}(g:h.toNat-l.toNat=d):
 Nd.ev ρ (.cut x lo a size)=some [.i (d:Int)]:=by
 simp only[Nd.ev,b,c,e];rw[bA f,g]
theorem Nw{ρ x lo ln y size}{l h:Nat}{rows ys:List (List PV)}(a:(lo.ev ρ).br=(l:Int))(b:(At.ev ρ ln).br=(h:Int))(c:(x.ev ρ).bC=rows)(d:(y.ev ρ).bC=ys)(hR:ct size ys=true)(e:l+h<=rows.length){k:Nat}(f:min ys.length h=k){rs}(g:rows.take l++ys.take k++rows.drop (l+k)=rs):
 Nd.ev ρ (.ox x lo ln y size)=some [.r rs,.i (k:Int)]:=by
 simp only[Nd.ev,a,b,c,d,ey];rw[bA ⟨hR,e⟩,f,g]
theorem anG{ρ x lo ln}{l h:Nat}{rows:List (List PV)}(a:(lo.ev ρ).br=(l:Int))(b:(At.ev ρ ln).br=(h:Int))(c:(x.ev ρ).bC=rows){rs}(d:(rows.drop l).take h=rs):
 Nd.ev ρ (.vw x lo ln)=some [.r rs]:=by
 simp only[Nd.ev,a,b,c,ey,d]
theorem CC{ρ x}{rows:List (List PV)}(a:(At.ev ρ x).bC=rows){k:Nat}(b:rows.length=k):Nd.ev ρ (.len x)=some [.i (k:Int)]:=by
 simp only[Nd.ev,a,b]
theorem aiz{ρ x y}{a b:Nat}(c:(At.ev ρ x).br=(a:Int))(d:(At.ev ρ y).br=(b:Int))(h:a+b<=9223372036854775807):Nd.ev ρ (.bi .add .i64 x y)=some [.i ((a+b:Nat):Int)]:=by
 have e:IntKind.i64.wrap ((a:Int)+(b:Int))=((a+b:Nat):Int):=by rw[IntKind.wrap_i64];omega
 simp only[Nd.ev,c,d,dV,e];rfl
theorem Ca{size:Nat}{rows:List (List PV)}(h:dy size rows):oC size rows=true:=by
 cases rows with
 |nil=>rfl
 |cons r l=>simp[oC,h r (by simp)]
def L2:bl:=.op (.app (.v 0) (.v 1) 3 64) (.bp (.jump 0 [(.v 2)]))
def G_:bl:=.op (.len (.v 4))<| .op (.cut (.v 4) (.v 2) (.v 5) 3)<| .op (.ox (.v 4) (.v 2) (.v 6) (.v 1) 3)<| .op (.bi .add .i64 (.v 2) (.v 3))<| .op (.len (.v 7))<|
 .op (.cut (.v 7) (.v 9) (.v 10) 3)<| .op (.len (.v 0))<| .op (.cut (.v 0) (.v 2) (.v 12) 3)<| .op (.vw (.v 0) (.v 2) (.v 13))<| .op (.ox (.v 7) (.v 9) (.v 11) (.v 14) 3)<| .bp (.jump 0 [(.v 15)])
def Kk:bl:=.op (.len (.v 2))<| .op (.cut (.v 2) (.v 1) (.v 3) 3)<| .op (.ox (.v 2) (.v 1) (.v 4) (.v 0) 3)<| .bp (.jump 0 [(.v 5)])
section
variable{rows vs:List (List PV)}{i m n:Nat}
theorem auf(hR:dy 3 rows)(a:dy 3 vs)(b:(rows.length+vs.length)*64<=140737488355328):fQ (L2.a_ [.r rows,.r vs])=some [.r (rows++vs)]:=by
 have h:Nd.ev [.r rows,.r vs] (.app (.v 0) (.v 1) 3 64)=some [.r (rows++vs)]:=by
  show(if rows.length+vs.length<=9223372036854775807/\(rows.length+vs.length)*64<=140737488355328/\ct 3 rows=true/\ct 3 vs=true then some [L.r (rows++vs)]else none)=_;rw[bA ⟨om,b,jk.2 hR,jk.2 a⟩]
 unfold L2;exact lS h rfl
theorem abo(q:rows.length=n)(s:vs.length=m)(w:i<=n)(hR:dy 3 rows)(o:dy 3 vs)(x:(n+m)*64<=140737488355328){Z:List (List PV)}(p:dy 3 Z)(t:Z.length=n+m-i):
 fQ (G_.a_ [.r rows,.r vs,.i i,.i m,.r (rows.take i++Z)])=some [.r (rows.take i++vs++rows.drop i)]:=by
 have c:(rows.take i).length=i:=by simp;omega
 have u:(rows.take i++Z).length=n+m:=by simp;omega
 have e:dy 3 (rows.take i++Z):=(hR.take i).app p;have c1:(rows.take i++Z).take i++vs.take m++(rows.take i++Z).drop (i+m)=rows.take i++vs++Z.drop m:=by
  rw[List.take_left' c,eo (l:=vs) om,Ov,Gz (l:=rows.take i) om,c,show i+m-i=m by omega];simp
 have v:(rows.take i++vs++Z.drop m).length=n+m:=by simp;omega
 have f:dy 3 (rows.drop i):=λr g=>hR r (nP g)
 have j:dy 3 (rows.take i++vs++Z.drop m):=((hR.take i).app o).app (λr g=>p r (nP g));have c2:(rows.take i++vs++Z.drop m).take (i+m)++(rows.drop i).take (n-i)++(rows.take i++vs++Z.drop m).drop (i+m+(n-i))=rows.take i++vs++rows.drop i:=by
  rw[List.take_left' (l₁:=rows.take i++vs) (by rw[cD,c,s]),eo (l:=rows.drop i) (by rw[mh];omega),Gz (l:=rows.take i++vs++Z.drop m) om,fW]
 unfold G_;refine lS (CC rfl u) ?_;refine lS (DX (l:=i) (h:=((n+m:Nat):Int)) (rows:=rows.take i++Z) rfl rfl rfl ⟨om,om,om,Ca e⟩ (d:=n+m-i) om) ?_;refine lS (Nw (l:=i) (h:=n+m-i) (rows:=rows.take i++Z) (ys:=vs) rfl rfl rfl rfl (jk.2 o) om (k:=m) om c1) ?_;refine lS (aiz (a:=i) (b:=m) rfl rfl om) ?_;refine lS (CC rfl v) ?_;refine lS (DX (l:=((i+m:Nat):Int)) (h:=((n+m:Nat):Int)) (rows:=rows.take i++vs++Z.drop m) rfl rfl rfl ⟨om,om,om,Ca j⟩ (d:=n-i) om) ?_;refine lS (CC rfl q) ?_;refine lS (DX (l:=i) (h:=(n:Int)) (rows:=rows) rfl rfl rfl ⟨om,om,om,Ca hR⟩ (d:=n-i) om) ?_;refine lS (anG (l:=i) (h:=n-i) (rows:=rows) rfl rfl rfl (rs:=rows.drop i) (eo (by simp;omega))) ?_;refine lS (Nw (l:=i+m) (h:=n-i) (rows:=rows.take i++vs++Z.drop m) (ys:=rows.drop i) rfl rfl rfl rfl (jk.2 f) om (k:=n-i) (by simp;omega) c2) ?_;rfl
theorem ayq(f:rows.length=n)(g:vs.length=1)(j:i<n)(hR:dy 3 rows)(b:dy 3 vs):
 fQ (Kk.a_ [.r vs,.i i,.r (rows.take (i+1)++rows.drop i)])=some [.r (rows.take i++vs++rows.drop i)]:=by
 have c:(rows.take (i+1)++rows.drop i).length=n+1:=by simp;omega
 have a:dy 3 (rows.take (i+1)++rows.drop i):=(hR.take _).app λr e=>hR r (nP e)
 have c2:(rows.take (i+1)++rows.drop i).take i++vs.take 1++(rows.take (i+1)++rows.drop i).drop (i+1)=rows.take i++vs++rows.drop i:=by
  rw[aCr (by simp;omega),List.take_take,nQ om,eo (l:=vs) om,Ow (l₁:=rows.take (i+1)) (by simp;omega)]
 unfold Kk;refine lS (CC rfl c) ?_;refine lS (DX (l:=i) (h:=((n+1:Nat):Int)) (rows:=rows.take (i+1)++rows.drop i) rfl rfl rfl ⟨om,om,om,Ca a⟩ (d:=n+1-i) om) ?_;refine lS (Nw (l:=i) (h:=n+1-i) (rows:=rows.take (i+1)++rows.drop i) (ys:=vs) rfl rfl rfl rfl (jk.2 b) om (k:=1) om c2) ?_;rfl
end
section
variable{X:Fx}(hP:X.P=Tryz.prog)(iN:X.k0=2){rows vs:List (List PV)}{i m n:Nat}
include hP iN
theorem awE(hR:dy 3 rows)(a:dy 3 vs)(b:(rows.length+vs.length)*64<=140737488355328):
 Aw X tU (λe st=>e=.ret/\nD Tryz.prog [.tmp 6] (.v (.c (.own 2))) [(2,.row 144 (rows++vs)),(1,.row 144 vs)] e st) (SE.a_ [.r rows,.r vs]):=
 Ld iB .nil nF rfl (show AU TT [] tU 2 [.tmp 6] SE=some ⟨L2,.v (.c (.own 2)),[(2,.row 144 (.v 2)),(1,.row 144 (.v 1))],1⟩by kernel_rfl) rfl (auf hR a b) hP iN
theorem awA(b:rows.length=n)(c:vs.length=m)(d:i<=n)(hR:dy 3 rows)(f:dy 3 vs)(g:(n+m)*64<=140737488355328){Z:List (List PV)}(h:dy 3 Z)(a:Z.length=n+m-i):
 Aw X tD (λe st=>e=.ret/\nD Tryz.prog [.tmp 6] (.v (.c (.own 2))) [(2,.row 144 (rows.take i++vs++rows.drop i)),(0,.row 144 rows),(1,.row 144 vs)] e st) (SA.a_ [.r rows,.r vs,.i i,.i m,.r (rows.take i++Z)]):=
 Ld iB .nil nF rfl (show AU TT [] tD 2 [.tmp 6] SA=some ⟨G_,.v (.c (.own 2)),[(2,.row 144 (.v 5)),(0,.row 144 (.v 0)),(1,.row 144 (.v 1))],1⟩by kernel_rfl) rfl (abo b c d hR f g h a) hP iN
theorem awB(a:rows.length=n)(b:vs.length=1)(c:i<n)(hR:dy 3 rows)(d:dy 3 vs):
 Aw X ua (λe st=>e=.ret/\nD Tryz.prog [.tmp 6] (.v (.c (.own 2))) [(2,.row 144 (rows.take i++vs++rows.drop i)),(1,.row 144 vs)] e st) (R1.a_ [.r vs,.i i,.r (rows.take (i+1)++rows.drop i)]):=
 Ld iB .nil nF rfl (show AU TT [] ua 2 [.tmp 6] R1=some ⟨Kk,.v (.c (.own 2)),[(2,.row 144 (.v 3)),(1,.row 144 (.v 0))],1⟩by kernel_rfl) rfl (ayq a b c hR d) hP iN
end
end Si
namespace Si
theorem asO{l:List (Nat×SV)}{ρ}{k:Nat}{v:V}(h:((oq l).map (SV.a_ ρ))[k]?=some v):k<95/\v=((l.lookup k).getD (.v (.c .dead))).a_ ρ:=by
 simp only[oq,gp,cX,bY]at h;obtain⟨j,c,rfl⟩:=h;obtain⟨a,b⟩:=dO.1 c;simp at a b;subst b;exact⟨a,rfl⟩
theorem aiQ{α:Type}{l:List (Nat×α)}{k:Nat}{v:α}(h:l.lookup k=some v):(k,v)∈l:=by
 induction l with
 |nil=>cases h
 |cons x l ih=>
  obtain⟨a,b⟩:=x;simp only[fD]at h;split at h
  .rename_i c;simp at c;subst c;cases h;exact iA
  .exact iz _ (ih h)
theorem JW{M E w}{l:List (Nat×SV)}{ρ}{ts:Array b9}(a:ts.size=95)(h:∀x∈l,∃u,ts[x.1]?=some u/\RV M E w (x.2.a_ ρ) u)(k:Nat)(v:V)(b:((oq l).map (SV.a_ ρ))[k]?=some v):∃u,ts[k]?=some u/\RV M E w v u:=by
 obtain⟨d,rfl⟩:=asO b
 cases c:l.lookup k with
 |none=>exact⟨_,ri om,trivial⟩
 |some s=>exact h (k,s) (aiQ c)
theorem C8{X E st a w}(h:Rel X E st a w){a':Act}{ts:List V}(c:a'.defers=a.defers)(b:a'.tmps.size=ts.length)(d:∀(i:Nat)(v:V),ts[i]?=some v->∃u,a'.tmps[i]?=some u/\RV X.M E w v u):Rel X E {st with tmps:=ts} a' w:={
 defers:=c.trans h.defers
 bu:=h.bu
 frame:=h.frame
 iS:=h.iS
 eJ:=h.eJ
 names:=h.names
 inj:=h.inj
 fM:=h.fM
 jh:=h.jh
 kz:=h.kz
 size:=b
 tmps:=d
 heap:=h.heap}
theorem T0{X E st a w}(h:Rel X E st a w){k:Nat}(b:st.next<=k):Rel X E {st with next:=k} a w:={
 defers:=h.defers
 bu:=h.bu
 frame:=h.frame
 iS:=h.iS
 eJ:=λn x c=>mM (h.eJ n x c) b
 names:=h.names
 inj:=h.inj
 fM:=h.fM
 jh:=oU h.jh b
 kz:=λn c=>mM (h.kz n c) b
 size:=h.size
 tmps:=h.tmps
 heap:=h.heap}
theorem Jv{X E args H a w}{c d e:b9}(b:args.length=3)(hR:Rel X E (iH 95 args H) a w)(f:a.tmps[0]?=some c)(g:a.tmps[1]?=some d)(h:a.tmps[2]?=some e):a.tmps= #[c,d,e]++Array.replicate 92 undef:=by
 have q:a.tmps.size=95:=by rw[hR.size];simp[iH,b]
 apply Array.ext_getElem?;intro k;by_cases j:k<3
 .have:k=0\/k=1\/k=2:=om;rcases this with rfl|rfl|rfl
  .rw[f,vi (by simp)];rfl
  .rw[g,vi (by simp)];rfl
  .rw[h,vi (by simp)];rfl
 .by_cases l:k<95
  .obtain⟨u,o,us,rfl,p,_⟩:=hR.tmps k (.bL []) (by
    show(args.map V.v++List.replicate (95-args.length) (.bL []))[k]?=_;rw[kF (by simp[b];omega),Oo,bA (by simp[b];omega)])
   obtain rfl:us= #[]:=Ba p;rw[o,sQ];simp[j,ZN];exact⟨om,rfl⟩
  .rw[Ox om,Ox (by simp;omega)]
theorem Bu:(Tryz.prog.info? 144).map (λi=>(i.zero,i.size,i.bytes))=some (some (.agg #[.string ⟨#[]⟩,.slice none 0 0,.slice none 0 0]),3,64):=kr
theorem BG:Tryz.prog.cellsOf 144=3:=kr
end Si
namespace Si
def CO(Q:Exit->Act->bX->Prop)(e:Exit)(a:Act)(w:bX):Prop:=e=.ret/\Q .ret a w
theorem abI{Q:Exit->Act->bX->Prop}(A:Option Addr)(n c:Nat)(B:Option Addr)(m c2:Nat)(ds)(w:bX)(hm:0<m)(NK:n<=c)
 (hE:∀ts:Array b9,ts.size=95->ts[0]?=some (.slice A n c)->ts[2]?=some (.slice B m c2)->tU.wp Tryz.prog (CO Q) ⟨ts,ds⟩ w) (c0:Code) (hc0:Tryz.f273.body=some c0):
 c0.wp Tryz.prog Q ⟨#[.slice A n c,.int .i64 n,.slice B m c2]++Array.replicate 92 undef,ds⟩ w:=by
 rw[tj]at hc0;cases hc0;have hz1:¬((m:Int)=0):=om;generalize YX:tU=cE at hE⊢;generalize YY:tD=cA;generalize hcB:ua=cB;simp only[kD,gy,jH,Nat.reduceAdd,Nat.reduceSub,yb,yc,yd,ye,lp,rb]
 cases A with
 |none=>
  go_wp2
  all_goals (refine wp_mono (hE _ ?_ ?_ ?_) (λe a w h=>by obtain⟨rfl,h⟩:=h;exact h)<;>rfl)
 |some a=>
  by_cases xP:c=n
  .subst xP
   go_wp2
   all_goals (refine wp_mono (hE _ ?_ ?_ ?_) (λe a w h=>by obtain⟨rfl,h⟩:=h;exact h)<;>rfl)
  .go_wp2
   all_goals (refine wp_mono (hE _ ?_ ?_ ?_) (λe a w h=>by obtain⟨rfl,h⟩:=h;exact h)<;>rfl)
end Si
namespace Si
theorem amT{Q:Exit->Act->bX->Prop}(b n c i:Nat)(B:Option Addr)(m c2:Nat)(ds)(w w':bX)(v':b9)(hm:0<m)(NK:n<=c)(hi:i<n)(hroom:c<n+m)(aAM:(n+m)*64<=140737488355328)
 (hap:∀ty,(Builtin.append_ #[55,3] ty #[.slice (some ⟨b,0,none⟩) i c,.int .i64 ((n+m-i:Nat):Int)]).run Tryz.prog w=.ok v' w')
 (hA:∀ts:Array b9,ts.size=95->ts[0]?=some (.slice (some ⟨b,0,none⟩) n c)->ts[1]?=some (.int .i64 i)->ts[2]?=some (.slice B m c2)->ts[7]?=some (.int .i64 m)->ts[9]?=some v'->tD.wp Tryz.prog (CO Q) ⟨ts,ds⟩ w') (c0:Code) (hc0:Tryz.f273.body=some c0):
 c0.wp Tryz.prog Q ⟨#[.slice (some ⟨b,0,none⟩) n c,.int .i64 i,.slice B m c2]++Array.replicate 92 undef,ds⟩ w:=by
 rw[tj]at hc0;cases hc0;have hz1:¬((m:Int)=0):=om;have hz2:¬((i:Int)=(n:Int)):=om;have hz3:(c:Int)< (n:Int)+(m:Int):=om;have YZ:(n:Int)+(m:Int) - (i:Int)=((n+m-i:Nat):Int):=om;have pP:(i:Int)<=(n:Int):=om;have xQ:(i:Int)<=(c:Int):=om;rw[<-YZ]at hap;clear YZ;generalize YX:tU=cE;generalize YY:tD=cA at hA⊢;generalize hcB:ua=cB;simp only[kD,gy,jH,Nat.reduceAdd,Nat.reduceSub,yb,yc,yd,ye,lp,rb];have AY:¬(c=i):=om
 go_wp2_with (at_builtin;refine Lib.wpList_append_run _ rfl _ _ _ _ rfl _ _ rfl rfl _ _ (hap _) ?_)
 all_goals (refine wp_mono (hA _ ?_ ?_ ?_ ?_ ?_ ?_) (λe a w h=>by obtain⟨rfl,h⟩:=h;exact h)<;>rfl)
end Si
namespace Si
theorem awV{Q:Exit->Act->bX->Prop}(b n c i vb c2:Nat)(ds)(w w':bX)(NK:n+1<=c)(hi:i<n)(aAM:(n+1)*64<=140737488355328)(Y0:c<=9223372036854775807)
 (NL:∀lb cb,(callFunc 316 #[.slice (some ⟨vb,0,none⟩) 1 c2,.slice (some ⟨b,(i+1)*3,none⟩) lb cb]).run Tryz.prog w=.ok (.value (.bool false)) w)
 (NM:∀ty dc sc,(Builtin.copy_ #[55,55] ty #[.slice (some ⟨b,(i+1)*3,none⟩) (n-i) dc,.slice (some ⟨b,i*3,none⟩) (n+1-i) sc]).run Tryz.prog w.drew=.ok (goInt (n-i)) w')
 (hB:∀ts:Array b9,ts.size=95->ts[0]?=some (.slice (some ⟨b,0,none⟩) (n+1) c)->ts[1]?=some (.int .i64 i)->ts[2]?=some (.slice (some ⟨vb,0,none⟩) 1 c2)->ua.wp Tryz.prog (CO Q) ⟨ts,ds⟩ w') (c0:Code) (hc0:Tryz.f273.body=some c0):
 c0.wp Tryz.prog Q ⟨#[.slice (some ⟨b,0,none⟩) n c,.int .i64 i,.slice (some ⟨vb,0,none⟩) 1 c2]++Array.replicate 92 undef,ds⟩ w:=by
 rw[tj]at hc0;cases hc0;have hz2:¬((i:Int)=(n:Int)):=om;have hz3:¬((c:Int)< (n:Int)+1):=om;have pP:(i:Int)<=(n:Int):=om;have aCx:(i:Int)+1<=(n:Int)+1:=om;have aCy:(i:Int)<=(n:Int)+1:=om;have xQ:(i:Int)<=(c:Int):=om;have AY:¬(c=i):=om;have aCz:¬(c=i+1):=om;have htn:((i:Int)+1).toNat=i+1:=om;have aCB:((n:Int)+1).toNat=n+1:=om;have hw1:IntKind.i64.wrap ((i:Int)+1)=(i:Int)+1:=IntWalk.i64_in _ om;have hb1:(0:Int)<=(i:Int)+1:=om;generalize YX:tU=cE;generalize YY:tD=cA;generalize hcB:ua=cB at hB⊢;simp only[kD,gy,jH,Nat.reduceAdd,Nat.reduceSub,yb,yc,yd,ye,lp,rb]
 go_wp2_with (simp only[NL])
 go_still_tail 8,kr
 refine wpList_copy_runI _ rfl _ _ 55 55 rfl _ _ rfl rfl (NM _ _ _) ?_
 go_wp2
 all_goals (refine wp_mono (hB _ ?_ ?_ ?_ ?_) (λe a w h=>by obtain⟨rfl,h⟩:=h;exact h)<;>rfl)
end Si
namespace Si
theorem acV{R b:eQ}{n:Nat}{l:List (Nat×eQ)}(h:List.lookup n [(2,R)]=some b):List.lookup n ((2,R)::l)=some b:=by
 simp only[fD,jS]at h⊢;split at h
 .exact h
 .cases h
theorem KB{X:Fx}{c:Code}{R:eQ}{l:Hp}{st a w}(hP:X.P=Tryz.prog)(h:Aw X c (λe st=>e=.ret/\nD Tryz.prog [.tmp 6] (.v (.c (.own 2))) ((2,R)::l) e st) st)(ht:Told X st a w):
 c.wp Tryz.prog (CO λe a' w'=>∃st',nD Tryz.prog [.tmp 6] (.v (.c (.own 2))) [(2,R)] e st'/\Told X st' a' w') a w:=by
 rw[<-hP];refine wp_mono (h a w ht) ?_;rintro e a' w' ⟨st',⟨rfl,h1,h2,h3⟩,h4⟩;exact⟨rfl,st',⟨trivial,hP▸h2,λn b Y1=>h3 n b (acV Y1)⟩,h4⟩
theorem aco(w:bX)(ty:cd)(g a c len dc mm sc:Nat){cur:Array b9}{fz}(d:nc cur.size fz)(h:w.heap[g]?=some (.cells cur 144 fz)){k:Nat}(o:Nat.min mm len=k)(iN:0<k){news:List b9}(e:news.length=k*3)
 (hnews:∀j u,news[j]?=some u->cur[c+j]?=some u) (p:∀u∈news,u.oneCell'=true) (l:a+k*3<=cur.size):
 (Builtin.copy_ #[55,55] ty #[.slice (some ⟨g,a,none⟩) len dc,.slice (some ⟨g,c,none⟩) mm sc]).run Tryz.prog w=.ok (goInt k) (w.setRow g (cur.toList.take a++news++cur.toList.drop (a+news.length)).toArray):=by
 obtain⟨x,q,r,f,s⟩:=info_parts Bu;have t:=run_firstCells_some (P:=Tryz.prog) w 3 k ⟨g,c,none⟩ mm sc news e (λj u v=>by
  rw[Addr.add_lit,cell_of_row w g _ cur 144 fz h];exact hnews j u v)
 have b:=uK Tryz.prog g a 144 fz news 0 cur w d h om p;generalize y:w.setRow g _=W at b⊢;simp[Builtin.copy_,run_underlying Tryz.underlying55,Builtin.lenOf,sizeOf,typeInfo,q,f,o,t,b,goInt]
set_option maxHeartbeats 1000000 in
theorem acS(rows vs:List (List PV))(i:Nat)(hi:i<=rows.length)(AZ:vs.length=1)(hR:dy 3 rows)(hV:dy 3 vs)(hb:(rows.length+1)*64<=140737488355328):
 eC Tryz.prog 273 [.c (.own 0),.c (.p (.sc (.int .i64 i))),.c (.own 1)] [.row 144 rows,.row 144 vs] (.v (.c (.own 2))) [(2,.row 144 (rows.take i++vs++rows.drop i))]:=by
 refine eC.intro Tryz.func273 kr tj rfl rfl λX hP iN=>?_
 intro a w ht;obtain⟨E,oM,hg⟩:=ht;rw[hP];have iN:X.k0=2:=iN;have Y2:E.bu=[]:=oM.bu;obtain⟨u0,a0,r0⟩:=oM.tmps 0 (.v (.c (.own 0))) rfl;obtain⟨u1,a1,r1⟩:=oM.tmps 1 (.v (.c (.p (.sc (.int .i64 i))))) rfl;obtain⟨u2,a2,r2⟩:=oM.tmps 2 (.v (.c (.own 1))) rfl;obtain⟨x,hx,rfl⟩:=cW.get (show RC X.M E w (.own 0) u0 from r0) (by simp[Y2]);obtain⟨y,hy,rfl⟩:=cW.get (show RC X.M E w (.own 1) u2 from r2) (by simp[Y2]);have hu1:u1=.int .i64 i:=RP.ek r1;subst hu1;have Y3:=Jv rfl oM a0 a1 a2;obtain⟨x',cur,fz,k1,FW,k2,k3,k4,k5,k6,k7,k8,k9,k10,k11⟩:=oM.row (n:=0) (b:=.row 144 rows) (by simp[iH]) rfl;rw[hx]at k1;cases k1;obtain⟨y',aAQ,fz1,q1,aAS,q2,q3,q4,q5,q6,q7,q8,q9,z7,Te⟩:=oM.row (n:=1) (b:=.row 144 vs) (by simp[iH]) rfl;rw[hy]at q1;cases q1;have xM:x.sz=3:=k7.trans (by rw[hP];exact BG);have hys:y.sz=3:=q7.trans (by rw[hP];exact BG);have hbase:∀(l:List (Nat×SV))(ρ:List L)(ts:Array b9),ts.size=95->(∀z∈l,∃u,ts[z.1]?=some u/\RV X.M E w (z.2.a_ ρ) u)->Rel X E {iH 95 [.c (.own 0),.c (.p (.sc (.int .i64 i))),.c (.own 1)] [.row 144 rows,.row 144 vs]with tmps:=(oq l).map (SV.a_ ρ)} ⟨ts,a.defers⟩ w:=λl ρ ts hs h=>
  C8 oM rfl (by simp[hs,oq]) (JW hs h)
 obtain⟨ts0,ds⟩:=a;simp only at Y3 hbase;subst Y3;obtain⟨n,hn⟩:∃n,rows.length=n:=⟨_,rfl⟩
 have FX:x.len=n:=om;have xR:y.len=1:=om;rw[FX,xR];rcases mP i n with hlt|hge
 .obtain ⟨g,A0⟩:∃g,x.g=some g:=by
   cases h:x.g with
   |none=>have:=k10 h;omega
   |some g=>exact⟨g,rfl⟩
  obtain⟨g1,A1⟩:∃g,y.g=some g:=by
   cases h:y.g with
   |none=>have:=z7 h;omega
   |some g=>exact⟨g,rfl⟩
  have hblk:=k2 g A0;have NN:=q2 g1 A1;rw[A0,A1];have hcs:cur.size=x.cap*3:=by rw[k8,xM]
  have dM:n<=x.cap:=om;have hval:∀(i':Nat)(r:List PV)(j:Nat)(p:PV),rows[i']?=some r->r[j]?=some p->∃u,cur[i'*3+j]?=some u/\RP (bad X.M E) w p u:=λi' r j p h1 h2=>by
   have:=k11 i' r j p h1 h2
   rwa [xM]at this
  have xS:E.N 2=none:=by
   cases h:E.N 2 with
   |none=>rfl
   |some z=>have:=oM.eJ 2 z h;exact absurd this (by simp[iH])
  have Y4:=T0 oM (k:=3) (by simp[iH]);have uX:dy 3 (rows.take i):=hR.take i;have aAT:3=X.P.cellsOf 144:=by rw[hP];exact BG.symm
  rcases mP x.cap (n+1)with hroom|hroom
  ·
   obtain⟨i0,hi0,hz0,hz1,hz2⟩:=info_parts Bu;obtain⟨N,hN⟩:∃N,N=n+1-i:=⟨_,rfl⟩
   have Y5:i+N=n+1:=om;obtain⟨G,hG⟩:∃G,G=grownCap w (n+1) x.cap 144:=⟨_,rfl⟩
   have hGn:n+1<=G:=by rw[hG];exact grownCap_ge w _ _ _
   have hGm:G<=maxLen:=by rw[hG];exact grownCap_le_maxLen w _ _ _ (by simp only[maxLen];omega)
   obtain⟨olds,ho⟩:∃olds,olds=cur.toList.take (i*3):=⟨_,rfl⟩
   have kY:olds.length=i*3:=by rw[ho];simp;omega
   have hap:∀ty,(Builtin.append_ #[55,3] ty #[.slice (some ⟨g,0,none⟩) i x.cap,.int .i64 ((n+1-i:Nat):Int)]).run Tryz.prog w=.ok (.slice (some ⟨w.heap.size,0,none⟩) (n+1) G) (w.drew.alloc (.cells (olds.toArray++(Builtin.zeroCells (#[.string ⟨#[]⟩,.slice none 0 0,.slice none 0 0]:Array b9) N).toList.toArray++Builtin.zeroCells (#[.string ⟨#[]⟩,.slice none 0 0,.slice none 0 0]:Array b9) (G- (n+1))) 144)):=λty=>by
    have h:=SI (P:=Tryz.prog) (w:=w) 55 3 ty 144 i0 _ Tryz.underlying55 Tryz.underlying3 hi0 hz0 ⟨g,0,none⟩ i x.cap olds (by rw[kY,hz1]) (λj v hj=>by
     rw[Addr.add_lit,cell_of_row w g _ cur 144 fz hblk];rw[ho,jc]at hj;split at hj
     .simpa using hj
     .cases hj) N om (by rw[hz1];decide) (by rw[hz2];omega) om om (by rw[hz2,Y5];have:=growslice_fits (bytes:=64) hroom om;omega)
    rw[Y5,<-hG]at h;rw[<-hN];exact h
   have hzl:(List.replicate N [PV.any,PV.any,PV.any]).length=n+1-i:=by simp[hN]
   have hZ:dy 3 (List.replicate N [PV.any,PV.any,PV.any]):=λr hr=>by rw[(Be.1 hr).2];rfl
   have hzc:∀k,k<N*3->∃u,(Builtin.zeroCells (#[.string ⟨#[]⟩,.slice none 0 0,.slice none 0 0]:Array b9) N)[k]?=some u/\u.oneCell'=true:=λk hk=>by
    simp only[Builtin.zeroCells,ZG,kD,gy,jH,ZH];rw[bA om];refine⟨_,rfl,?_⟩;have:k%3=0\/k%3=1\/k%3=2:=om;rcases this with h|h|h<;>simp[h,Value.oneCell']
   have hf :=Y4.pK (d:=2) xS (by rw[iN];exact de _) (by show 2<3;decide) (e:=144) (n:=3) dc aAT (rows:=rows.take i++List.replicate N [PV.any,PV.any,PV.any]) (uX.app hZ) (cap:=G) (by simp;omega) hGm
    (us:=olds.toArray++(Builtin.zeroCells (#[.string ⟨#[]⟩,.slice none 0 0,.slice none 0 0]:Array b9) N).toList.toArray++Builtin.zeroCells (#[.string ⟨#[]⟩,.slice none 0 0,.slice none 0 0]:Array b9) (G- (n+1)))
    (by simp only[vf,kD,Gq,size_zeroCells,kY,gy,jH];omega)
    (λi' r j p h5 h6=>by
     have hlr:=(uX.app hZ) r (eb h5);have hj:=(dO.1 h6).1;rw[sQ,bA (by
      have:=(dO.1 h5).1;simp[size_zeroCells,kY]at this⊢;omega)]
     rw[lg]at h5;have NO:(rows.take i).length=i:=by simp;omega
     rw[NO]at h5;split at h5
     .rename_i pQ;have h7:rows[i']?=some r:=by rw[jc,bA pQ]at h5;exact h5
      obtain⟨u,h8,h9⟩:=hval i' r j p h7 h6;refine⟨u,?_,h9⟩;rw[sQ,bA (by simp[kY];omega),pT,ho,jc,bA om];simpa using h8
     .have hr:r=[.any,.any,.any]:=(Be.1 (eb h5)).2;have aAX:=(dO.1 h5).1;simp at aAX;obtain⟨u,h8,h9⟩:=hzc (i'*3+j-i*3) om;refine⟨u,?_,?_⟩
      .rw[sQ,bH (by simp[kY];omega)];simpa[kY]using h8
      .have:p=.any:=by
        subst hr;have:j=0\/j=1\/j=2:=om;rcases this with rfl|rfl|rfl<;> (simp at h6;exact h6.symm)
       subst this;exact .any h9) (wd:=w.drew) (.inr rfl)
   refine amT g n x.cap i _ 1 y.cap ds w _ _ om dM hlt hroom om hap (λts hs t0 t1 t2 t7 t9=>KB hP (awA hP iN hn AZ om hR hV om hZ hzl) ⟨_,C8 hf.1 rfl (by simp[hs,oq,SA]) (JW (l:=[(0,o 0),(1,Si.n 2),(2,o 1),(7,Si.n 3),(9,o 2)]) (ρ:=[.r rows,.r vs,.i i,.i ((1:Nat):Int),.r (rows.take i++List.replicate N [PV.any,PV.any,PV.any])]) hs ?_),rfl⟩) _ tj;intro z hz;simp only[eG,GA,or_false]at hz;rcases hz with rfl|rfl|rfl|rfl|rfl
   .exact⟨_,t0,.inr ⟨x,by simp[Env.add,hx],by simp[FX,A0]⟩⟩
   .exact⟨_,t1,.sc rfl⟩
   .exact⟨_,t2,.inr ⟨y,by simp[Env.add,hy],by simp[xR,A1]⟩⟩
   .exact⟨_,t7,.sc rfl⟩
   .refine⟨_,t9,?_⟩;have h:=hf.2;have el:(rows.take i++List.replicate N [PV.any,PV.any,PV.any]).length=n+1:=by simp;omega
    simp only[el]at h⊢;exact h
  ·
   have hgg:g1≠g:=λe=>absurd (oM.inj 0 1 x y g hx hy A0 (by rw[A1,e])) dc
   have Y6:fz1=(0,0):=aAS.resolve_right (λh=>by omega);obtain⟨news,NP⟩:∃news,news=(cur.toList.drop (i*3)).take ((n-i)*3):=⟨_,rfl⟩
   have FQ:news.length=(n-i)*3:=by rw[NP];simp;omega
   have qZ:∀j u,news[j]?=some u->j< (n-i)*3/\cur[i*3+j]?=some u:=λj u hj=>by
    rw[NP,jc]at hj;split at hj
    .rename_i h;rw[kC]at hj;exact⟨h,by simpa using hj⟩
    .cases hj
   have aAZ:∀u∈news,u.oneCell'=true:=λu hu=>by
    obtain⟨j,hj⟩:=ZL hu;obtain⟨h1,h2⟩:=qZ j u hj;have hk:(i*3+j) /3<rows.length:=om;have hr:=hR _ (cQ hk);obtain⟨u',h3,h4⟩:=hval ((i*3+j) /3) _ ((i*3+j)%3) _ (cY hk) (cY (by rw[hr];omega));rw[show(i*3+j) /3*3+(i*3+j)%3=i*3+j by omega,h2]at h3;cases h3;exact h4.rZ
   obtain⟨cur',NQ⟩:∃cur':Array b9,cur'=(cur.toList.take ((i+1)*3)++news++cur.toList.drop ((i+1)*3+news.length)).toArray:=⟨_,rfl⟩
   have A2:cur'.size=cur.size:=by rw[NQ];simp[FQ];omega
   have NM:∀ty dc sc,(Builtin.copy_ #[55,55] ty #[.slice (some ⟨g,(i+1)*3,none⟩) (n-i) dc,.slice (some ⟨g,i*3,none⟩) (n+1-i) sc]).run Tryz.prog w.drew=.ok (goInt (n-i)) (w.drew.setRow g cur'):=λty dc sc=>by
    rw[NQ,show((n:Int) - (i:Int))=((n-i:Nat):Int)by omega];exact aco w.drew ty g ((i+1)*3) (i*3) (n-i) dc (n+1-i) sc FW hblk (k:=n-i) (Nat.min_eq_right om) om FQ (λj u hj=>(qZ j u hj).2) aAZ om
   have NL:∀lb cb,(callFunc 316 #[.slice (some ⟨g1,0,none⟩) 1 y.cap,.slice (some ⟨g,(i+1)*3,none⟩) lb cb]).run Tryz.prog w=.ok (.value (.bool false)) w:=λlb cb=>by
    rw [run_callFunc_extern Tryz.func316 kr kr kr (e:=Extern.SlicesOverlaps.overlaps #[55,55] #[4]) kr,
     Lib.run_overlaps_apart w 55 4 144 Tryz.underlying55 3 Tryz.sizeOf144 ⟨g1,0,none⟩ ⟨g,(i+1)*3,none⟩ 1 y.cap lb cb hgg 144 144 aAQ.size cur.size (by simp[World.shape?,NN]) (by simp[World.shape?,hblk]) om
      (by simp[World.frozen?,NN,Y6]) (by simp[World.frozen?,NN,Y6])]
    rfl
   have Y7:dy 3 (rows.take (i+1)++rows.drop i):=(hR.take _).app λr hr=>hR r (nP hr)
   have hf:=Y4.take (m:=0) (d:=2) (by show 0<3;decide) hx A0 (cur:=cur) (us:=cur') (e:=144) (fz:=fz) hblk (by rw[A2];exact FW) xS (by rw[iN];exact de _) (by show 2<3;decide) (by simp[iH]) (rows:=rows.take (i+1)++rows.drop i)
    (by
     rw[xM];exact Y7) k6 k7 (by simp;omega) k5 (by rw[A2,k8]) (λi' r j p h5 h6=>by
     rw[xM];have hlr:=Y7 r (eb h5);have hj:=(dO.1 h6).1;have hl5:=(dO.1 h5).1;have hlx:(rows.take (i+1)++rows.drop i).length=n+1:=by simp;omega
     rw[hlx]at hl5;have NO:(rows.take (i+1)).length=i+1:=by simp;omega
     rw[lg,NO]at h5;rw[NQ,pT];have htc:(cur.toList.take ((i+1)*3)).length=(i+1)*3:=by simp;omega
     split at h5
     .rename_i pQ;have h7:rows[i']?=some r:=by rw[jc,bA pQ]at h5;exact h5
      obtain⟨u,h8,h9⟩:=hval i' r j p h7 h6;refine⟨u,?_,h9⟩;rw[dI,oY om,jc,bA om];simpa using h8
     .rw[kC]at h5;obtain⟨u,h8,h9⟩:=hval _ r j p h5 h6;refine⟨u,?_,h9⟩;rw[dI,kF om,oY om,htc,NP,jc,bA om,kC];rw[show i*3+(i'*3+j- (i+1)*3)=(i+(i'- (i+1)))*3+j by omega];simpa using h8)
   refine awV g n x.cap i g1 y.cap ds w _ hroom hlt om (by have:=k5;simp only[maxLen]at this;omega) NL NM (λts hs t0 t1 t2=>KB hP (awB hP iN hn AZ hlt hR hV) ?_) _ tj;have h1:=C8 hf.1 (a':=⟨ts,ds⟩) (ts:=(oq [(0,o 2),(1,Si.n 1),(2,o 1)]).map (SV.a_ [.r vs,.i i,.r (rows.take (i+1)++rows.drop i)])) rfl (by simp[hs,oq]) (JW hs (λz hz=>by
    simp only[eG,GA,or_false]at hz;rcases hz with rfl|rfl|rfl
    .refine⟨_,t0,?_⟩;have h:=hf.2;have el:(rows.take (i+1)++rows.drop i).length=n+1:=by simp;omega
     simp only[el]at h⊢;exact h
    .exact⟨_,t1,.sc rfl⟩
    .exact⟨_,t2,.inr ⟨y,by simp[Env.add,Env.drop,hy],by simp[xR,A1]⟩⟩))
   obtain⟨E2,h2,h3⟩:=h1.drew.settle;exact⟨E2,h2,rfl⟩
 .obtain rfl:i=n:=om;have hE:=awE hP iN hR hV (by rw[AZ,hn];omega);have aBc:rows++vs=rows.take i++vs++rows.drop i:=by rw[eo om,Gz om,fW]
  rw[aBc]at hE;refine abI _ i x.cap _ 1 y.cap ds w om om (λts hs t0 t2=>KB hP hE ⟨E,hbase [(0,o 0),(2,o 1)] _ ts hs ?_,rfl⟩) _ tj;intro z hz;simp only[eG,GA,or_false]at hz;rcases hz with rfl|rfl
  .exact⟨_,t0,.inr ⟨x,hx,by simp only[FX]⟩⟩
  .exact⟨_,t2,.inr ⟨y,hy,by simp only[xR]⟩⟩
end Si
def tG:List L->Option (List L):=λls=>match ls with
 |[.r rows,.i i,.r vs]=>if 0<=i/\i.toNat<=rows.length/\vs.length=1/\ct 3 rows=true/\ct 3 vs=true/\(rows.length+1)*64<=140737488355328 then some [.r (rows.take i.toNat++vs++rows.drop i.toNat)]else none
 |_=>none
def avg:bw:=⟨273,[.c (.own 0),.c (.p (.int .i64) U1),.c (.own 1)],[.row 144 U0,.row 144 U2],3,1,.v (.c (.own 2)),[(2,.row 144 U3)],tG,2074⟩
theorem Qr:avg.ok Tryz.prog:=by
 intro ls os l a b;have a:tG ls=some os:=a;unfold tG at a;split at a
 .rename_i rows i vs _;split at a
  .rename_i c;obtain⟨d,e,f,g,h,j⟩:=c;obtain⟨k,rfl⟩:∃k:Nat,i=(k:Int):=⟨i.toNat,(Bd d).symm⟩
   cases a;exact Si.acS rows vs k e f (jk.1 g) (jk.1 h) j
  .cases a
 .cases a
namespace Sd
theorem abX{Q:Exit->Act->bX->Prop}(g n c i j:Nat)(ds)(w W1 W2:bX)(NR:i<j)(hj:j<=n)(NK:n<=c)(hcj:¬c=j)(Y0:c<=9223372036854775807)
 (hap:∀ty,(Builtin.append_ #[55,55] ty #[.slice (some ⟨g,0,none⟩) i c,.slice (some ⟨g,j*3,none⟩) (n-j) (c-j)]).run Tryz.prog w.drew=.ok (.slice (some ⟨g,0,none⟩) (i+(n-j)) c) W1)
 (ic:∀ty,(Builtin.clear_ #[55] ty #[.slice (some ⟨g,(i+(n-j))*3,none⟩) (n- (i+(n-j))) (c- (i+(n-j)))]).run Tryz.prog W1=.ok (.tuple #[]) W2)
 (hD:∀ts:Array b9,(ts.size=33/\ts[6]?=some (.slice (some ⟨g,0,none⟩) (i+(n-j)) c))->Q .ret ⟨ts,ds⟩ W2) (c0:Code) (hc0:Tryz.f209.body=some c0):
 c0.wp Tryz.prog Q ⟨#[.slice (some ⟨g,0,none⟩) n c,.int .i64 i,.int .i64 j]++Array.replicate 30 undef,ds⟩ w:=by
 cases hc0;have hz2:¬((i:Int)=(j:Int)):=om;have h1:(i:Int)<=(j:Int):=om;have h2:(j:Int)<=(n:Int):=om;have h3:(n:Int)<=(c:Int):=om;have h4:(i:Int)<=(c:Int):=om;have AY:¬(c=i):=om;have hck:¬(c=i+(n-j)):=om;have h5:((i+(n-j):Nat):Int)<=(n:Int):=om;have h6:(0:Int)<=((i+(n-j):Nat):Int):=om;simp only[kD,gy,jH,Nat.reduceAdd,Nat.reduceSub,yb,yc,yd,ye,lp,rb]
 go_wp2_with fail
 go_still_tail 6,kr
 refine Lib.wpList_append_run _ rfl _ _ _ _ rfl _ _ rfl rfl _ _ (hap _) ?_
 go_wp2
 all_goals exact⟨rfl,rfl⟩
theorem axY{Q:Exit->Act->bX->Prop}(g n i:Nat)(ds)(w W1 W2:bX)(NR:i<n)(Y0:n<=9223372036854775807)
 (hap:∀ty,(Builtin.append_ #[55,55] ty #[.slice (some ⟨g,0,none⟩) i n,.slice (some ⟨g,0,none⟩) 0 0]).run Tryz.prog w.drew=.ok (.slice (some ⟨g,0,none⟩) i n) W1)
 (ic:∀ty,(Builtin.clear_ #[55] ty #[.slice (some ⟨g,i*3,none⟩) (n-i) (n-i)]).run Tryz.prog W1=.ok (.tuple #[]) W2)
 (hD:∀ts:Array b9,(ts.size=33/\ts[6]?=some (.slice (some ⟨g,0,none⟩) i n))->Q .ret ⟨ts,ds⟩ W2) (c0:Code) (hc0:Tryz.f209.body=some c0):
 c0.wp Tryz.prog Q ⟨#[.slice (some ⟨g,0,none⟩) n n,.int .i64 i,.int .i64 n]++Array.replicate 30 undef,ds⟩ w:=by
 cases hc0;have hz2:¬((i:Int)=(n:Int)):=om;have h1:(i:Int)<=(n:Int):=om;have AY:¬(n=i):=om;simp only[kD,gy,jH,Nat.reduceAdd,Nat.reduceSub,yb,yc,yd,ye,lp,rb]
 go_wp2_with fail
 go_still_tail 6,kr
 refine Lib.wpList_append_run _ rfl _ _ _ _ rfl _ _ rfl rfl _ _ (hap _) ?_
 go_wp2
 all_goals exact⟨rfl,rfl⟩
end Sd
end
end
end Go.Proofs.YtiikkkhcolcebaaGreatDoor
