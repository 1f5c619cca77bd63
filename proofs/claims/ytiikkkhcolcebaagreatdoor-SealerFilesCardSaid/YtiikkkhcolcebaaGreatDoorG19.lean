/- A part. -/
import Derived.Test.YtiikkkhcolcebaaGreatDoorG6
import Derived.Test.YtiikkkhcolcebaaGreatDoorG13
import Derived.Test.YtiikkkhcolcebaaGreatDoorG15
import Derived.Test.YtiikkkhcolcebaaGreatDoorG16
import Derived.Test.YtiikkkhcolcebaaGreatDoorG18
import Derived.WalkKit
set_option linter.all false
set_option maxHeartbeats 4000000
set_option maxRecDepth 100000
namespace Go.Proofs.YtiikkkhcolcebaaGreatDoor
noncomputable section
section
open Go.RowKit
def l7(t:Nat)(g:List L->Option (List L)):bp:=
 .op (.bi .sub .i64 (.v 2) (.v 1))<|
 .op (.bi .eql .i64 (.v 4) (.i 1))<|
 .ite (.v 5)
  (.join
   (.loop [(.v 2),(.v 3)]
    (.op (.bi .lss .i64 (.v 6) (.v 7))<|
    .ite (.v 8)
     (.op (.bi .add .i64 (.v 6) (.v 7))<|
     .op (.conv .u64 (.v 9))<|
     .op (.bi .shr .u64 (.v 10) (.i 1))<|
     .op (.conv .i64 (.v 11))<|
     .op (.row (.v 0) (.v 12) 4)<|
     .op (.rc (.v 0) (.v 12) 0 (.int .u64))<|
     .op (.rc (.v 0) (.v 12) 1 (.int .u32))<|
     .op (.rc (.v 0) (.v 12) 2 (.int .i64))<|
     .op (.rc (.v 0) (.v 12) 3 (.int .i64))<|
     .op (.row (.v 0) (.v 1) 4)<|
     .op (.rc (.v 0) (.v 1) 0 (.int .u64))<|
     .op (.rc (.v 0) (.v 1) 1 (.int .u32))<|
     .op (.rc (.v 0) (.v 1) 2 (.int .i64))<|
     .op (.rc (.v 0) (.v 1) 3 (.int .i64))<|
     .op (.call 6 F6 [(.v 14),(.v 15),(.v 16),(.v 17),(.v 19),(.v 20),(.v 21),(.v 22)] 1 [])<|
     .op (.bi .lss .i64 (.v 23) (.i 0))<|
     .ite (.v 24)
      (.op (.bi .add .i64 (.v 12) (.i 1))<|
      .bq (.jump 0 [(.v 25),(.v 7)]))
      (.bq (.jump 0 [(.v 6),(.v 12)])))
     (.bq (.jump 1 [(.v 6)]))))
   (.join
    (.loop [(.v 1),(.v 0)]
     (.op (.bi .sub .i64 (.v 6) (.i 1))<|
     .op (.bi .lss .i64 (.v 7) (.v 9))<|
     .ite (.v 10)
      (.op (.bi .add .i64 (.v 7) (.i 1))<|
      .op (.bi .add .i64 (.v 7) (.i 1))<|
      .op (.row (.v 8) (.v 12) 4)<|
      .op (.rc (.v 8) (.v 12) 0 (.int .u64))<|
      .op (.rc (.v 8) (.v 12) 1 (.int .u32))<|
      .op (.rc (.v 8) (.v 12) 2 (.int .i64))<|
      .op (.rc (.v 8) (.v 12) 3 (.int .i64))<|
      .op (.row (.v 8) (.v 7) 4)<|
      .op (.rc (.v 8) (.v 7) 0 (.int .u64))<|
      .op (.rc (.v 8) (.v 7) 1 (.int .u32))<|
      .op (.rc (.v 8) (.v 7) 2 (.int .i64))<|
      .op (.rc (.v 8) (.v 7) 3 (.int .i64))<|
      .op (.row (.v 8) (.v 7) 4)<|
      .op (.set (.v 8) (.v 7) 0 [((.int .u64),(.v 14)),((.int .u32),(.v 15)),((.int .i64),(.v 16)),((.int .i64),(.v 17))])<|
      .op (.row (.v 24) (.v 11) 4)<|
      .op (.set (.v 24) (.v 11) 0 [((.int .u64),(.v 19)),((.int .u32),(.v 20)),((.int .i64),(.v 21)),((.int .i64),(.v 22))])<|
      .op (.bi .add .i64 (.v 7) (.i 1))<|
      .bq (.jump 0 [(.v 27),(.v 26)]))
      (.bq (.jump 1 [(.v 8)]))))
    (.bq (.jump 0 [(.v 7)]))))
  (.op (.bi .sub .i64 (.v 3) (.v 2))<|
  .op (.bi .eql .i64 (.v 6) (.i 1))<|
  .ite (.v 7)
   (.join
    (.loop [(.v 1),(.v 2)]
     (.op (.bi .lss .i64 (.v 8) (.v 9))<|
     .ite (.v 10)
      (.op (.bi .add .i64 (.v 8) (.v 9))<|
      .op (.conv .u64 (.v 11))<|
      .op (.bi .shr .u64 (.v 12) (.i 1))<|
      .op (.conv .i64 (.v 13))<|
      .op (.row (.v 0) (.v 2) 4)<|
      .op (.rc (.v 0) (.v 2) 0 (.int .u64))<|
      .op (.rc (.v 0) (.v 2) 1 (.int .u32))<|
      .op (.rc (.v 0) (.v 2) 2 (.int .i64))<|
      .op (.rc (.v 0) (.v 2) 3 (.int .i64))<|
      .op (.row (.v 0) (.v 14) 4)<|
      .op (.rc (.v 0) (.v 14) 0 (.int .u64))<|
      .op (.rc (.v 0) (.v 14) 1 (.int .u32))<|
      .op (.rc (.v 0) (.v 14) 2 (.int .i64))<|
      .op (.rc (.v 0) (.v 14) 3 (.int .i64))<|
      .op (.call 6 F6 [(.v 16),(.v 17),(.v 18),(.v 19),(.v 21),(.v 22),(.v 23),(.v 24)] 1 [])<|
      .op (.bi .lss .i64 (.v 25) (.i 0))<|
      .op (.not (.v 26))<|
      .ite (.v 27)
       (.op (.bi .add .i64 (.v 14) (.i 1))<|
       .bq (.jump 0 [(.v 28),(.v 9)]))
       (.bq (.jump 0 [(.v 8),(.v 14)])))
      (.bq (.jump 1 [(.v 8)]))))
    (.join
     (.loop [(.v 2),(.v 0)]
      (.op (.bi .gtr .i64 (.v 9) (.v 8))<|
      .ite (.v 11)
       (.op (.bi .sub .i64 (.v 9) (.i 1))<|
       .op (.bi .sub .i64 (.v 9) (.i 1))<|
       .op (.row (.v 10) (.v 13) 4)<|
       .op (.rc (.v 10) (.v 13) 0 (.int .u64))<|
       .op (.rc (.v 10) (.v 13) 1 (.int .u32))<|
       .op (.rc (.v 10) (.v 13) 2 (.int .i64))<|
       .op (.rc (.v 10) (.v 13) 3 (.int .i64))<|
       .op (.row (.v 10) (.v 9) 4)<|
       .op (.rc (.v 10) (.v 9) 0 (.int .u64))<|
       .op (.rc (.v 10) (.v 9) 1 (.int .u32))<|
       .op (.rc (.v 10) (.v 9) 2 (.int .i64))<|
       .op (.rc (.v 10) (.v 9) 3 (.int .i64))<|
       .op (.row (.v 10) (.v 9) 4)<|
       .op (.set (.v 10) (.v 9) 0 [((.int .u64),(.v 15)),((.int .u32),(.v 16)),((.int .i64),(.v 17)),((.int .i64),(.v 18))])<|
       .op (.row (.v 25) (.v 12) 4)<|
       .op (.set (.v 25) (.v 12) 0 [((.int .u64),(.v 20)),((.int .u32),(.v 21)),((.int .i64),(.v 22)),((.int .i64),(.v 23))])<|
       .op (.bi .sub .i64 (.v 9) (.i 1))<|
       .bq (.jump 0 [(.v 28),(.v 27)]))
       (.bq (.jump 1 [(.v 10)]))))
     (.bq (.jump 0 [(.v 9)]))))
   (.op (.bi .add .i64 (.v 1) (.v 3))<|
   .op (.conv .u64 (.v 8))<|
   .op (.bi .shr .u64 (.v 9) (.i 1))<|
   .op (.conv .i64 (.v 10))<|
   .op (.bi .add .i64 (.v 11) (.v 2))<|
   .join
    (.op (.bi .gtr .i64 (.v 2) (.v 11))<|
    .ite (.v 13)
     (.op (.bi .sub .i64 (.v 12) (.v 3))<|
     .bq (.jump 0 [(.v 14),(.v 11)]))
     (.bq (.jump 0 [(.v 1),(.v 2)])))
    (.op (.bi .sub .i64 (.v 12) (.i 1))<|
    .join
     (.loop [(.v 13),(.v 14)]
      (.op (.bi .lss .i64 (.v 16) (.v 17))<|
      .ite (.v 18)
       (.op (.bi .add .i64 (.v 16) (.v 17))<|
       .op (.conv .u64 (.v 19))<|
       .op (.bi .shr .u64 (.v 20) (.i 1))<|
       .op (.conv .i64 (.v 21))<|
       .op (.bi .sub .i64 (.v 15) (.v 22))<|
       .op (.row (.v 0) (.v 23) 4)<|
       .op (.rc (.v 0) (.v 23) 0 (.int .u64))<|
       .op (.rc (.v 0) (.v 23) 1 (.int .u32))<|
       .op (.rc (.v 0) (.v 23) 2 (.int .i64))<|
       .op (.rc (.v 0) (.v 23) 3 (.int .i64))<|
       .op (.row (.v 0) (.v 22) 4)<|
       .op (.rc (.v 0) (.v 22) 0 (.int .u64))<|
       .op (.rc (.v 0) (.v 22) 1 (.int .u32))<|
       .op (.rc (.v 0) (.v 22) 2 (.int .i64))<|
       .op (.rc (.v 0) (.v 22) 3 (.int .i64))<|
       .op (.call 6 F6 [(.v 25),(.v 26),(.v 27),(.v 28),(.v 30),(.v 31),(.v 32),(.v 33)] 1 [])<|
       .op (.bi .lss .i64 (.v 34) (.i 0))<|
       .op (.not (.v 35))<|
       .ite (.v 36)
        (.op (.bi .add .i64 (.v 22) (.i 1))<|
        .bq (.jump 0 [(.v 37),(.v 17)]))
        (.bq (.jump 0 [(.v 16),(.v 22)])))
       (.bq (.jump 1 [(.v 16)]))))
     (.op (.bi .sub .i64 (.v 12) (.v 16))<|
     .join
      (.join
       (.op (.bi .lss .i64 (.v 16) (.v 2))<|
       .ite (.v 18)
        (.op (.bi .lss .i64 (.v 2) (.v 17))<|
        .bq (.jump 0 [(.v 19)]))
        (.bq (.jump 0 [(.b false)])))
       (.ite (.v 18)
        (.op (.call 508 KC [(.v 0),(.v 16),(.v 2),(.v 17)] 1 [])<|
        .bq (.jump 0 [(.v 19)]))
        (.bq (.jump 0 [(.v 0)]))))
      (.join
       (.join
        (.op (.bi .lss .i64 (.v 1) (.v 16))<|
        .ite (.v 19)
         (.op (.bi .lss .i64 (.v 16) (.v 11))<|
         .bq (.jump 0 [(.v 20)]))
         (.bq (.jump 0 [(.b false)])))
        (.ite (.v 19)
         (.op (.call t g [(.v 18),(.v 1),(.v 16),(.v 11)] 1 [])<|
         .bq (.jump 0 [(.v 20)]))
         (.bq (.jump 0 [(.v 18)]))))
       (.join
        (.op (.bi .lss .i64 (.v 11) (.v 17))<|
        .ite (.v 20)
         (.op (.bi .lss .i64 (.v 17) (.v 3))<|
         .bq (.jump 0 [(.v 21)]))
         (.bq (.jump 0 [(.b false)])))
        (.ite (.v 20)
         (.op (.call t g [(.v 19),(.v 11),(.v 17),(.v 3)] 1 [])<|
         .bq (.jump 0 [(.v 21)]))
         (.bq (.jump 0 [(.v 19)])))))))))
def OV:=Fo (l7 1766 C8)
def arT:bw:=⟨393,[.c (.own 0),ci 1,ci 2,ci 3,.c (.fn 349 [])],[.row 164 U0],4,1,.bM [],[(0,(.row 164 U4))],OV,2091⟩
def aBQ:arT.ok Tryz.prog:=lr (l7 1766 C8) js (.cons asV (.cons yH (.cons vJ .nil))) Tryz.func393 kr kr rfl
def MD:=Fo (l7 2091 OV)
def akW:bw:=⟨393,[.c (.own 0),ci 1,ci 2,ci 3,.c (.fn 349 [])],[.row 164 U0],4,1,.bM [],[(0,(.row 164 U4))],MD,2092⟩
def alj:akW.ok Tryz.prog:=lr (l7 2091 OV) js (.cons aBQ (.cons yH (.cons vJ .nil))) Tryz.func393 kr kr rfl
def M7:=Fo (l7 2092 MD)
def auT:bw:=⟨393,[.c (.own 0),ci 1,ci 2,ci 3,.c (.fn 349 [])],[.row 164 U0],4,1,.bM [],[(0,(.row 164 U4))],M7,2093⟩
def axp:auT.ok Tryz.prog:=lr (l7 2092 MD) js (.cons alj (.cons yH (.cons vJ .nil))) Tryz.func393 kr kr rfl
def KP:=Fo (l7 2093 M7)
def ayq:bw:=⟨393,[.c (.own 0),ci 1,ci 2,ci 3,.c (.fn 349 [])],[.row 164 U0],4,1,.bM [],[(0,(.row 164 U4))],KP,2094⟩
def awd:ayq.ok Tryz.prog:=lr (l7 2093 M7) js (.cons axp (.cons yH (.cons vJ .nil))) Tryz.func393 kr kr rfl
def NS:=Fo (l7 2094 KP)
def akX:bw:=⟨393,[.c (.own 0),ci 1,ci 2,ci 3,.c (.fn 349 [])],[.row 164 U0],4,1,.bM [],[(0,(.row 164 U4))],NS,2095⟩
def ahp:akX.ok Tryz.prog:=lr (l7 2094 KP) js (.cons awd (.cons yH (.cons vJ .nil))) Tryz.func393 kr kr rfl
def Ho:=Fo (l7 2095 NS)
def ahU:bw:=⟨393,[.c (.own 0),ci 1,ci 2,ci 3,.c (.fn 349 [])],[.row 164 U0],4,1,.bM [],[(0,(.row 164 U4))],Ho,710⟩
def axz:ahU.ok Tryz.prog:=lr (l7 2095 NS) js (.cons ahp (.cons yH (.cons vJ .nil))) Tryz.func393 kr kr rfl
def Z2:bp:=.op (.call 374 rj (w 0 4) 2 [])<|.join (.join (.bI .eql U6 (.i 6)<|.ite U7 (.no U4<|.j [U8]) (.j [.b false])) (.ite U7 (.op (.call 373 rT (w 0 4) 2 [])<|.j [U8,.i 0]) (.join (.bI .eql U6 (.i 0)<|.ite U8 (.no U4<|.j [U9]) (.j [.b false])) (.ite U8 (.j [U5,.i 7]) (.j [U5,U6]))))) (.bI .neq U8 (.i 0)<|.ite U9 (.j [.i 0,U8,.i 0,.i 0,.r0]) (.cA 706 Mf [U0,U1,U2] 1<|.join (.bI .gtr U1 (.i 0)<|.ite bF (.bI .sub U1 (.i 1)<|.j [bH]) (.j [U1])) (.j [U7,.i 0,U0,bF,bD])))
def K_:=Fo Z2
def ago:bw:=⟨208,[.agg [pi 0,pi 1,ps 2],.c (.p .str U3),.c (.p .bool U4)],[],5,5,.bM [.agg [pi 7,pi 8,.own 0],ci 5,ci 6],[(0,(.row 144 U9))],K_,711⟩
def avz:ago.ok Tryz.prog:=lr Z2 BH (.cons aqn (.cons HE (.cons E_ .nil))) Tryz.func208 kr kr rfl
end
end
end Go.Proofs.YtiikkkhcolcebaaGreatDoor
