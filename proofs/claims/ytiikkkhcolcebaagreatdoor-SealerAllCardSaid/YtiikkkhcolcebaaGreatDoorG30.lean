/- A part. -/
import Derived.Test.YtiikkkhcolcebaaGreatDoorG15
import Derived.Test.YtiikkkhcolcebaaGreatDoorG26
import Derived.Test.YtiikkkhcolcebaaGreatDoorG28
import Derived.WalkKit
set_option linter.all false
set_option maxHeartbeats 4000000
set_option maxRecDepth 100000
namespace Go.Proofs.YtiikkkhcolcebaaGreatDoor
noncomputable section
section
open Go.RowKit
def kS(t:Nat)(g:List L->Option (List L)):bl:=
 .op (.bi .sub .i64 (.v 2) (.v 1))<|
 .op (.bi .eql .i64 (.v 4) (.i 1))<|
 .ite (.v 5)
  (.join
   (.loop [(.v 2),(.v 3)]
    (.op (.bi .lss .i64 (.v 6) (.v 7))<|
    .ite (.v 8)
     (.op (.bi .add .i64 (.v 6) (.v 7))<|
     .op (.conv .u64 (.v 9))<|
     .op (.bi .shr .u64 (.v 10) (.i 1))<|
     .op (.conv .i64 (.v 11))<|
     .op (.row (.v 0) (.v 12) 4)<|
     .op (.rc (.v 0) (.v 12) 0 (.int .u64))<|
     .op (.rc (.v 0) (.v 12) 1 (.int .u32))<|
     .op (.rc (.v 0) (.v 12) 2 (.int .i64))<|
     .op (.rc (.v 0) (.v 12) 3 (.int .i64))<|
     .op (.row (.v 0) (.v 1) 4)<|
     .op (.rc (.v 0) (.v 1) 0 (.int .u64))<|
     .op (.rc (.v 0) (.v 1) 1 (.int .u32))<|
     .op (.rc (.v 0) (.v 1) 2 (.int .i64))<|
     .op (.rc (.v 0) (.v 1) 3 (.int .i64))<|
     .op (.call 6 F6 [(.v 14),(.v 15),(.v 16),(.v 17),(.v 19),(.v 20),(.v 21),(.v 22)] 1 [])<|
     .op (.bi .lss .i64 (.v 23) (.i 0))<|
     .ite (.v 24)
      (.op (.bi .add .i64 (.v 12) (.i 1))<|
      .bp (.jump 0 [(.v 25),(.v 7)]))
      (.bp (.jump 0 [(.v 6),(.v 12)])))
     (.bp (.jump 1 [(.v 6)]))))
   (.join
    (.loop [(.v 1),(.v 0)]
     (.op (.bi .sub .i64 (.v 6) (.i 1))<|
     .op (.bi .lss .i64 (.v 7) (.v 9))<|
     .ite (.v 10)
      (.op (.bi .add .i64 (.v 7) (.i 1))<|
      .op (.bi .add .i64 (.v 7) (.i 1))<|
      .op (.row (.v 8) (.v 12) 4)<|
      .op (.rc (.v 8) (.v 12) 0 (.int .u64))<|
      .op (.rc (.v 8) (.v 12) 1 (.int .u32))<|
      .op (.rc (.v 8) (.v 12) 2 (.int .i64))<|
      .op (.rc (.v 8) (.v 12) 3 (.int .i64))<|
      .op (.row (.v 8) (.v 7) 4)<|
      .op (.rc (.v 8) (.v 7) 0 (.int .u64))<|
      .op (.rc (.v 8) (.v 7) 1 (.int .u32))<|
      .op (.rc (.v 8) (.v 7) 2 (.int .i64))<|
      .op (.rc (.v 8) (.v 7) 3 (.int .i64))<|
      .op (.row (.v 8) (.v 7) 4)<|
      .op (.set (.v 8) (.v 7) 0 [((.int .u64),(.v 14)),((.int .u32),(.v 15)),((.int .i64),(.v 16)),((.int .i64),(.v 17))])<|
      .op (.row (.v 24) (.v 11) 4)<|
      .op (.set (.v 24) (.v 11) 0 [((.int .u64),(.v 19)),((.int .u32),(.v 20)),((.int .i64),(.v 21)),((.int .i64),(.v 22))])<|
      .op (.bi .add .i64 (.v 7) (.i 1))<|
      .bp (.jump 0 [(.v 27),(.v 26)]))
      (.bp (.jump 1 [(.v 8)]))))
    (.bp (.jump 0 [(.v 7)]))))
  (.op (.bi .sub .i64 (.v 3) (.v 2))<|
  .op (.bi .eql .i64 (.v 6) (.i 1))<|
  .ite (.v 7)
   (.join
    (.loop [(.v 1),(.v 2)]
     (.op (.bi .lss .i64 (.v 8) (.v 9))<|
     .ite (.v 10)
      (.op (.bi .add .i64 (.v 8) (.v 9))<|
      .op (.conv .u64 (.v 11))<|
      .op (.bi .shr .u64 (.v 12) (.i 1))<|
      .op (.conv .i64 (.v 13))<|
      .op (.row (.v 0) (.v 2) 4)<|
      .op (.rc (.v 0) (.v 2) 0 (.int .u64))<|
      .op (.rc (.v 0) (.v 2) 1 (.int .u32))<|
      .op (.rc (.v 0) (.v 2) 2 (.int .i64))<|
      .op (.rc (.v 0) (.v 2) 3 (.int .i64))<|
      .op (.row (.v 0) (.v 14) 4)<|
      .op (.rc (.v 0) (.v 14) 0 (.int .u64))<|
      .op (.rc (.v 0) (.v 14) 1 (.int .u32))<|
      .op (.rc (.v 0) (.v 14) 2 (.int .i64))<|
      .op (.rc (.v 0) (.v 14) 3 (.int .i64))<|
      .op (.call 6 F6 [(.v 16),(.v 17),(.v 18),(.v 19),(.v 21),(.v 22),(.v 23),(.v 24)] 1 [])<|
      .op (.bi .lss .i64 (.v 25) (.i 0))<|
      .op (.not (.v 26))<|
      .ite (.v 27)
       (.op (.bi .add .i64 (.v 14) (.i 1))<|
       .bp (.jump 0 [(.v 28),(.v 9)]))
       (.bp (.jump 0 [(.v 8),(.v 14)])))
      (.bp (.jump 1 [(.v 8)]))))
    (.join
     (.loop [(.v 2),(.v 0)]
      (.op (.bi .gtr .i64 (.v 9) (.v 8))<|
      .ite (.v 11)
       (.op (.bi .sub .i64 (.v 9) (.i 1))<|
       .op (.bi .sub .i64 (.v 9) (.i 1))<|
       .op (.row (.v 10) (.v 13) 4)<|
       .op (.rc (.v 10) (.v 13) 0 (.int .u64))<|
       .op (.rc (.v 10) (.v 13) 1 (.int .u32))<|
       .op (.rc (.v 10) (.v 13) 2 (.int .i64))<|
       .op (.rc (.v 10) (.v 13) 3 (.int .i64))<|
       .op (.row (.v 10) (.v 9) 4)<|
       .op (.rc (.v 10) (.v 9) 0 (.int .u64))<|
       .op (.rc (.v 10) (.v 9) 1 (.int .u32))<|
       .op (.rc (.v 10) (.v 9) 2 (.int .i64))<|
       .op (.rc (.v 10) (.v 9) 3 (.int .i64))<|
       .op (.row (.v 10) (.v 9) 4)<|
       .op (.set (.v 10) (.v 9) 0 [((.int .u64),(.v 15)),((.int .u32),(.v 16)),((.int .i64),(.v 17)),((.int .i64),(.v 18))])<|
       .op (.row (.v 25) (.v 12) 4)<|
       .op (.set (.v 25) (.v 12) 0 [((.int .u64),(.v 20)),((.int .u32),(.v 21)),((.int .i64),(.v 22)),((.int .i64),(.v 23))])<|
       .op (.bi .sub .i64 (.v 9) (.i 1))<|
       .bp (.jump 0 [(.v 28),(.v 27)]))
       (.bp (.jump 1 [(.v 10)]))))
     (.bp (.jump 0 [(.v 9)]))))
   (.op (.bi .add .i64 (.v 1) (.v 3))<|
   .op (.conv .u64 (.v 8))<|
   .op (.bi .shr .u64 (.v 9) (.i 1))<|
   .op (.conv .i64 (.v 10))<|
   .op (.bi .add .i64 (.v 11) (.v 2))<|
   .join
    (.op (.bi .gtr .i64 (.v 2) (.v 11))<|
    .ite (.v 13)
     (.op (.bi .sub .i64 (.v 12) (.v 3))<|
     .bp (.jump 0 [(.v 14),(.v 11)]))
     (.bp (.jump 0 [(.v 1),(.v 2)])))
    (.op (.bi .sub .i64 (.v 12) (.i 1))<|
    .join
     (.loop [(.v 13),(.v 14)]
      (.op (.bi .lss .i64 (.v 16) (.v 17))<|
      .ite (.v 18)
       (.op (.bi .add .i64 (.v 16) (.v 17))<|
       .op (.conv .u64 (.v 19))<|
       .op (.bi .shr .u64 (.v 20) (.i 1))<|
       .op (.conv .i64 (.v 21))<|
       .op (.bi .sub .i64 (.v 15) (.v 22))<|
       .op (.row (.v 0) (.v 23) 4)<|
       .op (.rc (.v 0) (.v 23) 0 (.int .u64))<|
       .op (.rc (.v 0) (.v 23) 1 (.int .u32))<|
       .op (.rc (.v 0) (.v 23) 2 (.int .i64))<|
       .op (.rc (.v 0) (.v 23) 3 (.int .i64))<|
       .op (.row (.v 0) (.v 22) 4)<|
       .op (.rc (.v 0) (.v 22) 0 (.int .u64))<|
       .op (.rc (.v 0) (.v 22) 1 (.int .u32))<|
       .op (.rc (.v 0) (.v 22) 2 (.int .i64))<|
       .op (.rc (.v 0) (.v 22) 3 (.int .i64))<|
       .op (.call 6 F6 [(.v 25),(.v 26),(.v 27),(.v 28),(.v 30),(.v 31),(.v 32),(.v 33)] 1 [])<|
       .op (.bi .lss .i64 (.v 34) (.i 0))<|
       .op (.not (.v 35))<|
       .ite (.v 36)
        (.op (.bi .add .i64 (.v 22) (.i 1))<|
        .bp (.jump 0 [(.v 37),(.v 17)]))
        (.bp (.jump 0 [(.v 16),(.v 22)])))
       (.bp (.jump 1 [(.v 16)]))))
     (.op (.bi .sub .i64 (.v 12) (.v 16))<|
     .join
      (.join
       (.op (.bi .lss .i64 (.v 16) (.v 2))<|
       .ite (.v 18)
        (.op (.bi .lss .i64 (.v 2) (.v 17))<|
        .bp (.jump 0 [(.v 19)]))
        (.bp (.jump 0 [(.b false)])))
       (.ite (.v 18)
        (.op (.call 508 IK [(.v 0),(.v 16),(.v 2),(.v 17)] 1 [])<|
        .bp (.jump 0 [(.v 19)]))
        (.bp (.jump 0 [(.v 0)]))))
      (.join
       (.join
        (.op (.bi .lss .i64 (.v 1) (.v 16))<|
        .ite (.v 19)
         (.op (.bi .lss .i64 (.v 16) (.v 11))<|
         .bp (.jump 0 [(.v 20)]))
         (.bp (.jump 0 [(.b false)])))
        (.ite (.v 19)
         (.op (.call t g [(.v 18),(.v 1),(.v 16),(.v 11)] 1 [])<|
         .bp (.jump 0 [(.v 20)]))
         (.bp (.jump 0 [(.v 18)]))))
       (.join
        (.op (.bi .lss .i64 (.v 11) (.v 17))<|
        .ite (.v 20)
         (.op (.bi .lss .i64 (.v 17) (.v 3))<|
         .bp (.jump 0 [(.v 21)]))
         (.bp (.jump 0 [(.b false)])))
        (.ite (.v 20)
         (.op (.call t g [(.v 19),(.v 11),(.v 17),(.v 3)] 1 [])<|
         .bp (.jump 0 [(.v 21)]))
         (.bp (.jump 0 [(.v 19)])))))))))
def MM:=Fo (kS 1766 Bp)
def aoK:bw:=⟨393,[.c (.own 0),ci 1,ci 2,ci 3,.c (.fn 349 [])],[.row 164 U0],4,1,.bL [],[(0,(.row 164 U4))],MM,2091⟩
theorem ayr:aoK.ok Tryz.prog:=g_ (kS 1766 Bp) iB (.cons apC (.cons xf (.cons ud .nil))) Tryz.func393 kr kr rfl
def KC:=Fo (kS 2091 MM)
def ahY:bw:=⟨393,[.c (.own 0),ci 1,ci 2,ci 3,.c (.fn 349 [])],[.row 164 U0],4,1,.bL [],[(0,(.row 164 U4))],KC,2092⟩
theorem ail:ahY.ok Tryz.prog:=g_ (kS 2091 MM) iB (.cons ayr (.cons xf (.cons ud .nil))) Tryz.func393 kr kr rfl
def K1:=Fo (kS 2092 KC)
def art:bw:=⟨393,[.c (.own 0),ci 1,ci 2,ci 3,.c (.fn 349 [])],[.row 164 U0],4,1,.bL [],[(0,(.row 164 U4))],K1,2093⟩
theorem atT:art.ok Tryz.prog:=g_ (kS 2092 KC) iB (.cons ail (.cons xf (.cons ud .nil))) Tryz.func393 kr kr rfl
def IY:=Fo (kS 2093 K1)
def auS:bw:=⟨393,[.c (.own 0),ci 1,ci 2,ci 3,.c (.fn 349 [])],[.row 164 U0],4,1,.bL [],[(0,(.row 164 U4))],IY,2094⟩
theorem asF:auS.ok Tryz.prog:=g_ (kS 2093 K1) iB (.cons atT (.cons xf (.cons ud .nil))) Tryz.func393 kr kr rfl
def LK:=Fo (kS 2094 IY)
def ahZ:bw:=⟨393,[.c (.own 0),ci 1,ci 2,ci 3,.c (.fn 349 [])],[.row 164 U0],4,1,.bL [],[(0,(.row 164 U4))],LK,2095⟩
theorem aem:ahZ.ok Tryz.prog:=g_ (kS 2094 IY) iB (.cons asF (.cons xf (.cons ud .nil))) Tryz.func393 kr kr rfl
def Fb:=Fo (kS 2095 LK)
def aeS:bw:=⟨393,[.c (.own 0),ci 1,ci 2,ci 3,.c (.fn 349 [])],[.row 164 U0],4,1,.bL [],[(0,(.row 164 U4))],Fb,710⟩
theorem aud:aeS.ok Tryz.prog:=g_ (kS 2095 LK) iB (.cons aem (.cons xf (.cons ud .nil))) Tryz.func393 kr kr rfl
def XR:bl:=.op (.call 374 p0 (w 0 4) 2 [])<|.join (.join (.bI .eql U6 (.i 6)<|.ite U7 (.no U4<|.j [U8]) (.j [.b false])) (.ite U7 (.op (.call 373 qx (w 0 4) 2 [])<|.j [U8,.i 0]) (.join (.bI .eql U6 (.i 0)<|.ite U8 (.no U4<|.j [U9]) (.j [.b false])) (.ite U8 (.j [U5,.i 7]) (.j [U5,U6]))))) (.bI .neq U8 (.i 0)<|.ite U9 (.j [.i 0,U8,.i 0,.i 0,.r0]) (.cA 706 Kf [U0,U1,U2] 1<|.join (.bI .gtr U1 (.i 0)<|.ite bE (.bI .sub U1 (.i 1)<|.j [bG]) (.j [U1])) (.j [U7,.i 0,U0,bE,bB])))
def Jh:=Fo XR
def adg:bw:=⟨208,[.agg [pi 0,pi 1,ps 2],.c (.p .str U3),.c (.p .bool U4)],[],5,5,.bL [.agg [pi 7,pi 8,.own 0],ci 5,ci 6],[(0,(.row 144 U9))],Jh,711⟩
theorem arY:adg.ok Tryz.prog:=g_ XR zY (.cons ana (.cons Fv (.cons Dm .nil))) Tryz.func208 kr kr rfl
end
end
end Go.Proofs.YtiikkkhcolcebaaGreatDoor
