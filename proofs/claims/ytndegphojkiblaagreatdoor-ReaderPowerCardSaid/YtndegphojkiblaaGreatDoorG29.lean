/- Towards the last file's theorem: part 29. -/
import Derived.Test.YtndegphojkiblaaGreatDoorG28
import Derived.WalkKit
set_option linter.unusedSimpArgs false
set_option linter.unusedVariables false
namespace Go.Proofs.YtndegphojkiblaaGreatDoor
section
open Go.RowKit
set_option maxRecDepth 100000
set_option maxHeartbeats 4000000
noncomputable section
def fir100 : Fir :=
 .op (.call 80 F80 (w 0 14) 1 []) <|
 .op (.not (.v 16)) <|
 .ite (.v 17)
 (.leaf (.jump 0 [.i 1,.i 0,.i 0,.i 0,.i 0,.r0,.r0,.r0,.r0,.r0,.r0,.r0,.r0,.i 0,.i 0]))
 (.op (.bi .neq .i64 (.v 2) (.v 14)) <|
 .ite (.v 18)
 (.leaf (.jump 0 [.i 12,.i 0,.i 0,.i 0,.i 0,.r0,.r0,.r0,.r0,.r0,.r0,.r0,.r0,.i 0,.i 0]))
 (.leaf (.jump 0 ([.i 0,.v 0,.v 1,.v 15] ++ w 3 11))))
def F100 := Fo fir100
def s100 : Sig := ⟨134,[.agg (wpi 0 4 ++ wps 4 8 ++ [pi 12,pi 13]),ci 14,ci 15],[],16,15,.tup [.agg (wpi 17 4 ++ wps 21 8 ++ [pi 29,pi 30]),ci 16],[],F100,100⟩
theorem ok100 : s100.ok Tryz.prog := okS fir100 TT_ok (.cons ok80 .nil) Tryz.func134 (by kernel_rfl) (by kernel_rfl) rfl
def fir101 : Fir :=
 .op (.call 100 F100 (w 0 14 ++ [.i 2,.i 3]) 15 []) <|
 .leaf (.jump 0 (w 14 15))
def F101 := Fo fir101
def s101 : Sig := ⟨69,[.agg (wpi 0 4 ++ wps 4 8 ++ [pi 12,pi 13])],[],14,15,.tup [.agg (wpi 15 4 ++ wps 19 8 ++ [pi 27,pi 28]),ci 14],[],F101,101⟩
theorem ok101 : s101.ok Tryz.prog := okS fir101 TT_ok (.cons ok100 .nil) Tryz.func69 (by kernel_rfl) (by kernel_rfl) rfl
def fir102 : Fir :=
 .op (.call 100 F100 (w 0 14 ++ [.i 1,.i 2]) 15 []) <|
 .leaf (.jump 0 (w 14 15))
def F102 := Fo fir102
def s102 : Sig := ⟨115,[.agg (wpi 0 4 ++ wps 4 8 ++ [pi 12,pi 13])],[],14,15,.tup [.agg (wpi 15 4 ++ wps 19 8 ++ [pi 27,pi 28]),ci 14],[],F102,102⟩
theorem ok102 : s102.ok Tryz.prog := okS fir102 TT_ok (.cons ok100 .nil) Tryz.func115 (by kernel_rfl) (by kernel_rfl) rfl
def fir103 : Fir :=
 .op (.len (.v 3)) <|
 .join
 (.op (.bi .lss .i64 (.v 0) (.i 0)) <|
 .ite (.v 5)
 (.leaf (.jump 0 [.b true]))
 (.op (.bi .geq .i64 (.v 0) (.i 4)) <|
 .ite (.v 6)
 (.leaf (.jump 0 [.b true]))
 (.op (.call 44 F44 [.i 4096] 1 []) <|
 .op (.bi .add .i64 (.i 16) (.v 7)) <|
 .op (.bi .lss .i64 (.v 1) (.v 8)) <|
 .ite (.v 9)
 (.leaf (.jump 0 [.b true]))
 (.op (.bi .gtr .i64 (.v 1) (.i 262144)) <|
 .ite (.v 10)
 (.leaf (.jump 0 [.b true]))
 (.op (.bi .lss .i64 (.v 4) (.i 1)) <|
 .ite (.v 11)
 (.leaf (.jump 0 [.b true]))
 (.op (.bi .gtr .i64 (.v 4) (.i 8)) <|
 .leaf (.jump 0 [.v 12])))))))
 (.ite (.v 5)
 (.leaf (.jump 0 [.b false]))
 (.join
 (.loop [.i 0]
 (.op (.bi .lss .i64 (.v 6) (.v 4)) <|
 .ite (.v 7)
 (.op (.row (.v 3) (.v 6) 14) <|
 .op (.cl (.v 8) 0 (.int .i64)) <|
 .op (.cl (.v 8) 1 (.int .i64)) <|
 .op (.cl (.v 8) 2 (.int .i64)) <|
 .op (.cl (.v 8) 3 (.int .i64)) <|
 .op (.cl (.v 8) 4 .sl) <|
 .op (.cl (.v 8) 5 .sl) <|
 .op (.cl (.v 8) 6 .sl) <|
 .op (.cl (.v 8) 7 .sl) <|
 .op (.cl (.v 8) 8 .sl) <|
 .op (.cl (.v 8) 9 .sl) <|
 .op (.cl (.v 8) 10 .sl) <|
 .op (.cl (.v 8) 11 .sl) <|
 .op (.cl (.v 8) 12 (.int .i64)) <|
 .op (.cl (.v 8) 13 (.int .i64)) <|
 .join
 (.op (.call 80 F80 [.v 9,.v 10,.v 11,.v 12,.v 13,.v 14,.v 15,.v 16,.v 17,.v 18,.v 19,.v 20,.v 21,.v 22] 1 []) <|
 .op (.not (.v 23)) <|
 .ite (.v 24)
 (.leaf (.jump 0 [.b true]))
 (.op (.bi .eql .i64 (.v 11) (.i 1)) <|
 .op (.bi .sub .i64 (.v 4) (.i 1)) <|
 .op (.bi .eql .i64 (.v 6) (.v 26)) <|
 .op (.bb .neq (.v 25) (.v 27)) <|
 .ite (.v 28)
 (.leaf (.jump 0 [.b true]))
 (.op (.bi .gtr .i64 (.v 6) (.i 0)) <|
 .ite (.v 29)
 (.op (.bi .sub .i64 (.v 6) (.i 1)) <|
 .op (.row (.v 3) (.v 30) 14) <|
 .op (.cl (.v 31) 0 (.int .i64)) <|
 .op (.bi .leq .i64 (.v 9) (.v 32)) <|
 .ite (.v 33)
 (.leaf (.jump 0 [.b true]))
 (.op (.bi .mul .i64 (.i 2) (.v 1)) <|
 .op (.bi .gtr .i64 (.v 12) (.v 34)) <|
 .leaf (.jump 0 [.v 35])))
 (.op (.bi .mul .i64 (.i 2) (.v 1)) <|
 .op (.bi .gtr .i64 (.v 12) (.v 30)) <|
 .leaf (.jump 0 [.v 31])))))
 (.ite (.v 23)
 (.leaf (.jump 2 [.b false]))
 (.op (.bi .add .i64 (.v 6) (.i 1)) <|
 .leaf (.jump 0 [.v 24]))))
 (.leaf (.jump 1 []))))
 (.op (.bi .sub .i64 (.v 4) (.i 1)) <|
 .op (.row (.v 3) (.v 6) 14) <|
 .op (.cl (.v 7) 0 (.int .i64)) <|
 .op (.cl (.v 7) 1 (.int .i64)) <|
 .op (.cl (.v 7) 2 (.int .i64)) <|
 .op (.cl (.v 7) 3 (.int .i64)) <|
 .op (.cl (.v 7) 4 .sl) <|
 .op (.cl (.v 7) 5 .sl) <|
 .op (.cl (.v 7) 6 .sl) <|
 .op (.cl (.v 7) 7 .sl) <|
 .op (.cl (.v 7) 8 .sl) <|
 .op (.cl (.v 7) 9 .sl) <|
 .op (.cl (.v 7) 10 .sl) <|
 .op (.cl (.v 7) 11 .sl) <|
 .op (.cl (.v 7) 12 (.int .i64)) <|
 .op (.cl (.v 7) 13 (.int .i64)) <|
 .op (.call 44 F44 [.i 0] 1 []) <|
 .op (.call 98 F98 [.v 12,.v 13,.v 14,.v 15,.v 16,.v 17,.v 18,.v 19,.v 20,.v 21] 1 []) <|
 .op (.bi .mul .i64 (.v 22) (.v 23)) <|
 .op (.bi .add .i64 (.v 11) (.v 24)) <|
 .op (.bi .mul .i64 (.i 2) (.v 1)) <|
 .op (.bi .leq .i64 (.v 25) (.v 26)) <|
 .leaf (.jump 0 [.v 27]))))
def F103 := Fo fir103
def s103 : Sig := ⟨38,[.agg [pi 0,pi 1,.p .bool (.v 2),ps 3]],[],4,1,.v (.c (.p .bool (.v 4))),[],F103,103⟩
theorem ok103 : s103.ok Tryz.prog := okS fir103 TT_ok (.cons ok98 (.cons ok80 (.cons ok44 .nil))) Tryz.func38 (by kernel_rfl) (by kernel_rfl) rfl
def fir104 : Fir :=
 .op (.call 57 F57 [.i 1] 4 []) <|
 .op (.lit [[((.int .i64),(.v 3)),((.int .i64),(.i 0)),((.int .i64),(.v 4)),((.int .i64),(.v 5)),(.sl,.r0),(.sl,.r0),(.sl,.r0),(.sl,.r0),(.sl,.r0),(.sl,.r0),(.sl,.r0),(.sl,.r0),((.int .i64),(.i 0)),((.int .i64),(.i 0))]]) <|
 .op (.call 103 F103 [.v 0,.v 1,.b false,.v 6] 1 []) <|
 .op (.not (.v 7)) <|
 .ite (.v 8)
 (.leaf (.jump 0 [.i 1,.i 0,.i 0,.r0]))
 (.leaf (.jump 0 [.i 0,.v 0,.v 1,.v 6]))
def F104 := Fo fir104
def s104 : Sig := ⟨72,[ci 0,ci 1],[],2,4,.tup [.agg [pi 3,pi 4,.p .bool (.b false),.own 0],ci 2],[(0,(.row 94 (.v 5)))],F104,104⟩
theorem ok104 : s104.ok Tryz.prog := okS fir104 TT_ok (.cons ok103 (.cons ok57 .nil)) Tryz.func72 (by kernel_rfl) (by kernel_rfl) rfl
def fir105 : Fir :=
 .op (.call 94 F94 [] 3 []) <|
 .op (.call 60 F60 [.v 1,.v 2,.v 3,.v 0] 2 []) <|
 .leaf (.jump 0 [.v 5])
def F105 := Fo fir105
def s105 : Sig := ⟨180,[.c (.own 0)],[.row 71 (.v 0)],1,1,.v (.c (.own 1)),[(0,(.row 71 (.v 0))),(1,(.row 71 (.v 1)))],F105,105⟩
theorem ok105 : s105.ok Tryz.prog := okS fir105 TT_ok (.cons ok94 (.cons ok60 .nil)) Tryz.func180 (by kernel_rfl) (by kernel_rfl) rfl
def fir106 : Fir :=
 .join
 (.loop [.i 0,.i 20,.v 0]
 (.op (.bi .leq .i64 (.v 3) (.v 1)) <|
 .ite (.v 5)
 (.op (.call 85 F85 [.v 4,.v 2,.v 3] 1 []) <|
 .op (.bi .add .i64 (.v 3) (.i 20)) <|
 .leaf (.jump 0 [.v 3,.v 7,.v 6]))
 (.leaf (.jump 1 [.v 2,.v 4]))))
 (.op (.call 85 F85 [.v 3,.v 2,.v 1] 1 []) <|
 .loop [.i 20]
 (.op (.bi .lss .i64 (.v 5) (.v 1)) <|
 .ite (.v 6)
 (.op (.bi .mul .i64 (.i 2) (.v 5)) <|
 .join
 (.loop [.i 0,.v 7]
 (.op (.bi .leq .i64 (.v 9) (.v 1)) <|
 .ite (.v 10)
 (.op (.bi .add .i64 (.v 8) (.v 5)) <|
 .op (.call 1091 F1091 [.v 4,.v 8,.v 11,.v 9] 0 []) <|
 .op (.bi .mul .i64 (.i 2) (.v 5)) <|
 .op (.bi .add .i64 (.v 9) (.v 12)) <|
 .leaf (.jump 0 [.v 9,.v 13]))
 (.leaf (.jump 1 [.v 8]))))
 (.join
 (.op (.bi .add .i64 (.v 8) (.v 5)) <|
 .op (.bi .lss .i64 (.v 9) (.v 1)) <|
 .ite (.v 10)
 (.op (.call 1091 F1091 [.v 4,.v 8,.v 9,.v 1] 0 []) <|
 .leaf (.jump 0 []))
 (.leaf (.jump 0 [])))
 (.op (.bi .mul .i64 (.v 5) (.i 2)) <|
 .leaf (.jump 0 [.v 9]))))
 (.leaf (.jump 1 [.v 4]))))
def F106 := Fo fir106
def s106 : Sig := ⟨289,[.c (.own 0),ci 1,.c (.fn 248 [])],[.row 25 (.v 0)],2,1,.tup [],[(0,(.row 25 (.v 2)))],F106,106⟩
theorem ok106 : s106.ok Tryz.prog := okS fir106 TT_ok (.cons ok1091 (.cons ok1090 (.cons ok85 .nil))) Tryz.func289 (by kernel_rfl) (by kernel_rfl) rfl
def fir107 : Fir :=
 .op (.len (.v 3)) <|
 .join
 (.op (.bi .lss .i64 (.v 0) (.i 0)) <|
 .ite (.v 5)
 (.leaf (.jump 0 [.b true]))
 (.op (.bi .geq .i64 (.v 0) (.i 4)) <|
 .ite (.v 6)
 (.leaf (.jump 0 [.b true]))
 (.op (.call 44 F44 [.i 4096] 1 []) <|
 .op (.bi .add .i64 (.i 16) (.v 7)) <|
 .op (.bi .lss .i64 (.v 1) (.v 8)) <|
 .ite (.v 9)
 (.leaf (.jump 0 [.b true]))
 (.op (.bi .gtr .i64 (.v 1) (.i 262144)) <|
 .ite (.v 10)
 (.leaf (.jump 0 [.b true]))
 (.op (.bi .lss .i64 (.v 4) (.i 1)) <|
 .ite (.v 11)
 (.leaf (.jump 0 [.b true]))
 (.op (.bi .gtr .i64 (.v 4) (.i 8)) <|
 .leaf (.jump 0 [.v 12])))))))
 (.ite (.v 5)
 (.leaf (.jump 0 [.b false]))
 (.join
 (.loop [.i 0]
 (.op (.bi .lss .i64 (.v 6) (.v 4)) <|
 .ite (.v 7)
 (.op (.row (.v 3) (.v 6) 14) <|
 .op (.rc (.v 3) (.v 6) 0 (.int .i64)) <|
 .op (.rc (.v 3) (.v 6) 1 (.int .i64)) <|
 .op (.rc (.v 3) (.v 6) 2 (.int .i64)) <|
 .op (.rc (.v 3) (.v 6) 3 (.int .i64)) <|
 .op (.rc (.v 3) (.v 6) 4 .sl) <|
 .op (.rc (.v 3) (.v 6) 5 .sl) <|
 .op (.rc (.v 3) (.v 6) 6 .sl) <|
 .op (.rc (.v 3) (.v 6) 7 .sl) <|
 .op (.rc (.v 3) (.v 6) 8 .sl) <|
 .op (.rc (.v 3) (.v 6) 9 .sl) <|
 .op (.rc (.v 3) (.v 6) 10 .sl) <|
 .op (.rc (.v 3) (.v 6) 11 .sl) <|
 .op (.rc (.v 3) (.v 6) 12 (.int .i64)) <|
 .op (.rc (.v 3) (.v 6) 13 (.int .i64)) <|
 .join
 (.op (.call 80 F80 (w 9 14) 1 []) <|
 .op (.not (.v 23)) <|
 .ite (.v 24)
 (.leaf (.jump 0 [.b true]))
 (.op (.bi .eql .i64 (.v 11) (.i 1)) <|
 .op (.bi .sub .i64 (.v 4) (.i 1)) <|
 .op (.bi .eql .i64 (.v 6) (.v 26)) <|
 .op (.bb .neq (.v 25) (.v 27)) <|
 .ite (.v 28)
 (.leaf (.jump 0 [.b true]))
 (.op (.bi .gtr .i64 (.v 6) (.i 0)) <|
 .ite (.v 29)
 (.op (.bi .sub .i64 (.v 6) (.i 1)) <|
 .op (.row (.v 3) (.v 30) 14) <|
 .op (.rc (.v 3) (.v 30) 0 (.int .i64)) <|
 .op (.bi .leq .i64 (.v 9) (.v 32)) <|
 .ite (.v 33)
 (.leaf (.jump 0 [.b true]))
 (.op (.bi .mul .i64 (.i 2) (.v 1)) <|
 .op (.bi .gtr .i64 (.v 12) (.v 34)) <|
 .leaf (.jump 0 [.v 35])))
 (.op (.bi .mul .i64 (.i 2) (.v 1)) <|
 .op (.bi .gtr .i64 (.v 12) (.v 30)) <|
 .leaf (.jump 0 [.v 31])))))
 (.ite (.v 23)
 (.leaf (.jump 2 [.b false]))
 (.op (.bi .add .i64 (.v 6) (.i 1)) <|
 .leaf (.jump 0 [.v 24]))))
 (.leaf (.jump 1 []))))
 (.op (.bi .sub .i64 (.v 4) (.i 1)) <|
 .op (.row (.v 3) (.v 6) 14) <|
 .op (.rc (.v 3) (.v 6) 0 (.int .i64)) <|
 .op (.rc (.v 3) (.v 6) 1 (.int .i64)) <|
 .op (.rc (.v 3) (.v 6) 2 (.int .i64)) <|
 .op (.rc (.v 3) (.v 6) 3 (.int .i64)) <|
 .op (.rc (.v 3) (.v 6) 4 .sl) <|
 .op (.rc (.v 3) (.v 6) 5 .sl) <|
 .op (.rc (.v 3) (.v 6) 6 .sl) <|
 .op (.rc (.v 3) (.v 6) 7 .sl) <|
 .op (.rc (.v 3) (.v 6) 8 .sl) <|
 .op (.rc (.v 3) (.v 6) 9 .sl) <|
 .op (.rc (.v 3) (.v 6) 10 .sl) <|
 .op (.rc (.v 3) (.v 6) 11 .sl) <|
 .op (.rc (.v 3) (.v 6) 12 (.int .i64)) <|
 .op (.rc (.v 3) (.v 6) 13 (.int .i64)) <|
 .op (.call 44 F44 [.i 0] 1 []) <|
 .op (.call 98 F98 (w 12 10) 1 []) <|
 .op (.bi .mul .i64 (.v 22) (.v 23)) <|
 .op (.bi .add .i64 (.v 11) (.v 24)) <|
 .op (.bi .mul .i64 (.i 2) (.v 1)) <|
 .op (.bi .leq .i64 (.v 25) (.v 26)) <|
 .leaf (.jump 0 [.v 27]))))
def F107 := Fo fir107
def s107 : Sig := ⟨38,[.agg [pi 0,pi 1,.p .bool (.v 2),.own 0]],[.row 94 (.v 3)],4,1,.v (.c (.p .bool (.v 4))),[(0,(.row 94 (.v 3)))],F107,107⟩
theorem ok107 : s107.ok Tryz.prog := okS fir107 TT_ok (.cons ok98 (.cons ok80 (.cons ok44 .nil))) Tryz.func38 (by kernel_rfl) (by kernel_rfl) rfl
end
end
section
open Go.RowKit
set_option maxRecDepth 100000
set_option maxHeartbeats 4000000
noncomputable section
def fir108 : Fir :=
 .join
 (.loop [.i 0,.i 0]
 (.op (.len (.v 2)) <|
 .op (.bi .lss .i64 (.v 4) (.v 5)) <|
 .ite (.v 6)
 (.op (.row (.v 2) (.v 4) 3) <|
 .op (.cl (.v 7) 0 .str) <|
 .op (.cl (.v 7) 1 .sl) <|
 .op (.cl (.v 7) 2 .sl) <|
 .op (.call 97 F97 [.v 8,.v 9,.v 10] 1 []) <|
 .op (.len (.v 11)) <|
 .op (.bi .add .i64 (.v 3) (.v 12)) <|
 .op (.bi .add .i64 (.v 4) (.i 1)) <|
 .leaf (.jump 0 [.v 13,.v 14]))
 (.leaf (.jump 1 [.v 3]))))
 (.leaf (.jump 0 [.v 3]))
def F108 := Fo fir108
def s108 : Sig := ⟨220,[.agg [pi 0,pi 1,ps 2]],[],3,1,.v (ci 3),[],F108,108⟩
theorem ok108 : s108.ok Tryz.prog := okS fir108 TT_ok (.cons ok97 .nil) Tryz.func220 (by kernel_rfl) (by kernel_rfl) rfl
def fir109 : Fir :=
 .op (.call 96 F96 (w 0 4) 1 []) <|
 .op (.bi .neq .i64 (.v 4) (.i 0)) <|
 .ite (.v 5)
 (.leaf (.jump 0 [.v 4,.i 0,.i 0,.r0]))
 (.op (.call 32 F32 (w 0 4) 1 []) <|
 .op (.bi .geq .i64 (.v 6) (.i 0)) <|
 .ite (.v 7)
 (.leaf (.jump 0 [.i 7,.i 0,.i 0,.r0]))
 (.op (.len (.v 2)) <|
 .op (.bi .eql .i64 (.v 8) (.i 256)) <|
 .ite (.v 9)
 (.leaf (.jump 0 [.i 9,.i 0,.i 0,.r0]))
 (.op (.call 31 F31 [.v 0,.v 1,.v 2] 2 []) <|
 .op (.call 30 F30 [.v 0,.v 10,.v 11,.v 3,.r0,.r0] 1 []) <|
 .leaf (.jump 0 [.i 0,.v 0,.v 10,.v 12]))))
def F109 := Fo fir109
def s109 : Sig := ⟨118,[.agg [pi 0,pi 1,ps 2],.c (.p .str (.v 3))],[],4,4,.tup [.agg [pi 5,pi 6,.own 0],ci 4],[(0,(.row 109 (.v 7)))],F109,109⟩
theorem ok109 : s109.ok Tryz.prog := okS fir109 TT_ok (.cons ok96 (.cons ok32 (.cons ok31 (.cons ok30 .nil)))) Tryz.func118 (by kernel_rfl) (by kernel_rfl) rfl
def fir110 : Fir :=
 .op (.call 96 F96 [.v 0,.v 1,.v 2,.v 3] 1 []) <|
 .op (.bi .neq .i64 (.v 4) (.i 0)) <|
 .ite (.v 5)
 (.leaf (.jump 0 [.i (-1),.v 4]))
 (.op (.call 32 F32 [.v 0,.v 1,.v 2,.v 3] 1 []) <|
 .op (.bi .lss .i64 (.v 6) (.i 0)) <|
 .ite (.v 7)
 (.leaf (.jump 0 [.i (-1),.i 6]))
 (.leaf (.jump 0 [.v 6,.i 0])))
def F110 := Fo fir110
def s110 : Sig := ⟨48,[.agg [pi 0,pi 1,ps 2],.c (.p .str (.v 3))],[],4,2,.tup [ci 4,ci 5],[],F110,110⟩
theorem ok110 : s110.ok Tryz.prog := okS fir110 TT_ok (.cons ok96 (.cons ok32 .nil)) Tryz.func48 (by kernel_rfl) (by kernel_rfl) rfl
def fir111 : Fir :=
 .join
 (.op (.call 52 F52 (w 0 10) 1 []) <|
 .op (.not (.v 14)) <|
 .ite (.v 15)
 (.leaf (.jump 0 [.b true]))
 (.op (.call 47 F47 (w 10 4) 1 []) <|
 .op (.not (.v 16)) <|
 .leaf (.jump 0 [.v 17])))
 (.ite (.v 14)
 (.leaf (.jump 0 (w 0 10)))
 (.join
 (.op (.call 99 F99 (w 0 11) 5 []) <|
 .ite (.v 15)
 (.op (.call 44 F44 [.v 19] 1 []) <|
 .leaf (.jump 0 [.v 20]))
 (.leaf (.jump 0 [.i 0])))
 (.op (.bi .add .i64 (.v 9) (.v 15)) <|
 .op (.bi .gtr .i64 (.v 16) (.i 1099511627776)) <|
 .ite (.v 17)
 (.leaf (.jump 0 (w 0 10)))
 (.op (.call 79 F79 (w 0 10) 1 []) <|
 .op (.call 76 F76 ([.v 18] ++ w 10 4) 1 [0]) <|
 .op (.bi .add .i64 (.v 9) (.v 15)) <|
 .op (.call 51 F51 [.v 19,.v 20] 10 [2,3,4,5,6,7,8,9]) <|
 .leaf (.jump 0 (w 23 8 ++ [.v 21,.v 22]))))))
def F111 := Fo fir111
def s111 : Sig := ⟨139,[.agg (wps 0 8 ++ [pi 8,pi 9]),.agg [.p (.int .u64) (.v 10),.p (.int .u32) (.v 11),pi 12,pi 13]],[],14,10,.v (.agg (wps 14 8 ++ [pi 22,pi 23])),[],F111,111⟩
theorem ok111 : s111.ok Tryz.prog := okS fir111 TT_ok (.cons ok99 (.cons ok79 (.cons ok76 (.cons ok52 (.cons ok51 (.cons ok47 (.cons ok44 .nil))))))) Tryz.func139 (by kernel_rfl) (by kernel_rfl) rfl
def fir112 : Fir :=
 .op (.call 99 F99 (w 0 11) 5 []) <|
 .join
 (.op (.not (.v 11)) <|
 .ite (.v 16)
 (.leaf (.jump 0 [.b true]))
 (.op (.call 44 F44 [.v 15] 1 []) <|
 .op (.bi .add .i64 (.v 9) (.v 17)) <|
 .op (.bi .gtr .i64 (.v 18) (.i 1099511627776)) <|
 .leaf (.jump 0 [.v 19])))
 (.ite (.v 16)
 (.leaf (.jump 0 (w 0 10)))
 (.op (.call 79 F79 (w 0 10) 1 []) <|
 .op (.call 77 F77 [.v 17,.v 10] 1 [0]) <|
 .op (.call 44 F44 [.v 15] 1 []) <|
 .op (.bi .add .i64 (.v 9) (.v 19)) <|
 .op (.call 51 F51 [.v 18,.v 20] 10 [2,3,4,5,6,7,8,9]) <|
 .leaf (.jump 0 (w 23 8 ++ [.v 21,.v 22]))))
def F112 := Fo fir112
def s112 : Sig := ⟨136,[.agg (wps 0 8 ++ [pi 8,pi 9]),.c (.p (.int .u64) (.v 10))],[],11,10,.v (.agg (wps 11 8 ++ [pi 19,pi 20])),[],F112,112⟩
theorem ok112 : s112.ok Tryz.prog := okS fir112 TT_ok (.cons ok99 (.cons ok79 (.cons ok77 (.cons ok51 (.cons ok44 .nil))))) Tryz.func136 (by kernel_rfl) (by kernel_rfl) rfl
def fir113 : Fir :=
 .op (.call 80 F80 (w 0 14) 1 []) <|
 .op (.not (.v 15)) <|
 .ite (.v 16)
 (.leaf (.jump 0 [.i 1,.i 0,.i 0,.i 0,.i 0,.r0,.r0,.r0,.r0,.r0,.r0,.r0,.r0,.i 0,.i 0]))
 (.op (.bi .eql .i64 (.v 2) (.i 1)) <|
 .ite (.v 17)
 (.leaf (.jump 0 [.i 12,.i 0,.i 0,.i 0,.i 0,.r0,.r0,.r0,.r0,.r0,.r0,.r0,.r0,.i 0,.i 0]))
 (.join
 (.loop ([.i 0] ++ w 4 10)
 (.op (.len (.v 14)) <|
 .op (.bi .lss .i64 (.v 18) (.v 29)) <|
 .ite (.v 30)
 (.op (.row (.v 14) (.v 18) 1) <|
 .op (.cl (.v 31) 0 (.int .u64)) <|
 .op (.call 112 F112 (w 19 10 ++ [.v 32]) 10 []) <|
 .op (.bi .add .i64 (.v 18) (.i 1)) <|
 .leaf (.jump 0 ([.v 43] ++ w 33 10)))
 (.leaf (.jump 1 (w 19 10)))))
 (.leaf (.jump 0 ([.i 0] ++ w 0 4 ++ w 18 10)))))
def F113 := Fo fir113
def s113 : Sig := ⟨74,[.agg (wpi 0 4 ++ wps 4 8 ++ [pi 12,pi 13]),cs 14],[],15,15,.tup [.agg (wpi 16 4 ++ wps 20 8 ++ [pi 28,pi 29]),ci 15],[],F113,113⟩
theorem ok113 : s113.ok Tryz.prog := okS fir113 TT_ok (.cons ok112 (.cons ok80 .nil)) Tryz.func74 (by kernel_rfl) (by kernel_rfl) rfl
def fir114 : Fir :=
 .op (.call 80 F80 (w 0 14) 1 []) <|
 .op (.not (.v 15)) <|
 .ite (.v 16)
 (.leaf (.jump 0 [.i 1,.i 0,.i 0,.i 0,.i 0,.r0,.r0,.r0,.r0,.r0,.r0,.r0,.r0,.i 0,.i 0]))
 (.join
 (.loop [.v 3,.i 0]
 (.op (.len (.v 14)) <|
 .op (.bi .lss .i64 (.v 18) (.v 19)) <|
 .ite (.v 20)
 (.op (.row (.v 14) (.v 18) 4) <|
 .op (.cl (.v 21) 0 (.int .u64)) <|
 .op (.cl (.v 21) 1 (.int .u32)) <|
 .op (.cl (.v 21) 2 .bool) <|
 .op (.cl (.v 21) 3 .sl) <|
 .op (.call 43 F43 (w 22 4) 1 []) <|
 .op (.not (.v 26)) <|
 .ite (.v 27)
 (.leaf (.jump 2 [.i 1,.i 0,.i 0,.i 0,.i 0,.r0,.r0,.r0,.r0,.r0,.r0,.r0,.r0,.i 0,.i 0]))
 (.op (.row (.v 14) (.v 18) 4) <|
 .op (.cl (.v 28) 3 .sl) <|
 .op (.len (.v 29)) <|
 .op (.call 44 F44 [.v 30] 1 []) <|
 .op (.bi .add .i64 (.v 17) (.v 31)) <|
 .op (.bi .add .i64 (.v 18) (.i 1)) <|
 .leaf (.jump 0 [.v 32,.v 33])))
 (.leaf (.jump 1 [.v 17]))))
 (.op (.bi .neq .i64 (.v 2) (.i 1)) <|
 .ite (.v 18)
 (.leaf (.jump 0 [.i 12,.i 0,.i 0,.i 0,.i 0,.r0,.r0,.r0,.r0,.r0,.r0,.r0,.r0,.i 0,.i 0]))
 (.op (.bi .gtr .i64 (.v 17) (.i 1048576)) <|
 .ite (.v 19)
 (.leaf (.jump 0 [.i 9,.i 0,.i 0,.i 0,.i 0,.r0,.r0,.r0,.r0,.r0,.r0,.r0,.r0,.i 0,.i 0]))
 (.join
 (.loop ([.i 0] ++ w 3 11)
 (.op (.len (.v 14)) <|
 .op (.bi .lss .i64 (.v 20) (.v 32)) <|
 .ite (.v 33)
 (.op (.row (.v 14) (.v 20) 4) <|
 .op (.cl (.v 34) 0 (.int .u64)) <|
 .op (.cl (.v 34) 1 (.int .u32)) <|
 .op (.cl (.v 34) 2 .bool) <|
 .op (.cl (.v 34) 3 .sl) <|
 .op (.len (.v 38)) <|
 .op (.call 44 F44 [.v 39] 1 []) <|
 .join
 (.ite (.v 37)
 (.op (.call 112 F112 (w 22 10 ++ [.v 35]) 10 []) <|
 .op (.call 78 F78 (w 41 10 ++ [.v 40]) 1 []) <|
 .leaf (.jump 0 (w 41 9 ++ [.v 51])))
 (.op (.len (.v 38)) <|
 .op (.call 111 F111 (w 22 10 ++ [.v 35,.v 36,.v 21,.v 41]) 10 []) <|
 .leaf (.jump 0 (w 42 10))))
 (.op (.bi .add .i64 (.v 21) (.v 40)) <|
 .op (.bi .add .i64 (.v 20) (.i 1)) <|
 .leaf (.jump 0 ([.v 52,.v 51] ++ w 41 10))))
 (.leaf (.jump 1 (w 21 11)))))
 (.leaf (.jump 0 ([.i 0,.v 0,.v 1,.v 2] ++ w 20 11)))))))
def F114 := Fo fir114
def s114 : Sig := ⟨77,[.agg (wpi 0 4 ++ wps 4 8 ++ [pi 12,pi 13]),cs 14],[],15,15,.tup [.agg (wpi 16 4 ++ wps 20 8 ++ [pi 28,pi 29]),ci 15],[],F114,114⟩
theorem ok114 : s114.ok Tryz.prog := okS fir114 TT_ok (.cons ok112 (.cons ok111 (.cons ok80 (.cons ok78 (.cons ok44 (.cons ok43 .nil)))))) Tryz.func77 (by kernel_rfl) (by kernel_rfl) rfl
def fir115 : Fir :=
 .join
 (.op (.len (.v 3)) <|
 .op (.bi .sub .i64 (.v 5) (.i 1)) <|
 .loop [.v 6]
 (.join
 (.op (.bi .geq .i64 (.v 7) (.i 0)) <|
 .ite (.v 8)
 (.op (.call 103 F103 [.v 0,.v 1,.v 2,.v 3] 1 []) <|
 .leaf (.jump 0 [.v 9]))
 (.leaf (.jump 0 [.b false])))
 (.ite (.v 8)
 (.op (.row (.v 3) (.v 7) 14) <|
 .op (.cl (.v 9) 4 .sl) <|
 .op (.cl (.v 9) 5 .sl) <|
 .op (.cl (.v 9) 6 .sl) <|
 .op (.cl (.v 9) 7 .sl) <|
 .op (.cl (.v 9) 8 .sl) <|
 .op (.cl (.v 9) 9 .sl) <|
 .op (.cl (.v 9) 10 .sl) <|
 .op (.cl (.v 9) 11 .sl) <|
 .op (.cl (.v 9) 12 (.int .i64)) <|
 .op (.cl (.v 9) 13 (.int .i64)) <|
 .op (.call 99 F99 [.v 10,.v 11,.v 12,.v 13,.v 14,.v 15,.v 16,.v 17,.v 18,.v 19,.v 4] 5 []) <|
 .ite (.v 20)
 (.op (.row (.v 3) (.v 7) 14) <|
 .op (.cl (.v 25) 0 (.int .i64)) <|
 .op (.row (.v 3) (.v 7) 14) <|
 .op (.cl (.v 27) 2 (.int .i64)) <|
 .op (.row (.v 3) (.v 7) 14) <|
 .op (.cl (.v 29) 1 (.int .i64)) <|
 .leaf (.jump 2 [.b true,.v 26,.v 28,.v 30,.v 21,.v 22,.v 23,.v 24]))
 (.op (.bi .sub .i64 (.v 7) (.i 1)) <|
 .leaf (.jump 0 [.v 25])))
 (.leaf (.jump 1 [])))))
 (.leaf (.jump 0 [.b false,.i 0,.i 0,.i 0,.i 0,.i 0,.i 0,.i 0]))
def F115 := Fo fir115
def s115 : Sig := ⟨13,[.agg [pi 0,pi 1,.p .bool (.v 2),ps 3],.c (.p (.int .u64) (.v 4))],[],5,8,.tup [.agg [pi 6,pi 7,pi 8,.p (.int .u64) (.v 9),.p (.int .u32) (.v 10),pi 11,pi 12],.c (.p .bool (.v 5))],[],F115,115⟩
theorem ok115 : s115.ok Tryz.prog := okS fir115 TT_ok (.cons ok107 (.cons ok103 (.cons ok99 .nil))) Tryz.func13 (by kernel_rfl) (by kernel_rfl) rfl
end
end
section
open Go.RowKit
set_option maxRecDepth 100000
set_option maxHeartbeats 4000000
noncomputable section
def fir116 : Fir :=
 .op (.call 103 F103 (w 0 4) 1 []) <|
 .op (.not (.v 4)) <|
 .ite (.v 5)
 (.leaf (.jump 0 [.i 1,.i 0,.i 0,.i 0,.i 0,.r0,.r0,.r0,.r0,.r0,.r0,.r0,.r0,.i 0,.i 0]))
 (.op (.len (.v 3)) <|
 .op (.bi .sub .i64 (.v 6) (.i 1)) <|
 .op (.row (.v 3) (.v 7) 14) <|
 .op (.cl (.v 8) 0 (.int .i64)) <|
 .op (.cl (.v 8) 1 (.int .i64)) <|
 .op (.cl (.v 8) 2 (.int .i64)) <|
 .op (.cl (.v 8) 3 (.int .i64)) <|
 .op (.cl (.v 8) 4 .sl) <|
 .op (.cl (.v 8) 5 .sl) <|
 .op (.cl (.v 8) 6 .sl) <|
 .op (.cl (.v 8) 7 .sl) <|
 .op (.cl (.v 8) 8 .sl) <|
 .op (.cl (.v 8) 9 .sl) <|
 .op (.cl (.v 8) 10 .sl) <|
 .op (.cl (.v 8) 11 .sl) <|
 .op (.cl (.v 8) 12 (.int .i64)) <|
 .op (.cl (.v 8) 13 (.int .i64)) <|
 .leaf (.jump 0 ([.i 0] ++ w 9 14)))
def F116 := Fo fir116
def s116 : Sig := ⟨76,[.agg [pi 0,pi 1,.p .bool (.v 2),ps 3]],[],4,15,.tup [.agg (wpi 5 4 ++ wps 9 8 ++ [pi 17,pi 18]),ci 4],[],F116,116⟩
theorem ok116 : s116.ok Tryz.prog := okS fir116 TT_ok (.cons ok107 (.cons ok103 .nil)) Tryz.func76 (by kernel_rfl) (by kernel_rfl) rfl
def fir117 : Fir :=
 .join
 (.loop [.i 0,.r0]
 (.join
 (.op (.bi .add .i64 (.v 5) (.i 1)) <|
 .op (.len (.v 3)) <|
 .op (.bi .lss .i64 (.v 7) (.v 8)) <|
 .ite (.v 9)
 (.op (.call 103 F103 (w 0 4) 1 []) <|
 .leaf (.jump 0 [.v 10]))
 (.leaf (.jump 0 [.b false])))
 (.ite (.v 7)
 (.join
 (.op (.row (.v 3) (.v 5) 14) <|
 .op (.cl (.v 8) 4 .sl) <|
 .op (.cl (.v 8) 5 .sl) <|
 .op (.cl (.v 8) 6 .sl) <|
 .op (.cl (.v 8) 7 .sl) <|
 .op (.cl (.v 8) 8 .sl) <|
 .op (.cl (.v 8) 9 .sl) <|
 .op (.cl (.v 8) 10 .sl) <|
 .op (.cl (.v 8) 11 .sl) <|
 .op (.cl (.v 8) 12 (.int .i64)) <|
 .op (.cl (.v 8) 13 (.int .i64)) <|
 .op (.call 99 F99 (w 9 10 ++ [.v 4]) 5 []) <|
 .ite (.v 19)
 (.op (.row (.v 3) (.v 5) 14) <|
 .op (.cl (.v 24) 0 (.int .i64)) <|
 .op (.lit [[((.int .i64),(.v 25))]]) <|
 .op (.app (.v 6) (.v 26) 1 8) <|
 .leaf (.jump 0 [.v 27]))
 (.leaf (.jump 0 [.v 6])))
 (.op (.bi .add .i64 (.v 5) (.i 1)) <|
 .leaf (.jump 0 [.v 9,.v 8])))
 (.leaf (.jump 1 [.v 6])))))
 (.leaf (.jump 0 [.v 5]))
def F117 := Fo fir117
def s117 : Sig := ⟨73,[.agg [pi 0,pi 1,.p .bool (.v 2),ps 3],.c (.p (.int .u64) (.v 4))],[],5,1,.v (.c (.own 0)),[(0,(.row 3 (.v 5)))],F117,117⟩
theorem ok117 : s117.ok Tryz.prog := okS fir117 TT_ok (.cons ok107 (.cons ok103 (.cons ok99 .nil))) Tryz.func73 (by kernel_rfl) (by kernel_rfl) rfl
def fir118 : Fir :=
 .op (.call 103 F103 (w 0 4) 1 []) <|
 .op (.not (.v 18)) <|
 .ite (.v 19)
 (.leaf (.jump 0 [.i 1,.i 0,.i 0,.b false,.r0]))
 (.op (.lit []) <|
 .op (.app (.v 20) (.v 3) 14 240) <|
 .join
 (.loop [.b false,.i 0,.v 21]
 (.op (.len (.v 24)) <|
 .op (.bi .lss .i64 (.v 23) (.v 25)) <|
 .ite (.v 26)
 (.join
 (.op (.row (.v 24) (.v 23) 14) <|
 .op (.rc (.v 24) (.v 23) 0 (.int .i64)) <|
 .op (.bi .eql .i64 (.v 28) (.v 4)) <|
 .ite (.v 29)
 (.op (.row (.v 24) (.v 23) 14) <|
 .op (.set (.v 24) (.v 23) 0 [((.int .i64),(.v 4)),((.int .i64),(.v 5)),((.int .i64),(.v 6)),((.int .i64),(.v 7)),(.sl,(.v 8)),(.sl,(.v 9)),(.sl,(.v 10)),(.sl,(.v 11)),(.sl,(.v 12)),(.sl,(.v 13)),(.sl,(.v 14)),(.sl,(.v 15)),((.int .i64),(.v 16)),((.int .i64),(.v 17))]) <|
 .leaf (.jump 0 [.b true,.v 31]))
 (.leaf (.jump 0 [.v 22,.v 24])))
 (.op (.bi .add .i64 (.v 23) (.i 1)) <|
 .leaf (.jump 0 [.v 27,.v 29,.v 28])))
 (.leaf (.jump 1 [.v 22,.v 24]))))
 (.op (.not (.v 22)) <|
 .ite (.v 24)
 (.leaf (.jump 0 [.i 6,.i 0,.i 0,.b false,.r0]))
 (.op (.call 107 F107 [.v 0,.v 1,.v 2,.v 23] 1 []) <|
 .op (.not (.v 25)) <|
 .ite (.v 26)
 (.leaf (.jump 0 [.i 1,.i 0,.i 0,.b false,.r0]))
 (.leaf (.jump 0 [.i 0,.v 0,.v 1,.v 2,.v 23])))))
def F118 := Fo fir118
def s118 : Sig := ⟨70,[.agg [pi 0,pi 1,.p .bool (.v 2),ps 3],.agg (wpi 4 4 ++ wps 8 8 ++ [pi 16,pi 17])],[],18,5,.tup [.agg [pi 19,pi 20,.p .bool (.v 21),.own 0],ci 18],[(0,(.row 94 (.v 22)))],F118,118⟩
theorem ok118 : s118.ok Tryz.prog := okS fir118 TT_ok (.cons ok107 (.cons ok103 .nil)) Tryz.func70 (by kernel_rfl) (by kernel_rfl) rfl
def fir119 : Fir :=
 .join
 (.op (.call 103 F103 (w 0 4) 1 []) <|
 .ite (.v 4)
 (.op (.len (.v 3)) <|
 .op (.bi .sub .i64 (.v 5) (.i 1)) <|
 .op (.row (.v 3) (.v 6) 14) <|
 .op (.cl (.v 7) 0 (.int .i64)) <|
 .op (.bi .lss .i64 (.v 8) (.i 8)) <|
 .leaf (.jump 0 [.v 9]))
 (.leaf (.jump 0 [.b false])))
 (.leaf (.jump 0 [.v 4]))
def F119 := Fo fir119
def s119 : Sig := ⟨114,[.agg [pi 0,pi 1,.p .bool (.v 2),ps 3]],[],4,1,.v (.c (.p .bool (.v 4))),[],F119,119⟩
theorem ok119 : s119.ok Tryz.prog := okS fir119 TT_ok (.cons ok107 (.cons ok103 .nil)) Tryz.func114 (by kernel_rfl) (by kernel_rfl) rfl
def fir120 : Fir :=
 .op (.call 103 F103 (w 0 4) 1 []) <|
 .op (.not (.v 4)) <|
 .ite (.v 5)
 (.leaf (.jump 0 [.i 1,.i 0,.i 0,.b false,.r0]))
 (.op (.call 119 F119 (w 0 4) 1 []) <|
 .op (.not (.v 6)) <|
 .ite (.v 7)
 (.leaf (.jump 0 [.i 9,.i 0,.i 0,.b false,.r0]))
 (.op (.len (.v 3)) <|
 .op (.bi .sub .i64 (.v 8) (.i 1)) <|
 .op (.row (.v 3) (.v 9) 14) <|
 .op (.cl (.v 10) 0 (.int .i64)) <|
 .op (.cl (.v 10) 1 (.int .i64)) <|
 .op (.cl (.v 10) 2 (.int .i64)) <|
 .op (.cl (.v 10) 3 (.int .i64)) <|
 .op (.cl (.v 10) 4 .sl) <|
 .op (.cl (.v 10) 5 .sl) <|
 .op (.cl (.v 10) 6 .sl) <|
 .op (.cl (.v 10) 7 .sl) <|
 .op (.cl (.v 10) 8 .sl) <|
 .op (.cl (.v 10) 9 .sl) <|
 .op (.cl (.v 10) 10 .sl) <|
 .op (.cl (.v 10) 11 .sl) <|
 .op (.cl (.v 10) 12 (.int .i64)) <|
 .op (.cl (.v 10) 13 (.int .i64)) <|
 .op (.call 102 F102 (w 11 14) 15 []) <|
 .op (.bi .add .i64 (.v 26) (.i 1)) <|
 .op (.call 57 F57 [.v 40] 4 []) <|
 .op (.lit []) <|
 .op (.bi .sub .i64 (.v 8) (.i 1)) <|
 .op (.len (.v 3)) <|
 .op (.part (.v 3) (.i 0) (.v 46) 14) <|
 .op (.app (.v 45) (.v 48) 14 240) <|
 .op (.lit [[((.int .i64),(.v 26)),((.int .i64),(.v 27)),((.int .i64),(.v 28)),((.int .i64),(.v 29)),(.sl,(.v 30)),(.sl,(.v 31)),(.sl,(.v 32)),(.sl,(.v 33)),(.sl,(.v 34)),(.sl,(.v 35)),(.sl,(.v 36)),(.sl,(.v 37)),((.int .i64),(.v 38)),((.int .i64),(.v 39))],[((.int .i64),(.v 42)),((.int .i64),(.i 0)),((.int .i64),(.v 43)),((.int .i64),(.v 44)),(.sl,.r0),(.sl,.r0),(.sl,.r0),(.sl,.r0),(.sl,.r0),(.sl,.r0),(.sl,.r0),(.sl,.r0),((.int .i64),(.i 0)),((.int .i64),(.i 0))]]) <|
 .op (.app (.v 49) (.v 50) 14 240) <|
 .leaf (.jump 0 [.i 0,.v 0,.v 1,.v 2,.v 51])))
def F120 := Fo fir120
def s120 : Sig := ⟨59,[.agg [pi 0,pi 1,.p .bool (.v 2),ps 3]],[],4,5,.tup [.agg [pi 5,pi 6,.p .bool (.v 7),.own 0],ci 4],[(0,(.row 94 (.v 8)))],F120,120⟩
theorem ok120 : s120.ok Tryz.prog := okS fir120 TT_ok (.cons ok119 (.cons ok107 (.cons ok103 (.cons ok102 (.cons ok57 .nil))))) Tryz.func59 (by kernel_rfl) (by kernel_rfl) rfl
def fir121 : Fir :=
 .op (.len (.v 0)) <|
 .op (.call 106 F106 [.v 0,.v 1] 1 []) <|
 .leaf (.jump 0 [.v 2])
def F121 := Fo fir121
def s121 : Sig := ⟨247,[.c (.own 0),.c (.fn 248 [])],[.row 25 (.v 0)],1,1,.tup [],[(0,(.row 25 (.v 1)))],F121,121⟩
theorem ok121 : s121.ok Tryz.prog := okS fir121 TT_ok (.cons ok106 .nil) Tryz.func247 (by kernel_rfl) (by kernel_rfl) rfl
def fir122 : Fir :=
 .op (.call 26 F26 [.v 0,.i 4] 1 []) <|
 .op (.not (.v 1)) <|
 .ite (.v 2)
 (.leaf (.jump 0 [.r0,.i 1]))
 (.op (.call 105 F105 [.v 0] 1 []) <|
 .op (.len (.v 3)) <|
 .op (.cut (.v 3) (.i 4) (.v 4) 1) <|
 .op (.vw (.v 3) (.i 4) (.v 5)) <|
 .leaf (.jump 0 [.v 6,.i 0]))
def F122 := Fo fir122
def s122 : Sig := ⟨128,[.c (.own 0)],[.row 71 (.v 0)],1,2,.tup [cs 1,ci 2],[(0,(.row 71 (.v 0)))],F122,122⟩
theorem ok122 : s122.ok Tryz.prog := okS fir122 TT_ok (.cons ok105 (.cons ok26 .nil)) Tryz.func128 (by kernel_rfl) (by kernel_rfl) rfl
def fir123 : Fir :=
 .op (.call 2000 F2000 [.v 0] 0 []) <|
 .op (.call 62 F62 [.v 0] 1 []) <|
 .ite (.v 1)
 (.leaf (.jump 0 [.v 0]))
 (.op (.call 121 F121 [.v 0] 1 []) <|
 .op (.len (.v 2)) <|
 .op (.cut (.v 2) (.i 0) (.i 0) 4) <|
 .join
 (.op (.len (.v 2)) <|
 .loop [.i 0,.i 0,.v 2]
 (.op (.bi .lss .i64 (.v 7) (.v 5)) <|
 .ite (.v 9)
 (.join
 (.op (.row (.v 8) (.v 7) 4) <|
 .op (.rc (.v 8) (.v 7) 0 (.int .u64)) <|
 .op (.rc (.v 8) (.v 7) 1 (.int .u32)) <|
 .op (.rc (.v 8) (.v 7) 2 (.int .i64)) <|
 .op (.rc (.v 8) (.v 7) 3 (.int .i64)) <|
 .join
 (.op (.bi .add .i64 (.v 7) (.i 1)) <|
 .op (.len (.v 8)) <|
 .op (.bi .eql .i64 (.v 15) (.v 16)) <|
 .ite (.v 17)
 (.leaf (.jump 0 [.b true]))
 (.op (.bi .add .i64 (.v 7) (.i 1)) <|
 .op (.row (.v 8) (.v 18) 4) <|
 .op (.rc (.v 8) (.v 18) 0 (.int .u64)) <|
 .op (.bi .neq .u64 (.v 20) (.v 11)) <|
 .leaf (.jump 0 [.v 21])))
 (.ite (.v 15)
 (.op (.lit [[((.int .u64),(.v 11)),((.int .u32),(.v 12)),((.int .i64),(.v 13)),((.int .i64),(.v 14))]]) <|
 .op (.apin (.v 8) (.v 6) (.v 16) 4) <|
 .leaf (.jump 0 [.v 18,.v 17]))
 (.leaf (.jump 0 [.v 6,.v 8]))))
 (.op (.bi .add .i64 (.v 7) (.i 1)) <|
 .leaf (.jump 0 [.v 10,.v 12,.v 11])))
 (.leaf (.jump 1 [.v 6,.v 8]))))
 (.op (.tk (.v 6) (.v 5)) <|
 .leaf (.jump 0 [.v 7])))
def F123 := Fo fir123
def s123 : Sig := ⟨218,[cs 0],[],1,1,.v (.c (.own 0)),[(0,(.row 25 (.v 1)))],F123,123⟩
theorem ok123 : s123.ok Tryz.prog := okS fir123 TTx_ok (.cons ok121 (.cons ok62 (.cons ok9 (.cons ok2000 .nil)))) Tryz.func218 (by kernel_rfl) (by kernel_rfl) rfl
end
end
section
open Go.RowKit
set_option maxRecDepth 100000
set_option maxHeartbeats 4000000
noncomputable section
def fir124 : Fir :=
 .op (.call 123 F123 [.v 0] 1 []) <|
 .op (.call 90 F90 [.v 2,.v 1] 2 []) <|
 .op (.not (.v 4)) <|
 .ite (.v 5)
 (.leaf (.jump 0 [.b false,.i 0,.i 0,.i 0,.i 0]))
 (.op (.row (.v 2) (.v 3) 4) <|
 .op (.rc (.v 2) (.v 3) 0 (.int .u64)) <|
 .op (.rc (.v 2) (.v 3) 1 (.int .u32)) <|
 .op (.rc (.v 2) (.v 3) 2 (.int .i64)) <|
 .op (.rc (.v 2) (.v 3) 3 (.int .i64)) <|
 .leaf (.jump 0 [.b true,.v 7,.v 8,.v 9,.v 10]))
def F124 := Fo fir124
def s124 : Sig := ⟨170,[cs 0,.c (.p (.int .u64) (.v 1))],[],2,5,.tup [.agg [.p (.int .u64) (.v 3),.p (.int .u32) (.v 4),pi 5,pi 6],.c (.p .bool (.v 2))],[],F124,124⟩
theorem ok124 : s124.ok Tryz.prog := okS fir124 TT_ok (.cons ok123 (.cons ok90 .nil)) Tryz.func170 (by kernel_rfl) (by kernel_rfl) rfl
def fir125 : Fir :=
 .op (.call 92 F92 [.v 0,.v 1,.v 2,.v 3,.v 4,.v 5,.v 6,.v 7,.v 8,.v 9] 1 []) <|
 .op (.not (.v 11)) <|
 .ite (.v 12)
 (.leaf (.jump 0 [.b false,.i 0,.i 0,.i 0,.i 0]))
 (.op (.call 12 F12 [.v 10] 1 []) <|
 .op (.bnd (.v 13) 8) <|
 .op (.sel [.v 0,.v 1,.v 2,.v 3,.v 4,.v 5,.v 6,.v 7] (.v 13)) <|
 .op (.call 124 F124 [.v 14,.v 10] 5 []) <|
 .leaf (.jump 0 [.v 15,.v 16,.v 17,.v 18,.v 19]))
def F125 := Fo fir125
def s125 : Sig := ⟨113,[.agg (wps 0 8 ++ [pi 8,pi 9]),.c (.p (.int .u64) (.v 10))],[],11,5,.tup [.agg [.p (.int .u64) (.v 12),.p (.int .u32) (.v 13),pi 14,pi 15],.c (.p .bool (.v 11))],[],F125,125⟩
theorem ok125 : s125.ok Tryz.prog := okS fir125 TT_ok (.cons ok124 (.cons ok92 (.cons ok12 .nil))) Tryz.func113 (by kernel_rfl) (by kernel_rfl) rfl
def fir126 : Fir :=
 .op (.len (.v 0)) <|
 .op (.lit []) <|
 .op (.app (.v 6) (.v 4) 4 32) <|
 .op (.call 67 F67 [.v 1,.v 2,.v 3,.v 5,.i 0,.i 0,.i 0,.i 0,.i 0,.i 0,.v 7] 1 []) <|
 .op (.not (.v 8)) <|
 .ite (.v 9)
 (.leaf (.jump 0 [.i 1,.r0,.i 0,.i 0,.i 0,.i 0,.i 0,.i 0,.i 0,.i 0,.i 0,.i 0,.r0]))
 (.op (.call 2003 F2003 [.v 0] 1 []) <|
 .op (.call 122 F122 [.v 10] 2 []) <|
 .op (.app (.v 10) (.v 11) 1 24) <|
 .join
 (.loop [.i 0,.i 0,.i 0,.i 0,.i 0,.i 0,.i 0]
 (.op (.bi .lss .i64 (.v 14) (.i 6)) <|
 .ite (.v 21)
 (.join
 (.op (.row (.v 13) (.v 14) 1) <|
 .op (.rc (.v 13) (.v 14) 0 .sl) <|
 .op (.call 38 F38 [.v 23] 1 []) <|
 .op (.bi .eql .i64 (.v 14) (.i 0)) <|
 .ite (.v 25)
 (.leaf (.jump 0 ([.i 0,.v 24] ++ w 16 5)))
 (.op (.bi .eql .i64 (.v 14) (.i 1)) <|
 .ite (.v 26)
 (.leaf (.jump 0 ([.i 1,.v 15,.v 24] ++ w 17 4)))
 (.op (.bi .eql .i64 (.v 14) (.i 2)) <|
 .ite (.v 27)
 (.leaf (.jump 0 [.i 2,.v 15,.v 16,.v 24,.v 18,.v 19,.v 20]))
 (.op (.bi .eql .i64 (.v 14) (.i 3)) <|
 .ite (.v 28)
 (.leaf (.jump 0 [.i 3,.v 15,.v 16,.v 17,.v 24,.v 19,.v 20]))
 (.op (.bi .eql .i64 (.v 14) (.i 4)) <|
 .ite (.v 29)
 (.leaf (.jump 0 ([.i 4] ++ w 15 4 ++ [.v 24,.v 20])))
 (.op (.bi .eql .i64 (.v 14) (.i 5)) <|
 .ite (.v 30)
 (.leaf (.jump 0 ([.i 5] ++ w 15 5 ++ [.v 24])))
 (.op (.bnd (.i 0) 0) <|
 .leaf (.jump 0 []))))))))
 (.op (.bi .add .i64 (.v 22) (.i 1)) <|
 .leaf (.jump 0 ([.v 29] ++ w 23 6))))
 (.leaf (.jump 1 (w 15 6)))))
 (.leaf (.jump 0 ([.i 0,.v 13,.v 1,.v 2,.v 3,.v 5] ++ w 14 6 ++ [.v 7]))))
def F126 := Fo fir126
def s126 : Sig := ⟨65,[cs 0,.agg [pi 1,pi 2,pi 3],cs 4],[],5,13,.tup [.c (.own 0),.agg (wpi 7 4 ++ [.p (.int .u32) (.v 11),.p (.int .u32) (.v 12),.p (.int .u32) (.v 13),.p (.int .u32) (.v 14),.p (.int .u32) (.v 15),.p (.int .u32) (.v 16),.own 1]),ci 5],[(0,(.row 71 (.v 6))),(1,(.row 25 (.v 17)))],F126,126⟩
theorem ok126 : s126.ok Tryz.prog := okS fir126 TT_ok (.cons ok122 (.cons ok67 (.cons ok61 (.cons ok38 (.cons ok2003 .nil))))) Tryz.func65 (by kernel_rfl) (by kernel_rfl) rfl
def fir127 : Fir :=
 .op (.call 110 F110 (w 0 4) 2 []) <|
 .op (.bi .neq .i64 (.v 7) (.i 0)) <|
 .ite (.v 8)
 (.leaf (.jump 0 [.r0,.v 7]))
 (.op (.row (.v 2) (.v 6) 3) <|
 .op (.cl (.v 9) 0 .str) <|
 .op (.cl (.v 9) 1 .sl) <|
 .op (.cl (.v 9) 2 .sl) <|
 .op (.call 97 F97 [.v 10,.v 11,.v 12] 1 []) <|
 .join
 (.op (.bi .lss .i64 (.v 4) (.i 0)) <|
 .ite (.v 14)
 (.leaf (.jump 0 [.b true]))
 (.op (.bi .lss .i64 (.v 5) (.i 0)) <|
 .ite (.v 15)
 (.leaf (.jump 0 [.b true]))
 (.op (.len (.v 13)) <|
 .op (.bi .gtr .i64 (.v 4) (.v 16)) <|
 .ite (.v 17)
 (.leaf (.jump 0 [.b true]))
 (.op (.len (.v 13)) <|
 .op (.bi .sub .i64 (.v 18) (.v 4)) <|
 .op (.bi .gtr .i64 (.v 5) (.v 19)) <|
 .leaf (.jump 0 [.v 20])))))
 (.ite (.v 14)
 (.leaf (.jump 0 [.r0,.i 2]))
 (.op (.bi .add .i64 (.v 4) (.v 5)) <|
 .op (.len (.v 13)) <|
 .op (.cut (.v 13) (.v 4) (.v 15) 1) <|
 .op (.vw (.v 13) (.v 4) (.v 17)) <|
 .leaf (.jump 0 [.v 18,.i 0]))))
def F127 := Fo fir127
def s127 : Sig := ⟨123,[.agg [pi 0,pi 1,ps 2],.c (.p .str (.v 3)),ci 4,ci 5],[],6,2,.tup [cs 6,ci 7],[],F127,127⟩
theorem ok127 : s127.ok Tryz.prog := okS fir127 TT_ok (.cons ok110 (.cons ok97 .nil)) Tryz.func123 (by kernel_rfl) (by kernel_rfl) rfl
def fir128 : Fir :=
 .op (.call 110 F110 (w 0 4) 2 []) <|
 .op (.bi .neq .i64 (.v 5) (.i 0)) <|
 .ite (.v 6)
 (.leaf (.jump 0 [.i 0,.v 5]))
 (.op (.row (.v 2) (.v 4) 3) <|
 .op (.cl (.v 7) 0 .str) <|
 .op (.cl (.v 7) 1 .sl) <|
 .op (.cl (.v 7) 2 .sl) <|
 .op (.call 97 F97 [.v 8,.v 9,.v 10] 1 []) <|
 .op (.len (.v 11)) <|
 .leaf (.jump 0 [.v 12,.i 0]))
def F128 := Fo fir128
def s128 : Sig := ⟨122,[.agg [pi 0,pi 1,ps 2],.c (.p .str (.v 3))],[],4,2,.tup [ci 4,ci 5],[],F128,128⟩
theorem ok128 : s128.ok Tryz.prog := okS fir128 TT_ok (.cons ok110 (.cons ok97 .nil)) Tryz.func122 (by kernel_rfl) (by kernel_rfl) rfl
def fir129 : Fir :=
 .op (.call 110 F110 (w 0 4) 2 []) <|
 .op (.bi .neq .i64 (.v 5) (.i 0)) <|
 .ite (.v 6)
 (.leaf (.jump 0 [.v 5,.i 0,.i 0,.r0]))
 (.op (.call 31 F31 [.v 0,.v 1,.v 2] 2 []) <|
 .op (.lit []) <|
 .op (.len (.v 8)) <|
 .op (.cut (.v 8) (.i 0) (.v 4) 3) <|
 .op (.vw (.v 8) (.i 0) (.v 11)) <|
 .op (.app (.v 9) (.v 12) 3 64) <|
 .op (.bi .add .i64 (.v 4) (.i 1)) <|
 .op (.len (.v 8)) <|
 .op (.cut (.v 8) (.v 14) (.v 15) 3) <|
 .op (.vw (.v 8) (.v 14) (.v 16)) <|
 .op (.app (.v 13) (.v 17) 3 64) <|
 .leaf (.jump 0 [.i 0,.v 0,.v 7,.v 18]))
def F129 := Fo fir129
def s129 : Sig := ⟨25,[.agg [pi 0,pi 1,ps 2],.c (.p .str (.v 3))],[],4,4,.tup [.agg [pi 5,pi 6,.own 0],ci 4],[(0,(.row 109 (.v 7)))],F129,129⟩
theorem ok129 : s129.ok Tryz.prog := okS fir129 TT_ok (.cons ok110 (.cons ok31 .nil)) Tryz.func25 (by kernel_rfl) (by kernel_rfl) rfl
def fir130 : Fir :=
 .op (.call 110 F110 [.v 0,.v 1,.v 2,.v 3] 2 []) <|
 .op (.bi .neq .i64 (.v 5) (.i 0)) <|
 .ite (.v 6)
 (.leaf (.jump 0 [.v 5,.i 0,.i 0,.r0]))
 (.op (.call 31 F31 [.v 0,.v 1,.v 2] 2 []) <|
 .op (.row (.v 8) (.v 4) 3) <|
 .op (.rc (.v 8) (.v 4) 0 .str) <|
 .op (.rc (.v 8) (.v 4) 1 .sl) <|
 .op (.rc (.v 8) (.v 4) 2 .sl) <|
 .op (.call 97 F97 [.v 10,.v 11,.v 12] 1 []) <|
 .op (.row (.v 8) (.v 4) 3) <|
 .op (.set (.v 8) (.v 4) 0 [(.str,(.v 3)),(.sl,(.v 13)),(.sl,.r0)]) <|
 .leaf (.jump 0 [.i 0,.v 0,.v 7,.v 15]))
def F130 := Fo fir130
def s130 : Sig := ⟨120,[.agg [pi 0,pi 1,ps 2],.c (.p .str (.v 3))],[],4,4,.tup [.agg [pi 5,pi 6,.own 0],ci 4],[(0,(.row 109 (.v 7)))],F130,130⟩
theorem ok130 : s130.ok Tryz.prog := okS fir130 TT_ok (.cons ok110 (.cons ok97 (.cons ok31 .nil))) Tryz.func120 (by kernel_rfl) (by kernel_rfl) rfl
def fir131 : Fir :=
 .op (.row (.v 2) (.v 3) 3) <|
 .op (.cl (.v 7) 0 .str) <|
 .op (.cl (.v 7) 1 .sl) <|
 .op (.cl (.v 7) 2 .sl) <|
 .op (.call 97 F97 [.v 8,.v 9,.v 10] 1 []) <|
 .op (.len (.v 11)) <|
 .op (.len (.v 5)) <|
 .op (.bi .add .i64 (.v 4) (.v 13)) <|
 .op (.bi .gtr .i64 (.v 14) (.i 1048576)) <|
 .ite (.v 15)
 (.leaf (.jump 0 [.i 9,.i 0,.i 0,.r0]))
 (.op (.lit []) <|
 .op (.app (.v 16) (.v 5) 1 1) <|
 .op (.lit []) <|
 .op (.app (.v 18) (.v 10) 3 40) <|
 .op (.lit [[((.int .i64),(.v 4)),(.sl,(.v 17)),(.bool,(.v 6))]]) <|
 .op (.app (.v 19) (.v 20) 3 40) <|
 .op (.call 97 F97 [.v 8,.v 9,.v 21] 1 [0]) <|
 .op (.len (.v 22)) <|
 .op (.bi .sub .i64 (.v 23) (.v 12)) <|
 .join
 (.op (.bi .gtr .i64 (.v 0) (.i 0)) <|
 .ite (.v 25)
 (.op (.bi .gtr .i64 (.v 24) (.i 0)) <|
 .ite (.v 26)
 (.op (.call 108 F108 [.v 0,.v 1,.v 2] 1 []) <|
 .op (.bi .add .i64 (.v 27) (.v 24)) <|
 .op (.bi .gtr .i64 (.v 28) (.v 0)) <|
 .leaf (.jump 0 [.v 29]))
 (.leaf (.jump 0 [.b false])))
 (.leaf (.jump 0 [.b false])))
 (.ite (.v 25)
 (.leaf (.jump 0 [.i 9,.i 0,.i 0,.r0]))
 (.op (.call 31 F31 [.v 0,.v 1,.v 2] 2 []) <|
 .op (.row (.v 27) (.v 3) 3) <|
 .op (.set (.v 27) (.v 3) 0 [(.str,(.v 8)),(.sl,(.v 9)),(.sl,(.v 21))]) <|
 .leaf (.jump 0 [.i 0,.v 0,.v 26,.v 29]))))
def F131 := Fo fir131
def s131 : Sig := ⟨173,[.agg [pi 0,pi 1,ps 2],ci 3,.agg [pi 4,ps 5,.p .bool (.v 6)]],[],7,4,.tup [.agg [pi 8,pi 9,.own 0],ci 7],[(0,(.row 109 (.v 10)))],F131,131⟩
theorem ok131 : s131.ok Tryz.prog := okS fir131 TT_ok (.cons ok108 (.cons ok97 (.cons ok31 .nil))) Tryz.func173 (by kernel_rfl) (by kernel_rfl) rfl
end
end
section
open Go.RowKit
namespace AI
theorem bU8_row {r : List PV} (h : AC.oks bU8 r) : ∃ n : Int,r = [.sc (.int .u8 n)] ∧ 0 ≤ n ∧ n ≤ 255 := by
 match r,h with
 | [q],⟨⟨n,h1,h2,h3⟩,_⟩ => exact ⟨n,by rw [h1],h2,h3⟩
theorem bU8_of : ∀ {rows : List (List PV)},AC.rows bU8 rows → ∃ b : List Int,rows = bys b ∧ ∀ n ∈ b,0 ≤ n ∧ n ≤ 255
 | [],_ => ⟨[],rfl,fun n hn => by cases hn⟩
 | r :: rows,h => by
  obtain ⟨n,rfl,h1,h2⟩ := bU8_row (h r List.mem_cons_self)
  obtain ⟨b,rfl,h3⟩ := bU8_of (rows := rows) fun r hr => h r (List.mem_cons_of_mem _ hr)
  refine ⟨n :: b,rfl,fun m hm => ?_⟩
  rcases List.mem_cons.1 hm with rfl | hm
  · exact ⟨h1,h2⟩
  · exact h3 m hm
theorem bU8_bys {b : List Int} (h : ∀ n ∈ b,0 ≤ n ∧ n ≤ 255) : AC.rows bU8 (bys b) := fun r hr => by
 simp only [bys,List.mem_map] at hr
 obtain ⟨n,hn,rfl⟩ := hr
 exact ⟨⟨n,rfl,(h n hn).1,(h n hn).2⟩,trivial⟩
def sm2003 : Summ := ⟨1,1,{ fs := [⟨2,0,1048576⟩,⟨0,2,0⟩],rw := [(0,some bU8)] },[{ fs := [⟨5,0,4⟩,⟨0,5,-4⟩],rw := [(1,some [.sl 262208 bU8])],pr := [(0,[1])] }]⟩
theorem so2003 : sm2003.ok F2003 := by
 intro ls hl hp
 match ls,hl with
 | [l],_ =>
  have a1 := hp.fs ⟨2,0,1048576⟩ (by simp [sm2003])
  have b1 := hp.rw (0,some bU8) (by simp [sm2003])
  simp [Fa.holds,tmV] at a1
  obtain ⟨b,hb,hr⟩ := bU8_of (rows := l.asR) b1
  have hlen : b.length ≤ 1048576 := by rw [hb,length_bys] at a1; omega
  have hF : F2003 [l] = some [.r (Sp.splitRows b)] := by
    simp only [F2003,hb,byIs_bys,if_pos hlen]
  have hs : ∀ r ∈ Sp.splitRows b,∃ q,r = [.sl q] ∧ q.length = Sp.szN b.length ∧ AC.rows bU8 q := fun r hr' => by
    simp only [Sp.splitRows,List.mem_map] at hr'
    obtain ⟨i,_,rfl⟩ := hr'
    refine ⟨_,rfl,by simp [length_bys],bU8_bys fun n hn => ?_⟩
    obtain ⟨j,_,rfl⟩ := List.mem_map.1 hn
    have key : ∀ t : Nat,0 ≤ (b[t]?).getD 0 ∧ (b[t]?).getD 0 ≤ 255 := fun t => by
      cases ht : b[t]? with
      | none => simp
      | some n => exact hr n (List.mem_of_getElem? ht)
    simp only [Sp.fill]
    split
    · exact key _
    · omega
  refine ⟨_,hF,rfl,_,List.mem_singleton.2 rfl,⟨fun f hf => ?_,fun x hx => ?_,fun x hx => (by cases hx),fun x hx => ?_⟩⟩
  · simp at hf
    rcases hf with rfl | rfl <;> simp [Fa.holds,tmV,asR_r,Sp.splitRows]
  · simp at hx
    subst hx
    intro r hr'
    obtain ⟨q,rfl,h1,h2⟩ := hs r hr'
    refine ⟨⟨q,rfl,?_,h2⟩,trivial⟩
    rw [h1]; unfold Sp.szN; omega
  · simp at hx
    subst hx
    refine ⟨Sp.szN b.length,fun r hr' => ?_⟩
    obtain ⟨q,h1,h2,_⟩ := hs r hr'
    exact ⟨q,h1,h2⟩
def sm26 : Summ := ⟨2,1,{ fs := [⟨2,4,0⟩,⟨4,2,0⟩,⟨4,0,16⟩],pr := [(0,[0])] },[{ bs := [(2,true)] }]⟩
theorem level_law (l0 l1 : L) (n : Nat) (hp : ∀ r ∈ l0.asR,∃ q,r = [.sl q] ∧ q.length = n) (h1 : (l0.asR.length : Int) = l1.asI) (h2 : l1.asI ≤ 16) : ∃ o,F26 [l0,l1] = some o ∧ o = [.b true] := by
 refine outO_of_wp ?_
 unfold fir26
 simp [Fo,wp_op,wp_ite,wp_leaf,wp_join,Nd.ev,binI,binB,unI,At.ev,d6,d7,d8,e0,d9,joinQ,loopQ,outQ,pvsOf,Kd.pv,List.map_cons,List.map_nil,d1,d2,d3,d4,d5,Option.map_some,h1]
 refine wp_loop (I := fun a => ∃ i : Nat,a = [.i i] ∧ i ≤ l0.asR.length) (mu := fun a => match a with | [.i i] => l0.asR.length - i.toNat | _ => 0) (by exact ⟨0,rfl,by omega⟩) ?_
 rintro a ⟨i,rfl,e1⟩
 by_cases hi : (i : Int) < l1.asI
 · have hi' : i < l0.asR.length := by omega
   have h0' : 0 < l0.asR.length := by omega
   obtain ⟨q,q1,q2⟩ := hp _ (List.getElem_mem hi')
   obtain ⟨p,p1,p2⟩ := hp _ (List.getElem_mem h0')
   have w : IntKind.wrap .i64 ((i : Int) + 1) = (i : Int) + 1 := wrap64 (by omega) (by omega)
   simp [Fo,wp_op,wp_ite,wp_leaf,wp_join,Nd.ev,binI,binB,unI,At.ev,d6,d7,d8,e0,d9,joinQ,loopQ,outQ,pvsOf,Kd.pv,List.map_cons,List.map_nil,d1,d2,d3,d4,d5,Option.map_some,hi,hi',h0',q1,p1,Kd.of,q2,p2,w]
   exact ⟨⟨i + 1,by omega,by omega⟩,by omega⟩
 · simp [Fo,wp_op,wp_ite,wp_leaf,wp_join,Nd.ev,binI,binB,unI,At.ev,d6,d7,d8,e0,d9,joinQ,loopQ,outQ,pvsOf,Kd.pv,List.map_cons,List.map_nil,d1,d2,d3,d4,d5,Option.map_some,hi]
theorem so26 : sm26.ok F26 := by
 intro ls hl hp
 match ls,hl with
 | [l0,l1],_ =>
  have a1 := hp.fs ⟨2,4,0⟩ (by simp [sm26])
  have a2 := hp.fs ⟨4,2,0⟩ (by simp [sm26])
  have a3 := hp.fs ⟨4,0,16⟩ (by simp [sm26])
  obtain ⟨n,b1⟩ := hp.pr (0,[0]) (by simp [sm26])
  simp [Fa.holds,tmV] at a1 a2 a3
  obtain ⟨o,h1,rfl⟩ := level_law l0 l1 n b1 (by omega) (by omega)
  refine ⟨_,h1,rfl,_,List.mem_singleton.2 rfl,⟨fun f hf => (by cases hf),fun x hx => (by cases hx),fun x hx => ?_,fun x hx => (by cases hx)⟩⟩
  simp at hx
  subst hx; rfl
end AI
end
end Go.Proofs.YtndegphojkiblaaGreatDoor
