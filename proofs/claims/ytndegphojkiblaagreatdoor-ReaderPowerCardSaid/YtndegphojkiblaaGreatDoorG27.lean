/- Towards the last file's theorem: part 27. -/
import Derived.Test.YtndegphojkiblaaGreatDoorG26
import Derived.WalkKit
set_option linter.unusedSimpArgs false
set_option linter.unusedVariables false
namespace Go.Proofs.YtndegphojkiblaaGreatDoor
section
open Go.RowKit
set_option maxRecDepth 100000
set_option maxHeartbeats 4000000
noncomputable section
def fir92 : Fir :=
 .join
 (.loop [.i 0,.i 0]
 (.op (.bi .lss .i64 (.v 11) (.i 8)) <|
 .ite (.v 12)
 (.join
 (.op (.bnd (.v 11) 8) <|
 .op (.sel [.v 0,.v 1,.v 2,.v 3,.v 4,.v 5,.v 6,.v 7] (.v 11)) <|
 .op (.call 91 F91 [.v 13] 1 []) <|
 .op (.not (.v 14)) <|
 .ite (.v 15)
 (.leaf (.jump 3 [.b false]))
 (.op (.len (.v 13)) <|
 .loop [.v 10,.i 0]
 (.op (.bi .lss .i64 (.v 18) (.v 16)) <|
 .ite (.v 19)
 (.op (.row (.v 13) (.v 18) 4) <|
 .op (.cl (.v 20) 0 (.int .u64)) <|
 .op (.cl (.v 20) 1 (.int .u32)) <|
 .op (.cl (.v 20) 2 (.int .i64)) <|
 .op (.cl (.v 20) 3 (.int .i64)) <|
 .op (.call 12 F12 [.v 21] 1 []) <|
 .op (.bi .neq .i64 (.v 25) (.v 11)) <|
 .ite (.v 26)
 (.leaf (.jump 4 [.b false]))
 (.op (.call 11 F11 [.v 21,.v 22,.v 23,.v 24] 1 []) <|
 .op (.bi .add .i64 (.v 17) (.v 27)) <|
 .op (.bi .add .i64 (.v 18) (.i 1)) <|
 .leaf (.jump 0 [.v 28,.v 29])))
 (.leaf (.jump 1 [.v 17])))))
 (.op (.bi .add .i64 (.v 11) (.i 1)) <|
 .leaf (.jump 0 [.v 13,.v 14])))
 (.leaf (.jump 1 [.v 10]))))
 (.join
 (.op (.bi .eql .i64 (.v 8) (.v 10)) <|
 .ite (.v 11)
 (.op (.bi .geq .i64 (.v 9) (.i 0)) <|
 .ite (.v 12)
 (.op (.bi .leq .i64 (.v 9) (.i 1099511627776)) <|
 .leaf (.jump 0 [.v 13]))
 (.leaf (.jump 0 [.b false])))
 (.leaf (.jump 0 [.b false])))
 (.leaf (.jump 0 [.v 11])))
def F92 := Fo fir92
def s92 : Sig := ⟨141,[.agg (wps 0 8 ++ [pi 8,pi 9])],[],10,1,.v (.c (.p .bool (.v 10))),[],F92,92⟩
theorem ok92 : s92.ok Tryz.prog := okS fir92 TT_ok (.cons ok91 (.cons ok12 (.cons ok11 .nil))) Tryz.func141 (by kernel_rfl) (by kernel_rfl) rfl
def fir93 : Fir :=
 .join
 (.op (.call 24 F24 [.v 0,.v 1,.v 2] 1 []) <|
 .op (.not (.v 3)) <|
 .ite (.v 4)
 (.leaf (.jump 0 [.b true]))
 (.op (.bi .neq .i64 (.v 0) (.v 1)) <|
 .leaf (.jump 0 [.v 5])))
 (.ite (.v 3)
 (.leaf (.jump 0 [.i 1,.i 0,.r0]))
 (.op (.lit []) <|
 .op (.app (.v 4) (.v 2) 1 1) <|
 .op (.call 65 F65 [.v 0] 3 []) <|
 .join
 (.loop [.i 0,.v 5,.v 8]
 (.op (.bi .lss .i64 (.v 9) (.v 0)) <|
 .ite (.v 12)
 (.join
 (.join
 (.op (.bi .mul .i64 (.v 9) (.v 0)) <|
 .op (.bi .add .i64 (.v 13) (.v 9)) <|
 .op (.row (.v 10) (.v 14) 1) <|
 .op (.rc (.v 10) (.v 14) 0 (.int .u8)) <|
 .op (.bi .eql .u8 (.v 16) (.i 0)) <|
 .ite (.v 17)
 (.op (.bi .add .i64 (.v 9) (.i 1)) <|
 .join
 (.loop [.v 18]
 (.join
 (.op (.bi .lss .i64 (.v 19) (.v 0)) <|
 .ite (.v 20)
 (.op (.bi .mul .i64 (.v 19) (.v 0)) <|
 .op (.bi .add .i64 (.v 21) (.v 9)) <|
 .op (.row (.v 10) (.v 22) 1) <|
 .op (.rc (.v 10) (.v 22) 0 (.int .u8)) <|
 .op (.bi .eql .u8 (.v 24) (.i 0)) <|
 .leaf (.jump 0 [.v 25]))
 (.leaf (.jump 0 [.b false])))
 (.ite (.v 20)
 (.op (.bi .add .i64 (.v 19) (.i 1)) <|
 .leaf (.jump 0 [.v 21]))
 (.leaf (.jump 1 [.v 19])))))
 (.op (.bi .eql .i64 (.v 19) (.v 0)) <|
 .ite (.v 20)
 (.leaf (.jump 4 [.i 14,.i 0,.r0]))
 (.op (.call 81 F81 [.v 10,.v 0,.v 9,.v 19,.i 1] 1 []) <|
 .op (.call 81 F81 [.v 11,.v 0,.v 9,.v 19,.i 1] 1 []) <|
 .leaf (.jump 0 [.v 21,.v 22]))))
 (.leaf (.jump 0 [.v 10,.v 11])))
 (.op (.bi .mul .i64 (.v 9) (.v 0)) <|
 .op (.bi .add .i64 (.v 15) (.v 9)) <|
 .op (.row (.v 13) (.v 16) 1) <|
 .op (.rc (.v 13) (.v 16) 0 (.int .u8)) <|
 .op (.call 20 F20 [.v 18] 2 []) <|
 .op (.bi .xor .u8 (.v 19) (.i 1)) <|
 .op (.call 81 F81 [.v 14,.v 0,.v 9,.v 9,.v 21] 1 []) <|
 .op (.bi .xor .u8 (.v 19) (.i 1)) <|
 .op (.call 81 F81 [.v 13,.v 0,.v 9,.v 9,.v 23] 1 []) <|
 .loop [.i 0,.v 24,.v 22]
 (.op (.bi .lss .i64 (.v 25) (.v 0)) <|
 .ite (.v 28)
 (.join
 (.op (.bi .mul .i64 (.v 25) (.v 0)) <|
 .op (.bi .add .i64 (.v 29) (.v 9)) <|
 .op (.row (.v 26) (.v 30) 1) <|
 .op (.rc (.v 26) (.v 30) 0 (.int .u8)) <|
 .join
 (.op (.bi .neq .i64 (.v 25) (.v 9)) <|
 .ite (.v 33)
 (.op (.bi .neq .u8 (.v 32) (.i 0)) <|
 .leaf (.jump 0 [.v 34]))
 (.leaf (.jump 0 [.b false])))
 (.ite (.v 33)
 (.op (.call 81 F81 [.v 27,.v 0,.v 25,.v 9,.v 32] 1 []) <|
 .op (.call 81 F81 [.v 26,.v 0,.v 25,.v 9,.v 32] 1 []) <|
 .leaf (.jump 0 [.v 35,.v 34]))
 (.leaf (.jump 0 [.v 26,.v 27]))))
 (.op (.bi .add .i64 (.v 25) (.i 1)) <|
 .leaf (.jump 0 [.v 31,.v 29,.v 30])))
 (.leaf (.jump 1 [.v 26,.v 27])))))
 (.op (.bi .add .i64 (.v 9) (.i 1)) <|
 .leaf (.jump 0 [.v 15,.v 13,.v 14])))
 (.leaf (.jump 1 [.v 11]))))
 (.leaf (.jump 0 [.i 0,.v 7,.v 9]))))
def F93 := Fo fir93
def s93 : Sig := ⟨245,[.agg [pi 0,pi 1,ps 2]],[],3,3,.tup [.agg [pi 4,pi 4,.own 0],ci 3],[(0,(.row 5 (.v 5)))],F93,93⟩
theorem ok93 : s93.ok Tryz.prog := okS fir93 TT_ok (.cons ok81 (.cons ok65 (.cons ok24 (.cons ok20 .nil)))) Tryz.func245 (by kernel_rfl) (by kernel_rfl) rfl
def fir94 : Fir :=
 .op (.call 23 F23 [.i 6,.i 4] 4 []) <|
 .op (.lit [[((.int .i64),(.i 0))],[((.int .i64),(.i 1))],[((.int .i64),(.i 2))],[((.int .i64),(.i 3))]]) <|
 .op (.call 25 F25 [.v 1,.v 2,.v 3,.v 4] 4 [3]) <|
 .op (.call 93 F93 [.v 6,.v 7,.v 8] 3 [2]) <|
 .op (.call 66 F66 [.v 1,.v 2,.v 3,.v 10,.v 10,.v 11] 4 [3]) <|
 .leaf (.jump 0 [.v 13,.v 14,.v 15])
def F94 := Fo fir94
def s94 : Sig := ⟨222,[],[],0,3,.v (.agg [pi 0,pi 1,.own 0]),[(0,(.row 5 (.v 2)))],F94,94⟩
theorem ok94 : s94.ok Tryz.prog := okS fir94 TT_ok (.cons ok93 (.cons ok86 (.cons ok66 (.cons ok25 (.cons ok23 .nil))))) Tryz.func222 (by kernel_rfl) (by kernel_rfl) rfl
def fir95 : Fir :=
 .op (.call 67 F67 (w 0 11) 1 []) <|
 .op (.not (.v 11)) <|
 .ite (.v 12)
 (.leaf (.jump 0 [.i 1,.r0]))
 (.op (.lit [[((.int .u8),(.i 78))],[((.int .u8),(.i 73))],[((.int .u8),(.i 68))],[((.int .u8),(.i 88))]]) <|
 .op (.row (.v 13) (.i 0) 1) <|
 .op (.conv .u64 (.v 0)) <|
 .op (.call 42 F42 [.v 15,.i 2] 1 []) <|
 .op (.app (.v 13) (.v 16) 1 1) <|
 .op (.conv .u64 (.v 1)) <|
 .op (.call 42 F42 [.v 18,.i 2] 1 []) <|
 .op (.app (.v 17) (.v 19) 1 1) <|
 .op (.conv .u64 (.v 2)) <|
 .op (.call 42 F42 [.v 21,.i 4] 1 []) <|
 .op (.app (.v 20) (.v 22) 1 1) <|
 .op (.conv .u64 (.v 3)) <|
 .op (.call 42 F42 [.v 24,.i 8] 1 []) <|
 .op (.app (.v 23) (.v 25) 1 1) <|
 .join
 (.loop [.i 0,.v 26]
 (.op (.bi .lss .i64 (.v 27) (.i 6)) <|
 .ite (.v 29)
 (.op (.bnd (.v 27) 6) <|
 .op (.sel (w 4 6) (.v 27)) <|
 .op (.conv .u64 (.v 30)) <|
 .op (.call 42 F42 [.v 31,.i 4] 1 []) <|
 .op (.app (.v 28) (.v 32) 1 1) <|
 .op (.bi .add .i64 (.v 27) (.i 1)) <|
 .leaf (.jump 0 [.v 34,.v 33]))
 (.leaf (.jump 1 [.v 28]))))
 (.op (.call 75 F75 [.v 10] 2 []) <|
 .op (.len (.v 10)) <|
 .op (.conv .u64 (.v 30)) <|
 .op (.call 42 F42 [.v 31,.i 4] 1 []) <|
 .op (.app (.v 27) (.v 32) 1 1) <|
 .op (.app (.v 33) (.v 29) 1 1) <|
 .op (.call 41 F41 [.v 34] 1 [0]) <|
 .op (.app (.v 34) (.v 35) 1 1) <|
 .leaf (.jump 0 [.i 0,.v 36])))
def F95 := Fo fir95
def s95 : Sig := ⟨68,[.agg (wpi 0 4 ++ [.p (.int .u32) (.v 4),.p (.int .u32) (.v 5),.p (.int .u32) (.v 6),.p (.int .u32) (.v 7),.p (.int .u32) (.v 8),.p (.int .u32) (.v 9),ps 10])],[],11,2,.tup [.c (.own 0),ci 11],[(0,(.row 5 (.v 12)))],F95,95⟩
theorem ok95 : s95.ok Tryz.prog := okS fir95 TT_ok (.cons ok75 (.cons ok67 (.cons ok61 (.cons ok42 (.cons ok41 .nil))))) Tryz.func68 (by kernel_rfl) (by kernel_rfl) rfl
def fir96 : Fir :=
 .join
 (.op (.call 71 F71 [.v 0,.v 1,.v 2] 1 []) <|
 .op (.not (.v 4)) <|
 .ite (.v 5)
 (.leaf (.jump 0 [.b true]))
 (.op (.call 34 F34 [.v 3] 1 []) <|
 .op (.not (.v 6)) <|
 .leaf (.jump 0 [.v 7])))
 (.ite (.v 4)
 (.leaf (.jump 0 [.i 1]))
 (.op (.bi .eql .i64 (.v 1) (.i 0)) <|
 .ite (.v 5)
 (.leaf (.jump 0 [.i 13]))
 (.leaf (.jump 0 [.i 0]))))
def F96 := Fo fir96
def s96 : Sig := ⟨92,[.agg [pi 0,pi 1,ps 2],.c (.p .str (.v 3))],[],4,1,.v (ci 4),[],F96,96⟩
theorem ok96 : s96.ok Tryz.prog := okS fir96 TT_ok (.cons ok71 (.cons ok34 .nil)) Tryz.func92 (by kernel_rfl) (by kernel_rfl) rfl
def fir97 : Fir :=
 .op (.call 70 F70 [.s ⟨#[120]⟩,.v 1,.v 2] 1 []) <|
 .op (.not (.v 3)) <|
 .ite (.v 4)
 (.leaf (.jump 0 [.r0]))
 (.join
 (.loop [.v 1,.i 0]
 (.op (.len (.v 2)) <|
 .op (.bi .lss .i64 (.v 6) (.v 7)) <|
 .ite (.v 8)
 (.op (.row (.v 2) (.v 6) 3) <|
 .op (.cl (.v 9) 0 (.int .i64)) <|
 .op (.cl (.v 9) 1 .sl) <|
 .op (.cl (.v 9) 2 .bool) <|
 .op (.call 33 F33 [.v 5,.v 10,.v 11,.v 12] 1 []) <|
 .op (.bi .add .i64 (.v 6) (.i 1)) <|
 .leaf (.jump 0 [.v 13,.v 14]))
 (.leaf (.jump 1 [.v 5]))))
 (.op (.lit []) <|
 .op (.app (.v 6) (.v 5) 1 1) <|
 .leaf (.jump 0 [.v 7])))
def F97 := Fo fir97
def s97 : Sig := ⟨174,[.agg [.p .str (.v 0),ps 1,ps 2]],[],3,1,.v (.c (.own 0)),[(0,(.row 5 (.v 3)))],F97,97⟩
theorem ok97 : s97.ok Tryz.prog := okS fir97 TT_ok (.cons ok70 (.cons ok33 .nil)) Tryz.func174 (by kernel_rfl) (by kernel_rfl) rfl
def fir98 : Fir :=
 .op (.call 79 F79 [.v 0,.v 1,.v 2,.v 3,.v 4,.v 5,.v 6,.v 7,.v 8,.v 9] 1 []) <|
 .op (.len (.v 10)) <|
 .leaf (.jump 0 [.v 11])
def F98 := Fo fir98
def s98 : Sig := ⟨81,[.agg (wps 0 8 ++ [pi 8,pi 9])],[],10,1,.v (ci 10),[],F98,98⟩
theorem ok98 : s98.ok Tryz.prog := okS fir98 TT_ok (.cons ok79 .nil) Tryz.func81 (by kernel_rfl) (by kernel_rfl) rfl
def fir99 : Fir :=
 .op (.call 79 F79 [.v 0,.v 1,.v 2,.v 3,.v 4,.v 5,.v 6,.v 7,.v 8,.v 9] 1 []) <|
 .op (.call 45 F45 [.v 11,.v 10] 5 []) <|
 .leaf (.jump 0 [.v 12,.v 13,.v 14,.v 15,.v 16])
def F99 := Fo fir99
def s99 : Sig := ⟨39,[.agg (wps 0 8 ++ [pi 8,pi 9]),.c (.p (.int .u64) (.v 10))],[],11,5,.tup [.agg [.p (.int .u64) (.v 12),.p (.int .u32) (.v 13),pi 14,pi 15],.c (.p .bool (.v 11))],[],F99,99⟩
theorem ok99 : s99.ok Tryz.prog := okS fir99 TT_ok (.cons ok79 (.cons ok45 .nil)) Tryz.func39 (by kernel_rfl) (by kernel_rfl) rfl
end
end
end Go.Proofs.YtndegphojkiblaaGreatDoor
