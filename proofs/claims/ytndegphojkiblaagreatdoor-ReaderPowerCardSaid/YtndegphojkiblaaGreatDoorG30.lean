/- Towards the last file's theorem: part 30. -/
import Derived.Test.YtndegphojkiblaaGreatDoorG29
import Derived.WalkKit
set_option linter.unusedSimpArgs false
set_option linter.unusedVariables false
namespace Go.Proofs.YtndegphojkiblaaGreatDoor
section
open Go.RowKit
set_option maxRecDepth 100000
set_option maxHeartbeats 4000000
noncomputable section
def fir132 : Fir :=
 .op (.call 110 F110 (w 0 4) 2 []) <|
 .op (.bi .neq .i64 (.v 6) (.i 0)) <|
 .ite (.v 7)
 (.leaf (.jump 0 [.v 6,.i 0,.i 0,.r0]))
 (.op (.row (.v 2) (.v 5) 3) <|
 .op (.rc (.v 2) (.v 5) 0 .str) <|
 .op (.rc (.v 2) (.v 5) 1 .sl) <|
 .op (.rc (.v 2) (.v 5) 2 .sl) <|
 .op (.call 97 F97 [.v 9,.v 10,.v 11] 1 []) <|
 .op (.len (.v 12)) <|
 .op (.call 131 F131 [.v 0,.v 1,.v 2,.v 5,.v 13,.v 4,.b false] 4 []) <|
 .leaf (.jump 0 (w 14 4)))
def F132 := Fo fir132
def s132 : Sig := ⟨119,[.agg [pi 0,pi 1,.own 0],.c (.p .str (.v 3)),.c (.own 1)],[.row 109 (.v 2),.row 5 (.v 4)],5,4,.tup [.agg [pi 6,pi 7,.own 2],ci 5],[(2,(.row 109 (.v 8)))],F132,132⟩
theorem ok132 : s132.ok Tryz.prog := okS fir132 TT_ok (.cons ok131 (.cons ok110 (.cons ok97 .nil))) Tryz.func119 (by kernel_rfl) (by kernel_rfl) rfl
def fir133 : Fir :=
 .op (.bi .add .i64 (.v 1) (.i 1)) <|
 .loop [.v 3,.v 0]
 (.op (.bi .lss .i64 (.v 4) (.v 2)) <|
 .ite (.v 6)
 (.join
 (.loop [.v 4,.v 5]
 (.join
 (.op (.bi .gtr .i64 (.v 7) (.v 1)) <|
 .ite (.v 9)
 (.op (.row (.v 8) (.v 7) 4) <|
 .op (.rc (.v 8) (.v 7) 0 (.int .u64)) <|
 .op (.rc (.v 8) (.v 7) 1 (.int .u32)) <|
 .op (.rc (.v 8) (.v 7) 2 (.int .i64)) <|
 .op (.rc (.v 8) (.v 7) 3 (.int .i64)) <|
 .op (.bi .sub .i64 (.v 7) (.i 1)) <|
 .op (.row (.v 8) (.v 15) 4) <|
 .op (.rc (.v 8) (.v 15) 0 (.int .u64)) <|
 .op (.rc (.v 8) (.v 15) 1 (.int .u32)) <|
 .op (.rc (.v 8) (.v 15) 2 (.int .i64)) <|
 .op (.rc (.v 8) (.v 15) 3 (.int .i64)) <|
 .op (.call 13 F13 [.v 11,.v 12,.v 13,.v 14,.v 17,.v 18,.v 19,.v 20] 1 []) <|
 .op (.bi .lss .i64 (.v 21) (.i 0)) <|
 .leaf (.jump 0 [.v 22]))
 (.leaf (.jump 0 [.b false])))
 (.ite (.v 9)
 (.op (.bi .sub .i64 (.v 7) (.i 1)) <|
 .op (.bi .sub .i64 (.v 7) (.i 1)) <|
 .op (.row (.v 8) (.v 11) 4) <|
 .op (.rc (.v 8) (.v 11) 0 (.int .u64)) <|
 .op (.rc (.v 8) (.v 11) 1 (.int .u32)) <|
 .op (.rc (.v 8) (.v 11) 2 (.int .i64)) <|
 .op (.rc (.v 8) (.v 11) 3 (.int .i64)) <|
 .op (.row (.v 8) (.v 7) 4) <|
 .op (.rc (.v 8) (.v 7) 0 (.int .u64)) <|
 .op (.rc (.v 8) (.v 7) 1 (.int .u32)) <|
 .op (.rc (.v 8) (.v 7) 2 (.int .i64)) <|
 .op (.rc (.v 8) (.v 7) 3 (.int .i64)) <|
 .op (.row (.v 8) (.v 7) 4) <|
 .op (.set (.v 8) (.v 7) 0 [((.int .u64),(.v 13)),((.int .u32),(.v 14)),((.int .i64),(.v 15)),((.int .i64),(.v 16))]) <|
 .op (.row (.v 23) (.v 10) 4) <|
 .op (.set (.v 23) (.v 10) 0 [((.int .u64),(.v 18)),((.int .u32),(.v 19)),((.int .i64),(.v 20)),((.int .i64),(.v 21))]) <|
 .op (.bi .sub .i64 (.v 7) (.i 1)) <|
 .leaf (.jump 0 [.v 26,.v 25]))
 (.leaf (.jump 1 [.v 8])))))
 (.op (.bi .add .i64 (.v 4) (.i 1)) <|
 .leaf (.jump 0 [.v 8,.v 7])))
 (.leaf (.jump 1 [.v 5])))
def F133 := Fo fir133
def s133 : Sig := ⟨256,[.c (.own 0),ci 1,ci 2,.c (.fn 190 [])],[.row 25 (.v 0)],3,1,.tup [],[(0,(.row 25 (.v 3)))],F133,133⟩
theorem ok133 : s133.ok Tryz.prog := okS fir133 TT_ok (.cons ok13 .nil) Tryz.func256 (by kernel_rfl) (by kernel_rfl) rfl
def fir134 : Fir :=
 .op (.call 2000 F2000 [.r0] 0 []) <|
 .op (.call 62 F62 [.r0] 1 []) <|
 .ite (.v 0)
 (.leaf (.jump 0 [.r0]))
 (.op (.call 121 F121 [.r0] 1 []) <|
 .op (.len (.v 1)) <|
 .op (.cut (.v 1) (.i 0) (.i 0) 4) <|
 .join
 (.op (.len (.v 1)) <|
 .loop [.i 0,.i 0,.v 1]
 (.op (.bi .lss .i64 (.v 6) (.v 4)) <|
 .ite (.v 8)
 (.join
 (.op (.row (.v 7) (.v 6) 4) <|
 .op (.rc (.v 7) (.v 6) 0 (.int .u64)) <|
 .op (.rc (.v 7) (.v 6) 1 (.int .u32)) <|
 .op (.rc (.v 7) (.v 6) 2 (.int .i64)) <|
 .op (.rc (.v 7) (.v 6) 3 (.int .i64)) <|
 .join
 (.op (.bi .add .i64 (.v 6) (.i 1)) <|
 .op (.len (.v 7)) <|
 .op (.bi .eql .i64 (.v 14) (.v 15)) <|
 .ite (.v 16)
 (.leaf (.jump 0 [.b true]))
 (.op (.bi .add .i64 (.v 6) (.i 1)) <|
 .op (.row (.v 7) (.v 17) 4) <|
 .op (.rc (.v 7) (.v 17) 0 (.int .u64)) <|
 .op (.bi .neq .u64 (.v 19) (.v 10)) <|
 .leaf (.jump 0 [.v 20])))
 (.ite (.v 14)
 (.op (.lit [[((.int .u64),(.v 10)),((.int .u32),(.v 11)),((.int .i64),(.v 12)),((.int .i64),(.v 13))]]) <|
 .op (.apin (.v 7) (.v 5) (.v 15) 4) <|
 .leaf (.jump 0 [.v 17,.v 16]))
 (.leaf (.jump 0 [.v 5,.v 7]))))
 (.op (.bi .add .i64 (.v 6) (.i 1)) <|
 .leaf (.jump 0 [.v 9,.v 11,.v 10])))
 (.leaf (.jump 1 [.v 5,.v 7]))))
 (.op (.tk (.v 5) (.v 4)) <|
 .leaf (.jump 0 [.v 6])))
def F134 := Fo fir134
def s134 : Sig := ⟨218,[.c .nil],[],0,1,.v (.c (.own 0)),[(0,(.row 25 (.v 0)))],F134,134⟩
theorem ok134 : s134.ok Tryz.prog := okS fir134 TTx_ok (.cons ok121 (.cons ok62 (.cons ok9 (.cons ok2000 .nil)))) Tryz.func218 (by kernel_rfl) (by kernel_rfl) rfl
def fir135 : Fir :=
 .op (.call 110 F110 [.v 0,.v 1,.v 2,.v 3] 2 []) <|
 .op (.bi .neq .i64 (.v 6) (.i 0)) <|
 .ite (.v 7)
 (.leaf (.jump 0 [.v 6,.i 0,.i 0,.r0]))
 (.op (.row (.v 2) (.v 5) 3) <|
 .op (.cl (.v 8) 0 .str) <|
 .op (.cl (.v 8) 1 .sl) <|
 .op (.cl (.v 8) 2 .sl) <|
 .op (.call 97 F97 [.v 9,.v 10,.v 11] 1 []) <|
 .op (.len (.v 12)) <|
 .op (.call 131 F131 [.v 0,.v 1,.v 2,.v 5,.v 13,.v 4,.b false] 4 []) <|
 .leaf (.jump 0 [.v 14,.v 15,.v 16,.v 17]))
def F135 := Fo fir135
def s135 : Sig := ⟨119,[.agg [pi 0,pi 1,ps 2],.c (.p .str (.v 3)),.c (.own 0)],[.row 5 (.v 4)],5,4,.tup [.agg [pi 6,pi 7,.own 1],ci 5],[(1,(.row 109 (.v 8)))],F135,135⟩
theorem ok135 : s135.ok Tryz.prog := okS fir135 TT_ok (.cons ok131 (.cons ok110 (.cons ok97 .nil))) Tryz.func119 (by kernel_rfl) (by kernel_rfl) rfl
def fir136 : Fir :=
 .join
 (.op (.call 109 F109 [.v 0,.v 1,.v 2,.v 8] 4 []) <|
 .op (.bi .eql .i64 (.v 10) (.i 0)) <|
 .ite (.v 14)
 (.leaf (.jump 0 [.v 11,.v 12,.v 13]))
 (.leaf (.jump 0 [.v 0,.v 1,.v 2])))
 (.op (.call 135 F135 [.v 10,.v 11,.v 12,.v 8,.v 9] 4 []) <|
 .op (.call 130 F130 [.v 14,.v 15,.v 16,.v 8] 4 []) <|
 .leaf (.jump 0 [.v 18,.v 19,.v 20]))
def F136 := Fo fir136
def s136 : Sig := ⟨61,[.c (.ptr 0 0),.c (.p .str (.v 8)),.c (.own 2)],[.box [pi 0,pi 1,ps 2,pi 3,pi 4,.p .bool (.v 5),.own 1,.p .mp (.v 7)],.row 94 (.v 6),.row 5 (.v 9)],10,3,.tup [],[(1,(.row 94 (.v 6))),(0,(.box [pi 10,pi 11,.own 3,pi 3,pi 4,.p .bool (.v 5),.own 1,.p .mp (.v 7)])),(3,(.row 109 (.v 12)))],F136,136⟩
theorem ok136 : s136.ok Tryz.prog := okS fir136 TT_ok (.cons ok135 (.cons ok132 (.cons ok130 (.cons ok109 .nil)))) Tryz.func61 (by kernel_rfl) (by kernel_rfl) rfl
def fir137 : Fir :=
 .op (.call 73 F73 [.v 3,.v 8,.i 0] 2 []) <|
 .op (.call 56 F56 [.i 1,.v 3,.v 8] 1 []) <|
 .op (.call 136 F136 (w 0 8 ++ [.v 11,.v 10]) 3 []) <|
 .leaf (.jump 0 [.v 12,.v 13,.v 14])
def F137 := Fo fir137
def s137 : Sig := ⟨60,[.c (.ptr 0 0),ci 8],[.box [pi 0,pi 1,ps 2,pi 3,pi 4,.p .bool (.v 5),.own 1,.p .mp (.v 7)],.row 94 (.v 6)],9,3,.tup [],[(0,(.box [pi 9,pi 10,.own 2,pi 3,pi 4,.p .bool (.v 5),.own 1,.p .mp (.v 7)])),(1,(.row 94 (.v 6))),(2,(.row 109 (.v 11)))],F137,137⟩
theorem ok137 : s137.ok Tryz.prog := okS fir137 TT_ok (.cons ok136 (.cons ok73 (.cons ok56 .nil))) Tryz.func60 (by kernel_rfl) (by kernel_rfl) rfl
def F1144 : List L → Option (List L) := fun _ => none
def s1144 : Sig := ⟨257,[cs 0,ci 1,ci 2,.c (.fn 190 [])],[],3,0,.tup [],[],F1144,1144⟩
theorem ok1144 : s1144.ok Tryz.prog := fun _ _ _ h => by
 have h : (none : Option (List L)) = some _ := h
 cases h
def F1145 : List L → Option (List L) := fun _ => none
def s1145 : Sig := ⟨257,[.c (.own 0),ci 1,ci 2,.c (.fn 190 [])],[.row 25 (.v 0)],3,0,.tup [],[(0,(.row 25 (.v 0)))],F1145,1145⟩
theorem ok1145 : s1145.ok Tryz.prog := fun _ _ _ h => by
 have h : (none : Option (List L)) = some _ := h
 cases h
end
end
section
open Go.RowKit
set_option maxRecDepth 100000
set_option maxHeartbeats 4000000
noncomputable section
def fir138 : Fir :=
 .join
 (.op (.call 109 F109 [.v 0,.v 1,.v 2,.v 7] 4 []) <|
 .op (.bi .eql .i64 (.v 9) (.i 0)) <|
 .ite (.v 13)
 (.leaf (.jump 0 [.v 10,.v 11,.v 12]))
 (.leaf (.jump 0 [.v 0,.v 1,.v 2])))
 (.op (.call 135 F135 [.v 9,.v 10,.v 11,.v 7,.v 8] 4 []) <|
 .op (.call 130 F130 [.v 13,.v 14,.v 15,.v 7] 4 []) <|
 .leaf (.jump 0 [.v 17,.v 18,.v 19]))
def F138 := Fo fir138
def s138 : Sig := ⟨61,[.c (.ptr 0 0),.c (.p .str (.v 7)),.c (.own 2)],[.box [pi 0,pi 1,ps 2,pi 3,pi 4,.p .bool (.v 5),ps 6,.mp 1],.map,.row 5 (.v 8)],9,3,.tup [],[(1,.map),(0,(.box [pi 9,pi 10,.own 3,pi 3,pi 4,.p .bool (.v 5),ps 6,.mp 1])),(3,(.row 109 (.v 11)))],F138,138⟩
theorem ok138 : s138.ok Tryz.prog := okS fir138 TT_ok (.cons ok135 (.cons ok132 (.cons ok130 (.cons ok109 .nil)))) Tryz.func61 (by kernel_rfl) (by kernel_rfl) rfl
def fir139 : Fir :=
 .join
 (.op (.call 109 F109 [.v 0,.v 1,.r0,.v 6] 4 []) <|
 .op (.bi .eql .i64 (.v 8) (.i 0)) <|
 .ite (.v 12)
 (.leaf (.jump 0 [.v 9,.v 10,.v 11]))
 (.leaf (.jump 0 [.v 0,.v 1,.r0])))
 (.op (.call 135 F135 [.v 8,.v 9,.v 10,.v 6,.v 7] 4 []) <|
 .op (.call 130 F130 [.v 12,.v 13,.v 14,.v 6] 4 []) <|
 .leaf (.jump 0 [.v 16,.v 17,.v 18]))
def F139 := Fo fir139
def s139 : Sig := ⟨61,[.c (.ptr 0 0),.c (.p .str (.v 6)),.c (.own 3)],[.box [pi 0,pi 1,.nil,pi 2,pi 3,.p .bool (.v 4),.own 1,.mp 2],.row 94 (.v 5),.map,.row 5 (.v 7)],8,3,.tup [],[(1,(.row 94 (.v 5))),(2,.map),(0,(.box [pi 8,pi 9,.own 4,pi 2,pi 3,.p .bool (.v 4),.own 1,.mp 2])),(4,(.row 109 (.v 10)))],F139,139⟩
theorem ok139 : s139.ok Tryz.prog := okS fir139 TT_ok (.cons ok135 (.cons ok132 (.cons ok130 (.cons ok109 .nil)))) Tryz.func61 (by kernel_rfl) (by kernel_rfl) rfl
def fir140 : Fir :=
 .op (.call 73 F73 [.v 2,.v 6,.i 0] 2 []) <|
 .op (.call 56 F56 [.i 1,.v 2,.v 6] 1 []) <|
 .op (.call 139 F139 (w 0 6 ++ [.v 9,.v 8]) 3 []) <|
 .leaf (.jump 0 [.v 10,.v 11,.v 12])
def F140 := Fo fir140
def s140 : Sig := ⟨60,[.c (.ptr 0 0),ci 6],[.box [pi 0,pi 1,.nil,pi 2,pi 3,.p .bool (.v 4),.own 1,.mp 2],.row 94 (.v 5),.map],7,3,.tup [],[(0,(.box [pi 7,pi 8,.own 3,pi 2,pi 3,.p .bool (.v 4),.own 1,.mp 2])),(2,.map),(1,(.row 94 (.v 5))),(3,(.row 109 (.v 9)))],F140,140⟩
theorem ok140 : s140.ok Tryz.prog := okS fir140 TT_ok (.cons ok139 (.cons ok138 (.cons ok136 (.cons ok73 (.cons ok56 .nil))))) Tryz.func60 (by kernel_rfl) (by kernel_rfl) rfl
def fir141 : Fir :=
 .op (.call 73 F73 [.v 3,.v 7,.i 0] 2 []) <|
 .op (.call 56 F56 [.i 1,.v 3,.v 7] 1 []) <|
 .op (.call 138 F138 (w 0 7 ++ [.v 10,.v 9]) 3 []) <|
 .leaf (.jump 0 [.v 11,.v 12,.v 13])
def F141 := Fo fir141
def s141 : Sig := ⟨60,[.c (.ptr 0 0),ci 7],[.box [pi 0,pi 1,ps 2,pi 3,pi 4,.p .bool (.v 5),ps 6,.mp 1],.map],8,3,.tup [],[(0,(.box [pi 8,pi 9,.own 2,pi 3,pi 4,.p .bool (.v 5),ps 6,.mp 1])),(1,.map),(2,(.row 109 (.v 10)))],F141,141⟩
theorem ok141 : s141.ok Tryz.prog := okS fir141 TT_ok (.cons ok139 (.cons ok138 (.cons ok136 (.cons ok73 (.cons ok56 .nil))))) Tryz.func60 (by kernel_rfl) (by kernel_rfl) rfl
def fir142 : Fir :=
 .join
 (.op (.call 109 F109 [.v 0,.v 1,.v 2,.v 8] 4 []) <|
 .op (.bi .eql .i64 (.v 10) (.i 0)) <|
 .ite (.v 14)
 (.leaf (.jump 0 [.v 11,.v 12,.v 13]))
 (.leaf (.jump 0 [.v 0,.v 1,.v 2])))
 (.op (.call 135 F135 [.v 10,.v 11,.v 12,.v 8,.v 9] 4 []) <|
 .op (.call 130 F130 [.v 14,.v 15,.v 16,.v 8] 4 []) <|
 .leaf (.jump 0 [.v 18,.v 19,.v 20]))
def F142 := Fo fir142
def s142 : Sig := ⟨61,[.c (.ptr 0 0),.c (.p .str (.v 8)),.c (.own 1)],[.box [pi 0,pi 1,ps 2,pi 3,pi 4,.p .bool (.v 5),ps 6,.p .mp (.v 7)],.row 5 (.v 9)],10,3,.tup [],[(0,(.box [pi 10,pi 11,.own 2,pi 3,pi 4,.p .bool (.v 5),ps 6,.p .mp (.v 7)])),(2,(.row 109 (.v 12)))],F142,142⟩
theorem ok142 : s142.ok Tryz.prog := okS fir142 TT_ok (.cons ok135 (.cons ok132 (.cons ok130 (.cons ok109 .nil)))) Tryz.func61 (by kernel_rfl) (by kernel_rfl) rfl
def fir143 : Fir :=
 .op (.call 128 F128 (w 0 4) 2 []) <|
 .op (.bi .neq .i64 (.v 5) (.i 0)) <|
 .ite (.v 6)
 (.leaf (.jump 0 [.r0,.v 5]))
 (.op (.call 127 F127 (w 0 4 ++ [.i 0,.v 4]) 2 []) <|
 .leaf (.jump 0 [.v 7,.v 8]))
def F143 := Fo fir143
def s143 : Sig := ⟨63,[.agg [pi 0,pi 1,ps 2],.c (.p .str (.v 3))],[],4,2,.tup [cs 4,ci 5],[],F143,143⟩
theorem ok143 : s143.ok Tryz.prog := okS fir143 TT_ok (.cons ok128 (.cons ok127 .nil)) Tryz.func63 (by kernel_rfl) (by kernel_rfl) rfl
def fir144 : Fir :=
 .op (.call 110 F110 (w 0 4) 2 []) <|
 .op (.bi .neq .i64 (.v 6) (.i 0)) <|
 .ite (.v 7)
 (.leaf (.jump 0 [.v 6,.i 0,.i 0,.r0]))
 (.op (.row (.v 2) (.v 5) 3) <|
 .op (.cl (.v 8) 0 .str) <|
 .op (.cl (.v 8) 1 .sl) <|
 .op (.cl (.v 8) 2 .sl) <|
 .op (.call 97 F97 [.v 9,.v 10,.v 11] 1 []) <|
 .op (.len (.v 12)) <|
 .op (.call 131 F131 [.v 0,.v 1,.v 2,.v 5,.v 13,.v 4,.b false] 4 []) <|
 .leaf (.jump 0 (w 14 4)))
def F144 := Fo fir144
def s144 : Sig := ⟨119,[.agg [pi 0,pi 1,ps 2],.c (.p .str (.v 3)),cs 4],[],5,4,.tup [.agg [pi 6,pi 7,.own 0],ci 5],[(0,(.row 109 (.v 8)))],F144,144⟩
theorem ok144 : s144.ok Tryz.prog := okS fir144 TT_ok (.cons ok131 (.cons ok110 (.cons ok97 .nil))) Tryz.func119 (by kernel_rfl) (by kernel_rfl) rfl
def fir145 : Fir :=
 .join
 (.op (.call 109 F109 [.v 0,.v 1,.v 2,.v 8] 4 []) <|
 .op (.bi .eql .i64 (.v 10) (.i 0)) <|
 .ite (.v 14)
 (.leaf (.jump 0 [.v 11,.v 12,.v 13]))
 (.leaf (.jump 0 [.v 0,.v 1,.v 2])))
 (.op (.call 144 F144 [.v 10,.v 11,.v 12,.v 8,.v 9] 4 []) <|
 .op (.call 130 F130 [.v 14,.v 15,.v 16,.v 8] 4 []) <|
 .leaf (.jump 0 [.v 18,.v 19,.v 20]))
def F145 := Fo fir145
def s145 : Sig := ⟨61,[.c (.ptr 0 0),.c (.p .str (.v 8)),cs 9],[.box [pi 0,pi 1,ps 2,pi 3,pi 4,.p .bool (.v 5),ps 6,.p .mp (.v 7)]],10,3,.tup [],[(0,(.box [pi 10,pi 11,.own 1,pi 3,pi 4,.p .bool (.v 5),ps 6,.p .mp (.v 7)])),(1,(.row 109 (.v 12)))],F145,145⟩
theorem ok145 : s145.ok Tryz.prog := okS fir145 TT_ok (.cons ok144 (.cons ok135 (.cons ok132 (.cons ok130 (.cons ok109 .nil))))) Tryz.func61 (by kernel_rfl) (by kernel_rfl) rfl
end
end
section
open Go.RowKit
set_option maxRecDepth 100000
set_option maxHeartbeats 4000000
noncomputable section
def fir146 : Fir :=
 .op (.call 73 F73 [.v 3,.v 8,.i 0] 2 []) <|
 .op (.call 56 F56 [.i 1,.v 3,.v 8] 1 []) <|
 .op (.call 145 F145 (w 0 8 ++ [.v 11,.v 10]) 3 []) <|
 .leaf (.jump 0 [.v 12,.v 13,.v 14])
def F146 := Fo fir146
def s146 : Sig := ⟨60,[.c (.ptr 0 0),ci 8],[.box [pi 0,pi 1,ps 2,pi 3,pi 4,.p .bool (.v 5),ps 6,.p .mp (.v 7)]],9,3,.tup [],[(0,(.box [pi 9,pi 10,.own 1,pi 3,pi 4,.p .bool (.v 5),ps 6,.p .mp (.v 7)])),(1,(.row 109 (.v 11)))],F146,146⟩
theorem ok146 : s146.ok Tryz.prog := okS fir146 TT_ok (.cons ok145 (.cons ok142 (.cons ok139 (.cons ok138 (.cons ok136 (.cons ok73 (.cons ok56 .nil))))))) Tryz.func60 (by kernel_rfl) (by kernel_rfl) rfl
def fir147 : Fir :=
 .join
 (.loop [.i 0]
 (.op (.len (.v 6)) <|
 .op (.bi .lss .i64 (.v 8) (.v 9)) <|
 .ite (.v 10)
 (.op (.row (.v 6) (.v 8) 14) <|
 .op (.cl (.v 11) 0 (.int .i64)) <|
 .op (.cl (.v 11) 1 (.int .i64)) <|
 .op (.cl (.v 11) 2 (.int .i64)) <|
 .op (.cl (.v 11) 3 (.int .i64)) <|
 .op (.cl (.v 11) 4 .sl) <|
 .op (.cl (.v 11) 5 .sl) <|
 .op (.cl (.v 11) 6 .sl) <|
 .op (.cl (.v 11) 7 .sl) <|
 .op (.cl (.v 11) 8 .sl) <|
 .op (.cl (.v 11) 9 .sl) <|
 .op (.cl (.v 11) 10 .sl) <|
 .op (.cl (.v 11) 11 .sl) <|
 .op (.cl (.v 11) 12 (.int .i64)) <|
 .op (.cl (.v 11) 13 (.int .i64)) <|
 .op (.bi .neq .i64 (.v 14) (.i 2)) <|
 .ite (.v 26)
 (.op (.bi .add .i64 (.v 8) (.i 1)) <|
 .leaf (.jump 0 [.v 27]))
 (.op (.call 56 F56 [.i 1,.v 3,.v 12] 1 []) <|
 .op (.call 143 F143 [.v 0,.v 1,.v 2,.v 27] 2 []) <|
 .op (.call 72 F72 [.v 28] 4 []) <|
 .op (.call 79 F79 (w 16 10) 1 []) <|
 .op (.call 126 F126 ([.v 28] ++ w 31 4) 13 []) <|
 .join
 (.loop [.i 0,.v 0,.v 1,.v 2]
 (.op (.len (.v 36)) <|
 .op (.bi .lss .i64 (.v 48) (.v 52)) <|
 .ite (.v 53)
 (.op (.call 68 F68 [.v 3,.v 12,.v 48] 1 []) <|
 .op (.row (.v 36) (.v 48) 1) <|
 .op (.rc (.v 36) (.v 48) 0 .sl) <|
 .op (.call 145 F145 ([.v 49,.v 50,.v 51] ++ w 3 5 ++ [.v 54,.v 56]) 3 []) <|
 .op (.bi .add .i64 (.v 48) (.i 1)) <|
 .leaf (.jump 0 [.v 60,.v 57,.v 58,.v 59]))
 (.leaf (.jump 1 [.v 49,.v 50,.v 51]))))
 (.op (.call 95 F95 (w 37 11) 2 [1]) <|
 .op (.call 56 F56 [.i 4,.v 3,.v 12] 1 []) <|
 .op (.call 145 F145 ([.v 48,.v 49,.v 50] ++ w 3 5 ++ [.v 53,.v 52]) 3 []) <|
 .op (.call 129 F129 [.v 54,.v 55,.v 56,.v 27] 4 []) <|
 .op (.call 101 F101 (w 12 14) 15 []) <|
 .op (.call 118 F118 (w 3 4 ++ w 62 14) 5 []) <|
 .leaf (.jump 2 ([.b true,.v 58,.v 59,.v 60] ++ w 77 4)))))
 (.leaf (.jump 1 []))))
 (.leaf (.jump 0 ([.b false] ++ w 0 7)))
def F147 := Fo fir147
def s147 : Sig := ⟨31,[.c (.ptr 0 0)],[.box [pi 0,pi 1,ps 2,pi 3,pi 4,.p .bool (.v 5),ps 6,.p .mp (.v 7)]],8,8,.v (.c (.p .bool (.v 8))),[(0,(.box [pi 9,pi 10,ps 11,pi 12,pi 13,.p .bool (.v 14),ps 15,.p .mp (.v 7)]))],F147,147⟩
theorem ok147 : s147.ok Tryz.prog := okS fir147 TT_ok (.cons ok145 (.cons ok143 (.cons ok142 (.cons ok139 (.cons ok138 (.cons ok136 (.cons ok129 (.cons ok126 (.cons ok118 (.cons ok101 (.cons ok95 (.cons ok79 (.cons ok72 (.cons ok68 (.cons ok56 .nil))))))))))))))) Tryz.func31 (by kernel_rfl) (by kernel_rfl) rfl
def fir148 : Fir :=
 .op (.call 120 F120 (w 3 4) 5 []) <|
 .op (.bi .neq .i64 (.v 8) (.i 0)) <|
 .ite (.v 13)
 (.leaf (.jump 0 ([.b false] ++ w 0 7)))
 (.op (.len (.v 6)) <|
 .op (.bi .sub .i64 (.v 14) (.i 1)) <|
 .op (.row (.v 6) (.v 15) 14) <|
 .op (.cl (.v 16) 0 (.int .i64)) <|
 .op (.bi .add .i64 (.v 17) (.i 1)) <|
 .op (.call 146 F146 ([.v 0,.v 1,.v 2] ++ w 9 4 ++ [.v 7,.v 18]) 3 []) <|
 .op (.call 56 F56 [.i 3,.v 9,.v 17] 1 []) <|
 .op (.call 145 F145 ([.v 19,.v 20,.v 21] ++ w 9 4 ++ [.v 7,.v 22,.r0]) 3 []) <|
 .leaf (.jump 0 ([.b true,.v 23,.v 24,.v 25] ++ w 9 4)))
def F148 := Fo fir148
def s148 : Sig := ⟨30,[.c (.ptr 0 0)],[.box [pi 0,pi 1,ps 2,pi 3,pi 4,.p .bool (.v 5),ps 6,.p .mp (.v 7)]],8,8,.v (.c (.p .bool (.v 8))),[(0,(.box [pi 9,pi 10,ps 11,pi 12,pi 13,.p .bool (.v 14),ps 15,.p .mp (.v 7)]))],F148,148⟩
theorem ok148 : s148.ok Tryz.prog := okS fir148 TT_ok (.cons ok146 (.cons ok145 (.cons ok142 (.cons ok141 (.cons ok140 (.cons ok139 (.cons ok138 (.cons ok137 (.cons ok136 (.cons ok120 (.cons ok56 .nil))))))))))) Tryz.func30 (by kernel_rfl) (by kernel_rfl) rfl
def fir149 : Fir :=
 .op (.call 104 F104 [.v 0,.v 1] 4 []) <|
 .op (.call 35 F35 [.i 0] 1 []) <|
 .op (.call 141 F141 [.v 6,.i (-1),.r0,.v 3,.v 4,.b false,.v 5,.i 1] 3 []) <|
 .leaf (.jump 0 [.v 7,.v 8,.v 3,.v 4,.v 5,.v 9])
def F149 := Fo fir149
def s149 : Sig := ⟨34,[ci 0,ci 1],[],2,6,.v (.agg [pi 2,pi 3,.own 0,pi 4,pi 5,.p .bool (.b false),ps 6,.mp 1]),[(0,(.row 109 (.v 7))),(1,.map)],F149,149⟩
theorem ok149 : s149.ok Tryz.prog := okS fir149 TT_ok (.cons ok146 (.cons ok141 (.cons ok140 (.cons ok137 (.cons ok104 (.cons ok35 .nil)))))) Tryz.func34 (by kernel_rfl) (by kernel_rfl) rfl
def fir150 : Fir :=
 .op (.call 116 F116 (w 3 4) 15 []) <|
 .op (.call 114 F114 (w 9 14 ++ [.v 7]) 15 []) <|
 .op (.call 118 F118 (w 3 4 ++ w 24 14) 5 []) <|
 .join
 (.op (.bi .neq .i64 (.v 23) (.i 0)) <|
 .ite (.v 43)
 (.leaf (.jump 0 [.b true]))
 (.op (.bi .neq .i64 (.v 38) (.i 0)) <|
 .leaf (.jump 0 [.v 44])))
 (.ite (.v 43)
 (.leaf (.jump 0 ([.b false] ++ w 0 7)))
 (.join
 (.loop [.i 0,.v 0,.v 1,.v 2]
 (.op (.len (.v 7)) <|
 .op (.bi .lss .i64 (.v 44) (.v 48)) <|
 .ite (.v 49)
 (.join
 (.op (.row (.v 7) (.v 44) 4) <|
 .op (.cl (.v 50) 0 (.int .u64)) <|
 .op (.cl (.v 50) 1 (.int .u32)) <|
 .op (.cl (.v 50) 2 .bool) <|
 .op (.cl (.v 50) 3 .sl) <|
 .op (.call 74 F74 (w 51 4) 2 []) <|
 .op (.call 56 F56 [.i 1,.v 39,.v 9] 1 []) <|
 .op (.call 138 F138 ([.v 45,.v 46,.v 47] ++ w 39 4 ++ [.v 57,.v 56]) 3 []) <|
 .op (.row (.v 7) (.v 44) 4) <|
 .op (.cl (.v 61) 2 .bool) <|
 .ite (.v 62)
 (.op (.row (.v 7) (.v 44) 4) <|
 .op (.cl (.v 63) 0 (.int .u64)) <|
 .leaf (.jump 0 [.v 58,.v 59,.v 60]))
 (.op (.row (.v 7) (.v 44) 4) <|
 .op (.cl (.v 63) 0 (.int .u64)) <|
 .op (.row (.v 7) (.v 44) 4) <|
 .op (.cl (.v 65) 0 (.int .u64)) <|
 .op (.cl (.v 65) 1 (.int .u32)) <|
 .op (.cl (.v 65) 2 .bool) <|
 .op (.cl (.v 65) 3 .sl) <|
 .leaf (.jump 0 [.v 58,.v 59,.v 60])))
 (.op (.bi .add .i64 (.v 44) (.i 1)) <|
 .leaf (.jump 0 [.v 53,.v 50,.v 51,.v 52])))
 (.leaf (.jump 1 [.v 45,.v 46,.v 47]))))
 (.leaf (.jump 0 ([.b true,.v 44,.v 45,.v 46] ++ w 39 4)))))
def F150 := Fo fir150
def s150 : Sig := ⟨37,[.c (.ptr 0 0),cs 7],[.box [pi 0,pi 1,ps 2,pi 3,pi 4,.p .bool (.v 5),ps 6,.mp 1],.map],8,8,.v (.c (.p .bool (.v 8))),[(0,(.box [pi 9,pi 10,ps 11,pi 12,pi 13,.p .bool (.v 14),ps 15,.mp 1])),(1,.map)],F150,150⟩
theorem ok150 : s150.ok Tryz.prog := okS fir150 TT_ok (.cons ok145 (.cons ok142 (.cons ok139 (.cons ok138 (.cons ok136 (.cons ok118 (.cons ok116 (.cons ok114 (.cons ok74 (.cons ok56 .nil)))))))))) Tryz.func37 (by kernel_rfl) (by kernel_rfl) rfl
def fir151 : Fir :=
 .op (.call 117 F117 (w 3 5) 1 []) <|
 .join
 (.loop ([.i 0] ++ w 0 7)
 (.op (.len (.v 8)) <|
 .op (.bi .lss .i64 (.v 9) (.v 17)) <|
 .ite (.v 18)
 (.join
 (.loop ([.i 0] ++ w 13 4)
 (.op (.len (.v 23)) <|
 .op (.bi .lss .i64 (.v 19) (.v 24)) <|
 .ite (.v 25)
 (.join
 (.op (.row (.v 23) (.v 19) 14) <|
 .op (.cl (.v 26) 0 (.int .i64)) <|
 .op (.row (.v 8) (.v 9) 1) <|
 .op (.rc (.v 8) (.v 9) 0 (.int .i64)) <|
 .op (.bi .eql .i64 (.v 27) (.v 29)) <|
 .ite (.v 30)
 (.op (.row (.v 23) (.v 19) 14) <|
 .op (.cl (.v 31) 0 (.int .i64)) <|
 .op (.cl (.v 31) 1 (.int .i64)) <|
 .op (.cl (.v 31) 2 (.int .i64)) <|
 .op (.cl (.v 31) 3 (.int .i64)) <|
 .op (.cl (.v 31) 4 .sl) <|
 .op (.cl (.v 31) 5 .sl) <|
 .op (.cl (.v 31) 6 .sl) <|
 .op (.cl (.v 31) 7 .sl) <|
 .op (.cl (.v 31) 8 .sl) <|
 .op (.cl (.v 31) 9 .sl) <|
 .op (.cl (.v 31) 10 .sl) <|
 .op (.cl (.v 31) 11 .sl) <|
 .op (.cl (.v 31) 12 (.int .i64)) <|
 .op (.cl (.v 31) 13 (.int .i64)) <|
 .op (.lit [[((.int .u64),(.v 7))]]) <|
 .op (.call 113 F113 (w 32 15) 15 []) <|
 .op (.call 118 F118 (w 20 4 ++ w 48 14) 5 []) <|
 .leaf (.jump 0 (w 63 4)))
 (.leaf (.jump 0 (w 20 4))))
 (.op (.bi .add .i64 (.v 19) (.i 1)) <|
 .leaf (.jump 0 ([.v 30] ++ w 26 4))))
 (.leaf (.jump 1 (w 20 4)))))
 (.op (.row (.v 8) (.v 9) 1) <|
 .op (.rc (.v 8) (.v 9) 0 (.int .i64)) <|
 .op (.call 56 F56 [.i 3,.v 19,.v 24] 1 []) <|
 .op (.lit [[((.int .u64),(.v 7))]]) <|
 .op (.call 69 F69 [.v 26] 1 [0]) <|
 .op (.call 138 F138 ([.v 10,.v 11,.v 12] ++ w 19 4 ++ [.v 25,.v 27]) 3 []) <|
 .op (.bi .add .i64 (.v 9) (.i 1)) <|
 .leaf (.jump 0 ([.v 31,.v 28,.v 29,.v 30] ++ w 19 4))))
 (.leaf (.jump 1 (w 10 7)))))
 (.op (.call 116 F116 (w 12 4) 15 []) <|
 .join
 (.op (.call 99 F99 (w 21 10 ++ [.v 7]) 5 []) <|
 .ite (.v 31)
 (.op (.lit [[((.int .u64),(.v 7)),((.int .u32),(.v 33)),(.bool,(.b true)),(.sl,.r0)]]) <|
 .op (.call 150 F150 (w 9 7 ++ [.v 36]) 8 []) <|
 .leaf (.jump 0 (w 38 7)))
 (.leaf (.jump 0 (w 9 7))))
 (.leaf (.jump 0 (w 31 7))))
def F151 := Fo fir151
def s151 : Sig := ⟨36,[.c (.ptr 0 0),.c (.p (.int .u64) (.v 7))],[.box [pi 0,pi 1,ps 2,pi 3,pi 4,.p .bool (.v 5),ps 6,.mp 1],.map],8,7,.tup [],[(0,(.box [pi 8,pi 9,ps 10,pi 11,pi 12,.p .bool (.v 13),ps 14,.mp 1])),(1,.map)],F151,151⟩
theorem ok151 : s151.ok Tryz.prog := okS fir151 TT_ok (.cons ok150 (.cons ok145 (.cons ok142 (.cons ok139 (.cons ok138 (.cons ok136 (.cons ok118 (.cons ok117 (.cons ok116 (.cons ok113 (.cons ok99 (.cons ok69 (.cons ok56 .nil))))))))))))) Tryz.func36 (by kernel_rfl) (by kernel_rfl) rfl
def F1160 : List L → Option (List L) := fun _ => none
def s1160 : Sig := ⟨258,[cs 0,ci 1,ci 2,.c (.fn 190 [])],[],3,0,.tup [],[],F1160,1160⟩
theorem ok1160 : s1160.ok Tryz.prog := fun _ _ _ h => by
 have h : (none : Option (List L)) = some _ := h
 cases h
def F1161 : List L → Option (List L) := fun _ => none
def s1161 : Sig := ⟨258,[.c (.own 0),ci 1,ci 2,.c (.fn 190 [])],[.row 25 (.v 0)],3,0,.tup [],[(0,(.row 25 (.v 0)))],F1161,1161⟩
theorem ok1161 : s1161.ok Tryz.prog := fun _ _ _ h => by
 have h : (none : Option (List L)) = some _ := h
 cases h
end
end
section
open Go.RowKit
set_option maxRecDepth 100000
set_option maxHeartbeats 4000000
noncomputable section
def fir152 : Fir :=
 .join
 (.op (.call 109 F109 [.v 0,.v 1,.v 2,.v 7] 4 []) <|
 .op (.bi .eql .i64 (.v 9) (.i 0)) <|
 .ite (.v 13)
 (.leaf (.jump 0 [.v 10,.v 11,.v 12]))
 (.leaf (.jump 0 [.v 0,.v 1,.v 2])))
 (.op (.call 144 F144 [.v 9,.v 10,.v 11,.v 7,.v 8] 4 []) <|
 .op (.call 130 F130 [.v 13,.v 14,.v 15,.v 7] 4 []) <|
 .leaf (.jump 0 [.v 17,.v 18,.v 19]))
def F152 := Fo fir152
def s152 : Sig := ⟨61,[.c (.ptr 0 0),.c (.p .str (.v 7)),cs 8],[.box [pi 0,pi 1,ps 2,pi 3,pi 4,.p .bool (.v 5),ps 6,.mp 1],.map],9,3,.tup [],[(1,.map),(0,(.box [pi 9,pi 10,.own 2,pi 3,pi 4,.p .bool (.v 5),ps 6,.mp 1])),(2,(.row 109 (.v 11)))],F152,152⟩
theorem ok152 : s152.ok Tryz.prog := okS fir152 TT_ok (.cons ok144 (.cons ok135 (.cons ok132 (.cons ok130 (.cons ok109 .nil))))) Tryz.func61 (by kernel_rfl) (by kernel_rfl) rfl
def fir153 : Fir :=
 .join
 (.loop [.i 0]
 (.op (.len (.v 6)) <|
 .op (.bi .lss .i64 (.v 7) (.v 8)) <|
 .ite (.v 9)
 (.op (.row (.v 6) (.v 7) 14) <|
 .op (.cl (.v 10) 0 (.int .i64)) <|
 .op (.cl (.v 10) 1 (.int .i64)) <|
 .op (.cl (.v 10) 2 (.int .i64)) <|
 .op (.cl (.v 10) 3 (.int .i64)) <|
 .op (.cl (.v 10) 4 .sl) <|
 .op (.cl (.v 10) 5 .sl) <|
 .op (.cl (.v 10) 6 .sl) <|
 .op (.cl (.v 10) 7 .sl) <|
 .op (.cl (.v 10) 8 .sl) <|
 .op (.cl (.v 10) 9 .sl) <|
 .op (.cl (.v 10) 10 .sl) <|
 .op (.cl (.v 10) 11 .sl) <|
 .op (.cl (.v 10) 12 (.int .i64)) <|
 .op (.cl (.v 10) 13 (.int .i64)) <|
 .op (.bi .neq .i64 (.v 13) (.i 2)) <|
 .ite (.v 25)
 (.op (.bi .add .i64 (.v 7) (.i 1)) <|
 .leaf (.jump 0 [.v 26]))
 (.op (.call 56 F56 [.i 1,.v 3,.v 11] 1 []) <|
 .op (.call 143 F143 [.v 0,.v 1,.v 2,.v 26] 2 []) <|
 .op (.call 72 F72 [.v 27] 4 []) <|
 .op (.call 79 F79 (w 15 10) 1 []) <|
 .op (.call 126 F126 ([.v 27] ++ w 30 4) 13 []) <|
 .join
 (.loop [.i 0,.v 0,.v 1,.v 2]
 (.op (.len (.v 35)) <|
 .op (.bi .lss .i64 (.v 47) (.v 51)) <|
 .ite (.v 52)
 (.op (.call 68 F68 [.v 3,.v 11,.v 47] 1 []) <|
 .op (.row (.v 35) (.v 47) 1) <|
 .op (.rc (.v 35) (.v 47) 0 .sl) <|
 .op (.call 152 F152 ([.v 48,.v 49,.v 50] ++ w 3 4 ++ [.v 53,.v 55]) 3 []) <|
 .op (.bi .add .i64 (.v 47) (.i 1)) <|
 .leaf (.jump 0 [.v 59,.v 56,.v 57,.v 58]))
 (.leaf (.jump 1 [.v 48,.v 49,.v 50]))))
 (.op (.call 95 F95 (w 36 11) 2 [1]) <|
 .op (.call 56 F56 [.i 4,.v 3,.v 11] 1 []) <|
 .op (.call 152 F152 ([.v 47,.v 48,.v 49] ++ w 3 4 ++ [.v 52,.v 51]) 3 []) <|
 .op (.call 129 F129 [.v 53,.v 54,.v 55,.v 26] 4 []) <|
 .op (.call 101 F101 (w 11 14) 15 []) <|
 .op (.call 118 F118 (w 3 4 ++ w 61 14) 5 []) <|
 .leaf (.jump 2 ([.b true,.v 57,.v 58,.v 59] ++ w 76 4)))))
 (.leaf (.jump 1 []))))
 (.leaf (.jump 0 ([.b false] ++ w 0 7)))
def F153 := Fo fir153
def s153 : Sig := ⟨31,[.c (.ptr 0 0)],[.box [pi 0,pi 1,ps 2,pi 3,pi 4,.p .bool (.v 5),ps 6,.mp 1],.map],7,8,.v (.c (.p .bool (.v 7))),[(1,.map),(0,(.box [pi 8,pi 9,ps 10,pi 11,pi 12,.p .bool (.v 13),ps 14,.mp 1]))],F153,153⟩
theorem ok153 : s153.ok Tryz.prog := okS fir153 TT_ok (.cons ok152 (.cons ok145 (.cons ok143 (.cons ok142 (.cons ok139 (.cons ok138 (.cons ok136 (.cons ok129 (.cons ok126 (.cons ok118 (.cons ok101 (.cons ok95 (.cons ok79 (.cons ok72 (.cons ok68 (.cons ok56 .nil)))))))))))))))) Tryz.func31 (by kernel_rfl) (by kernel_rfl) rfl
def fir154 : Fir :=
 .op (.call 120 F120 (w 3 4) 5 []) <|
 .op (.bi .neq .i64 (.v 7) (.i 0)) <|
 .ite (.v 12)
 (.leaf (.jump 0 ([.b false,.v 0,.v 1] ++ w 3 4)))
 (.op (.len (.v 6)) <|
 .op (.bi .sub .i64 (.v 13) (.i 1)) <|
 .op (.row (.v 6) (.v 14) 14) <|
 .op (.cl (.v 15) 0 (.int .i64)) <|
 .op (.bi .add .i64 (.v 16) (.i 1)) <|
 .op (.call 141 F141 ([.v 0,.v 1,.v 2] ++ w 8 4 ++ [.v 17]) 3 []) <|
 .op (.call 56 F56 [.i 3,.v 8,.v 16] 1 []) <|
 .op (.call 152 F152 ([.v 18,.v 19,.v 20] ++ w 8 4 ++ [.v 21,.r0]) 3 []) <|
 .leaf (.jump 0 ([.b true,.v 22,.v 23] ++ w 8 4)))
def F154 := Fo fir154
def s154 : Sig := ⟨30,[.c (.ptr 0 0)],[.box [pi 0,pi 1,.own 1,pi 3,pi 4,.p .bool (.v 5),ps 6,.mp 2],.row 109 (.v 2),.map],7,7,.v (.c (.p .bool (.v 7))),[(2,.map),(0,(.box [pi 8,pi 9,.dead,pi 10,pi 11,.p .bool (.v 12),ps 13,.mp 2]))],F154,154⟩
theorem ok154 : s154.ok Tryz.prog := okS fir154 TT_ok (.cons ok152 (.cons ok146 (.cons ok145 (.cons ok142 (.cons ok141 (.cons ok140 (.cons ok139 (.cons ok138 (.cons ok137 (.cons ok136 (.cons ok120 (.cons ok56 .nil)))))))))))) Tryz.func30 (by kernel_rfl) (by kernel_rfl) rfl
def fir155 : Fir :=
 .op (.call 120 F120 (w 3 4) 5 []) <|
 .op (.bi .neq .i64 (.v 7) (.i 0)) <|
 .ite (.v 12)
 (.leaf (.jump 0 ([.b false] ++ w 0 7)))
 (.op (.len (.v 6)) <|
 .op (.bi .sub .i64 (.v 13) (.i 1)) <|
 .op (.row (.v 6) (.v 14) 14) <|
 .op (.cl (.v 15) 0 (.int .i64)) <|
 .op (.bi .add .i64 (.v 16) (.i 1)) <|
 .op (.call 141 F141 ([.v 0,.v 1,.v 2] ++ w 8 4 ++ [.v 17]) 3 []) <|
 .op (.call 56 F56 [.i 3,.v 8,.v 16] 1 []) <|
 .op (.call 152 F152 ([.v 18,.v 19,.v 20] ++ w 8 4 ++ [.v 21,.r0]) 3 []) <|
 .leaf (.jump 0 ([.b true,.v 22,.v 23,.v 24] ++ w 8 4)))
def F155 := Fo fir155
def s155 : Sig := ⟨30,[.c (.ptr 0 0)],[.box [pi 0,pi 1,ps 2,pi 3,pi 4,.p .bool (.v 5),ps 6,.mp 1],.map],7,8,.v (.c (.p .bool (.v 7))),[(1,.map),(0,(.box [pi 8,pi 9,ps 10,pi 11,pi 12,.p .bool (.v 13),ps 14,.mp 1]))],F155,155⟩
theorem ok155 : s155.ok Tryz.prog := okS fir155 TT_ok (.cons ok152 (.cons ok146 (.cons ok145 (.cons ok142 (.cons ok141 (.cons ok140 (.cons ok139 (.cons ok138 (.cons ok137 (.cons ok136 (.cons ok120 (.cons ok56 .nil)))))))))))) Tryz.func30 (by kernel_rfl) (by kernel_rfl) rfl
def F1166 : List L → Option (List L) := fun _ => none
def s1166 : Sig := ⟨259,[cs 0,ci 1,ci 2,.c (.fn 190 [])],[],3,0,.tup [.c (.p (.int .i64) (.i 0)),.c (.p (.int .i64) (.i 0))],[],F1166,1166⟩
theorem ok1166 : s1166.ok Tryz.prog := fun _ _ _ h => by
 have h : (none : Option (List L)) = some _ := h
 cases h
def F1167 : List L → Option (List L) := fun _ => none
def s1167 : Sig := ⟨259,[.c (.own 0),ci 1,ci 2,.c (.fn 190 [])],[.row 25 (.v 0)],3,0,.tup [.c (.p (.int .i64) (.i 0)),.c (.p (.int .i64) (.i 0))],[(0,(.row 25 (.v 0)))],F1167,1167⟩
theorem ok1167 : s1167.ok Tryz.prog := fun _ _ _ h => by
 have h : (none : Option (List L)) = some _ := h
 cases h
def fir156 : Fir :=
 .op (.call 149 F149 [.i 1,.i 9000] 6 []) <|
 .join
 (.loop [.i 0,.v 2,.v 3,.v 7,.v 4,.v 5,.b false,.v 6]
 (.join
 (.op (.len (.v 0)) <|
 .op (.bi .lss .i64 (.v 8) (.v 16)) <|
 .ite (.v 17)
 (.op (.bi .lss .i64 (.v 8) (.v 1)) <|
 .leaf (.jump 0 [.v 18]))
 (.leaf (.jump 0 [.b false])))
 (.ite (.v 16)
 (.join
 (.op (.row (.v 0) (.v 8) 4) <|
 .op (.cl (.v 17) 0 (.int .i64)) <|
 .op (.cl (.v 17) 1 .sl) <|
 .op (.cl (.v 17) 2 (.int .i64)) <|
 .op (.cl (.v 17) 3 .sl) <|
 .op (.bi .and .i64 (.v 18) (.i 7)) <|
 .join
 (.op (.bi .eql .i64 (.v 22) (.i 0)) <|
 .ite (.v 23)
 (.leaf (.jump 0 [.v 23]))
 (.op (.bi .eql .i64 (.v 22) (.i 1)) <|
 .ite (.v 24)
 (.leaf (.jump 0 [.v 24]))
 (.op (.bi .eql .i64 (.v 22) (.i 2)) <|
 .leaf (.jump 0 [.v 25]))))
 (.ite (.v 23)
 (.op (.call 2004 F2004 [.v 19,.i 4] 1 []) <|
 .loop ([.i 0] ++ w 9 7)
 (.op (.len (.v 24)) <|
 .op (.bi .lss .i64 (.v 25) (.v 33)) <|
 .ite (.v 34)
 (.join
 (.op (.row (.v 24) (.v 25) 4) <|
 .op (.cl (.v 35) 2 .bool) <|
 .ite (.v 36)
 (.op (.row (.v 24) (.v 25) 4) <|
 .op (.cl (.v 37) 0 (.int .u64)) <|
 .op (.call 151 F151 (w 26 7 ++ [.v 38]) 7 []) <|
 .leaf (.jump 0 (w 39 7)))
 (.op (.bi .add .i64 (.v 25) (.i 1)) <|
 .op (.len (.v 24)) <|
 .op (.part (.v 24) (.v 25) (.v 37) 4) <|
 .op (.call 150 F150 (w 26 7 ++ [.v 39]) 8 []) <|
 .leaf (.jump 0 (w 41 7))))
 (.op (.bi .add .i64 (.v 25) (.i 1)) <|
 .leaf (.jump 0 ([.v 42] ++ w 35 7))))
 (.leaf (.jump 1 (w 26 7)))))
 (.join
 (.op (.bi .eql .i64 (.v 22) (.i 3)) <|
 .ite (.v 24)
 (.leaf (.jump 0 [.v 24]))
 (.op (.bi .eql .i64 (.v 22) (.i 4)) <|
 .leaf (.jump 0 [.v 25])))
 (.ite (.v 24)
 (.op (.call 155 F155 (w 9 7) 8 []) <|
 .leaf (.jump 0 (w 26 7)))
 (.op (.bi .eql .i64 (.v 22) (.i 5)) <|
 .ite (.v 25)
 (.loop ([.i 0] ++ w 9 7)
 (.join
 (.op (.len (.v 21)) <|
 .op (.bi .lss .i64 (.v 26) (.v 34)) <|
 .ite (.v 35)
 (.op (.bi .lss .i64 (.v 26) (.i 3)) <|
 .leaf (.jump 0 [.v 36]))
 (.leaf (.jump 0 [.b false])))
 (.ite (.v 34)
 (.op (.row (.v 21) (.v 26) 1) <|
 .op (.cl (.v 35) 0 (.int .u64)) <|
 .op (.bi .and .u64 (.v 36) (.i 7)) <|
 .op (.call 151 F151 (w 27 7 ++ [.v 37]) 7 []) <|
 .op (.bi .add .i64 (.v 26) (.i 1)) <|
 .leaf (.jump 0 ([.v 45] ++ w 38 7)))
 (.leaf (.jump 1 (w 27 7))))))
 (.join
 (.op (.bi .eql .i64 (.v 22) (.i 6)) <|
 .ite (.v 26)
 (.leaf (.jump 0 [.v 26]))
 (.op (.bi .eql .i64 (.v 22) (.i 7)) <|
 .leaf (.jump 0 [.v 27])))
 (.ite (.v 26)
 (.op (.call 153 F153 (w 9 7) 8 []) <|
 .leaf (.jump 0 (w 28 7)))
 (.leaf (.jump 0 (w 9 7))))))))))
 (.op (.bi .add .i64 (.v 8) (.i 1)) <|
 .leaf (.jump 0 ([.v 24] ++ w 17 7))))
 (.leaf (.jump 1 (w 9 7))))))
 (.leaf (.jump 0 (w 8 7)))
def F156 := Fo fir156
def s156 : Sig := ⟨11,[cs 0,ci 1],[],2,7,.v (.agg [pi 2,pi 3,ps 4,pi 5,pi 6,.p .bool (.v 7),ps 8,.mp 0]),[(0,.map)],F156,156⟩
theorem ok156 : s156.ok Tryz.prog := okS fir156 TT_ok (.cons ok155 (.cons ok154 (.cons ok153 (.cons ok151 (.cons ok150 (.cons ok149 (.cons ok148 (.cons ok147 (.cons ok2004 (.cons ok59 .nil)))))))))) Tryz.func11 (by kernel_rfl) (by kernel_rfl) rfl
def F1169 : List L → Option (List L) := fun _ => none
def s1169 : Sig := ⟨262,[cs 0,ci 1,ci 2,ci 3,.c (.fn 190 [])],[],4,0,.v (.c (.p (.int .i64) (.i 0))),[],F1169,1169⟩
theorem ok1169 : s1169.ok Tryz.prog := fun _ _ _ h => by
 have h : (none : Option (List L)) = some _ := h
 cases h
end
end
section
open Go.RowKit
set_option maxRecDepth 100000
set_option maxHeartbeats 4000000
noncomputable section
def F1170 : List L → Option (List L) := fun _ => none
def s1170 : Sig := ⟨262,[.c (.own 0),ci 1,ci 2,ci 3,.c (.fn 190 [])],[.row 25 (.v 0)],4,0,.v (.c (.p (.int .i64) (.i 0))),[(0,(.row 25 (.v 0)))],F1170,1170⟩
theorem ok1170 : s1170.ok Tryz.prog := fun _ _ _ h => by
 have h : (none : Option (List L)) = some _ := h
 cases h
def fir157 : Fir :=
 .join
 (.op (.len (.v 0)) <|
 .loop [.i 0]
 (.op (.bi .lss .i64 (.v 3) (.v 2)) <|
 .ite (.v 4)
 (.op (.row (.v 0) (.v 3) 1) <|
 .op (.cl (.v 5) 0 (.int .u64)) <|
 .op (.bi .eql .u64 (.v 1) (.v 6)) <|
 .ite (.v 7)
 (.leaf (.jump 2 [.v 3]))
 (.op (.bi .add .i64 (.v 3) (.i 1)) <|
 .leaf (.jump 0 [.v 8])))
 (.leaf (.jump 1 []))))
 (.leaf (.jump 0 [.i (-1)]))
def F157 := Fo fir157
def s157 : Sig := ⟨266,[cs 0,.c (.p (.int .u64) (.v 1))],[],2,1,.v (ci 2),[],F157,157⟩
theorem ok157 : s157.ok Tryz.prog := okS fir157 TT_ok .nil Tryz.func266 (by kernel_rfl) (by kernel_rfl) rfl
def fir158 : Fir :=
 .op (.call 157 F157 [.r0,.v 0] 1 []) <|
 .op (.bi .geq .i64 (.v 1) (.i 0)) <|
 .leaf (.jump 0 [.v 2])
def F158 := Fo fir158
def s158 : Sig := ⟨229,[.c .nil,.c (.p (.int .u64) (.v 0))],[],1,1,.v (.c (.p .bool (.v 1))),[],F158,158⟩
theorem ok158 : s158.ok Tryz.prog := okS fir158 TT_ok (.cons ok157 .nil) Tryz.func229 (by kernel_rfl) (by kernel_rfl) rfl
def fir159 : Fir :=
 .op (.call 158 F158 [.v 0] 1 []) <|
 .leaf (.jump 0 [.v 4])
def F159 := Fo fir159
def s159 : Sig := ⟨228,[.agg [.p (.int .u64) (.v 0),.p (.int .u32) (.v 1),pi 2,pi 3],.c (.ptr 0 0)],[.box [.nil]],4,1,.v (.c (.p .bool (.v 4))),[(0,(.box [.nil]))],F159,159⟩
theorem ok159 : s159.ok Tryz.prog := okS fir159 TT_ok (.cons ok158 .nil) Tryz.func228 (by kernel_rfl) (by kernel_rfl) rfl
def fir160 : Fir :=
 .op (.call 157 F157 [.v 0,.v 1] 1 []) <|
 .op (.bi .geq .i64 (.v 2) (.i 0)) <|
 .leaf (.jump 0 [.v 3])
def F160 := Fo fir160
def s160 : Sig := ⟨229,[cs 0,.c (.p (.int .u64) (.v 1))],[],2,1,.v (.c (.p .bool (.v 2))),[],F160,160⟩
theorem ok160 : s160.ok Tryz.prog := okS fir160 TT_ok (.cons ok157 .nil) Tryz.func229 (by kernel_rfl) (by kernel_rfl) rfl
def fir161 : Fir :=
 .op (.call 160 F160 [.v 4,.v 0] 1 []) <|
 .leaf (.jump 0 [.v 5])
def F161 := Fo fir161
def s161 : Sig := ⟨228,[.agg [.p (.int .u64) (.v 0),.p (.int .u32) (.v 1),pi 2,pi 3],.c (.ptr 0 0)],[.box [ps 4]],5,1,.v (.c (.p .bool (.v 5))),[(0,(.box [ps 4]))],F161,161⟩
theorem ok161 : s161.ok Tryz.prog := okS fir161 TT_ok (.cons ok160 (.cons ok158 .nil)) Tryz.func228 (by kernel_rfl) (by kernel_rfl) rfl
def fir162 : Fir :=
 .join
 (.op (.len (.v 0)) <|
 .loop [.i 0]
 (.op (.bi .lss .i64 (.v 2) (.v 1)) <|
 .ite (.v 3)
 (.op (.row (.v 0) (.v 2) 4) <|
 .op (.rc (.v 0) (.v 2) 0 (.int .u64)) <|
 .op (.rc (.v 0) (.v 2) 1 (.int .u32)) <|
 .op (.rc (.v 0) (.v 2) 2 (.int .i64)) <|
 .op (.rc (.v 0) (.v 2) 3 (.int .i64)) <|
 .op (.call 161 F161 [.v 5,.v 6,.v 7,.v 8,.r0] 1 []) <|
 .ite (.v 9)
 (.leaf (.jump 2 [.v 2]))
 (.op (.bi .add .i64 (.v 2) (.i 1)) <|
 .leaf (.jump 0 [.v 10])))
 (.leaf (.jump 1 []))))
 (.leaf (.jump 0 [.i (-1)]))
def F162 := Fo fir162
def s162 : Sig := ⟨208,[.c (.own 0),.c (.fn 228 [1])],[.row 25 (.v 0),.box [.nil]],1,1,.v (ci 1),[(0,(.row 25 (.v 0))),(1,(.box [.p .sl .r0]))],F162,162⟩
theorem ok162 : s162.ok Tryz.prog := okS fir162 TT_ok (.cons ok161 (.cons ok159 .nil)) Tryz.func208 (by kernel_rfl) (by kernel_rfl) rfl
def fir163 : Fir :=
 .op (.call 162 F162 [.v 0] 1 []) <|
 .op (.bi .eql .i64 (.v 1) (.i (-1))) <|
 .ite (.v 2)
 (.leaf (.jump 0 []))
 (.join
 (.op (.bi .add .i64 (.v 1) (.i 1)) <|
 .loop [.v 1,.v 3,.v 0]
 (.op (.len (.v 6)) <|
 .op (.bi .lss .i64 (.v 5) (.v 7)) <|
 .ite (.v 8)
 (.join
 (.op (.row (.v 6) (.v 5) 4) <|
 .op (.rc (.v 6) (.v 5) 0 (.int .u64)) <|
 .op (.rc (.v 6) (.v 5) 1 (.int .u32)) <|
 .op (.rc (.v 6) (.v 5) 2 (.int .i64)) <|
 .op (.rc (.v 6) (.v 5) 3 (.int .i64)) <|
 .op (.call 161 F161 [.v 10,.v 11,.v 12,.v 13,.r0] 1 []) <|
 .op (.not (.v 14)) <|
 .ite (.v 15)
 (.op (.row (.v 6) (.v 4) 4) <|
 .op (.set (.v 6) (.v 4) 0 [((.int .u64),(.v 10)),((.int .u32),(.v 11)),((.int .i64),(.v 12)),((.int .i64),(.v 13))]) <|
 .op (.bi .add .i64 (.v 4) (.i 1)) <|
 .leaf (.jump 0 [.v 18,.v 17]))
 (.leaf (.jump 0 [.v 4,.v 6])))
 (.op (.bi .add .i64 (.v 5) (.i 1)) <|
 .leaf (.jump 0 [.v 9,.v 11,.v 10])))
 (.leaf (.jump 1 [.v 4,.v 6]))))
 (.op (.len (.v 4)) <|
 .op (.cut (.v 4) (.v 3) (.v 5) 4) <|
 .op (.bnd (.i 0) 0) <|
 .leaf (.jump 0 [])))
def F163 := Fo fir163
def s163 : Sig := ⟨227,[.c (.own 0),.c (.fn 228 [1])],[.row 25 (.v 0),.box [.nil]],1,0,.v (.c (.own 0)),[(1,(.box [.p .sl .r0])),(0,(.row 25 (.v 0)))],F163,163⟩
theorem ok163 : s163.ok Tryz.prog := okS fir163 TTy_ok (.cons ok162 (.cons ok161 (.cons ok159 (.cons ok84 .nil)))) Tryz.func227 (by kernel_rfl) (by kernel_rfl) rfl
end
end
section
open Go.RowKit
set_option maxRecDepth 100000
set_option maxHeartbeats 4000000
noncomputable section
def fir166 : Fir :=
 .op (.call 134 F134 [] 1 []) <|
 .op (.call 163 F163 [.v 1] 0 []) <|
 .op (.call 123 F123 [.v 0] 1 [0]) <|
 .op (.app (.v 1) (.v 2) 4 32) <|
 .op (.call 123 F123 [.v 3] 1 [0]) <|
 .leaf (.jump 0 [.v 4])
def F166 := Fo fir166
def s166 : Sig := ⟨192,[.c .nil,.c (.own 0),.c .nil],[.row 25 (.v 0)],1,1,.v (.c (.own 1)),[(0,(.row 25 (.v 0))),(1,(.row 25 (.v 1)))],F166,166⟩
theorem ok166 : s166.ok Tryz.prog := okS fir166 TT_ok (.cons ok163 (.cons ok134 (.cons ok123 .nil))) Tryz.func192 (by kernel_rfl) (by kernel_rfl) rfl
def fir167 : Fir :=
 .op (.call 92 F92 [.r0,.r0,.r0,.r0,.r0,.r0,.r0,.r0,.v 0,.v 1] 1 []) <|
 .op (.not (.v 2)) <|
 .ite (.v 3)
 (.leaf (.jump 0 [.r0]))
 (.op (.lit [[(.sl,.r0)],[(.sl,.r0)],[(.sl,.r0)],[(.sl,.r0)],[(.sl,.r0)],[(.sl,.r0)],[(.sl,.r0)],[(.sl,.r0)]]) <|
 .op (.call 64 F64 [.v 4] 1 []) <|
 .op (.call 166 F166 [.v 5] 1 []) <|
 .leaf (.jump 0 [.v 6]))
def F167 := Fo fir167
def s167 : Sig := ⟨143,[.agg [.nil,.nil,.nil,.nil,.nil,.nil,.nil,.nil,pi 0,pi 1]],[],2,1,.v (.c (.own 0)),[(0,(.row 25 (.v 2)))],F167,167⟩
theorem ok167 : s167.ok Tryz.prog := okS fir167 TT_ok (.cons ok166 (.cons ok92 (.cons ok64 .nil))) Tryz.func143 (by kernel_rfl) (by kernel_rfl) rfl
def F1182 : List L → Option (List L) := fun _ => none
def s1182 : Sig := ⟨263,[cs 0,ci 1,ci 2,ci 3,.c (.fn 190 [])],[],4,0,.tup [.c (.p (.int .i64) (.i 0)),.c (.p .bool (.b false))],[],F1182,1182⟩
theorem ok1182 : s1182.ok Tryz.prog := fun _ _ _ h => by
 have h : (none : Option (List L)) = some _ := h
 cases h
def F1183 : List L → Option (List L) := fun _ => none
def s1183 : Sig := ⟨263,[.c (.own 0),ci 1,ci 2,ci 3,.c (.fn 190 [])],[.row 25 (.v 0)],4,0,.tup [.c (.p (.int .i64) (.i 0)),.c (.p .bool (.b false))],[(0,(.row 25 (.v 0)))],F1183,1183⟩
theorem ok1183 : s1183.ok Tryz.prog := fun _ _ _ h => by
 have h : (none : Option (List L)) = some _ := h
 cases h
def fir168 : Fir :=
 .op (.call 92 F92 [.v 0,.v 1,.v 2,.v 3,.v 4,.v 5,.v 6,.v 7,.v 8,.v 9] 1 []) <|
 .op (.not (.v 10)) <|
 .ite (.v 11)
 (.leaf (.jump 0 [.r0]))
 (.op (.lit [[(.sl,(.v 0))],[(.sl,(.v 1))],[(.sl,(.v 2))],[(.sl,(.v 3))],[(.sl,(.v 4))],[(.sl,(.v 5))],[(.sl,(.v 6))],[(.sl,(.v 7))]]) <|
 .op (.call 64 F64 [.v 12] 1 []) <|
 .op (.call 166 F166 [.v 13] 1 []) <|
 .leaf (.jump 0 [.v 14]))
def F168 := Fo fir168
def s168 : Sig := ⟨143,[.agg (wps 0 8 ++ [pi 8,pi 9])],[],10,1,.v (.c (.own 0)),[(0,(.row 25 (.v 10)))],F168,168⟩
theorem ok168 : s168.ok Tryz.prog := okS fir168 TT_ok (.cons ok166 (.cons ok92 (.cons ok64 .nil))) Tryz.func143 (by kernel_rfl) (by kernel_rfl) rfl
def F1185 : List L → Option (List L) := fun _ => none
def s1185 : Sig := ⟨224,[cs 0,ci 1,ci 2,ci 3,.c (.fn 190 [])],[],4,0,.tup [],[],F1185,1185⟩
theorem ok1185 : s1185.ok Tryz.prog := fun _ _ _ h => by
 have h : (none : Option (List L)) = some _ := h
 cases h
end
end
section
open Go.RowKit
set_option maxRecDepth 100000
set_option maxHeartbeats 4000000
noncomputable section
def F1186 : List L → Option (List L) := fun _ => none
def s1186 : Sig := ⟨224,[.c (.own 0),ci 1,ci 2,ci 3,.c (.fn 190 [])],[.row 25 (.v 0)],4,0,.tup [],[(0,(.row 25 (.v 0)))],F1186,1186⟩
theorem ok1186 : s1186.ok Tryz.prog := fun _ _ _ h => by
 have h : (none : Option (List L)) = some _ := h
 cases h
def fir171 : Fir :=
 .op (.call 168 F168 [.v 0,.v 1,.v 2,.v 3,.v 4,.v 5,.v 6,.v 7,.v 8,.v 9] 1 []) <|
 .op (.len (.v 10)) <|
 .leaf (.jump 0 [.v 11])
def F171 := Fo fir171
def s171 : Sig := ⟨85,[.agg (wps 0 8 ++ [pi 8,pi 9])],[],10,1,.v (ci 10),[],F171,171⟩
theorem ok171 : s171.ok Tryz.prog := okS fir171 TT_ok (.cons ok168 (.cons ok167 .nil)) Tryz.func85 (by kernel_rfl) (by kernel_rfl) rfl
end
end
section
open Go.RowKit
set_option maxRecDepth 100000
set_option maxHeartbeats 4000000
noncomputable section
def fir177 : Fir :=
 .loop [.v 1,.v 2,.v 3,.b true,.b true]
 (.op (.bi .sub .i64 (.v 5) (.v 4)) <|
 .op (.bi .leq .i64 (.v 9) (.i 12)) <|
 .ite (.v 10)
 (.op (.call 133 F133 [.v 0,.v 4,.v 5] 1 []) <|
 .leaf (.jump 1 [.v 11]))
 (.op (.bi .eql .i64 (.v 6) (.i 0)) <|
 .ite (.v 11)
 (.op (.call 1145 F1145 [.v 0,.v 4,.v 5] 0 []) <|
 .leaf (.jump 1 [.v 0]))
 (.join
 (.op (.not (.v 7)) <|
 .ite (.v 12)
 (.op (.call 1161 F1161 [.v 0,.v 4,.v 5] 0 []) <|
 .op (.bi .sub .i64 (.v 6) (.i 1)) <|
 .leaf (.jump 0 [.v 13]))
 (.leaf (.jump 0 [.v 6])))
 (.op (.call 1167 F1167 [.v 0,.v 4,.v 5] 0 []) <|
 .join
 (.ite (.v 7)
 (.ite (.v 8)
 (.leaf (.jump 0 []))
 (.leaf (.jump 0 [])))
 (.leaf (.jump 0 [])))
 (.join
 (.op (.bi .gtr .i64 (.v 4) (.i 0)) <|
 .ite (.v 13)
 (.op (.bi .sub .i64 (.v 4) (.i 1)) <|
 .op (.row (.v 0) (.v 14) 4) <|
 .op (.rc (.v 0) (.v 14) 0 (.int .u64)) <|
 .op (.rc (.v 0) (.v 14) 1 (.int .u32)) <|
 .op (.rc (.v 0) (.v 14) 2 (.int .i64)) <|
 .op (.rc (.v 0) (.v 14) 3 (.int .i64)) <|
 .op (.row (.v 0) (.i 0) 4) <|
 .op (.rc (.v 0) (.i 0) 0 (.int .u64)) <|
 .op (.rc (.v 0) (.i 0) 1 (.int .u32)) <|
 .op (.rc (.v 0) (.i 0) 2 (.int .i64)) <|
 .op (.rc (.v 0) (.i 0) 3 (.int .i64)) <|
 .op (.call 13 F13 [.v 16,.v 17,.v 18,.v 19,.v 21,.v 22,.v 23,.v 24] 1 []) <|
 .op (.bi .lss .i64 (.v 25) (.i 0)) <|
 .op (.not (.v 26)) <|
 .leaf (.jump 0 [.v 27]))
 (.leaf (.jump 0 [.b false])))
 (.ite (.v 13)
 (.op (.call 1170 F1170 [.v 0,.v 4,.v 5,.i 0] 0 []) <|
 .leaf (.jump 0 [.i 0,.v 5,.v 12,.v 7,.v 8]))
 (.op (.call 1183 F1183 [.v 0,.v 4,.v 5,.i 0] 0 []) <|
 .op (.bi .sub .i64 (.i 0) (.v 4)) <|
 .op (.bi .sub .i64 (.v 5) (.i 0)) <|
 .op (.bi .quo .i64 (.v 9) (.i 8)) <|
 .op (.bi .lss .i64 (.v 14) (.v 15)) <|
 .ite (.v 17)
 (.op (.bi .geq .i64 (.v 14) (.v 16)) <|
 .op (.call 1186 F1186 [.v 0,.v 4,.i 0,.v 12] 0 []) <|
 .leaf (.jump 0 [.i 1,.v 5,.v 12,.v 18,.b false]))
 (.op (.bi .geq .i64 (.v 15) (.v 16)) <|
 .op (.call 1186 F1186 [.v 0,.i 1,.v 5,.v 12] 0 []) <|
 .leaf (.jump 0 [.v 4,.i 0,.v 12,.v 18,.b false])))))))))
def F177 := Fo fir177
def s177 : Sig := ⟨224,[.c (.own 0),ci 1,ci 2,ci 3,.c (.fn 190 [])],[.row 25 (.v 0)],4,1,.tup [],[(0,(.row 25 (.v 4)))],F177,177⟩
theorem ok177 : s177.ok Tryz.prog := okS fir177 TT_ok (.cons ok1186 (.cons ok1185 (.cons ok1183 (.cons ok1182 (.cons ok1170 (.cons ok1169 (.cons ok1167 (.cons ok1166 (.cons ok1161 (.cons ok1160 (.cons ok1145 (.cons ok1144 (.cons ok133 (.cons ok85 (.cons ok13 .nil))))))))))))))) Tryz.func224 (by kernel_rfl) (by kernel_rfl) rfl
def F1201 : List L → Option (List L) := fun _ => none
def s1201 : Sig := ⟨42,[.agg ([.p (.int .u64) (.v 0),.p (.int .u32) (.v 1)] ++ wpi 2 4 ++ [.p (.int .u64) (.v 6),.p (.int .u32) (.v 7),pi 8,pi 9,pi 10]),.agg [pi 11,pi 12,.own 0],.agg [pi 14,pi 15,.p .bool (.v 16),.own 1]],[.row 127 (.v 13),.row 131 (.v 17)],18,0,.tup [.agg [.p (.int .u64) (.i 0),.p (.int .u32) (.i 0),.p (.int .i64) (.i 0),.p (.int .i64) (.i 0),.p (.int .i64) (.i 0),.p (.int .i64) (.i 0),.p (.int .u64) (.i 0),.p (.int .u32) (.i 0),.p (.int .i64) (.i 0),.p (.int .i64) (.i 0),.p (.int .i64) (.i 0)],.c .nil],[(0,(.row 127 (.v 13))),(1,(.row 131 (.v 17)))],F1201,1201⟩
theorem ok1201 : s1201.ok Tryz.prog := fun _ _ _ h => by
 have h : (none : Option (List L)) = some _ := h
 cases h
end
end
section
open Go.RowKit
set_option maxRecDepth 100000
set_option maxHeartbeats 4000000
noncomputable section
end
end
end Go.Proofs.YtndegphojkiblaaGreatDoor
