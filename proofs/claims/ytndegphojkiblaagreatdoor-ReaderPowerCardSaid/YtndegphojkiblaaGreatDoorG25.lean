/- Towards the last file's theorem: part 25. -/
import Derived.Test.YtndegphojkiblaaGreatDoorG24
import Derived.WalkKit
set_option linter.unusedSimpArgs false
set_option linter.unusedVariables false
namespace Go.Proofs.YtndegphojkiblaaGreatDoor
section
open Go.RowKit
set_option maxRecDepth 100000
set_option maxHeartbeats 4000000
noncomputable section
def fir24 : Fir :=
 .join
 (.op (.call 22 F22 [.v 0,.v 1] 1 []) <|
 .ite (.v 3)
 (.op (.len (.v 2)) <|
 .op (.bi .mul .i64 (.v 0) (.v 1)) <|
 .op (.bi .eql .i64 (.v 4) (.v 5)) <|
 .leaf (.jump 0 [.v 6]))
 (.leaf (.jump 0 [.b false])))
 (.leaf (.jump 0 [.v 3]))
def F24 := Fo fir24
def s24 : Sig := ⟨252,[.agg [pi 0,pi 1,ps 2]],[],3,1,.v (.c (.p .bool (.v 3))),[],F24,24⟩
theorem ok24 : s24.ok Tryz.prog := okS fir24 TT_ok (.cons ok22 .nil) Tryz.func252 (by kernel_rfl) (by kernel_rfl) rfl
def fir25 : Fir :=
 .join
 (.op (.call 24 F24 [.v 0,.v 1,.v 2] 1 []) <|
 .op (.not (.v 4)) <|
 .ite (.v 5)
 (.leaf (.jump 0 [.b true]))
 (.op (.len (.v 3)) <|
 .op (.call 22 F22 [.v 6,.v 1] 1 []) <|
 .op (.not (.v 7)) <|
 .leaf (.jump 0 [.v 8])))
 (.ite (.v 4)
 (.leaf (.jump 0 [.i 1,.i 0,.i 0,.r0]))
 (.op (.len (.v 3)) <|
 .join
 (.loop [.i 0,.r0]
 (.op (.len (.v 3)) <|
 .op (.bi .lss .i64 (.v 6) (.v 8)) <|
 .ite (.v 9)
 (.join
 (.op (.row (.v 3) (.v 6) 1) <|
 .op (.cl (.v 10) 0 (.int .i64)) <|
 .op (.bi .lss .i64 (.v 11) (.i 0)) <|
 .ite (.v 12)
 (.leaf (.jump 0 [.b true]))
 (.op (.row (.v 3) (.v 6) 1) <|
 .op (.cl (.v 13) 0 (.int .i64)) <|
 .op (.bi .geq .i64 (.v 14) (.v 0)) <|
 .leaf (.jump 0 [.v 15])))
 (.ite (.v 10)
 (.leaf (.jump 2 [.i 1,.i 0,.i 0,.r0]))
 (.op (.row (.v 3) (.v 6) 1) <|
 .op (.cl (.v 11) 0 (.int .i64)) <|
 .op (.bi .mul .i64 (.v 12) (.v 1)) <|
 .op (.row (.v 3) (.v 6) 1) <|
 .op (.cl (.v 14) 0 (.int .i64)) <|
 .op (.bi .add .i64 (.v 15) (.i 1)) <|
 .op (.bi .mul .i64 (.v 16) (.v 1)) <|
 .op (.len (.v 2)) <|
 .op (.part (.v 2) (.v 13) (.v 17) 1) <|
 .op (.app (.v 7) (.v 19) 1 1) <|
 .op (.bi .add .i64 (.v 6) (.i 1)) <|
 .leaf (.jump 0 [.v 21,.v 20]))))
 (.leaf (.jump 1 [.v 7]))))
 (.leaf (.jump 0 [.i 0,.v 5,.v 1,.v 6]))))
def F25 := Fo fir25
def s25 : Sig := ⟨244,[.agg [pi 0,pi 1,ps 2],cs 3],[],4,4,.tup [.agg [pi 5,pi 6,.own 0],ci 4],[(0,(.row 5 (.v 7)))],F25,25⟩
theorem ok25 : s25.ok Tryz.prog := okS fir25 TT_ok (.cons ok24 (.cons ok22 .nil)) Tryz.func244 (by kernel_rfl) (by kernel_rfl) rfl
def fir26 : Fir :=
 .op (.len (.v 0)) <|
 .op (.bi .neq .i64 (.v 2) (.v 1)) <|
 .ite (.v 3)
 (.leaf (.jump 0 [.b false]))
 (.join
 (.loop [.i 0]
 (.op (.bi .lss .i64 (.v 4) (.v 1)) <|
 .ite (.v 5)
 (.op (.row (.v 0) (.v 4) 1) <|
 .op (.cl (.v 6) 0 .sl) <|
 .op (.len (.v 7)) <|
 .op (.row (.v 0) (.i 0) 1) <|
 .op (.cl (.v 9) 0 .sl) <|
 .op (.len (.v 10)) <|
 .op (.bi .neq .i64 (.v 8) (.v 11)) <|
 .ite (.v 12)
 (.leaf (.jump 2 [.b false]))
 (.op (.bi .add .i64 (.v 4) (.i 1)) <|
 .leaf (.jump 0 [.v 13])))
 (.leaf (.jump 1 []))))
 (.leaf (.jump 0 [.b true])))
def F26 := Fo fir26
def s26 : Sig := ⟨179,[cs 0,ci 1],[],2,1,.v (.c (.p .bool (.v 2))),[],F26,26⟩
theorem ok26 : s26.ok Tryz.prog := okS fir26 TT_ok .nil Tryz.func179 (by kernel_rfl) (by kernel_rfl) rfl
def fir29 : Fir :=
 .op (.mx (.i (-1)) (.v 3)) <|
 .leaf (.jump 0 [.v 4])
def F29 := Fo fir29
def s29 : Sig := ⟨14,[.agg [pi 0,pi 1,ps 2],ci 3],[],4,1,.v (.agg [pi 0,pi 4,ps 2]),[],F29,29⟩
theorem ok29 : s29.ok Tryz.prog := okS fir29 TT_ok .nil Tryz.func14 (by kernel_rfl) (by kernel_rfl) rfl
def fir30 : Fir :=
 .join
 (.loop [.b false,.i 0,.r0]
 (.op (.len (.v 2)) <|
 .op (.bi .lss .i64 (.v 7) (.v 9)) <|
 .ite (.v 10)
 (.join
 (.join
 (.join
 (.op (.not (.v 6)) <|
 .ite (.v 11)
 (.op (.row (.v 2) (.v 7) 3) <|
 .op (.cl (.v 12) 0 .str) <|
 .op (.bs .geq (.v 13) (.v 3)) <|
 .leaf (.jump 0 [.v 14]))
 (.leaf (.jump 0 [.b false])))
 (.ite (.v 11)
 (.op (.lit [[(.str,(.v 3)),(.sl,(.v 4)),(.sl,(.v 5))]]) <|
 .op (.app (.v 8) (.v 12) 3 64) <|
 .leaf (.jump 0 [.b true,.v 13]))
 (.leaf (.jump 0 [.v 6,.v 8]))))
 (.op (.row (.v 2) (.v 7) 3) <|
 .op (.cl (.v 13) 0 .str) <|
 .op (.bs .neq (.v 14) (.v 3)) <|
 .ite (.v 15)
 (.op (.row (.v 2) (.v 7) 3) <|
 .op (.cl (.v 16) 0 .str) <|
 .op (.cl (.v 16) 1 .sl) <|
 .op (.cl (.v 16) 2 .sl) <|
 .op (.lit [[(.str,(.v 17)),(.sl,(.v 18)),(.sl,(.v 19))]]) <|
 .op (.app (.v 12) (.v 20) 3 64) <|
 .leaf (.jump 0 [.v 11,.v 21]))
 (.leaf (.jump 0 [.v 11,.v 12]))))
 (.op (.bi .add .i64 (.v 7) (.i 1)) <|
 .leaf (.jump 0 [.v 11,.v 13,.v 12])))
 (.leaf (.jump 1 [.v 6,.v 8]))))
 (.join
 (.op (.not (.v 6)) <|
 .ite (.v 8)
 (.op (.lit [[(.str,(.v 3)),(.sl,(.v 4)),(.sl,(.v 5))]]) <|
 .op (.app (.v 7) (.v 9) 3 64) <|
 .leaf (.jump 0 [.v 10]))
 (.leaf (.jump 0 [.v 7])))
 (.leaf (.jump 0 [.v 8])))
def F30 := Fo fir30
def s30 : Sig := ⟨172,[.agg [pi 0,pi 1,ps 2],.agg [.p .str (.v 3),ps 4,ps 5]],[],6,1,.v (.agg [pi 0,pi 1,.own 0]),[(0,(.row 109 (.v 6)))],F30,30⟩
theorem ok30 : s30.ok Tryz.prog := okS fir30 TT_ok .nil Tryz.func172 (by kernel_rfl) (by kernel_rfl) rfl
def fir31 : Fir :=
 .op (.lit []) <|
 .op (.app (.v 3) (.v 2) 3 64) <|
 .join
 (.op (.bi .gtr .i64 (.v 1) (.i 0)) <|
 .ite (.v 5)
 (.op (.bi .sub .i64 (.v 1) (.i 1)) <|
 .leaf (.jump 0 [.v 6]))
 (.leaf (.jump 0 [.v 1])))
 (.leaf (.jump 0 [.v 5,.v 4]))
def F31 := Fo fir31
def s31 : Sig := ⟨49,[.agg [pi 0,pi 1,ps 2]],[],3,2,.v (.agg [pi 0,pi 3,.own 0]),[(0,(.row 109 (.v 4)))],F31,31⟩
theorem ok31 : s31.ok Tryz.prog := okS fir31 TT_ok .nil Tryz.func49 (by kernel_rfl) (by kernel_rfl) rfl
end
end
section
open Go.RowKit
set_option maxRecDepth 100000
set_option maxHeartbeats 4000000
noncomputable section
def fir32 : Fir :=
 .join
 (.loop [.i 0]
 (.op (.len (.v 2)) <|
 .op (.bi .lss .i64 (.v 4) (.v 5)) <|
 .ite (.v 6)
 (.op (.row (.v 2) (.v 4) 3) <|
 .op (.cl (.v 7) 0 .str) <|
 .op (.bs .eql (.v 8) (.v 3)) <|
 .ite (.v 9)
 (.leaf (.jump 2 [.v 4]))
 (.op (.bi .add .i64 (.v 4) (.i 1)) <|
 .leaf (.jump 0 [.v 10])))
 (.leaf (.jump 1 []))))
 (.leaf (.jump 0 [.i (-1)]))
def F32 := Fo fir32
def s32 : Sig := ⟨47,[.agg [pi 0,pi 1,ps 2],.c (.p .str (.v 3))],[],4,1,.v (ci 4),[],F32,32⟩
theorem ok32 : s32.ok Tryz.prog := okS fir32 TT_ok .nil Tryz.func47 (by kernel_rfl) (by kernel_rfl) rfl
def fir33 : Fir :=
 .op (.lit []) <|
 .op (.app (.v 4) (.v 0) 1 1) <|
 .ite (.v 3)
 (.op (.len (.v 5)) <|
 .op (.mn (.v 6) (.v 1)) <|
 .op (.len (.v 5)) <|
 .op (.cut (.v 5) (.i 0) (.v 7) 1) <|
 .op (.tk (.v 5) (.v 9)) <|
 .leaf (.jump 0 [.v 10]))
 (.join
 (.loop [.v 5]
 (.op (.len (.v 6)) <|
 .op (.bi .lss .i64 (.v 7) (.v 1)) <|
 .ite (.v 8)
 (.op (.lit [[((.int .u8),(.i 0))]]) <|
 .op (.app (.v 6) (.v 9) 1 1) <|
 .leaf (.jump 0 [.v 10]))
 (.leaf (.jump 1 [.v 6]))))
 (.op (.len (.v 2)) <|
 .op (.bi .add .i64 (.v 1) (.v 7)) <|
 .op (.len (.v 6)) <|
 .op (.bi .gtr .i64 (.v 8) (.v 9)) <|
 .ite (.v 10)
 (.op (.len (.v 6)) <|
 .op (.cut (.v 6) (.i 0) (.v 1) 1) <|
 .op (.tk (.v 6) (.v 12)) <|
 .op (.app (.v 13) (.v 2) 1 1) <|
 .leaf (.jump 0 [.v 14]))
 (.op (.len (.v 6)) <|
 .op (.cut (.v 6) (.v 1) (.v 8) 1) <|
 .op (.cpy (.v 6) (.v 1) (.v 12) (.v 2) 1) <|
 .leaf (.jump 0 [.v 13]))))
def F33 := Fo fir33
def s33 : Sig := ⟨146,[cs 0,.agg [pi 1,ps 2,.p .bool (.v 3)]],[],4,1,.v (.c (.own 0)),[(0,(.row 5 (.v 4)))],F33,33⟩
theorem ok33 : s33.ok Tryz.prog := okS fir33 TT_ok .nil Tryz.func146 (by kernel_rfl) (by kernel_rfl) rfl
def fir34 : Fir :=
 .join
 (.loop [.i 0]
 (.op (.slen (.v 0)) <|
 .op (.bi .lss .i64 (.v 1) (.v 2)) <|
 .ite (.v 3)
 (.op (.sidx (.v 0) (.v 1)) <|
 .join
 (.op (.bi .geq .u8 (.v 4) (.i 97)) <|
 .ite (.v 5)
 (.op (.bi .leq .u8 (.v 4) (.i 122)) <|
 .ite (.v 6)
 (.op (.not (.b true)) <|
 .leaf (.jump 0 [.v 7]))
 (.op (.bi .geq .u8 (.v 4) (.i 48)) <|
 .ite (.v 7)
 (.op (.bi .leq .u8 (.v 4) (.i 57)) <|
 .ite (.v 8)
 (.op (.not (.b true)) <|
 .leaf (.jump 0 [.v 9]))
 (.op (.bi .eql .u8 (.v 4) (.i 46)) <|
 .ite (.v 9)
 (.op (.not (.b true)) <|
 .leaf (.jump 0 [.v 10]))
 (.op (.bi .eql .u8 (.v 4) (.i 45)) <|
 .op (.not (.v 10)) <|
 .leaf (.jump 0 [.v 11]))))
 (.op (.bi .eql .u8 (.v 4) (.i 46)) <|
 .ite (.v 8)
 (.op (.not (.b true)) <|
 .leaf (.jump 0 [.v 9]))
 (.op (.bi .eql .u8 (.v 4) (.i 45)) <|
 .op (.not (.v 9)) <|
 .leaf (.jump 0 [.v 10])))))
 (.op (.bi .geq .u8 (.v 4) (.i 48)) <|
 .ite (.v 6)
 (.op (.bi .leq .u8 (.v 4) (.i 57)) <|
 .ite (.v 7)
 (.op (.not (.b true)) <|
 .leaf (.jump 0 [.v 8]))
 (.op (.bi .eql .u8 (.v 4) (.i 46)) <|
 .ite (.v 8)
 (.op (.not (.b true)) <|
 .leaf (.jump 0 [.v 9]))
 (.op (.bi .eql .u8 (.v 4) (.i 45)) <|
 .op (.not (.v 9)) <|
 .leaf (.jump 0 [.v 10]))))
 (.op (.bi .eql .u8 (.v 4) (.i 46)) <|
 .ite (.v 7)
 (.op (.not (.b true)) <|
 .leaf (.jump 0 [.v 8]))
 (.op (.bi .eql .u8 (.v 4) (.i 45)) <|
 .op (.not (.v 8)) <|
 .leaf (.jump 0 [.v 9])))))
 (.ite (.v 5)
 (.leaf (.jump 2 [.b false]))
 (.op (.bi .add .i64 (.v 1) (.i 1)) <|
 .leaf (.jump 0 [.v 6]))))
 (.leaf (.jump 1 []))))
 (.join
 (.op (.slen (.v 0)) <|
 .op (.bi .geq .i64 (.v 1) (.i 1)) <|
 .ite (.v 2)
 (.op (.slen (.v 0)) <|
 .op (.bi .leq .i64 (.v 3) (.i 40)) <|
 .leaf (.jump 0 [.v 4]))
 (.leaf (.jump 0 [.b false])))
 (.leaf (.jump 0 [.v 1])))
def F34 := Fo fir34
def s34 : Sig := ⟨46,[.c (.p .str (.v 0))],[],1,1,.v (.c (.p .bool (.v 1))),[],F34,34⟩
theorem ok34 : s34.ok Tryz.prog := okS fir34 TT_ok .nil Tryz.func46 (by kernel_rfl) (by kernel_rfl) rfl
def fir35 : Fir :=
 .op (.mx (.i 0) (.v 0)) <|
 .leaf (.jump 0 [.v 1])
def F35 := Fo fir35
def s35 : Sig := ⟨33,[ci 0],[],1,1,.v (.agg [pi 1,.p (.int .i64) (.i (-1)),.nil]),[],F35,35⟩
theorem ok35 : s35.ok Tryz.prog := okS fir35 TT_ok .nil Tryz.func33 (by kernel_rfl) (by kernel_rfl) rfl
def fir36 : Fir :=
 .join
 (.loop [.v 0,.i 0]
 (.op (.bi .lss .i64 (.v 2) (.i 8)) <|
 .ite (.v 3)
 (.join
 (.op (.bi .and .u32 (.v 1) (.i 1)) <|
 .op (.bi .eql .u32 (.v 4) (.i 1)) <|
 .ite (.v 5)
 (.op (.bi .shr .u32 (.v 1) (.i 1)) <|
 .op (.bi .xor .u32 (.v 6) (.i 2197175160)) <|
 .leaf (.jump 0 [.v 7]))
 (.op (.bi .shr .u32 (.v 1) (.i 1)) <|
 .leaf (.jump 0 [.v 6])))
 (.op (.bi .add .i64 (.v 2) (.i 1)) <|
 .leaf (.jump 0 [.v 4,.v 5])))
 (.leaf (.jump 1 [.v 1]))))
 (.leaf (.jump 0 [.v 1]))
def F36 := Fo fir36
def s36 : Sig := ⟨223,[.c (.p (.int .u32) (.v 0))],[],1,1,.v (.c (.p (.int .u32) (.v 1))),[],F36,36⟩
theorem ok36 : s36.ok Tryz.prog := okS fir36 TT_ok .nil Tryz.func223 (by kernel_rfl) (by kernel_rfl) rfl
def fir37 : Fir :=
 .op (.un .xor .u32 (.v 0)) <|
 .join
 (.loop [.v 2,.i 0]
 (.op (.len (.v 1)) <|
 .op (.bi .lss .i64 (.v 4) (.v 5)) <|
 .ite (.v 6)
 (.op (.row (.v 1) (.v 4) 1) <|
 .op (.cl (.v 7) 0 (.int .u8)) <|
 .op (.conv .u32 (.v 8)) <|
 .op (.bi .xor .u32 (.v 3) (.v 9)) <|
 .op (.call 36 F36 [.v 10] 1 []) <|
 .op (.bi .add .i64 (.v 4) (.i 1)) <|
 .leaf (.jump 0 [.v 11,.v 12]))
 (.leaf (.jump 1 [.v 3]))))
 (.op (.un .xor .u32 (.v 3)) <|
 .leaf (.jump 0 [.v 4]))
def F37 := Fo fir37
def s37 : Sig := ⟨181,[.c (.p (.int .u32) (.v 0)),cs 1],[],2,1,.v (.c (.p (.int .u32) (.v 2))),[],F37,37⟩
theorem ok37 : s37.ok Tryz.prog := okS fir37 TT_ok (.cons ok36 .nil) Tryz.func181 (by kernel_rfl) (by kernel_rfl) rfl
def fir38 : Fir :=
 .op (.call 37 F37 [.i 0,.v 0] 1 []) <|
 .leaf (.jump 0 [.v 1])
def F38 := Fo fir38
def s38 : Sig := ⟨129,[cs 0],[],1,1,.v (.c (.p (.int .u32) (.v 1))),[],F38,38⟩
theorem ok38 : s38.ok Tryz.prog := okS fir38 TT_ok (.cons ok37 .nil) Tryz.func129 (by kernel_rfl) (by kernel_rfl) rfl
def fir39 : Fir :=
 .join
 (.op (.bi .geq .i64 (.v 0) (.i 0)) <|
 .ite (.v 3)
 (.op (.bi .lss .i64 (.v 0) (.i 4)) <|
 .ite (.v 4)
 (.op (.bi .geq .i64 (.v 1) (.i 1)) <|
 .ite (.v 5)
 (.op (.bi .leq .i64 (.v 1) (.i 8)) <|
 .ite (.v 6)
 (.op (.bi .geq .i64 (.v 2) (.i 0)) <|
 .ite (.v 7)
 (.op (.bi .lss .i64 (.v 2) (.i 4294967296)) <|
 .leaf (.jump 0 [.v 8]))
 (.leaf (.jump 0 [.b false])))
 (.leaf (.jump 0 [.b false])))
 (.leaf (.jump 0 [.b false])))
 (.leaf (.jump 0 [.b false])))
 (.leaf (.jump 0 [.b false])))
 (.leaf (.jump 0 [.v 3]))
def F39 := Fo fir39
def s39 : Sig := ⟨126,[.agg [pi 0,pi 1,pi 2]],[],3,1,.v (.c (.p .bool (.v 3))),[],F39,39⟩
theorem ok39 : s39.ok Tryz.prog := okS fir39 TT_ok .nil Tryz.func126 (by kernel_rfl) (by kernel_rfl) rfl
end
end
section
open Go.RowKit
set_option maxRecDepth 100000
set_option maxHeartbeats 4000000
noncomputable section
def fir40 : Fir :=
 .join
 (.loop [.i 0,.i 0]
 (.op (.len (.v 0)) <|
 .op (.bi .lss .i64 (.v 2) (.v 3)) <|
 .ite (.v 4)
 (.op (.bi .shl .u64 (.v 1) (.i 8)) <|
 .op (.row (.v 0) (.v 2) 1) <|
 .op (.cl (.v 6) 0 (.int .u8)) <|
 .op (.conv .u64 (.v 7)) <|
 .op (.bi .or .u64 (.v 5) (.v 8)) <|
 .op (.bi .add .i64 (.v 2) (.i 1)) <|
 .leaf (.jump 0 [.v 9,.v 10]))
 (.leaf (.jump 1 [.v 1]))))
 (.leaf (.jump 0 [.v 1]))
def F40 := Fo fir40
def s40 : Sig := ⟨125,[cs 0],[],1,1,.v (.c (.p (.int .u64) (.v 1))),[],F40,40⟩
theorem ok40 : s40.ok Tryz.prog := okS fir40 TT_ok .nil Tryz.func125 (by kernel_rfl) (by kernel_rfl) rfl
def fir41 : Fir :=
 .op (.call 38 F38 [.v 0] 1 []) <|
 .op (.conv .u8 (.v 1)) <|
 .op (.bi .shr .u32 (.v 1) (.i 8)) <|
 .op (.conv .u8 (.v 3)) <|
 .op (.bi .shr .u32 (.v 1) (.i 16)) <|
 .op (.conv .u8 (.v 5)) <|
 .op (.bi .shr .u32 (.v 1) (.i 24)) <|
 .op (.conv .u8 (.v 7)) <|
 .op (.lit [[((.int .u8),(.v 2))],[((.int .u8),(.v 4))],[((.int .u8),(.v 6))],[((.int .u8),(.v 8))]]) <|
 .leaf (.jump 0 [.v 9])
def F41 := Fo fir41
def s41 : Sig := ⟨124,[cs 0],[],1,1,.v (.c (.own 0)),[(0,(.row 5 (.v 1)))],F41,41⟩
theorem ok41 : s41.ok Tryz.prog := okS fir41 TT_ok (.cons ok38 .nil) Tryz.func124 (by kernel_rfl) (by kernel_rfl) rfl
def fir42 : Fir :=
 .join
 (.op (.bi .sub .i64 (.v 1) (.i 1)) <|
 .loop [.v 2,.r0]
 (.op (.bi .geq .i64 (.v 3) (.i 0)) <|
 .ite (.v 5)
 (.op (.bi .mul .i64 (.i 8) (.v 3)) <|
 .op (.conv .u64 (.v 6)) <|
 .op (.bi .shr .u64 (.v 0) (.v 7)) <|
 .op (.conv .u8 (.v 8)) <|
 .op (.lit [[((.int .u8),(.v 9))]]) <|
 .op (.app (.v 4) (.v 10) 1 1) <|
 .op (.bi .sub .i64 (.v 3) (.i 1)) <|
 .leaf (.jump 0 [.v 12,.v 11]))
 (.leaf (.jump 1 [.v 4]))))
 (.leaf (.jump 0 [.v 2]))
def F42 := Fo fir42
def s42 : Sig := ⟨132,[.c (.p (.int .u64) (.v 0)),ci 1],[],2,1,.v (.c (.own 0)),[(0,(.row 5 (.v 2)))],F42,42⟩
theorem ok42 : s42.ok Tryz.prog := okS fir42 TT_ok .nil Tryz.func132 (by kernel_rfl) (by kernel_rfl) rfl
def fir43 : Fir :=
 .join
 (.op (.len (.v 3)) <|
 .op (.bi .leq .i64 (.v 4) (.i 4096)) <|
 .ite (.v 5)
 (.ite (.v 2)
 (.op (.len (.v 3)) <|
 .op (.bi .gtr .i64 (.v 6) (.i 0)) <|
 .op (.not (.v 7)) <|
 .leaf (.jump 0 [.v 8]))
 (.op (.not (.b false)) <|
 .leaf (.jump 0 [.v 6])))
 (.leaf (.jump 0 [.b false])))
 (.leaf (.jump 0 [.v 4]))
def F43 := Fo fir43
def s43 : Sig := ⟨137,[.agg [.p (.int .u64) (.v 0),.p (.int .u32) (.v 1),.p .bool (.v 2),ps 3]],[],4,1,.v (.c (.p .bool (.v 4))),[],F43,43⟩
theorem ok43 : s43.ok Tryz.prog := okS fir43 TT_ok .nil Tryz.func137 (by kernel_rfl) (by kernel_rfl) rfl
def fir44 : Fir :=
 .join
 (.op (.bi .lss .i64 (.v 0) (.i 0)) <|
 .ite (.v 1)
 (.leaf (.jump 0 [.b true]))
 (.op (.bi .gtr .i64 (.v 0) (.i 4096)) <|
 .leaf (.jump 0 [.v 2])))
 (.ite (.v 1)
 (.leaf (.jump 0 [.i 0]))
 (.op (.bi .add .i64 (.i 20) (.v 0)) <|
 .op (.bi .add .i64 (.v 2) (.i 4)) <|
 .op (.bi .add .i64 (.v 3) (.i 7)) <|
 .op (.bi .quo .i64 (.v 4) (.i 8)) <|
 .op (.bi .mul .i64 (.v 5) (.i 8)) <|
 .leaf (.jump 0 [.v 6])))
def F44 := Fo fir44
def s44 : Sig := ⟨79,[ci 0],[],1,1,.v (ci 1),[],F44,44⟩
theorem ok44 : s44.ok Tryz.prog := okS fir44 TT_ok .nil Tryz.func79 (by kernel_rfl) (by kernel_rfl) rfl
def fir45 : Fir :=
 .join
 (.op (.len (.v 0)) <|
 .op (.bi .sub .i64 (.v 2) (.i 1)) <|
 .loop [.v 3]
 (.op (.bi .geq .i64 (.v 4) (.i 0)) <|
 .ite (.v 5)
 (.op (.row (.v 0) (.v 4) 4) <|
 .op (.cl (.v 6) 0 (.int .u64)) <|
 .op (.bi .eql .u64 (.v 7) (.v 1)) <|
 .ite (.v 8)
 (.op (.row (.v 0) (.v 4) 4) <|
 .op (.cl (.v 9) 0 (.int .u64)) <|
 .op (.cl (.v 9) 1 (.int .u32)) <|
 .op (.cl (.v 9) 2 (.int .i64)) <|
 .op (.cl (.v 9) 3 (.int .i64)) <|
 .leaf (.jump 2 [.b true,.v 10,.v 11,.v 12,.v 13]))
 (.op (.bi .sub .i64 (.v 4) (.i 1)) <|
 .leaf (.jump 0 [.v 9])))
 (.leaf (.jump 1 []))))
 (.leaf (.jump 0 [.b false,.i 0,.i 0,.i 0,.i 0]))
def F45 := Fo fir45
def s45 : Sig := ⟨82,[cs 0,.c (.p (.int .u64) (.v 1))],[],2,5,.tup [.agg [.p (.int .u64) (.v 3),.p (.int .u32) (.v 4),pi 5,pi 6],.c (.p .bool (.v 2))],[],F45,45⟩
theorem ok45 : s45.ok Tryz.prog := okS fir45 TT_ok .nil Tryz.func82 (by kernel_rfl) (by kernel_rfl) rfl
def fir46 : Fir :=
 .join
 (.loop [.i 0,.r0]
 (.op (.len (.v 0)) <|
 .op (.bi .lss .i64 (.v 1) (.v 3)) <|
 .ite (.v 4)
 (.join
 (.loop [.i 0]
 (.join
 (.op (.len (.v 2)) <|
 .op (.bi .lss .i64 (.v 5) (.v 6)) <|
 .ite (.v 7)
 (.op (.row (.v 2) (.v 5) 4) <|
 .op (.rc (.v 2) (.v 5) 0 (.int .u64)) <|
 .op (.row (.v 0) (.v 1) 4) <|
 .op (.cl (.v 10) 0 (.int .u64)) <|
 .op (.bi .lss .u64 (.v 9) (.v 11)) <|
 .leaf (.jump 0 [.v 12]))
 (.leaf (.jump 0 [.b false])))
 (.ite (.v 6)
 (.op (.bi .add .i64 (.v 5) (.i 1)) <|
 .leaf (.jump 0 [.v 7]))
 (.leaf (.jump 1 [.v 5])))))
 (.op (.lit []) <|
 .op (.len (.v 2)) <|
 .op (.cut (.v 2) (.v 5) (.v 7) 4) <|
 .op (.vw (.v 2) (.v 5) (.v 8)) <|
 .op (.app (.v 6) (.v 9) 4 32) <|
 .join
 (.join
 (.op (.len (.v 10)) <|
 .op (.bi .gtr .i64 (.v 11) (.i 0)) <|
 .ite (.v 12)
 (.op (.row (.v 10) (.i 0) 4) <|
 .op (.rc (.v 10) (.i 0) 0 (.int .u64)) <|
 .op (.row (.v 0) (.v 1) 4) <|
 .op (.cl (.v 15) 0 (.int .u64)) <|
 .op (.bi .eql .u64 (.v 14) (.v 16)) <|
 .leaf (.jump 0 [.v 17]))
 (.leaf (.jump 0 [.b false])))
 (.ite (.v 11)
 (.op (.len (.v 10)) <|
 .op (.cut (.v 10) (.i 1) (.v 12) 4) <|
 .op (.vw (.v 10) (.i 1) (.v 13)) <|
 .leaf (.jump 0 [.v 14]))
 (.leaf (.jump 0 [.v 10]))))
 (.op (.len (.v 2)) <|
 .op (.cut (.v 2) (.i 0) (.v 5) 4) <|
 .op (.row (.v 0) (.v 1) 4) <|
 .op (.cl (.v 14) 0 (.int .u64)) <|
 .op (.cl (.v 14) 1 (.int .u32)) <|
 .op (.cl (.v 14) 2 (.int .i64)) <|
 .op (.cl (.v 14) 3 (.int .i64)) <|
 .op (.lit [[((.int .u64),(.v 15)),((.int .u32),(.v 16)),((.int .i64),(.v 17)),((.int .i64),(.v 18))]]) <|
 .op (.tk (.v 2) (.v 13)) <|
 .op (.app (.v 20) (.v 19) 4 32) <|
 .op (.app (.v 21) (.v 11) 4 32) <|
 .op (.bi .add .i64 (.v 1) (.i 1)) <|
 .leaf (.jump 0 [.v 23,.v 22]))))
 (.leaf (.jump 1 [.v 2]))))
 (.leaf (.jump 0 [.v 1]))
def F46 := Fo fir46
def s46 : Sig := ⟨131,[cs 0],[],1,1,.v (.c (.own 0)),[(0,(.row 25 (.v 1)))],F46,46⟩
theorem ok46 : s46.ok Tryz.prog := okS fir46 TT_ok .nil Tryz.func131 (by kernel_rfl) (by kernel_rfl) rfl
def fir47 : Fir :=
 .join
 (.op (.bi .geq .i64 (.v 2) (.i 16)) <|
 .ite (.v 4)
 (.op (.bi .leq .i64 (.v 2) (.i 1048576)) <|
 .ite (.v 5)
 (.op (.bi .rem .i64 (.v 2) (.i 8)) <|
 .op (.bi .eql .i64 (.v 6) (.i 0)) <|
 .ite (.v 7)
 (.op (.bi .geq .i64 (.v 3) (.i 0)) <|
 .ite (.v 8)
 (.op (.bi .leq .i64 (.v 3) (.i 4096)) <|
 .leaf (.jump 0 [.v 9]))
 (.leaf (.jump 0 [.b false])))
 (.leaf (.jump 0 [.b false])))
 (.leaf (.jump 0 [.b false])))
 (.leaf (.jump 0 [.b false])))
 (.leaf (.jump 0 [.v 4]))
def F47 := Fo fir47
def s47 : Sig := ⟨186,[.agg [.p (.int .u64) (.v 0),.p (.int .u32) (.v 1),pi 2,pi 3]],[],4,1,.v (.c (.p .bool (.v 4))),[],F47,47⟩
theorem ok47 : s47.ok Tryz.prog := okS fir47 TT_ok .nil Tryz.func186 (by kernel_rfl) (by kernel_rfl) rfl
end
end
section
open Go.RowKit
set_option maxRecDepth 100000
set_option maxHeartbeats 4000000
noncomputable section
def fir48 : Fir :=
 .join
 (.loop [.i 0]
 (.op (.len (.v 0)) <|
 .op (.bi .lss .i64 (.v 1) (.v 2)) <|
 .ite (.v 3)
 (.join
 (.op (.row (.v 0) (.v 1) 4) <|
 .op (.cl (.v 4) 0 (.int .u64)) <|
 .op (.cl (.v 4) 1 (.int .u32)) <|
 .op (.cl (.v 4) 2 (.int .i64)) <|
 .op (.cl (.v 4) 3 (.int .i64)) <|
 .op (.call 47 F47 [.v 5,.v 6,.v 7,.v 8] 1 []) <|
 .op (.not (.v 9)) <|
 .ite (.v 10)
 (.leaf (.jump 0 [.b true]))
 (.op (.bi .gtr .i64 (.v 1) (.i 0)) <|
 .ite (.v 11)
 (.op (.row (.v 0) (.v 1) 4) <|
 .op (.cl (.v 12) 0 (.int .u64)) <|
 .op (.bi .sub .i64 (.v 1) (.i 1)) <|
 .op (.row (.v 0) (.v 14) 4) <|
 .op (.cl (.v 15) 0 (.int .u64)) <|
 .op (.bi .leq .u64 (.v 13) (.v 16)) <|
 .leaf (.jump 0 [.v 17]))
 (.leaf (.jump 0 [.b false]))))
 (.ite (.v 4)
 (.leaf (.jump 2 [.b false]))
 (.op (.bi .add .i64 (.v 1) (.i 1)) <|
 .leaf (.jump 0 [.v 5]))))
 (.leaf (.jump 1 []))))
 (.leaf (.jump 0 [.b true]))
def F48 := Fo fir48
def s48 : Sig := ⟨166,[cs 0],[],1,1,.v (.c (.p .bool (.v 1))),[],F48,48⟩
theorem ok48 : s48.ok Tryz.prog := okS fir48 TT_ok (.cons ok47 .nil) Tryz.func166 (by kernel_rfl) (by kernel_rfl) rfl
def fir49 : Fir :=
 .join
 (.loop [.i 0,.i 0]
 (.op (.len (.v 0)) <|
 .op (.bi .lss .i64 (.v 2) (.v 3)) <|
 .ite (.v 4)
 (.op (.row (.v 0) (.v 2) 4) <|
 .op (.cl (.v 5) 3 (.int .i64)) <|
 .op (.call 44 F44 [.v 6] 1 []) <|
 .op (.bi .add .i64 (.v 1) (.v 7)) <|
 .op (.bi .add .i64 (.v 2) (.i 1)) <|
 .leaf (.jump 0 [.v 8,.v 9]))
 (.leaf (.jump 1 [.v 1]))))
 (.leaf (.jump 0 [.v 1]))
def F49 := Fo fir49
def s49 : Sig := ⟨183,[cs 0],[],1,1,.v (ci 1),[],F49,49⟩
theorem ok49 : s49.ok Tryz.prog := okS fir49 TT_ok (.cons ok44 .nil) Tryz.func183 (by kernel_rfl) (by kernel_rfl) rfl
def fir50 : Fir :=
 .op (.bi .mul .u64 (.v 0) (.i 11400714819323198485)) <|
 .op (.bi .shr .u64 (.v 1) (.i 61)) <|
 .op (.conv .i64 (.v 2)) <|
 .leaf (.jump 0 [.v 3])
def F50 := Fo fir50
def s50 : Sig := ⟨182,[.c (.p (.int .u64) (.v 0))],[],1,1,.v (ci 1),[],F50,50⟩
theorem ok50 : s50.ok Tryz.prog := okS fir50 TT_ok .nil Tryz.func182 (by kernel_rfl) (by kernel_rfl) rfl
def fir51 : Fir :=
 .join
 (.loop [.i 0]
 (.op (.len (.v 0)) <|
 .op (.bi .lss .i64 (.v 2) (.v 3)) <|
 .ite (.v 4)
 (.op (.row (.v 0) (.v 2) 4) <|
 .op (.cl (.v 5) 0 (.int .u64)) <|
 .op (.cl (.v 5) 1 (.int .u32)) <|
 .op (.cl (.v 5) 2 (.int .i64)) <|
 .op (.cl (.v 5) 3 (.int .i64)) <|
 .op (.call 47 F47 (w 6 4) 1 []) <|
 .op (.not (.v 10)) <|
 .ite (.v 11)
 (.leaf (.jump 2 [.i 0,.i 0,.r0,.r0,.r0,.r0,.r0,.r0,.r0,.r0]))
 (.op (.bi .add .i64 (.v 2) (.i 1)) <|
 .leaf (.jump 0 [.v 12])))
 (.leaf (.jump 1 []))))
 (.join
 (.op (.bi .lss .i64 (.v 1) (.i 0)) <|
 .ite (.v 2)
 (.leaf (.jump 0 [.b true]))
 (.op (.bi .gtr .i64 (.v 1) (.i 1099511627776)) <|
 .leaf (.jump 0 [.v 3])))
 (.ite (.v 2)
 (.leaf (.jump 0 [.i 0,.i 0,.r0,.r0,.r0,.r0,.r0,.r0,.r0,.r0]))
 (.op (.call 46 F46 [.v 0] 1 []) <|
 .op (.call 49 F49 [.v 3] 1 []) <|
 .join
 (.loop [.i 0,.r0,.r0,.r0,.r0,.r0,.r0,.r0,.r0]
 (.op (.len (.v 3)) <|
 .op (.bi .lss .i64 (.v 5) (.v 14)) <|
 .ite (.v 15)
 (.join
 (.op (.row (.v 3) (.v 5) 4) <|
 .op (.rc (.v 3) (.v 5) 0 (.int .u64)) <|
 .op (.call 50 F50 [.v 17] 1 []) <|
 .op (.bi .eql .i64 (.v 18) (.i 0)) <|
 .ite (.v 19)
 (.op (.row (.v 3) (.v 5) 4) <|
 .op (.rc (.v 3) (.v 5) 0 (.int .u64)) <|
 .op (.rc (.v 3) (.v 5) 1 (.int .u32)) <|
 .op (.rc (.v 3) (.v 5) 2 (.int .i64)) <|
 .op (.rc (.v 3) (.v 5) 3 (.int .i64)) <|
 .op (.lit [[((.int .u64),(.v 21)),((.int .u32),(.v 22)),((.int .i64),(.v 23)),((.int .i64),(.v 24))]]) <|
 .op (.app (.v 6) (.v 25) 4 32) <|
 .leaf (.jump 0 ([.v 26] ++ w 7 7)))
 (.op (.bi .eql .i64 (.v 18) (.i 1)) <|
 .ite (.v 20)
 (.op (.row (.v 3) (.v 5) 4) <|
 .op (.rc (.v 3) (.v 5) 0 (.int .u64)) <|
 .op (.rc (.v 3) (.v 5) 1 (.int .u32)) <|
 .op (.rc (.v 3) (.v 5) 2 (.int .i64)) <|
 .op (.rc (.v 3) (.v 5) 3 (.int .i64)) <|
 .op (.lit [[((.int .u64),(.v 22)),((.int .u32),(.v 23)),((.int .i64),(.v 24)),((.int .i64),(.v 25))]]) <|
 .op (.app (.v 7) (.v 26) 4 32) <|
 .leaf (.jump 0 ([.v 6,.v 27] ++ w 8 6)))
 (.op (.bi .eql .i64 (.v 18) (.i 2)) <|
 .ite (.v 21)
 (.op (.row (.v 3) (.v 5) 4) <|
 .op (.rc (.v 3) (.v 5) 0 (.int .u64)) <|
 .op (.rc (.v 3) (.v 5) 1 (.int .u32)) <|
 .op (.rc (.v 3) (.v 5) 2 (.int .i64)) <|
 .op (.rc (.v 3) (.v 5) 3 (.int .i64)) <|
 .op (.lit [[((.int .u64),(.v 23)),((.int .u32),(.v 24)),((.int .i64),(.v 25)),((.int .i64),(.v 26))]]) <|
 .op (.app (.v 8) (.v 27) 4 32) <|
 .leaf (.jump 0 ([.v 6,.v 7,.v 28] ++ w 9 5)))
 (.op (.bi .eql .i64 (.v 18) (.i 3)) <|
 .ite (.v 22)
 (.op (.row (.v 3) (.v 5) 4) <|
 .op (.rc (.v 3) (.v 5) 0 (.int .u64)) <|
 .op (.rc (.v 3) (.v 5) 1 (.int .u32)) <|
 .op (.rc (.v 3) (.v 5) 2 (.int .i64)) <|
 .op (.rc (.v 3) (.v 5) 3 (.int .i64)) <|
 .op (.lit [[((.int .u64),(.v 24)),((.int .u32),(.v 25)),((.int .i64),(.v 26)),((.int .i64),(.v 27))]]) <|
 .op (.app (.v 9) (.v 28) 4 32) <|
 .leaf (.jump 0 ([.v 6,.v 7,.v 8,.v 29] ++ w 10 4)))
 (.op (.bi .eql .i64 (.v 18) (.i 4)) <|
 .ite (.v 23)
 (.op (.row (.v 3) (.v 5) 4) <|
 .op (.rc (.v 3) (.v 5) 0 (.int .u64)) <|
 .op (.rc (.v 3) (.v 5) 1 (.int .u32)) <|
 .op (.rc (.v 3) (.v 5) 2 (.int .i64)) <|
 .op (.rc (.v 3) (.v 5) 3 (.int .i64)) <|
 .op (.lit [[((.int .u64),(.v 25)),((.int .u32),(.v 26)),((.int .i64),(.v 27)),((.int .i64),(.v 28))]]) <|
 .op (.app (.v 10) (.v 29) 4 32) <|
 .leaf (.jump 0 (w 6 4 ++ [.v 30,.v 11,.v 12,.v 13])))
 (.op (.bi .eql .i64 (.v 18) (.i 5)) <|
 .ite (.v 24)
 (.op (.row (.v 3) (.v 5) 4) <|
 .op (.rc (.v 3) (.v 5) 0 (.int .u64)) <|
 .op (.rc (.v 3) (.v 5) 1 (.int .u32)) <|
 .op (.rc (.v 3) (.v 5) 2 (.int .i64)) <|
 .op (.rc (.v 3) (.v 5) 3 (.int .i64)) <|
 .op (.lit [[((.int .u64),(.v 26)),((.int .u32),(.v 27)),((.int .i64),(.v 28)),((.int .i64),(.v 29))]]) <|
 .op (.app (.v 11) (.v 30) 4 32) <|
 .leaf (.jump 0 (w 6 5 ++ [.v 31,.v 12,.v 13])))
 (.op (.bi .eql .i64 (.v 18) (.i 6)) <|
 .ite (.v 25)
 (.op (.row (.v 3) (.v 5) 4) <|
 .op (.rc (.v 3) (.v 5) 0 (.int .u64)) <|
 .op (.rc (.v 3) (.v 5) 1 (.int .u32)) <|
 .op (.rc (.v 3) (.v 5) 2 (.int .i64)) <|
 .op (.rc (.v 3) (.v 5) 3 (.int .i64)) <|
 .op (.lit [[((.int .u64),(.v 27)),((.int .u32),(.v 28)),((.int .i64),(.v 29)),((.int .i64),(.v 30))]]) <|
 .op (.app (.v 12) (.v 31) 4 32) <|
 .leaf (.jump 0 (w 6 6 ++ [.v 32,.v 13])))
 (.op (.bi .eql .i64 (.v 18) (.i 7)) <|
 .ite (.v 26)
 (.op (.row (.v 3) (.v 5) 4) <|
 .op (.rc (.v 3) (.v 5) 0 (.int .u64)) <|
 .op (.rc (.v 3) (.v 5) 1 (.int .u32)) <|
 .op (.rc (.v 3) (.v 5) 2 (.int .i64)) <|
 .op (.rc (.v 3) (.v 5) 3 (.int .i64)) <|
 .op (.lit [[((.int .u64),(.v 28)),((.int .u32),(.v 29)),((.int .i64),(.v 30)),((.int .i64),(.v 31))]]) <|
 .op (.app (.v 13) (.v 32) 4 32) <|
 .leaf (.jump 0 (w 6 7 ++ [.v 33])))
 (.op (.bnd (.i 0) 0) <|
 .leaf (.jump 0 []))))))))))
 (.op (.bi .add .i64 (.v 5) (.i 1)) <|
 .leaf (.jump 0 ([.v 24] ++ w 16 8))))
 (.leaf (.jump 1 (w 6 8)))))
 (.leaf (.jump 0 ([.v 4,.v 1] ++ w 5 8))))))
def F51 := Fo fir51
def s51 : Sig := ⟨184,[cs 0,ci 1],[],2,10,.v (.agg [.own 0,.own 1,.own 2,.own 3,.own 4,.own 5,.own 6,.own 7,pi 2,pi 3]),[(0,(.row 25 (.v 4))),(1,(.row 25 (.v 5))),(2,(.row 25 (.v 6))),(3,(.row 25 (.v 7))),(4,(.row 25 (.v 8))),(5,(.row 25 (.v 9))),(6,(.row 25 (.v 10))),(7,(.row 25 (.v 11)))],F51,51⟩
theorem ok51 : s51.ok Tryz.prog := okS fir51 TT_ok (.cons ok50 (.cons ok49 (.cons ok47 (.cons ok46 .nil)))) Tryz.func184 (by kernel_rfl) (by kernel_rfl) rfl
def fir52 : Fir :=
 .join
 (.loop [.i 0,.i 0]
 (.op (.bi .lss .i64 (.v 11) (.i 8)) <|
 .ite (.v 12)
 (.op (.bnd (.v 11) 8) <|
 .op (.sel [.v 0,.v 1,.v 2,.v 3,.v 4,.v 5,.v 6,.v 7] (.v 11)) <|
 .op (.call 48 F48 [.v 13] 1 []) <|
 .op (.not (.v 14)) <|
 .ite (.v 15)
 (.leaf (.jump 2 [.b false]))
 (.join
 (.loop [.i 0]
 (.op (.bnd (.v 11) 8) <|
 .op (.sel [.v 0,.v 1,.v 2,.v 3,.v 4,.v 5,.v 6,.v 7] (.v 11)) <|
 .op (.len (.v 17)) <|
 .op (.bi .lss .i64 (.v 16) (.v 18)) <|
 .ite (.v 19)
 (.op (.bnd (.v 11) 8) <|
 .op (.sel [.v 0,.v 1,.v 2,.v 3,.v 4,.v 5,.v 6,.v 7] (.v 11)) <|
 .op (.row (.v 20) (.v 16) 4) <|
 .op (.cl (.v 21) 0 (.int .u64)) <|
 .op (.call 50 F50 [.v 22] 1 []) <|
 .op (.bi .neq .i64 (.v 23) (.v 11)) <|
 .ite (.v 24)
 (.leaf (.jump 4 [.b false]))
 (.op (.bi .add .i64 (.v 16) (.i 1)) <|
 .leaf (.jump 0 [.v 25])))
 (.leaf (.jump 1 []))))
 (.op (.bnd (.v 11) 8) <|
 .op (.sel [.v 0,.v 1,.v 2,.v 3,.v 4,.v 5,.v 6,.v 7] (.v 11)) <|
 .op (.call 49 F49 [.v 16] 1 []) <|
 .op (.bi .add .i64 (.v 10) (.v 17)) <|
 .op (.bi .add .i64 (.v 11) (.i 1)) <|
 .leaf (.jump 0 [.v 18,.v 19]))))
 (.leaf (.jump 1 [.v 10]))))
 (.join
 (.op (.bi .eql .i64 (.v 8) (.v 10)) <|
 .ite (.v 11)
 (.op (.bi .geq .i64 (.v 9) (.i 0)) <|
 .ite (.v 12)
 (.op (.bi .leq .i64 (.v 9) (.i 1099511627776)) <|
 .leaf (.jump 0 [.v 13]))
 (.leaf (.jump 0 [.b false])))
 (.leaf (.jump 0 [.b false])))
 (.leaf (.jump 0 [.v 11])))
def F52 := Fo fir52
def s52 : Sig := ⟨130,[.agg (wps 0 8 ++ [pi 8,pi 9])],[],10,1,.v (.c (.p .bool (.v 10))),[],F52,52⟩
theorem ok52 : s52.ok Tryz.prog := okS fir52 TT_ok (.cons ok50 (.cons ok49 (.cons ok48 .nil))) Tryz.func130 (by kernel_rfl) (by kernel_rfl) rfl
def fir53 : Fir :=
 .op (.bi .add .i64 (.i 48) (.v 0)) <|
 .op (.conv .u8 (.v 1)) <|
 .op (.lit [[((.int .u8),(.v 2))]]) <|
 .op (.str (.v 3)) <|
 .leaf (.jump 0 [.v 4])
def F53 := Fo fir53
def s53 : Sig := ⟨176,[ci 0],[],1,1,.v (.c (.p .str (.v 1))),[],F53,53⟩
theorem ok53 : s53.ok Tryz.prog := okS fir53 TT_ok .nil Tryz.func176 (by kernel_rfl) (by kernel_rfl) rfl
def fir54 : Fir :=
 .join
 (.op (.bi .lss .i64 (.v 0) (.i 1)) <|
 .ite (.v 5)
 (.leaf (.jump 0 [.b true]))
 (.op (.bi .gtr .i64 (.v 0) (.i 5)) <|
 .ite (.v 6)
 (.leaf (.jump 0 [.b true]))
 (.op (.bi .lss .i64 (.v 1) (.i 0)) <|
 .ite (.v 7)
 (.leaf (.jump 0 [.b true]))
 (.op (.bi .geq .i64 (.v 1) (.i 4)) <|
 .ite (.v 8)
 (.leaf (.jump 0 [.b true]))
 (.op (.bi .lss .i64 (.v 2) (.i 1)) <|
 .ite (.v 9)
 (.leaf (.jump 0 [.b true]))
 (.op (.bi .gtr .i64 (.v 2) (.i 8)) <|
 .leaf (.jump 0 [.v 10])))))))
 (.ite (.v 5)
 (.leaf (.jump 0 [.b false]))
 (.op (.bi .eql .i64 (.v 0) (.i 5)) <|
 .ite (.v 6)
 (.join
 (.op (.bi .geq .i64 (.v 3) (.i 0)) <|
 .ite (.v 7)
 (.op (.bi .lss .i64 (.v 3) (.i 6)) <|
 .leaf (.jump 0 [.v 8]))
 (.leaf (.jump 0 [.b false])))
 (.leaf (.jump 0 [.v 7])))
 (.join
 (.op (.bi .eql .i64 (.v 3) (.i 0)) <|
 .ite (.v 7)
 (.op (.bi .eql .i64 (.v 0) (.i 4)) <|
 .ite (.v 8)
 (.leaf (.jump 0 [.b true]))
 (.op (.not (.v 4)) <|
 .leaf (.jump 0 [.v 9])))
 (.leaf (.jump 0 [.b false])))
 (.leaf (.jump 0 [.v 7])))))
def F54 := Fo fir54
def s54 : Sig := ⟨175,[.agg (wpi 0 4 ++ [.p .bool (.v 4)])],[],5,1,.v (.c (.p .bool (.v 5))),[],F54,54⟩
theorem ok54 : s54.ok Tryz.prog := okS fir54 TT_ok .nil Tryz.func175 (by kernel_rfl) (by kernel_rfl) rfl
def fir55 : Fir :=
 .op (.call 54 F54 (w 0 5) 1 []) <|
 .op (.not (.v 5)) <|
 .ite (.v 6)
 (.leaf (.jump 0 [.s ⟨#[]⟩,.i 1]))
 (.op (.call 53 F53 [.v 3] 1 []) <|
 .op (.bs .add (.s ⟨#[101,99]⟩) (.v 7)) <|
 .op (.lit [[(.str,(.s ⟨#[]⟩))],[(.str,(.s ⟨#[100,97,116]⟩))],[(.str,(.s ⟨#[115,104,100]⟩))],[(.str,(.s ⟨#[100,101,108]⟩))],[(.str,(.s ⟨#[105,100,120]⟩))],[(.str,(.v 8))]]) <|
 .op (.call 53 F53 [.v 1] 1 []) <|
 .op (.bs .add (.s ⟨#[118,46]⟩) (.v 10)) <|
 .op (.bs .add (.v 11) (.s ⟨#[46]⟩)) <|
 .op (.call 53 F53 [.v 2] 1 []) <|
 .op (.bs .add (.v 12) (.v 13)) <|
 .op (.bs .add (.v 14) (.s ⟨#[46]⟩)) <|
 .op (.row (.v 9) (.v 0) 1) <|
 .op (.rc (.v 9) (.v 0) 0 .str) <|
 .op (.bs .add (.v 15) (.v 17)) <|
 .join
 (.ite (.v 4)
 (.op (.bs .add (.v 18) (.s ⟨#[46,116,109,112]⟩)) <|
 .leaf (.jump 0 [.v 19]))
 (.leaf (.jump 0 [.v 18])))
 (.leaf (.jump 0 [.v 19,.i 0])))
def F55 := Fo fir55
def s55 : Sig := ⟨121,[.agg (wpi 0 4 ++ [.p .bool (.v 4)])],[],5,2,.tup [.c (.p .str (.v 5)),ci 6],[],F55,55⟩
theorem ok55 : s55.ok Tryz.prog := okS fir55 TT_ok (.cons ok54 (.cons ok53 .nil)) Tryz.func121 (by kernel_rfl) (by kernel_rfl) rfl
end
end
section
open Go.RowKit
set_option maxRecDepth 100000
set_option maxHeartbeats 4000000
noncomputable section
def fir56 : Fir :=
 .op (.call 55 F55 [.v 0,.v 1,.v 2,.i 0,.b false] 2 []) <|
 .leaf (.jump 0 [.v 3])
def F56 := Fo fir56
def s56 : Sig := ⟨62,[ci 0,ci 1,ci 2],[],3,1,.v (.c (.p .str (.v 3))),[],F56,56⟩
theorem ok56 : s56.ok Tryz.prog := okS fir56 TT_ok (.cons ok55 .nil) Tryz.func62 (by kernel_rfl) (by kernel_rfl) rfl
def fir57 : Fir :=
 .join
 (.op (.bi .lss .i64 (.v 0) (.i 1)) <|
 .ite (.v 1)
 (.leaf (.jump 0 [.b true]))
 (.op (.bi .gtr .i64 (.v 0) (.i 8)) <|
 .leaf (.jump 0 [.v 2])))
 (.ite (.v 1)
 (.leaf (.jump 0 [.i 1,.i 0,.i 0,.i 0]))
 (.leaf (.jump 0 [.i 0,.v 0,.i 1,.i 16])))
def F57 := Fo fir57
def s57 : Sig := ⟨116,[ci 0],[],1,4,.tup [.agg [pi 2,.p (.int .i64) (.i 0),pi 3,pi 4,.nil,.nil,.nil,.nil,.nil,.nil,.nil,.nil,.p (.int .i64) (.i 0),.p (.int .i64) (.i 0)],ci 1],[],F57,57⟩
theorem ok57 : s57.ok Tryz.prog := okS fir57 TT_ok .nil Tryz.func116 (by kernel_rfl) (by kernel_rfl) rfl
def fir58 : Fir :=
 .join
 (.loop [.i 0]
 (.op (.len (.v 0)) <|
 .op (.bi .lss .i64 (.v 2) (.v 3)) <|
 .ite (.v 4)
 (.join
 (.op (.row (.v 0) (.v 2) 4) <|
 .op (.cl (.v 5) 2 (.int .i64)) <|
 .op (.row (.v 0) (.v 2) 4) <|
 .op (.cl (.v 7) 3 (.int .i64)) <|
 .op (.call 44 F44 [.v 8] 1 []) <|
 .op (.bi .add .i64 (.v 6) (.v 9)) <|
 .op (.bi .gtr .i64 (.v 10) (.v 1)) <|
 .ite (.v 11)
 (.leaf (.jump 3 [.b false]))
 (.loop [.i 0]
 (.op (.len (.v 0)) <|
 .op (.bi .lss .i64 (.v 12) (.v 13)) <|
 .ite (.v 14)
 (.join
 (.op (.bi .neq .i64 (.v 12) (.v 2)) <|
 .ite (.v 15)
 (.op (.row (.v 0) (.v 12) 4) <|
 .op (.cl (.v 16) 2 (.int .i64)) <|
 .op (.row (.v 0) (.v 2) 4) <|
 .op (.cl (.v 18) 2 (.int .i64)) <|
 .op (.bi .geq .i64 (.v 17) (.v 19)) <|
 .ite (.v 20)
 (.op (.row (.v 0) (.v 12) 4) <|
 .op (.cl (.v 21) 2 (.int .i64)) <|
 .op (.bi .lss .i64 (.v 22) (.v 10)) <|
 .leaf (.jump 0 [.v 23]))
 (.leaf (.jump 0 [.b false])))
 (.leaf (.jump 0 [.b false])))
 (.ite (.v 15)
 (.leaf (.jump 4 [.b false]))
 (.op (.bi .add .i64 (.v 12) (.i 1)) <|
 .leaf (.jump 0 [.v 16]))))
 (.leaf (.jump 1 [])))))
 (.op (.bi .add .i64 (.v 2) (.i 1)) <|
 .leaf (.jump 0 [.v 5])))
 (.leaf (.jump 1 []))))
 (.leaf (.jump 0 [.b true]))
def F58 := Fo fir58
def s58 : Sig := ⟨140,[cs 0,ci 1],[],2,1,.v (.c (.p .bool (.v 2))),[],F58,58⟩
theorem ok58 : s58.ok Tryz.prog := okS fir58 TT_ok (.cons ok44 .nil) Tryz.func140 (by kernel_rfl) (by kernel_rfl) rfl
def fir59 : Fir :=
 .join
 (.loop [.i 0,.r0]
 (.join
 (.op (.len (.v 0)) <|
 .op (.bi .lss .i64 (.v 2) (.v 4)) <|
 .ite (.v 5)
 (.op (.bi .lss .i64 (.v 2) (.v 1)) <|
 .leaf (.jump 0 [.v 6]))
 (.leaf (.jump 0 [.b false])))
 (.ite (.v 4)
 (.op (.row (.v 0) (.v 2) 4) <|
 .op (.cl (.v 5) 0 (.int .u64)) <|
 .op (.cl (.v 5) 1 (.int .u32)) <|
 .op (.cl (.v 5) 2 .bool) <|
 .op (.cl (.v 5) 3 .sl) <|
 .join
 (.op (.len (.v 9)) <|
 .op (.bi .gtr .i64 (.v 10) (.i 30)) <|
 .ite (.v 11)
 (.op (.len (.v 9)) <|
 .op (.part (.v 9) (.i 0) (.i 30) 1) <|
 .leaf (.jump 0 [.v 13]))
 (.leaf (.jump 0 [.v 9])))
 (.join
 (.ite (.v 8)
 (.leaf (.jump 0 [.r0]))
 (.leaf (.jump 0 [.v 10])))
 (.op (.bi .and .u64 (.v 6) (.i 7)) <|
 .op (.bi .and .u32 (.v 7) (.i 3)) <|
 .op (.lit [[((.int .u64),(.v 12)),((.int .u32),(.v 13)),(.bool,(.v 8)),(.sl,(.v 11))]]) <|
 .op (.app (.v 3) (.v 14) 4 40) <|
 .op (.bi .add .i64 (.v 2) (.i 1)) <|
 .leaf (.jump 0 [.v 16,.v 15]))))
 (.leaf (.jump 1 [.v 3])))))
 (.leaf (.jump 0 [.v 2]))
def F59 := Fo fir59
def s59 : Sig := ⟨35,[cs 0,ci 1],[],2,1,.v (.c (.own 0)),[(0,(.row 73 (.v 2)))],F59,59⟩
theorem ok59 : s59.ok Tryz.prog := okS fir59 TT_ok .nil Tryz.func35 (by kernel_rfl) (by kernel_rfl) rfl
def F2004 : List L → Option (List L) := F59
def s2004 : Sig := ⟨35,[cs 0,ci 1],[],2,1,.v (cs 2),[],F59,2004⟩
theorem ok2004 : s2004.ok Tryz.prog := freeze_ok (s := s59) ok59 rfl rfl (x := (.v 2)) (e := 73) rfl 2004
def fir60 : Fir :=
 .join
 (.op (.call 24 F24 [.v 0,.v 1,.v 2] 1 []) <|
 .op (.not (.v 4)) <|
 .ite (.v 5)
 (.leaf (.jump 0 [.b true]))
 (.op (.len (.v 3)) <|
 .op (.bi .neq .i64 (.v 6) (.v 1)) <|
 .leaf (.jump 0 [.v 7])))
 (.ite (.v 4)
 (.leaf (.jump 0 [.i 1,.r0]))
 (.join
 (.loop [.i 0]
 (.op (.len (.v 3)) <|
 .op (.bi .lss .i64 (.v 5) (.v 6)) <|
 .ite (.v 7)
 (.op (.row (.v 3) (.v 5) 1) <|
 .op (.rc (.v 3) (.v 5) 0 .sl) <|
 .op (.len (.v 9)) <|
 .op (.row (.v 3) (.i 0) 1) <|
 .op (.rc (.v 3) (.i 0) 0 .sl) <|
 .op (.len (.v 12)) <|
 .op (.bi .neq .i64 (.v 10) (.v 13)) <|
 .ite (.v 14)
 (.leaf (.jump 2 [.i 1,.r0]))
 (.op (.bi .add .i64 (.v 5) (.i 1)) <|
 .leaf (.jump 0 [.v 15])))
 (.leaf (.jump 1 []))))
 (.join
 (.loop [.i 0,.r0]
 (.op (.bi .lss .i64 (.v 5) (.v 0)) <|
 .ite (.v 7)
 (.op (.row (.v 3) (.i 0) 1) <|
 .op (.rc (.v 3) (.i 0) 0 .sl) <|
 .op (.len (.v 9)) <|
 .op (.rep (.v 10) [((.int .u8),(.i 0))] 1) <|
 .join
 (.loop [.i 0,.v 11]
 (.op (.bi .lss .i64 (.v 12) (.v 1)) <|
 .ite (.v 14)
 (.op (.row (.v 3) (.v 12) 1) <|
 .op (.rc (.v 3) (.v 12) 0 .sl) <|
 .op (.bi .mul .i64 (.v 5) (.v 1)) <|
 .op (.bi .add .i64 (.v 17) (.v 12)) <|
 .op (.row (.v 2) (.v 18) 1) <|
 .op (.cl (.v 19) 0 (.int .u8)) <|
 .op (.call 21 F21 [.v 13,.v 16,.v 20] 2 [1]) <|
 .op (.bi .add .i64 (.v 12) (.i 1)) <|
 .leaf (.jump 0 [.v 23,.v 22]))
 (.leaf (.jump 1 [.v 13]))))
 (.op (.lit [[(.sl,(.v 12))]]) <|
 .op (.app (.v 6) (.v 13) 1 24) <|
 .op (.bi .add .i64 (.v 5) (.i 1)) <|
 .leaf (.jump 0 [.v 15,.v 14])))
 (.leaf (.jump 1 [.v 6]))))
 (.leaf (.jump 0 [.i 0,.v 5])))))
def F60 := Fo fir60
def s60 : Sig := ⟨221,[.agg [pi 0,pi 1,ps 2],.c (.own 0)],[.row 71 (.v 3)],4,2,.tup [.c (.own 1),ci 4],[(0,(.row 71 (.v 3))),(1,(.row 71 (.v 5)))],F60,60⟩
theorem ok60 : s60.ok Tryz.prog := okS fir60 TT_ok (.cons ok24 (.cons ok21 .nil)) Tryz.func221 (by kernel_rfl) (by kernel_rfl) rfl
def fir61 : Fir :=
 .join
 (.op (.call 39 F39 [.v 0,.v 1,.v 2] 1 []) <|
 .op (.not (.v 11)) <|
 .ite (.v 12)
 (.leaf (.jump 0 [.b true]))
 (.op (.bi .lss .i64 (.v 3) (.i 16)) <|
 .ite (.v 13)
 (.leaf (.jump 0 [.b true]))
 (.op (.bi .gtr .i64 (.v 3) (.i 524288)) <|
 .ite (.v 14)
 (.leaf (.jump 0 [.b true]))
 (.op (.call 48 F48 [.v 10] 1 []) <|
 .op (.not (.v 15)) <|
 .leaf (.jump 0 [.v 16])))))
 (.ite (.v 11)
 (.leaf (.jump 0 [.b false]))
 (.join
 (.loop [.i 0]
 (.op (.len (.v 10)) <|
 .op (.bi .lss .i64 (.v 12) (.v 13)) <|
 .ite (.v 14)
 (.op (.row (.v 10) (.v 12) 4) <|
 .op (.rc (.v 10) (.v 12) 2 (.int .i64)) <|
 .op (.row (.v 10) (.v 12) 4) <|
 .op (.rc (.v 10) (.v 12) 3 (.int .i64)) <|
 .op (.call 44 F44 [.v 18] 1 []) <|
 .op (.bi .add .i64 (.v 16) (.v 19)) <|
 .op (.bi .gtr .i64 (.v 20) (.v 3)) <|
 .ite (.v 21)
 (.leaf (.jump 2 [.b false]))
 (.op (.bi .add .i64 (.v 12) (.i 1)) <|
 .leaf (.jump 0 [.v 22])))
 (.leaf (.jump 1 []))))
 (.leaf (.jump 0 [.b true]))))
def F61 := Fo fir61
def s61 : Sig := ⟨110,[.agg (wpi 0 4 ++ [.p (.int .u32) (.v 4),.p (.int .u32) (.v 5),.p (.int .u32) (.v 6),.p (.int .u32) (.v 7),.p (.int .u32) (.v 8),.p (.int .u32) (.v 9),.own 0])],[.row 25 (.v 10)],11,1,.v (.c (.p .bool (.v 11))),[(0,(.row 25 (.v 10)))],F61,61⟩
theorem ok61 : s61.ok Tryz.prog := okS fir61 TT_ok (.cons ok48 (.cons ok44 (.cons ok39 .nil))) Tryz.func110 (by kernel_rfl) (by kernel_rfl) rfl
def fir62 : Fir :=
 .join
 (.op (.len (.v 0)) <|
 .loop [.i 0]
 (.op (.bi .lss .i64 (.v 2) (.v 1)) <|
 .ite (.v 3)
 (.op (.row (.v 0) (.v 2) 4) <|
 .op (.rc (.v 0) (.v 2) 0 (.int .u64)) <|
 .op (.rc (.v 0) (.v 2) 1 (.int .u32)) <|
 .op (.rc (.v 0) (.v 2) 2 (.int .i64)) <|
 .op (.rc (.v 0) (.v 2) 3 (.int .i64)) <|
 .join
 (.op (.bi .gtr .i64 (.v 2) (.i 0)) <|
 .ite (.v 9)
 (.op (.bi .sub .i64 (.v 2) (.i 1)) <|
 .op (.row (.v 0) (.v 10) 4) <|
 .op (.rc (.v 0) (.v 10) 0 (.int .u64)) <|
 .op (.bi .leq .u64 (.v 5) (.v 12)) <|
 .leaf (.jump 0 [.v 13]))
 (.leaf (.jump 0 [.b false])))
 (.ite (.v 9)
 (.leaf (.jump 2 [.b false]))
 (.op (.bi .add .i64 (.v 2) (.i 1)) <|
 .leaf (.jump 0 [.v 10]))))
 (.leaf (.jump 1 []))))
 (.leaf (.jump 0 [.b true]))
def F62 := Fo fir62
def s62 : Sig := ⟨205,[.c (.own 0)],[.row 25 (.v 0)],1,1,.v (.c (.p .bool (.v 1))),[(0,(.row 25 (.v 0)))],F62,62⟩
theorem ok62 : s62.ok Tryz.prog := okS fir62 TT_ok .nil Tryz.func205 (by kernel_rfl) (by kernel_rfl) rfl
end
end
section
open Go.RowKit
set_option maxRecDepth 100000
set_option maxHeartbeats 4000000
noncomputable section
def fir63 : Fir :=
 .join
 (.op (.bi .lss .i64 (.v 0) (.i 0)) <|
 .ite (.v 1)
 (.op (.bnd (.i 0) 0) <|
 .op (.bnd (.i 0) 0) <|
 .leaf (.jump 0 []))
 (.leaf (.jump 0 [])))
 (.join
 (.op (.bi .sub .i64 (.v 0) (.i 0)) <|
 .op (.bi .gtr .i64 (.v 1) (.i 0)) <|
 .ite (.v 2)
 (.op (.cut .r0 (.i 0) (.i 0) 4) <|
 .op (.rep (.v 1) [((.int .u64),(.i 0)),((.int .u32),(.i 0)),((.int .i64),(.i 0)),((.int .i64),(.i 0))] 32) <|
 .op (.row (.v 4) (.i 0) 4) <|
 .op (.app .r0 (.v 4) 4 32) <|
 .op (.len (.v 6)) <|
 .op (.cut (.v 6) (.i 0) (.i 0) 4) <|
 .leaf (.jump 0 [.v 6]))
 (.leaf (.jump 0 [.r0])))
 (.leaf (.jump 0 [.v 1])))
def F63 := Fo fir63
def s63 : Sig := ⟨230,[.c .nil,ci 0],[],1,1,.v (.c (.sub 0 (.i 0) (.i 0))),[(0,(.row 25 (.v 1)))],F63,63⟩
theorem ok63 : s63.ok Tryz.prog := okS fir63 TT_ok .nil Tryz.func230 (by kernel_rfl) (by kernel_rfl) rfl
def F2001 : List L → Option (List L) := fun ls => match s63.F ls with | some os => if os.length = s63.nout then some [] else none | none => none
def s2001 : Sig := ⟨230,[.c .nil,ci 0],[],1,0,.v (.c (.own 0)),[(0,.row 25 .r0)],F2001,2001⟩
theorem ok2001 : s2001.ok Tryz.prog := grow_ok (s := s63) ok63 rfl rfl (x := (.v 1)) rfl 2001
def fir64 : Fir :=
 .join
 (.op (.len (.v 0)) <|
 .loop [.i 0,.i 0]
 (.op (.bi .lss .i64 (.v 3) (.v 1)) <|
 .ite (.v 4)
 (.join
 (.op (.row (.v 0) (.v 3) 1) <|
 .op (.cl (.v 5) 0 .sl) <|
 .op (.len (.v 6)) <|
 .op (.bi .add .i64 (.v 2) (.v 7)) <|
 .op (.bi .lss .i64 (.v 8) (.i 0)) <|
 .ite (.v 9)
 (.op (.bnd (.i 0) 0) <|
 .op (.bnd (.i 0) 0) <|
 .leaf (.jump 0 [.v 8]))
 (.leaf (.jump 0 [.v 8])))
 (.op (.bi .add .i64 (.v 3) (.i 1)) <|
 .leaf (.jump 0 [.v 5,.v 6])))
 (.leaf (.jump 1 [.v 2]))))
 (.op (.call 2001 F2001 [.v 1] 0 []) <|
 .join
 (.op (.len (.v 0)) <|
 .loop [.i 0,.r0]
 (.op (.bi .lss .i64 (.v 3) (.v 2)) <|
 .ite (.v 5)
 (.op (.row (.v 0) (.v 3) 1) <|
 .op (.cl (.v 6) 0 .sl) <|
 .op (.app (.v 4) (.v 7) 4 32) <|
 .op (.bi .add .i64 (.v 3) (.i 1)) <|
 .leaf (.jump 0 [.v 9,.v 8]))
 (.leaf (.jump 1 [.v 4]))))
 (.leaf (.jump 0 [.v 2])))
def F64 := Fo fir64
def s64 : Sig := ⟨193,[cs 0],[],1,1,.v (.c (.own 0)),[(0,(.row 25 (.v 1)))],F64,64⟩
theorem ok64 : s64.ok Tryz.prog := okS fir64 TT_ok (.cons ok2001 (.cons ok63 .nil)) Tryz.func193 (by kernel_rfl) (by kernel_rfl) rfl
def fir65 : Fir :=
 .op (.call 22 F22 [.v 0,.v 0] 1 []) <|
 .op (.not (.v 1)) <|
 .ite (.v 2)
 (.leaf (.jump 0 [.i 1,.i 0,.r0]))
 (.op (.bi .mul .i64 (.v 0) (.v 0)) <|
 .op (.rep (.v 3) [((.int .u8),(.i 0))] 1) <|
 .join
 (.loop [.i 0,.v 4]
 (.op (.bi .lss .i64 (.v 5) (.v 0)) <|
 .ite (.v 7)
 (.op (.bi .mul .i64 (.v 5) (.v 0)) <|
 .op (.bi .add .i64 (.v 8) (.v 5)) <|
 .op (.row (.v 6) (.v 9) 1) <|
 .op (.set (.v 6) (.v 9) 0 [((.int .u8),(.i 1))]) <|
 .op (.bi .add .i64 (.v 5) (.i 1)) <|
 .leaf (.jump 0 [.v 12,.v 11]))
 (.leaf (.jump 1 [.v 6]))))
 (.leaf (.jump 0 [.i 0,.v 0,.v 5])))
def F65 := Fo fir65
def s65 : Sig := ⟨286,[ci 0],[],1,3,.tup [.agg [pi 2,pi 2,.own 0],ci 1],[(0,(.row 5 (.v 3)))],F65,65⟩
theorem ok65 : s65.ok Tryz.prog := okS fir65 TT_ok (.cons ok22 .nil) Tryz.func286 (by kernel_rfl) (by kernel_rfl) rfl
def fir66 : Fir :=
 .join
 (.op (.call 24 F24 [.v 0,.v 1,.v 2] 1 []) <|
 .op (.not (.v 6)) <|
 .ite (.v 7)
 (.leaf (.jump 0 [.b true]))
 (.op (.call 24 F24 [.v 3,.v 4,.v 5] 1 []) <|
 .op (.not (.v 8)) <|
 .ite (.v 9)
 (.leaf (.jump 0 [.b true]))
 (.op (.bi .neq .i64 (.v 1) (.v 3)) <|
 .leaf (.jump 0 [.v 10]))))
 (.ite (.v 6)
 (.leaf (.jump 0 [.i 1,.i 0,.i 0,.r0]))
 (.join
 (.loop [.i 0,.r0]
 (.op (.bi .lss .i64 (.v 7) (.v 0)) <|
 .ite (.v 9)
 (.join
 (.loop [.i 0,.v 8]
 (.op (.bi .lss .i64 (.v 10) (.v 4)) <|
 .ite (.v 12)
 (.join
 (.loop [.i 0,.i 0]
 (.op (.bi .lss .i64 (.v 14) (.v 1)) <|
 .ite (.v 15)
 (.op (.bi .mul .i64 (.v 7) (.v 1)) <|
 .op (.bi .add .i64 (.v 16) (.v 14)) <|
 .op (.row (.v 2) (.v 17) 1) <|
 .op (.cl (.v 18) 0 (.int .u8)) <|
 .op (.bi .mul .i64 (.v 14) (.v 4)) <|
 .op (.bi .add .i64 (.v 20) (.v 10)) <|
 .op (.row (.v 5) (.v 21) 1) <|
 .op (.cl (.v 22) 0 (.int .u8)) <|
 .op (.call 19 F19 [.v 19,.v 23] 1 []) <|
 .op (.bi .xor .u8 (.v 13) (.v 24)) <|
 .op (.bi .add .i64 (.v 14) (.i 1)) <|
 .leaf (.jump 0 [.v 25,.v 26]))
 (.leaf (.jump 1 [.v 13]))))
 (.op (.lit [[((.int .u8),(.v 13))]]) <|
 .op (.app (.v 11) (.v 14) 1 1) <|
 .op (.bi .add .i64 (.v 10) (.i 1)) <|
 .leaf (.jump 0 [.v 16,.v 15])))
 (.leaf (.jump 1 [.v 11]))))
 (.op (.bi .add .i64 (.v 7) (.i 1)) <|
 .leaf (.jump 0 [.v 11,.v 10])))
 (.leaf (.jump 1 [.v 8]))))
 (.leaf (.jump 0 [.i 0,.v 0,.v 4,.v 7]))))
def F66 := Fo fir66
def s66 : Sig := ⟨255,[.agg [pi 0,pi 1,ps 2],.agg [pi 3,pi 4,ps 5]],[],6,4,.tup [.agg [pi 7,pi 8,.own 0],ci 6],[(0,(.row 5 (.v 9)))],F66,66⟩
theorem ok66 : s66.ok Tryz.prog := okS fir66 TT_ok (.cons ok24 (.cons ok19 .nil)) Tryz.func255 (by kernel_rfl) (by kernel_rfl) rfl
def fir67 : Fir :=
 .join
 (.op (.call 39 F39 [.v 0,.v 1,.v 2] 1 []) <|
 .op (.not (.v 11)) <|
 .ite (.v 12)
 (.leaf (.jump 0 [.b true]))
 (.op (.bi .lss .i64 (.v 3) (.i 16)) <|
 .ite (.v 13)
 (.leaf (.jump 0 [.b true]))
 (.op (.bi .gtr .i64 (.v 3) (.i 524288)) <|
 .ite (.v 14)
 (.leaf (.jump 0 [.b true]))
 (.op (.call 48 F48 [.v 10] 1 []) <|
 .op (.not (.v 15)) <|
 .leaf (.jump 0 [.v 16])))))
 (.ite (.v 11)
 (.leaf (.jump 0 [.b false]))
 (.join
 (.loop [.i 0]
 (.op (.len (.v 10)) <|
 .op (.bi .lss .i64 (.v 12) (.v 13)) <|
 .ite (.v 14)
 (.op (.row (.v 10) (.v 12) 4) <|
 .op (.cl (.v 15) 2 (.int .i64)) <|
 .op (.row (.v 10) (.v 12) 4) <|
 .op (.cl (.v 17) 3 (.int .i64)) <|
 .op (.call 44 F44 [.v 18] 1 []) <|
 .op (.bi .add .i64 (.v 16) (.v 19)) <|
 .op (.bi .gtr .i64 (.v 20) (.v 3)) <|
 .ite (.v 21)
 (.leaf (.jump 2 [.b false]))
 (.op (.bi .add .i64 (.v 12) (.i 1)) <|
 .leaf (.jump 0 [.v 22])))
 (.leaf (.jump 1 []))))
 (.leaf (.jump 0 [.b true]))))
def F67 := Fo fir67
def s67 : Sig := ⟨110,[.agg (wpi 0 4 ++ [.p (.int .u32) (.v 4),.p (.int .u32) (.v 5),.p (.int .u32) (.v 6),.p (.int .u32) (.v 7),.p (.int .u32) (.v 8),.p (.int .u32) (.v 9),ps 10])],[],11,1,.v (.c (.p .bool (.v 11))),[],F67,67⟩
theorem ok67 : s67.ok Tryz.prog := okS fir67 TT_ok (.cons ok48 (.cons ok44 (.cons ok39 .nil))) Tryz.func110 (by kernel_rfl) (by kernel_rfl) rfl
def fir68 : Fir :=
 .op (.call 55 F55 [.i 5,.v 0,.v 1,.v 2,.b false] 2 []) <|
 .leaf (.jump 0 [.v 3])
def F68 := Fo fir68
def s68 : Sig := ⟨67,[ci 0,ci 1,ci 2],[],3,1,.v (.c (.p .str (.v 3))),[],F68,68⟩
theorem ok68 : s68.ok Tryz.prog := okS fir68 TT_ok (.cons ok55 .nil) Tryz.func67 (by kernel_rfl) (by kernel_rfl) rfl
def fir69 : Fir :=
 .join
 (.loop [.i 0,.r0]
 (.op (.len (.v 0)) <|
 .op (.bi .lss .i64 (.v 1) (.v 3)) <|
 .ite (.v 4)
 (.op (.row (.v 0) (.v 1) 1) <|
 .op (.cl (.v 5) 0 (.int .u64)) <|
 .op (.call 42 F42 [.v 6,.i 8] 1 []) <|
 .op (.app (.v 2) (.v 7) 1 1) <|
 .op (.call 41 F41 [.v 7] 1 [0]) <|
 .op (.app (.v 8) (.v 9) 1 1) <|
 .op (.bi .add .i64 (.v 1) (.i 1)) <|
 .leaf (.jump 0 [.v 11,.v 10]))
 (.leaf (.jump 1 [.v 2]))))
 (.leaf (.jump 0 [.v 1]))
def F69 := Fo fir69
def s69 : Sig := ⟨75,[cs 0],[],1,1,.v (.c (.own 0)),[(0,(.row 5 (.v 1)))],F69,69⟩
theorem ok69 : s69.ok Tryz.prog := okS fir69 TT_ok (.cons ok42 (.cons ok41 .nil)) Tryz.func75 (by kernel_rfl) (by kernel_rfl) rfl
end
end
end Go.Proofs.YtndegphojkiblaaGreatDoor
