/- A part. -/
import Derived.Test.YtndegphojkiblaaGreatDoorG41
set_option linter.all false
set_option maxHeartbeats 4000000
set_option maxRecDepth 100000
namespace Go.Proofs.YtndegphojkiblaaGreatDoor
noncomputable section
section
open Go.RowKit
namespace AI
noncomputable section
def adJ:So:=⟨153,aqq,⟨7,8,(t3 [y 1 0,z 1,y 4 0,x 4 1,y 8 512,z 8,y 10 1,z 10,y 13 9000,z 13,y 20 9,z 20] [(2,some c1),(6,some c8)] [(5,false)]),[(t3 [y 25 0,z 25,y 28 0,x 28 1,y 32 512,z 32,y 34 1,z 34,y 37 9000,z 37,y 44 9,z 44] [(10,some c1),(14,some c8)] [(13,false)])]⟩,cQ [zt,aiM,Z72,vG,auz,Z68,Ts,Z95,arw,atk,Hh] (.b (.l ⟨[],[(t1 [z 22])],22,true,0,8⟩ (.b (.b (.e) (.b (.l ⟨[],[(t2 [z 142,y 145 0,z 145,y 148 0,x 148 1,y 152 512,z 152] [(50,some c1)])],142,true,0,5⟩ (.e)) (.e))) (.e))) (.e)) kr kr⟩
end
end AI
namespace AI
noncomputable section
def Fq:dO:=⟨2,7,⟨[⟨4,0,12⟩],[(0,some [.int .i64 (-9223372036854775808) 9223372036854775807,.sl 9223372036854775807 c6,.int .i64 (-9223372036854775808) 9223372036854775807,.sl 9223372036854775807 [.int .u64 0 18446744073709551615]])],[],[]⟩,[⟨[⟨7,0,0⟩,⟨0,7,0⟩,⟨10,0,0⟩,⟨0,10,1⟩,⟨14,0,512⟩,⟨0,14,0⟩,⟨16,0,1⟩,⟨0,16,0⟩,⟨19,0,9000⟩,⟨0,19,0⟩,⟨26,0,9⟩,⟨0,26,0⟩],[(4,some c1),(8,some c8)],[(7,false)],[]⟩]⟩
theorem SY:Fq.ok yJ:=jT [5] [aff,aqU,aqF,acd,alM,adJ] (.b (.l ⟨[6],[(t3 [z 25,y 28 0,z 28,y 31 0,x 31 1,y 35 512,z 35,y 37 1,z 37,y 40 9000,z 40,y 47 9,z 47] [(11,some c1),(15,some c8)] [(14,false)])],25,true,0,11⟩ (.b (.e) (.b (.j [5] [(t3 [y 52 0,z 52,y 55 0,x 55 1,y 59 512,z 59,y 61 1,z 61,y 64 9000,z 64,y 71 9,z 71] [(19,some c1),(23,some c8)] [(22,false)])] (.b (.e) (.b (.l ⟨[6],[(t3 [z 76,y 79 0,z 79,y 82 0,x 82 1,y 86 512,z 86,y 88 1,z 88,y 91 9000,z 91,y 98 9,z 98] [(28,some c1),(32,some c8)] [(31,false)])],76,true,0,3⟩ (.e)) (.b (.e) (.b (.e) (.b (.l ⟨[6],[(t3 [z 79,y 82 0,z 82,y 85 0,x 85 1,y 89 512,z 89,y 91 1,z 91,y 94 9000,z 94,y 101 9,z 101] [(29,some c1),(33,some c8)] [(32,false)])],79,true,0,2⟩ (.e)) (.e)))))) (.e)) (.e)))) (.e)) kr kr
def azk:So:=⟨156,yJ,Fq,SY⟩
end
end AI
end
end
end Go.Proofs.YtndegphojkiblaaGreatDoor
