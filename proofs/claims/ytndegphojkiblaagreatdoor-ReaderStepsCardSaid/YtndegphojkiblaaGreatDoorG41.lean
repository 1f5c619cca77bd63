/- A part. -/
import Derived.Test.YtndegphojkiblaaGreatDoorG40
set_option linter.all false
set_option maxHeartbeats 4000000
set_option maxRecDepth 100000
namespace Go.Proofs.YtndegphojkiblaaGreatDoor
noncomputable section
section
open Go.RowKit
namespace AI
noncomputable section
def Q1:So:=⟨141,akX,⟨8,3,(t3 [y 1 0,z 1,y 4 0,x 4 1,y 8 512,z 8,y 10 1,z 10,y 13 9000,z 13,y 20 9,z 20] [(2,some c1),(6,some c8)] [(5,false)]),[(t2 [y 25 0,z 25,y 28 0,z 28,y 32 0,z 32] [(10,none)]),(t2 [y 25 0,z 25,y 28 (-1),x 28 1,x 32 (-1),f 32 8 1,y 8 256] [(10,some c1)])]⟩,cQ [Z73,zt,LG] .e kr kr⟩
def aff:So:=⟨149,ajH,⟨2,6,(t1 [y 1 1,x 1 (-1),y 4 9000,x 4 (-9000)]),[(t2 [y 7 0,z 7,y 10 0,x 10 1,y 13 1,z 13,y 16 9000,z 16,y 20 1,z 20,y 23 1,z 23] [(6,some c7),(7,some c1)])]⟩,cQ [ahi,Z35,Q1] .e kr kr⟩
def acd:So:=⟨150,atb,⟨8,8,(t3 [y 1 0,z 1,y 4 0,x 4 1,y 8 512,z 8,y 10 1,z 10,y 13 9000,z 13,y 20 9,z 20,y 23 1] [(2,some c1),(6,some c8),(7,some c3)] [(5,false)]),[(t3 [y 28 0,z 28,y 31 0,y 35 512,z 35,y 37 1,z 37,y 40 9000,z 40,y 47 9,z 47,f 4 31 0] [(11,some c1),(15,some c8)] [(14,false)])]⟩,cQ [Q2,adQ,Hh,Z74,zt,LG] (.b (.e) (.b (.e) (.b (.l ⟨[],[(t2 [z 133,y 136 0,z 136,y 139 0,y 143 512,z 143,f 4 139 0] [(47,some c1)])],133,true,0,0⟩ (.b (.j [] [(t2 [y 151 0,z 151,y 154 0,z 154,y 158 0,z 158] [(52,none)]),(t2 [y 151 0,z 151,y 154 (-1),x 154 1,y 158 256,x 158 (-1),y 139 (-1)] [(52,some c1)])] (.e) (.e)) (.e))) (.e)))) kr kr⟩
def aqF:So:=⟨151,arX,⟨8,7,(t3 [y 1 0,z 1,y 4 0,x 4 1,y 8 512,z 8,y 10 1,z 10,y 13 9000,z 13,y 20 9,z 20,y 22 7,z 22] [(2,some c1),(6,some c8)] [(5,false)]),[(t3 [y 25 0,z 25,y 28 0,x 28 1,y 32 512,z 32,y 34 1,z 34,y 37 9000,z 37,y 44 9,z 44] [(10,some c1),(14,some c8)] [(13,false)])]⟩,jT [5] [auS,aoF,Hh,zt,Z69,LG,Q2,BQ,acd] (.b (.l ⟨[6],[(t3 [z 28,y 31 0,z 31,y 34 0,y 38 512,z 38,y 40 1,z 40,y 43 9000,z 43,y 50 9,z 50,f 4 34 0] [(12,some c1),(16,some c8)] [(15,false)])],28,true,0,6⟩ (.b (.b (.l ⟨[3],[(t3 [z 58,y 61 1,z 61,y 64 9000,z 64,y 71 9,z 71] [(23,some c8)] [(22,false)])],58,true,0,8⟩ (.b (.j [2] [(t3 [y 79 1,z 79,y 82 9000,z 82,y 89 9,z 89] [(29,some c8)] [(28,false)])] (.e) (.e)) (.e))) (.e)) (.e))) (.e)) kr kr⟩
def alM:So:=⟨155,amv,⟨7,8,(t3 [y 1 0,z 1,y 4 0,x 4 1,y 8 512,z 8,y 10 1,z 10,y 13 9000,z 13,y 20 9,z 20] [(2,some c1),(6,some c8)] [(5,false)]),[(t3 [y 25 0,z 25,y 28 0,x 28 1,y 32 512,z 32,y 34 1,z 34,y 37 9000,z 37,y 44 9,z 44] [(10,some c1),(14,some c8)] [(13,false)])]⟩,cQ [apH,Q1,zt,Ts] .e kr kr⟩
end
end AI
end
end
end Go.Proofs.YtndegphojkiblaaGreatDoor
