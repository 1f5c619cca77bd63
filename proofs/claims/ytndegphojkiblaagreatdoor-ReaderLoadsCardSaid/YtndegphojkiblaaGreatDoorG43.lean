/- Towards the last file's theorem: part 43. -/
import Derived.Test.YtndegphojkiblaaGreatDoorG42
set_option linter.all false
set_option maxHeartbeats 4000000
set_option maxRecDepth 100000
namespace Go.Proofs.YtndegphojkiblaaGreatDoor
noncomputable section
def aKD:ad:=xF TT [DG,yj,Cr,Lq,GL,Oe,uv,Ki,xj] ((Tryz.prog.funcs[I1.f]?).getD default) I1.cE I1.params I1.H
section
open Go.RowKit
namespace AI
def J7:aO:=⟨8,3,⟨[f 1 0 0,f 0 1 0,f 4 0 0,f 0 4 1,f 8 0 512,f 0 8 0,f 10 0 1,f 0 10 0,f 13 0 9000,f 0 13 0,f 20 0 9,f 0 20 0],[(2,some c1),(6,some c8)],[(5,false)],[]⟩,[⟨[f 25 0 0,f 0 25 0,f 28 0 0,f 0 28 0,f 32 0 0,f 0 32 0],[(10,none)],[],[]⟩,⟨[f 25 0 0,f 0 25 0,f 28 0 (-1),f 0 28 1,f 0 32 (-1),f 32 8 1,f 8 0 256],[(10,some c1)],[],[]⟩]⟩
def atw:bw:= .e
theorem Yf:J7.ok LI:=bV [(73,ZE),(56,xf),(138,lY)] [(73,F73),(56,oq),(138,vj)] atw kr kr ⟨aC rfl ava,aC rfl yw,aC rfl My,trivial⟩
def VW:aO:=⟨2,6,⟨[f 1 0 1,f 0 1 (-1),f 4 0 9000,f 0 4 (-9000)],[],[],[]⟩,[⟨[f 7 0 0,f 0 7 0,f 10 0 0,f 0 10 1,f 13 0 1,f 0 13 0,f 16 0 9000,f 0 16 0,f 20 0 1,f 0 20 0,f 23 0 1,f 0 23 0],[(6,some c7),(7,some c1)],[],[]⟩]⟩
def azM:bw:= .e
theorem aCs:VW.ok Y0:=bV [(104,Vz),(35,Za),(141,J7)] [(104,XH),(35,D7),(141,LI)] azM kr kr ⟨aC rfl ajw,aC rfl atS,aC rfl Yf,trivial⟩
def P5:aO:=⟨8,8,⟨[f 1 0 0,f 0 1 0,f 4 0 0,f 0 4 1,f 8 0 512,f 0 8 0,f 10 0 1,f 0 10 0,f 13 0 9000,f 0 13 0,f 20 0 9,f 0 20 0,f 23 0 1],[(2,some c1),(6,some c8),(7,some c3)],[(5,false)],[]⟩,[⟨[f 28 0 0,f 0 28 0,f 31 0 0,f 35 0 512,f 0 35 0,f 37 0 1,f 0 37 0,f 40 0 9000,f 0 40 0,f 47 0 9,f 0 47 0,f 4 31 0],[(11,some c1),(15,some c8)],[(14,false)],[]⟩]⟩
def aDM:bw:= .b (.e) (.b (.e) (.b (.l ⟨[],[⟨[f 0 133 0,f 136 0 0,f 0 136 0,f 139 0 0,f 143 0 512,f 0 143 0,f 4 139 0],[(47,some c1)],[],[]⟩],133,true,0,0⟩ (.b (.j [] [⟨[f 151 0 0,f 0 151 0,f 154 0 0,f 0 154 0,f 158 0 0,f 0 158 0],[(52,none)],[],[]⟩,⟨[f 151 0 0,f 0 151 0,f 154 0 (-1),f 0 154 1,f 158 0 256,f 0 158 (-1),f 139 0 (-1)],[(52,some c1)],[],[]⟩] (.e) (.e)) (.e))) (.e)))
theorem Y1:P5.ok Qr:=bV [(116,Pg),(114,afc),(118,Ah),(74,Ur),(56,xf),(138,lY)] [(116,NC),(114,YO),(118,FP),(74,F74),(56,oq),(138,vj)] aDM kr kr ⟨aC rfl acx,aC rfl aCF,aC rfl Qa,aC rfl amY,aC rfl yw,aC rfl My,trivial⟩
def O1:aO:=⟨8,7,⟨[f 1 0 0,f 0 1 0,f 4 0 0,f 0 4 1,f 8 0 512,f 0 8 0,f 10 0 1,f 0 10 0,f 13 0 9000,f 0 13 0,f 20 0 9,f 0 20 0,f 22 0 7,f 0 22 0],[(2,some c1),(6,some c8)],[(5,false)],[]⟩,[⟨[f 25 0 0,f 0 25 0,f 28 0 0,f 0 28 1,f 32 0 512,f 0 32 0,f 34 0 1,f 0 34 0,f 37 0 9000,f 0 37 0,f 44 0 9,f 0 44 0],[(10,some c1),(14,some c8)],[(13,false)],[]⟩]⟩
def akA:bw:= .b (.l ⟨[6],[⟨[f 0 28 0,f 31 0 0,f 0 31 0,f 34 0 0,f 38 0 512,f 0 38 0,f 40 0 1,f 0 40 0,f 43 0 9000,f 0 43 0,f 50 0 9,f 0 50 0,f 4 34 0],[(12,some c1),(16,some c8)],[(15,false)],[]⟩],28,true,0,6⟩ (.b (.b (.l ⟨[3],[⟨[f 0 58 0,f 61 0 1,f 0 61 0,f 64 0 9000,f 0 64 0,f 71 0 9,f 0 71 0],[(23,some c8)],[(22,false)],[]⟩],58,true,0,8⟩ (.b (.j [2] [⟨[f 79 0 1,f 0 79 0,f 82 0 9000,f 0 82 0,f 89 0 9,f 0 89 0],[(29,some c8)],[(28,false)],[]⟩] (.e) (.e)) (.e))) (.e)) (.e))) (.e)
def amR:Nat→Option aO:=fW [(117,agt),(113,Wy),(118,Ah),(56,xf),(69,adi),(138,lY),(116,Pg),(99,w_),(150,P5)]
theorem ajk:fD amR aKD akA O1 [5]=true:=kr
theorem adV:O1.ok QO:=gu ajk (gi (cs:=[(117,YD),(113,F113),(118,FP),(56,oq),(69,YE),(138,vj),(116,NC),(99,xS),(150,Qr)]) kr ⟨aC rfl apQ,aC rfl aCw,aC rfl Qa,aC rfl yw,aC rfl azU,aC rfl My,aC rfl acx,aC rfl Cx,aC rfl Y1,trivial⟩)
def WK:aO:=⟨7,8,⟨[f 1 0 0,f 0 1 0,f 4 0 0,f 0 4 1,f 8 0 512,f 0 8 0,f 10 0 1,f 0 10 0,f 13 0 9000,f 0 13 0,f 20 0 9,f 0 20 0],[(2,some c1),(6,some c8)],[(5,false)],[]⟩,[⟨[f 25 0 0,f 0 25 0,f 28 0 0,f 0 28 1,f 32 0 512,f 0 32 0,f 34 0 1,f 0 34 0,f 37 0 9000,f 0 37 0,f 44 0 9,f 0 44 0],[(10,some c1),(14,some c8)],[(13,false)],[]⟩]⟩
def asu:bw:= .e
theorem aEA:WK.ok Wj:=bV [(120,KB),(141,J7),(56,xf),(152,mO)] [(120,afE),(141,LI),(56,oq),(152,uq)] asu kr kr ⟨aC rfl aqv,aC rfl Yf,aC rfl yw,aC rfl NK,trivial⟩
end AI
end
end
end Go.Proofs.YtndegphojkiblaaGreatDoor
