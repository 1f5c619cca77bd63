/- Towards the last file's theorem: part 44. -/
import Derived.Test.YtndegphojkiblaaGreatDoorG43
set_option linter.all false
set_option maxHeartbeats 4000000
set_option maxRecDepth 100000
namespace Go.Proofs.YtndegphojkiblaaGreatDoor
noncomputable section
def aKE:ad:=xF TT [OI,Jf,I1,DG,Mv,YW,P9] ((Tryz.prog.funcs[FL.f]?).getD default) FL.cE FL.params FL.H
def aKF:ad:=xF TT [te,qK,uv] ((Tryz.prog.funcs[Vv.f]?).getD default) Vv.cE Vv.params Vv.H
section
open Go.RowKit
namespace AI
def Yo:aO:=⟨7,8,⟨[f 1 0 0,f 0 1 0,f 4 0 0,f 0 4 1,f 8 0 512,f 0 8 0,f 10 0 1,f 0 10 0,f 13 0 9000,f 0 13 0,f 20 0 9,f 0 20 0],[(2,some c1),(6,some c8)],[(5,false)],[]⟩,[⟨[f 25 0 0,f 0 25 0,f 28 0 0,f 0 28 1,f 32 0 512,f 0 32 0,f 34 0 1,f 0 34 0,f 37 0 9000,f 0 37 0,f 44 0 9,f 0 44 0],[(10,some c1),(14,some c8)],[(13,false)],[]⟩]⟩
def ark:bw:= .b (.l ⟨[],[⟨[f 0 22 0],[],[],[]⟩],22,true,0,8⟩ (.b (.b (.e) (.b (.l ⟨[],[⟨[f 0 142 0,f 145 0 0,f 0 145 0,f 148 0 0,f 0 148 1,f 152 0 512,f 0 152 0],[(50,some c1)],[],[]⟩],142,true,0,5⟩ (.e)) (.e))) (.e))) (.e)
theorem aqm:Yo.ok abr:=bV [(56,xf),(143,S8),(72,agp),(79,vZ),(126,agD),(68,aeR),(152,mO),(95,Xd),(129,aey),(101,V5),(118,Ah)] [(56,oq),(143,pj),(72,F72),(79,vM),(126,YA),(68,xX),(152,uq),(95,Xv),(56,oq),(152,uq),(129,BE),(101,afv),(118,FP)] ark kr kr ⟨aC rfl yw,aC rfl arI,aC rfl aDL,aC rfl yo,aC rfl aAu,aC rfl aCo,aC rfl NK,aC rfl aBF,aC rfl yw,aC rfl NK,aC rfl axl,aC rfl aFr,aC rfl Qa,trivial⟩
end AI
namespace AI
def DP:aO:=⟨2,7,⟨[⟨4,0,12⟩],[(0,some [.int .i64 (-9223372036854775808) 9223372036854775807,.sl 9223372036854775807 c6,.int .i64 (-9223372036854775808) 9223372036854775807,.sl 9223372036854775807 [.int .u64 0 18446744073709551615]])],[],[]⟩,[⟨[⟨7,0,0⟩,⟨0,7,0⟩,⟨10,0,0⟩,⟨0,10,1⟩,⟨14,0,512⟩,⟨0,14,0⟩,⟨16,0,1⟩,⟨0,16,0⟩,⟨19,0,9000⟩,⟨0,19,0⟩,⟨26,0,9⟩,⟨0,26,0⟩],[(4,some c1),(8,some c8)],[(7,false)],[]⟩]⟩
def alH:bw:= .b (.l ⟨[6],[⟨[f 0 25 0,f 28 0 0,f 0 28 0,f 31 0 0,f 0 31 1,f 35 0 512,f 0 35 0,f 37 0 1,f 0 37 0,f 40 0 9000,f 0 40 0,f 47 0 9,f 0 47 0],[(11,some c1),(15,some c8)],[(14,false)],[]⟩],25,true,0,11⟩ (.b (.e) (.b (.j [5] [⟨[f 52 0 0,f 0 52 0,f 55 0 0,f 0 55 1,f 59 0 512,f 0 59 0,f 61 0 1,f 0 61 0,f 64 0 9000,f 0 64 0,f 71 0 9,f 0 71 0],[(19,some c1),(23,some c8)],[(22,false)],[]⟩] (.b (.e) (.b (.l ⟨[6],[⟨[f 0 76 0,f 79 0 0,f 0 79 0,f 82 0 0,f 0 82 1,f 86 0 512,f 0 86 0,f 88 0 1,f 0 88 0,f 91 0 9000,f 0 91 0,f 98 0 9,f 0 98 0],[(28,some c1),(32,some c8)],[(31,false)],[]⟩],76,true,0,3⟩ (.e)) (.b (.e) (.b (.e) (.b (.l ⟨[6],[⟨[f 0 79 0,f 82 0 0,f 0 82 0,f 85 0 0,f 0 85 1,f 89 0 512,f 0 89 0,f 91 0 1,f 0 91 0,f 94 0 9000,f 0 94 0,f 101 0 9,f 0 101 0],[(29,some c1),(33,some c8)],[(32,false)],[]⟩],79,true,0,2⟩ (.e)) (.e)))))) (.e)) (.e)))) (.e)
def asd:Nat→Option aO:=fW [(149,VW),(2004,aga),(151,O1),(150,P5),(155,WK),(153,Yo)]
theorem atf:fD asd aKE alH DP [5]=true:=kr
theorem ajE:DP.ok G2:=gu atf (gi (cs:=[(149,Y0),(2004,TE),(151,QO),(150,Qr),(155,Wj),(151,QO),(153,abr)]) kr ⟨aC rfl aCs,aC rfl amj,aC rfl adV,aC rfl Y1,aC rfl aEA,aC rfl adV,aC rfl aqm,trivial⟩)
end AI
namespace AI
def BN:aO:=⟨5,8,⟨[⟨11,0,9⟩,⟨0,11,0⟩],[(3,some c8)],[(2,false)],[]⟩,[⟨[],[],[],[]⟩]⟩
def arP:bw:= .b (.l ⟨[],[⟨[⟨22,11,-1⟩],[],[],[]⟩],22,false,0,0⟩ (.e)) (.e)
def aBt:Nat→Option aO:=fW [(103,rh),(99,w_)]
theorem axE:fD aBt aKF arP BN []=true:=kr
theorem ayn:BN.ok K8:=gu axE (gi (cs:=[(103,td),(99,xS)]) kr ⟨aC rfl vL,aC rfl Cx,trivial⟩)
end AI
end
end
end Go.Proofs.YtndegphojkiblaaGreatDoor
