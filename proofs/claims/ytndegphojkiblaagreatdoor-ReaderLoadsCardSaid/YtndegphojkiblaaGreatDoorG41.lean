/- Towards the last file's theorem: part 41. -/
import Derived.Test.YtndegphojkiblaaGreatDoorG40
set_option linter.all false
set_option maxHeartbeats 4000000
set_option maxRecDepth 100000
namespace Go.Proofs.YtndegphojkiblaaGreatDoor
noncomputable section
def aKy:ad:=xF TT [tf,MT,xi] ((Tryz.prog.funcs[vu.f]?).getD default) vu.cE vu.params vu.H
def aKz:ad:=xF TT [GY,vu,qm] ((Tryz.prog.funcs[qK.f]?).getD default) qK.cE qK.params qK.H
def aKA:ad:=xF TT [te,qK] ((Tryz.prog.funcs[Cr.f]?).getD default) Cr.cE Cr.params Cr.H
def aKB:ad:=xF TT [Qc,te,qK,P1,FX] ((Tryz.prog.funcs[JP.f]?).getD default) JP.cE JP.params JP.H
section
open Go.RowKit
namespace AI
def JO:aO:=⟨2,10,⟨[f 2 0 9,f 0 2 0],[(0,some c4)],[],[]⟩,[⟨[f 7 0 mx,f 0 7 18446744073709551615,f 10 0 1099511627776,f 0 10 0,f 14 0 8,f 0 14 0,f 17 0 8,f 0 17 0,f 20 0 8,f 0 20 0,f 23 0 8,f 0 23 0,f 26 0 8,f 0 26 0,f 29 0 8,f 0 29 0,f 32 0 8,f 0 32 0,f 35 0 8,f 0 35 0],(g 4 8 c4),[],[]⟩]⟩
def aqP:bw:= .b (.l ⟨[],[⟨[f 0 7 0],[],[],[]⟩],7,true,0,8⟩ (.e)) (.b (.e) (.b (.e) (.b (.l ⟨[],[⟨[f 0 20 0,f 0 23 0,f 0 26 0,f 0 29 0,f 0 32 0,f 0 35 0,f 0 38 0,f 0 41 0,f 20 11 0,f 20 16 0,f 23 11 0,f 23 16 0,f 26 11 0,f 26 16 0,f 29 11 0,f 29 16 0,f 32 11 0,f 32 16 0,f 35 11 0,f 35 16 0,f 38 11 0,f 38 16 0,f 41 11 0,f 41 16 0],(g 6 8 c4),[],[]⟩],16,true,0,7⟩ (.b (.j [] [⟨[f 0 50 0,f 0 53 0,f 0 56 0,f 0 59 0,f 0 62 0,f 0 65 0,f 0 68 0,f 0 71 0,f 50 20 1,f 53 23 1,f 56 26 1,f 59 29 1,f 62 32 1,f 65 35 1,f 68 38 1,f 71 41 1],(g 16 8 c4),[],[]⟩] (.e) (.e)) (.e))) (.e))))
theorem adl:JO.ok NO:=bV [(47,Bs),(46,vm),(49,Me),(50,JX)] [(47,u9),(46,vG),(49,Nf),(50,OX)] aqP kr kr ⟨aC rfl Mx,aC rfl GS,aC rfl acn,aC rfl V6,trivial⟩
def adi:aO:=⟨1,1,⟨[f 2 0 1,f 0 2 (-1)],[(0,some [.int .u64 0 7])],[],[]⟩,[⟨[f 5 0 12,f 0 5 (-12)],[(1,some [.int .u8 0 255])],[],[]⟩]⟩
def asO:bw:= .b (.l ⟨[],[⟨[f 4 0 0,f 0 4 0,f 8 0 0,f 0 8 0],[(2,none)],[],[]⟩,⟨[f 0 4 (-1),f 8 0 12,f 0 8 (-12)],[(2,some [.int .u8 0 255])],[],[]⟩],4,true,0,0⟩ (.e)) (.e)
theorem azU:adi.ok YE:=bV [(42,tq),(41,uy)] [(42,ia),(41,ni)] asO kr kr ⟨aC rfl jh,aC rfl xn,trivial⟩
def Mk:aO:=⟨3,1,⟨[],[(2,some c5)],[],[]⟩,[⟨[],[],[(3,false)],[]⟩,⟨[f 8 0 256],[],[(3,true)],[]⟩]⟩
def azX:bw:= .b (.e) (.b (.e) (.b (.l ⟨[],[⟨[f 0 13 0],[],[],[]⟩],13,true,0,255⟩ (.e)) (.e)))
def aFi:Nat→Option aO:=fW [(70,sL)]
theorem ays:fD aFi MN azX Mk [0]=true:=kr
theorem ajR:Mk.ok vO:=gu ays (gi (cs:=[(70,sU)]) kr ⟨aC rfl Vb,trivial⟩)
def ZE:aO:=⟨3,2,⟨[],[],[],[]⟩,[⟨[f 14 0 16,f 0 14 0],[(4,some [.int .u8 0 255])],[],[]⟩]⟩
def atX:bw:= .e
theorem ava:ZE.ok F73:=bV [(39,BY),(42,tq),(41,uy)] [(39,tu),(42,ia),(42,ia),(42,ia),(41,ni)] atX kr kr ⟨aC rfl Jg,aC rfl jh,aC rfl jh,aC rfl jh,aC rfl xn,trivial⟩
def Ur:aO:=⟨4,2,⟨[f 11 0 30,f 0 11 0],[(3,some [.int .u8 0 255])],[],[]⟩,[⟨[f 17 0 4128,f 0 17 0],[(5,some [.int .u8 0 255])],[],[]⟩]⟩
def akT:bw:= .b (.e) (.b (.e) (.b (.e) (.b (.l ⟨[],[⟨[f 68 0 4128,f 0 68 (-24)],[(22,some [.int .u8 0 255])],[],[]⟩],68,true,0,4119⟩ (.e)) (.e))))
theorem amY:Ur.ok F74:=bV [(43,Ee),(42,tq),(41,uy),(44,oW)] [(43,OQ),(42,ia),(42,ia),(42,ia),(41,ni),(44,ib)] akT kr kr ⟨aC rfl VV,aC rfl jh,aC rfl jh,aC rfl jh,aC rfl xn,aC rfl mD,trivial⟩
def acm:aO:=⟨1,2,⟨[f 2 0 8],[(0,some c4)],[],[]⟩,[⟨[f 8 0 192,f 0 8 0],[(2,some [.int .u8 0 255])],[],[]⟩]⟩
def ayL:bw:= .b (.e) (.b (.l ⟨[],[⟨[f 10 0 0,f 0 10 0,f 14 0 0,f 0 14 0],[(4,none)],[],[]⟩,⟨[f 10 0 1,f 0 10 (-1),f 14 0 24,f 0 14 (-24)],[(4,some [.int .u8 0 255])],[],[]⟩,⟨[f 10 0 2,f 0 10 (-2),f 14 0 48,f 0 14 (-48)],[(4,some [.int .u8 0 255])],[],[]⟩,⟨[f 10 0 3,f 0 10 (-3),f 14 0 72,f 0 14 (-72)],[(4,some [.int .u8 0 255])],[],[]⟩,⟨[f 10 0 4,f 0 10 (-4),f 14 0 96,f 0 14 (-96)],[(4,some [.int .u8 0 255])],[],[]⟩,⟨[f 10 0 5,f 0 10 (-5),f 14 0 120,f 0 14 (-120)],[(4,some [.int .u8 0 255])],[],[]⟩,⟨[f 0 10 (-6),f 14 0 144,f 0 14 (-144)],[(4,some [.int .u8 0 255])],[],[]⟩,⟨[f 0 10 (-7),f 14 0 168,f 0 14 (-168)],[(4,some [.int .u8 0 255])],[],[]⟩,⟨[f 0 10 (-8),f 14 0 192,f 0 14 (-192)],[(4,some [.int .u8 0 255])],[],[]⟩],10,true,0,7⟩ (.e)) (.e))
theorem aDX:acm.ok F75:=bV [(48,Gm),(42,tq),(41,uy)] [(48,rl),(42,ia),(42,ia),(42,ia),(42,ia),(41,ni)] ayL kr kr ⟨aC rfl QQ,aC rfl jh,aC rfl jh,aC rfl jh,aC rfl jh,aC rfl xn,trivial⟩
def Zx:aO:=⟨5,1,⟨[f 2 0 8,f 0 2 0,f 4 0 7,f 0 4 0,f 7 0 3,f 0 7 0,f 10 0 1048576,f 0 10 (-16),f 13 0 30,f 0 13 0],[(0,some c4)],[],[]⟩,[⟨[f 17 0 9,f 0 17 (-1)],[(5,some c4)],[],[]⟩]⟩
def ame:bw:= .b (.l ⟨[0],[⟨[f 0 26 0,f 26 17 0,f 26 22 0],[(8,some c4)],[(6,false)],[]⟩,⟨[f 0 26 (-1),f 26 17 1,f 26 22 1],[(8,some c4)],[(6,true)],[]⟩],22,true,0,7⟩ (.b (.j [0] [⟨[f 0 38 (-1),f 38 22 2],[(12,some c4)],[(11,true)],[]⟩,⟨[f 0 38 0,f 38 22 1],[(12,some c4)],[(11,false)],[]⟩] (.e) (.e)) (.e))) (.e)
theorem atv:Zx.ok YJ:=bV [(46,vm)] [(46,vG)] ame kr kr ⟨aC rfl GS,trivial⟩
def Vu:aO:=⟨2,1,⟨[f 2 0 8,f 0 2 0],[(0,some c4)],[],[]⟩,[⟨[f 8 0 8,f 0 8 0],[(2,some c4)],[],[]⟩]⟩
def azz:bw:= .b (.l ⟨[],[⟨[f 0 14 0,f 14 8 0,f 14 10 0],[(4,some c4)],[],[]⟩],10,true,0,7⟩ (.e)) (.e)
theorem aFS:Vu.ok F77:=bV [(46,vm)] [(46,vG)] azz kr kr ⟨aC rfl GS,trivial⟩
def vZ:aO:=⟨10,1,⟨[f 2 0 8,f 5 0 8,f 8 0 8,f 11 0 8,f 14 0 8,f 17 0 8,f 20 0 8,f 23 0 8],(g 0 8 c4),[],[]⟩,[⟨[f 32 0 8,f 0 32 0],[(10,some c4)],[],[]⟩]⟩
def aoV:bw:= .j [] [⟨[f 32 0 64,f 0 32 0],[(10,some c4)],[],[]⟩] (.l ⟨[],[⟨[f 31 0 0,f 0 31 0,f 35 0 0,f 0 35 0],[(11,none)],[],[]⟩,⟨[f 31 0 1,f 0 31 (-1),f 35 0 8,f 0 35 0],[(11,some c4)],[],[]⟩,⟨[f 31 0 2,f 0 31 (-2),f 35 0 16,f 0 35 0],[(11,some c4)],[],[]⟩,⟨[f 31 0 3,f 0 31 (-3),f 35 0 24,f 0 35 0],[(11,some c4)],[],[]⟩,⟨[f 31 0 4,f 0 31 (-4),f 35 0 32,f 0 35 0],[(11,some c4)],[],[]⟩,⟨[f 31 0 5,f 0 31 (-5),f 35 0 40,f 0 35 0],[(11,some c4)],[],[]⟩,⟨[f 0 31 (-6),f 35 0 48,f 0 35 0],[(11,some c4)],[],[]⟩,⟨[f 0 31 (-7),f 35 0 56,f 0 35 0],[(11,some c4)],[],[]⟩,⟨[f 0 31 (-8),f 35 0 64,f 0 35 0],[(11,some c4)],[],[]⟩],31,true,0,7⟩ (.e)) (.e)
theorem yo:vZ.ok vM:=bV [(52,xM),(46,vm)] [(52,Bj),(46,vG)] aoV kr kr ⟨aC rfl Dp,aC rfl GS,trivial⟩
def uS:aO:=⟨14,1,⟨[f 14 0 8,f 17 0 8,f 20 0 8,f 23 0 8,f 26 0 8,f 29 0 8,f 32 0 8,f 35 0 8],(g 4 8 c4),[],[]⟩,[⟨[],[],[(14,false)],[]⟩,⟨[f 40 0 1099511627776,f 10 0 1048576,f 0 10 (-16),f 7 0 3,f 0 7 (-1),f 0 4 0,f 0 1 (-1)],[],[(14,true)],[]⟩]⟩
def aAO:bw:= .b (.e) (.b (.e) (.j [0] [⟨[],[],[(15,true)],[]⟩,⟨[f 40 0 1099511627776,f 10 0 1048576,f 0 10 (-16)],[],[(15,false)],[]⟩] (.e) (.e)))
def apf:Nat→Option aO:=fW [(52,xM),(79,vZ),(58,VI)]
theorem azE:fD apf aKy aAO uS [0]=true:=kr
theorem Bp:uS.ok yV:=gu azE (gi (cs:=[(52,Bj),(79,vM),(58,F58)]) kr ⟨aC rfl Dp,aC rfl yo,aC rfl akj,trivial⟩)
def Xd:aO:=⟨11,2,⟨[f 32 0 8],[(10,some c4)],[],[]⟩,[⟨[f 38 0 244,f 0 38 0],[(12,some [.int .u8 0 255])],[],[]⟩]⟩
def aAj:bw:= .b (.e) (.b (.l ⟨[],[⟨[f 82 0 0,f 0 82 0,f 86 0 20,f 0 86 (-20)],[(28,some [.int .u8 0 255])],[],[]⟩,⟨[f 82 0 1,f 0 82 (-1),f 86 0 24,f 0 86 (-24)],[(28,some [.int .u8 0 255])],[],[]⟩,⟨[f 82 0 2,f 0 82 (-2),f 86 0 28,f 0 86 (-28)],[(28,some [.int .u8 0 255])],[],[]⟩,⟨[f 82 0 3,f 0 82 (-3),f 86 0 32,f 0 86 (-32)],[(28,some [.int .u8 0 255])],[],[]⟩,⟨[f 0 82 (-4),f 86 0 36,f 0 86 (-36)],[(28,some [.int .u8 0 255])],[],[]⟩,⟨[f 0 82 (-5),f 86 0 40,f 0 86 (-40)],[(28,some [.int .u8 0 255])],[],[]⟩,⟨[f 0 82 (-6),f 86 0 44,f 0 86 (-44)],[(28,some [.int .u8 0 255])],[],[]⟩],82,true,0,5⟩ (.e)) (.e))
theorem aBF:Xd.ok Xv:=bV [(67,Hi),(42,tq),(75,acm),(41,uy)] [(67,vv),(42,ia),(42,ia),(42,ia),(42,ia),(42,ia),(75,F75),(42,ia),(41,ni)] aAj kr kr ⟨aC rfl afX,aC rfl jh,aC rfl jh,aC rfl jh,aC rfl jh,aC rfl jh,aC rfl aDX,aC rfl jh,aC rfl xn,trivial⟩
def NX:aO:=⟨4,1,⟨[f 4 0 0,f 12 0 9],[(2,some c5)],[],[]⟩,[⟨[f 13 0 13,f 0 13 (-1)],[],[],[]⟩,⟨[f 13 0 0,f 0 13 0,f 4 0 (-1),f 0 12 (-1),f 8 0 256],[],[],[]⟩]⟩
def aBu:bw:= .e
theorem ZV:NX.ok x6:=bV [(71,Mk),(34,Dx)] [(71,vO),(34,qk)] aBu kr kr ⟨aC rfl ajR,aC rfl Zb,trivial⟩
def vY:aO:=⟨3,1,⟨[f 5 0 2097152,f 0 5 0,f 8 0 1],[(1,some [.int .u8 0 255]),(2,some c2)],[],[]⟩,[⟨[f 11 0 2097152,f 0 11 0],[(3,some [.int .u8 0 255])],[],[]⟩]⟩
def ayZ:bw:= .b (.e) (.b (.l ⟨[],[⟨[f 17 0 2097152,f 0 17 0,f 0 19 0],[(5,some [.int .u8 0 255])],[],[]⟩],19,true,0,0⟩ (.e)) (.e))
theorem ve:vY.ok jx:=bV [(70,sL),(33,se)] [(70,sU),(33,sd)] ayZ kr kr ⟨aC rfl Vb,aC rfl apz,trivial⟩
def JC:aO:=⟨10,1,⟨[f 2 0 8,f 5 0 8,f 8 0 8,f 11 0 8,f 14 0 8,f 17 0 8,f 20 0 8,f 23 0 8],(g 0 8 c4),[],[]⟩,[⟨[],[],[],[]⟩]⟩
def aAn:bw:= .e
theorem agx:JC.ok Oi:=bV [(79,vZ)] [(79,vM)] aAn kr kr ⟨aC rfl yo,trivial⟩
def w_:aO:=⟨11,5,⟨[f 2 0 8,f 5 0 8,f 8 0 8,f 11 0 8,f 14 0 8,f 17 0 8,f 20 0 8,f 23 0 8],(g 0 8 c4),[],[]⟩,[⟨[f 40 0 3,f 0 40 0,f 46 0 30,f 0 46 0],[],[],[]⟩]⟩
def aAY:bw:= .e
theorem Cx:w_.ok xS:=bV [(79,vZ),(45,P4)] [(79,vM),(45,UE)] aAY kr kr ⟨aC rfl yo,aC rfl aBk,trivial⟩
def LO:aO:=⟨16,15,⟨[f 1 0 8,f 4 0 0,f 14 0 8,f 0 14 0,f 17 0 8,f 0 17 0,f 20 0 8,f 0 20 0,f 23 0 8,f 0 23 0,f 26 0 8,f 0 26 0,f 29 0 8,f 0 29 0,f 32 0 8,f 0 32 0,f 35 0 8,f 0 35 0,f 37 0 mx,f 0 37 18446744073709551615,f 0 40 0,f 0 46 (-2)],(g 4 8 c4),[],[]⟩,[⟨[f 52 0 0,f 0 52 0,f 55 0 0,f 0 55 0,f 58 0 0,f 0 58 0,f 61 0 0,f 0 61 0,f 65 0 0,f 0 65 0,f 68 0 0,f 0 68 0,f 71 0 0,f 0 71 0,f 74 0 0,f 0 74 0,f 77 0 0,f 0 77 0,f 80 0 0,f 0 80 0,f 83 0 0,f 0 83 0,f 86 0 0,f 0 86 0,f 88 0 0,f 0 88 0,f 91 0 0,f 0 91 0],[(21,none),(22,none),(23,none),(24,none),(25,none),(26,none),(27,none),(28,none)],[],[]⟩,⟨[f 52 0 8,f 0 52 (-1),f 55 0 0,f 0 55 0,f 0 58 (-2),f 61 0 1048576,f 0 61 (-16),f 65 0 8,f 0 65 0,f 68 0 8,f 0 68 0,f 71 0 8,f 0 71 0,f 74 0 8,f 0 74 0,f 77 0 8,f 0 77 0,f 80 0 8,f 0 80 0,f 83 0 8,f 0 83 0,f 86 0 8,f 0 86 0,f 88 0 mx,f 0 88 18446744073709551615,f 91 0 1099511627776,f 0 91 0,f 58 46 0],(g 21 8 c4),[],[]⟩]⟩
def akz:bw:= .e
theorem adJ:LO.ok Ll:=bV [(80,uS)] [(80,yV)] akz kr kr ⟨aC rfl Bp,trivial⟩
def V5:aO:=⟨14,15,⟨[f 1 0 8,f 4 0 0,f 14 0 8,f 0 14 0,f 17 0 8,f 0 17 0,f 20 0 8,f 0 20 0,f 23 0 8,f 0 23 0,f 26 0 8,f 0 26 0,f 29 0 8,f 0 29 0,f 32 0 8,f 0 32 0,f 35 0 8,f 0 35 0,f 37 0 mx,f 0 37 18446744073709551615,f 0 40 0],(g 4 8 c4),[],[]⟩,[⟨[f 49 0 0,f 0 49 0,f 52 0 3,f 0 52 0,f 55 0 1048576,f 0 55 0,f 59 0 8,f 62 0 8,f 65 0 8,f 68 0 8,f 71 0 8,f 74 0 8,f 77 0 8,f 80 0 8,f 82 0 mx,f 0 82 18446744073709551615,f 85 0 1099511627776,f 0 85 0],(g 19 8 c4),[],[]⟩]⟩
def aso:bw:= .e
theorem aFr:V5.ok afv:=bV [(100,LO)] [(100,Ll)] aso kr kr ⟨aC rfl adJ,trivial⟩
def Vk:aO:=⟨14,15,⟨[f 1 0 8,f 4 0 0,f 14 0 8,f 0 14 0,f 17 0 8,f 0 17 0,f 20 0 8,f 0 20 0,f 23 0 8,f 0 23 0,f 26 0 8,f 0 26 0,f 29 0 8,f 0 29 0,f 32 0 8,f 0 32 0,f 35 0 8,f 0 35 0,f 37 0 mx,f 0 37 18446744073709551615,f 0 40 0],(g 4 8 c4),[],[]⟩,[⟨[f 46 0 8,f 0 46 0,f 49 0 0,f 0 49 0,f 52 0 2,f 0 52 0,f 55 0 1048576,f 0 55 0,f 59 0 8,f 62 0 8,f 65 0 8,f 68 0 8,f 71 0 8,f 74 0 8,f 77 0 8,f 80 0 8,f 82 0 mx,f 0 82 18446744073709551615,f 85 0 1099511627776,f 0 85 0],(g 19 8 c4),[],[]⟩]⟩
def apX:bw:= .e
theorem aqO:Vk.ok adN:=bV [(100,LO)] [(100,Ll)] apX kr kr ⟨aC rfl adJ,trivial⟩
def rh:aO:=⟨4,1,⟨[],[(3,some c8)],[(2,false)],[]⟩,[⟨[],[],[(4,false)],[]⟩,⟨[f 11 0 8,f 0 11 (-1)],[],[(4,true)],[]⟩]⟩
def aug:bw:= .b (.e) (.b (.e) (.b (.l ⟨[],[⟨[f 0 19 0],[],[],[]⟩],19,true,0,7⟩ (.b (.j [] [⟨[],[],[],[]⟩] (.e) (.e)) (.e))) (.e)))
def atC:Nat→Option aO:=fW [(44,oW),(80,uS),(98,JC)]
theorem aFB:fD atC aKz aug rh [0]=true:=kr
theorem vL:rh.ok td:=gu aFB (gi (cs:=[(44,ib),(80,yV),(44,ib),(98,Oi)]) kr ⟨aC rfl mD,aC rfl Bp,aC rfl mD,aC rfl agx,trivial⟩)
def Vz:aO:=⟨2,4,⟨[f 1 0 1,f 0 1 (-1),f 4 0 9000,f 0 4 (-9000)],[],[],[]⟩,[⟨[f 10 0 0,f 0 10 0,f 13 0 0,f 0 13 0,f 17 0 0,f 0 17 0],[(5,none)],[],[]⟩,⟨[f 10 0 1,f 0 10 (-1),f 13 0 9000,f 0 13 (-9000),f 17 0 1,f 0 17 (-1)],[(5,some c7)],[],[]⟩]⟩
def azh:bw:= .e
theorem ajw:Vz.ok XH:=bV [(57,KH),(103,rh)] [(57,M9),(103,td)] azh kr kr ⟨aC rfl agc,aC rfl vL,trivial⟩
def adO:aO:=⟨1,1,⟨[f 2 0 4,f 0 2 (-4)],[(0,some c0)],[],[(0,[0])]⟩,[⟨[f 5 0 6,f 0 5 (-6)],[(1,some c0)],[],[]⟩]⟩
def ajg:bw:= .e
theorem aAE:adO.ok F105:=bV [(94,aee),(60,mv)] [(94,vW),(60,wR)] ajg kr kr ⟨aC rfl aEX,aC rfl aAz,trivial⟩
def Ws:aO:=⟨4,1,⟨[],[(3,some c8)],[(2,false)],[]⟩,[⟨[],[],[],[]⟩]⟩
def awR:bw:= .b (.e) (.b (.e) (.b (.l ⟨[],[⟨[f 0 19 0],[],[],[]⟩],19,true,0,7⟩ (.b (.j [] [⟨[],[],[],[]⟩] (.e) (.e)) (.e))) (.e)))
theorem aof:Ws.ok F107:=bV [(44,oW),(80,uS),(98,JC)] [(44,ib),(80,yV),(44,ib),(98,Oi)] awR kr kr ⟨aC rfl mD,aC rfl Bp,aC rfl mD,aC rfl agx,trivial⟩
def qA:aO:=⟨4,4,⟨[⟨1,0,0⟩,⟨0,1,0⟩,⟨4,0,0⟩,⟨0,4,1⟩,⟨0,8,0⟩,⟨12,0,9⟩],[(2,some c1)],[],[]⟩,[⟨[⟨16,0,0⟩,⟨0,16,0⟩,⟨19,0,0⟩,⟨0,19,0⟩],[(7,none)],[],[]⟩,⟨[⟨16,0,0⟩,⟨0,16,0⟩,⟨19,0,-1⟩,⟨0,19,1⟩,⟨23,8,1⟩,⟨4,0,-1⟩,⟨8,0,255⟩],[(7,some c1)],[],[]⟩]⟩
def arH:bw:= .e
theorem DX:qA.ok qH:=bV [(96,NX),(32,O8),(31,Qn),(30,abh)] [(96,x6),(32,sq),(31,lA),(30,F30)] arH kr kr ⟨aC rfl ZV,aC rfl aaT,aC rfl auo,aC rfl arB,trivial⟩
def uW:aO:=⟨4,2,⟨[f 4 0 0,f 12 0 9],[(2,some c5)],[],[]⟩,[⟨[f 16 0 13,f 0 16 (-1)],[],[],[]⟩,⟨[f 0 13 0,f 16 0 0,f 0 16 0,f 13 8 (-1),f 4 0 (-1),f 0 12 (-1),f 8 0 256],[],[],[]⟩]⟩
def asZ:bw:= .e
theorem wP:uW.ok jF:=bV [(96,NX),(32,O8)] [(96,x6),(32,sq)] asZ kr kr ⟨aC rfl ZV,aC rfl aaT,trivial⟩
def abP:aO:=⟨14,10,⟨[f 2 0 8,f 0 2 0,f 5 0 8,f 0 5 0,f 8 0 8,f 0 8 0,f 11 0 8,f 0 11 0,f 14 0 8,f 0 14 0,f 17 0 8,f 0 17 0,f 20 0 8,f 0 20 0,f 23 0 8,f 0 23 0,f 25 0 mx,f 0 25 18446744073709551615,f 28 0 2199023255552,f 0 28 0,f 31 0 7,f 0 31 0,f 34 0 3,f 0 34 0,f 40 0 30],(g 0 8 c4),[],[]⟩,[⟨[f 44 0 8,f 0 44 0,f 47 0 8,f 0 47 0,f 50 0 8,f 0 50 0,f 53 0 8,f 0 53 0,f 56 0 8,f 0 56 0,f 59 0 8,f 0 59 0,f 62 0 8,f 0 62 0,f 65 0 8,f 0 65 0,f 67 0 mx,f 0 67 18446744073709551615,f 70 0 2199023255552,f 0 70 0],(g 14 8 c4),[],[]⟩]⟩
def aDW:bw:= .e
theorem aDO:abP.ok ZR:=bV [(52,xM),(47,Bs),(99,w_),(44,oW),(79,vZ),(76,Zx),(51,JO)] [(52,Bj),(47,u9),(99,xS),(44,ib),(79,vM),(76,YJ),(51,NO)] aDW kr kr ⟨aC rfl Dp,aC rfl Mx,aC rfl Cx,aC rfl mD,aC rfl yo,aC rfl atv,aC rfl adl,trivial⟩
def KY:aO:=⟨11,10,⟨[f 2 0 8,f 0 2 0,f 5 0 8,f 0 5 0,f 8 0 8,f 0 8 0,f 11 0 8,f 0 11 0,f 14 0 8,f 0 14 0,f 17 0 8,f 0 17 0,f 20 0 8,f 0 20 0,f 23 0 8,f 0 23 0,f 25 0 mx,f 0 25 18446744073709551615,f 28 0 2199023255552,f 0 28 0],(g 0 8 c4),[],[]⟩,[⟨[f 35 0 8,f 0 35 0,f 38 0 8,f 0 38 0,f 41 0 8,f 0 41 0,f 44 0 8,f 0 44 0,f 47 0 8,f 0 47 0,f 50 0 8,f 0 50 0,f 53 0 8,f 0 53 0,f 56 0 8,f 0 56 0,f 58 0 mx,f 0 58 18446744073709551615,f 61 0 2199023255552,f 0 61 0],(g 11 8 c4),[],[]⟩]⟩
def asA:bw:= .e
theorem aem:KY.ok F112:=bV [(99,w_),(44,oW),(79,vZ),(77,Vu),(51,JO)] [(99,xS),(44,ib),(79,vM),(77,F77),(44,ib),(51,NO)] asA kr kr ⟨aC rfl Cx,aC rfl mD,aC rfl yo,aC rfl aFS,aC rfl mD,aC rfl adl,trivial⟩
def Wy:aO:=⟨15,15,⟨[f 4 0 0,f 14 0 8,f 0 14 0,f 17 0 8,f 0 17 0,f 20 0 8,f 0 20 0,f 23 0 8,f 0 23 0,f 26 0 8,f 0 26 0,f 29 0 8,f 0 29 0,f 32 0 8,f 0 32 0,f 35 0 8,f 0 35 0,f 37 0 mx,f 0 37 18446744073709551615,f 0 40 0,f 44 0 1],[(4,some c4),(5,some c4),(6,some c4),(7,some c4),(8,some c4),(9,some c4),(10,some c4),(11,some c4),(14,some [.int .u64 0 7])],[],[]⟩,[⟨[f 52 0 0,f 0 52 0,f 55 0 3,f 0 55 0,f 58 0 1048576,f 0 58 0,f 62 0 8,f 65 0 8,f 68 0 8,f 71 0 8,f 74 0 8,f 77 0 8,f 80 0 8,f 83 0 8,f 85 0 mx,f 0 85 18446744073709551615,f 88 0 2199023255552,f 0 88 0],(g 20 8 c4),[],[]⟩]⟩
def aqC:bw:= .b (.e) (.b (.e) (.b (.l ⟨[],[⟨[f 0 55 0,f 59 0 8,f 0 59 0,f 62 0 8,f 0 62 0,f 65 0 8,f 0 65 0,f 68 0 8,f 0 68 0,f 71 0 8,f 0 71 0,f 74 0 8,f 0 74 0,f 77 0 8,f 0 77 0,f 80 0 8,f 0 80 0,f 82 0 mx,f 0 82 18446744073709551615,f 85 0 2199023255552,f 0 85 0],(g 19 8 c4),[],[]⟩],55,true,0,0⟩ (.e)) (.e)))
theorem aCw:Wy.ok F113:=bV [(80,uS),(112,KY)] [(80,yV),(112,F112)] aqC kr kr ⟨aC rfl Bp,aC rfl aem,trivial⟩
def afc:aO:=⟨15,15,⟨[f 4 0 0,f 14 0 8,f 0 14 0,f 17 0 8,f 0 17 0,f 20 0 8,f 0 20 0,f 23 0 8,f 0 23 0,f 26 0 8,f 0 26 0,f 29 0 8,f 0 29 0,f 32 0 8,f 0 32 0,f 35 0 8,f 0 35 0,f 37 0 mx,f 0 37 18446744073709551615,f 0 40 0,f 44 0 1],[(4,some c4),(5,some c4),(6,some c4),(7,some c4),(8,some c4),(9,some c4),(10,some c4),(11,some c4),(14,some c3)],[],[]⟩,[⟨[f 52 0 0,f 0 52 0,f 55 0 0,f 0 55 0,f 58 0 0,f 0 58 0,f 62 0 0,f 65 0 0,f 68 0 0,f 71 0 0,f 74 0 0,f 77 0 0,f 80 0 0,f 83 0 0,f 85 0 0,f 0 85 0,f 88 0 0,f 0 88 0],[(20,none),(21,none),(22,none),(23,none),(24,none),(25,none),(26,none),(27,none)],[],[]⟩,⟨[f 52 0 0,f 0 52 0,f 55 0 1,f 0 55 (-1),f 58 0 mx,f 0 58 18446744073709551615,f 62 0 8,f 65 0 8,f 68 0 8,f 71 0 8,f 74 0 8,f 77 0 8,f 80 0 8,f 83 0 8,f 85 0 mx,f 0 85 18446744073709551615,f 88 0 2199023255552,f 0 88 0],(g 20 8 c4),[],[]⟩]⟩
def aEw:bw:= .b (.e) (.b (.l ⟨[],[⟨[f 0 55 0],[],[],[]⟩],55,true,0,0⟩ (.e)) (.b (.e) (.b (.e) (.b (.l ⟨[],[⟨[f 0 61 0,f 64 0 mx,f 0 64 18446744073709551615,f 68 0 8,f 0 68 0,f 71 0 8,f 0 71 0,f 74 0 8,f 0 74 0,f 77 0 8,f 0 77 0,f 80 0 8,f 0 80 0,f 83 0 8,f 0 83 0,f 86 0 8,f 0 86 0,f 89 0 8,f 0 89 0,f 91 0 mx,f 0 91 18446744073709551615,f 94 0 2199023255552,f 0 94 0],(g 22 8 c4),[],[]⟩],61,true,0,0⟩ (.e)) (.e)))))
theorem aCF:afc.ok YO:=bV [(80,uS),(43,Ee),(44,oW),(112,KY),(78,WZ),(111,abP)] [(80,yV),(43,OQ),(44,ib),(44,ib),(112,F112),(78,F78),(111,ZR)] aEw kr kr ⟨aC rfl Bp,aC rfl VV,aC rfl mD,aC rfl mD,aC rfl aem,aC rfl aCd,aC rfl aDO,trivial⟩
def Pg:aO:=⟨4,15,⟨[],[(3,some c8)],[(2,false)],[]⟩,[⟨[f 19 0 0,f 29 0 0,f 0 29 0,f 32 0 0,f 0 32 0,f 35 0 0,f 0 35 0,f 38 0 0,f 0 38 0,f 41 0 0,f 0 41 0,f 44 0 0,f 0 44 0,f 47 0 0,f 0 47 0,f 50 0 0,f 0 50 0,f 52 0 0,f 0 52 0,f 0 55 0],[(9,none),(10,none),(11,none),(12,none),(13,none),(14,none),(15,none),(16,none)],[],[]⟩,⟨[f 19 0 0,f 29 0 8,f 0 29 0,f 32 0 8,f 0 32 0,f 35 0 8,f 0 35 0,f 38 0 8,f 0 38 0,f 41 0 8,f 0 41 0,f 44 0 8,f 0 44 0,f 47 0 8,f 0 47 0,f 50 0 8,f 0 50 0,f 52 0 mx,f 0 52 18446744073709551615,f 0 55 0],(g 9 8 c4),[],[]⟩]⟩
def ayt:bw:= .e
theorem acx:Pg.ok NC:=bV [(103,rh)] [(103,td)] ayt kr kr ⟨aC rfl vL,trivial⟩
def agt:aO:=⟨5,1,⟨[f 0 11 0],[(3,some c8)],[(2,false)],[]⟩,[⟨[f 17 0 7],[(5,some [.int .i64 0 8])],[],[]⟩]⟩
def atK:bw:= .b (.l ⟨[],[⟨[f 16 0 7,f 20 0 7,f 0 20 0,f 20 16 0],[(6,some [.int .i64 0 8])],[],[]⟩],16,true,0,6⟩ (.e)) (.e)
theorem apQ:agt.ok YD:=bV [(103,rh),(99,w_)] [(103,td),(99,xS)] atK kr kr ⟨aC rfl vL,aC rfl Cx,trivial⟩
def Ah:aO:=⟨18,5,⟨[f 16 0 0,f 0 16 0,f 19 0 3,f 0 19 0,f 22 0 mx,f 0 22 18446744073709551615,f 26 0 8,f 29 0 8,f 32 0 8,f 35 0 8,f 38 0 8,f 41 0 8,f 44 0 8,f 47 0 8,f 49 0 mx,f 0 49 18446744073709551615,f 52 0 2199023255552,f 0 52 0],[(3,some c8),(8,some c4),(9,some c4),(10,some c4),(11,some c4),(12,some c4),(13,some c4),(14,some c4),(15,some c4)],[(2,false)],[]⟩,[⟨[f 58 0 0,f 0 58 0,f 61 0 0,f 0 61 0,f 68 0 0,f 0 68 0],[(22,none)],[(21,false)],[]⟩,⟨[f 58 1 0,f 1 58 0,f 61 4 0,f 4 61 0,f 68 11 0,f 11 68 0],[(22,some c8)],[(21,false)],[]⟩]⟩
def akg:bw:= .b (.e) (.b (.l ⟨[0],[⟨[f 0 70 0,f 74 65 0,f 65 74 0],[(24,some c8)],[],[]⟩],70,true,0,7⟩ (.e)) (.e))
def anA:Nat→Option aO:=fW [(103,rh),(107,Ws)]
theorem aFV:fD anA aKA akg Ah [3]=true:=kr
theorem Qa:Ah.ok FP:=gu aFV (gi (cs:=[(103,td),(107,F107)]) kr ⟨aC rfl vL,aC rfl aof,trivial⟩)
def WT:aO:=⟨4,1,⟨[],[(3,some c8)],[(2,false)],[]⟩,[⟨[],[],[],[]⟩]⟩
def anT:bw:= .e
theorem aGb:WT.ok adn:=bV [(103,rh)] [(103,td)] anT kr kr ⟨aC rfl vL,trivial⟩
def KB:aO:=⟨4,5,⟨[],[(3,some c8)],[(2,false)],[]⟩,[⟨[f 0 13 (-1)],[(8,none)],[(7,false)],[]⟩,⟨[f 16 1 0,f 1 16 0,f 19 4 0,f 4 19 0,f 26 11 1,f 11 26 (-1),f 11 0 8,f 0 11 (-1)],[(8,some c8)],[(7,false)],[]⟩]⟩
def aoF:bw:= .e
def aEo:Nat→Option aO:=fW [(103,rh),(119,WT),(102,Vk),(57,KH)]
theorem aEY:fD aEo aKB aoF KB [3]=true:=kr
theorem aqv:KB.ok afE:=gu aEY (gi (cs:=[(103,td),(119,adn),(102,adN),(57,M9)]) kr ⟨aC rfl vL,aC rfl aGb,aC rfl aqO,aC rfl agc,trivial⟩)
def UY:aO:=⟨1,2,⟨[f 2 0 4,f 0 2 (-4)],[(0,some c0)],[],[(0,[0])]⟩,[⟨[f 5 0 2,f 0 5 (-2)],[(1,some c0)],[],[]⟩]⟩
def aCB:bw:= .e
theorem auG:UY.ok W7:=bV [(26,xK),(105,adO)] [(26,Ep),(105,F105)] aCB kr kr ⟨aC rfl aEi,aC rfl aAE,trivial⟩
def agD:aO:=⟨5,13,⟨[f 4 0 3,f 0 4 0,f 7 0 8,f 10 0 4294967295,f 0 10 0,f 14 0 8,f 0 14 0],[(0,some [.int .u8 0 255]),(4,some c4)],[],[]⟩,[⟨[f 20 0 0,f 53 0 0],[(6,none),(17,none)],[],[]⟩,⟨[f 20 0 6,f 53 0 8],[(6,some c0),(17,some c4)],[],[]⟩]⟩
def ayO:bw:= .b (.e) (.b (.l ⟨[],[⟨[f 0 43 0,f 46 0 4294967295,f 0 46 0,f 49 0 4294967295,f 0 49 0,f 52 0 4294967295,f 0 52 0,f 55 0 4294967295,f 0 55 0,f 58 0 4294967295,f 0 58 0,f 61 0 4294967295,f 0 61 0,f 49 43 4294967293],[],[],[]⟩],43,true,0,5⟩ (.b (.j [] [⟨[f 67 0 0,f 0 67 0,f 70 0 4294967295,f 0 70 0,f 73 0 4294967293,f 0 73 0,f 76 0 4294967295,f 0 76 0,f 79 0 4294967295,f 0 79 0,f 82 0 4294967295,f 0 82 0,f 85 0 4294967295,f 0 85 0,f 43 0 0],[],[],[]⟩,⟨[f 67 0 5,f 70 0 4294967295,f 0 70 0,f 73 0 4294967295,f 0 73 0,f 76 0 4294967295,f 0 76 0,f 79 0 4294967295,f 0 79 0,f 82 0 4294967295,f 0 82 0,f 85 0 4294967295,f 0 85 0,f 43 67 0,f 0 43 (-1)],[],[],[]⟩] (.e) (.e)) (.e))) (.e))
theorem aAu:agD.ok YA:=bV [(67,Hi),(2003,Dl),(122,UY),(38,QB)] [(67,vv),(2003,uL),(122,W7),(38,yA)] ayO kr kr ⟨aC rfl afX,aC rfl amB,aC rfl auG,aC rfl Ym,trivial⟩
def Ui:aO:=⟨6,2,⟨[f 4 0 0,f 12 0 9,f 13 0 0],[(2,some c1)],[],[]⟩,[⟨[f 20 0 2097152],[(6,some [.int .u8 0 255])],[],[]⟩]⟩
def aqG:bw:= .e
theorem ajr:Ui.ok Cq:=bV [(110,uW),(97,vY)] [(110,jF),(97,jx)] aqG kr kr ⟨aC rfl wP,aC rfl ve,trivial⟩
def Ta:aO:=⟨4,2,⟨[f 4 0 0,f 12 0 9],[(2,some c1)],[],[]⟩,[⟨[],[],[],[]⟩]⟩
def aAW:bw:= .e
theorem arc:Ta.ok yE:=bV [(110,uW),(97,vY)] [(110,jF),(97,jx)] aAW kr kr ⟨aC rfl wP,aC rfl ve,trivial⟩
def aey:aO:=⟨4,4,⟨[f 1 0 0,f 0 1 0,f 4 0 0,f 0 4 1,f 12 0 9],[(2,some c1)],[],[]⟩,[⟨[f 16 0 0,f 0 16 0,f 19 0 0,f 0 19 1,f 23 0 510,f 0 23 0],[(7,some c1)],[],[]⟩]⟩
def apM:bw:= .e
theorem axl:aey.ok BE:=bV [(110,uW),(31,N1)] [(110,jF),(31,lA)] apM kr kr ⟨aC rfl wP,aC rfl aEl,trivial⟩
def J0:aO:=⟨4,4,⟨[f 1 0 0,f 0 1 0,f 4 0 0,f 0 4 1,f 12 0 9],[(2,some c5)],[],[]⟩,[⟨[f 16 0 0,f 0 16 0,f 19 0 0,f 0 19 0,f 23 0 0,f 0 23 0],[(7,none)],[],[]⟩,⟨[f 16 0 0,f 0 16 0,f 19 0 (-1),f 0 19 1,f 23 8 0,f 8 23 0,f 4 0 (-1)],[(7,some c5)],[],[]⟩]⟩
def ann:bw:= .e
theorem Yk:J0.ok qn:=bV [(110,uW),(31,Qt),(97,vY)] [(110,jF),(31,lA),(97,jx)] ann kr kr ⟨aC rfl wP,aC rfl aEn,aC rfl ve,trivial⟩
def NI:aO:=⟨7,4,⟨[f 1 0 0,f 0 1 0,f 4 0 (-1),f 0 4 1,f 8 0 256,f 0 10 0,f 13 0 2097152,f 0 13 0,f 17 0 1048576,f 0 17 0,f 10 8 (-1)],[(2,some c1),(5,some [.int .u8 0 255])],[(6,false)],[]⟩,[⟨[f 25 0 0,f 0 25 0,f 28 0 0,f 0 28 0,f 0 32 0],[(10,none)],[],[]⟩,⟨[f 25 0 0,f 0 25 0,f 28 0 (-1),f 0 28 1,f 32 8 0,f 8 32 0],[(10,some c5)],[],[]⟩]⟩
def akt:bw:= .e
theorem aap:NI.ok wU:=bV [(97,vY),(31,Q1)] [(97,jx),(97,jx),(108,F108),(31,lA)] akt kr kr ⟨aC rfl ve,aC rfl ve,tbn rfl,aC rfl awr,trivial⟩
def TA:aO:=⟨5,4,⟨[f 1 0 0,f 0 1 0,f 4 0 0,f 0 4 1,f 12 0 9,f 14 0 4128,f 0 14 0],[(2,some c1),(4,some [.int .u8 0 255])],[],[]⟩,[⟨[f 19 0 0,f 0 19 0,f 22 0 0,f 0 22 0],[(8,none)],[],[]⟩,⟨[f 19 0 0,f 0 19 0,f 22 0 (-1),f 0 22 1,f 0 26 (-1),f 26 8 0,f 4 0 (-1),f 8 0 256],[(8,some c5)],[],[]⟩]⟩
def asj:bw:= .e
theorem azG:TA.ok Cc:=bV [(110,uW),(97,vY),(131,NI)] [(110,jF),(97,jx),(131,wU)] asj kr kr ⟨aC rfl wP,aC rfl ve,aC rfl aap,trivial⟩
def lY:aO:=⟨9,3,⟨[⟨1,0,0⟩,⟨0,1,0⟩,⟨4,0,0⟩,⟨0,4,1⟩,⟨8,0,512⟩,⟨0,8,0⟩,⟨10,0,1⟩,⟨0,10,0⟩,⟨13,0,9000⟩,⟨0,13,0⟩,⟨20,0,9⟩,⟨0,20,0⟩,⟨24,0,9⟩,⟨0,24,0⟩,⟨26,0,4128⟩,⟨0,26,0⟩,⟨4,8,0⟩,⟨4,20,0⟩],[(2,some c1),(6,some c8),(8,some [.int .u8 0 255])],[(5,false)],[]⟩,[⟨[⟨28,0,0⟩,⟨0,28,0⟩,⟨31,0,0⟩,⟨0,31,0⟩,⟨35,0,0⟩,⟨0,35,0⟩],[(11,none)],[],[]⟩,⟨[⟨28,0,0⟩,⟨0,28,0⟩,⟨31,0,-1⟩,⟨0,31,1⟩,⟨35,0,256⟩,⟨0,35,-1⟩,⟨35,8,1⟩,⟨4,0,-1⟩,⟨8,0,256⟩],[(11,some c1)],[],[]⟩]⟩
def Lc:aO:=⟨9,3,⟨[⟨1,0,0⟩,⟨0,1,0⟩,⟨4,0,0⟩,⟨0,4,1⟩,⟨8,0,512⟩,⟨0,8,0⟩,⟨10,0,1⟩,⟨0,10,0⟩,⟨13,0,9000⟩,⟨0,13,0⟩,⟨20,0,9⟩,⟨0,20,0⟩,⟨24,0,9⟩,⟨0,24,0⟩,⟨26,0,4128⟩,⟨0,26,0⟩,⟨4,8,0⟩,⟨4,20,0⟩],[(2,some c1),(6,some c8),(8,some [.int .u8 0 255])],[(5,false)],[]⟩,[⟨[⟨28,0,0⟩,⟨0,28,0⟩,⟨31,0,0⟩,⟨0,31,0⟩,⟨35,0,0⟩,⟨0,35,0⟩],[(11,none)],[],[]⟩,⟨[⟨28,0,0⟩,⟨0,28,0⟩,⟨31,0,-1⟩,⟨0,31,1⟩,⟨35,0,256⟩,⟨0,35,-1⟩,⟨35,8,1⟩,⟨4,0,-1⟩,⟨8,0,256⟩],[(11,some c5)],[],[]⟩]⟩
def aAo:bw:= .e
def aFf:Nat→Option aO:=fW [(109,qA),(135,TA),(130,J0)]
theorem atm:fD aFf PI aAo Lc []=true:=kr
theorem akh:Lc.ok vj:=gu atm (gi (cs:=[(109,qH),(135,Cc),(130,qn)]) kr ⟨aC rfl DX,aC rfl azG,aC rfl Yk,trivial⟩)
def S8:aO:=⟨4,2,⟨[f 4 0 0,f 12 0 9],[(2,some c1)],[],[]⟩,[⟨[],[(4,some [.int .u8 0 255])],[],[]⟩]⟩
def aDI:bw:= .e
theorem arI:S8.ok pj:=bV [(128,Ta),(127,Ui)] [(128,yE),(127,Cq)] aDI kr kr ⟨aC rfl arc,aC rfl ajr,trivial⟩
def Y8:aO:=⟨5,4,⟨[f 1 0 0,f 0 1 0,f 4 0 0,f 0 4 1,f 12 0 9,f 14 0 1048576,f 0 14 0],[(2,some c1),(4,some [.int .u8 0 255])],[],[]⟩,[⟨[f 19 0 0,f 0 19 0,f 22 0 0,f 0 22 0],[(8,none)],[],[]⟩,⟨[f 19 0 0,f 0 19 0,f 22 0 (-1),f 0 22 1,f 0 26 (-1),f 26 8 0,f 8 0 256],[(8,some c5)],[],[]⟩]⟩
def aAt:bw:= .e
theorem aCE:Y8.ok GN:=bV [(110,uW),(97,vY),(131,NI)] [(110,jF),(97,jx),(131,wU)] aAt kr kr ⟨aC rfl wP,aC rfl ve,aC rfl aap,trivial⟩
def mO:aO:=⟨9,3,⟨[⟨1,0,0⟩,⟨0,1,0⟩,⟨4,0,0⟩,⟨0,4,1⟩,⟨8,0,512⟩,⟨0,8,0⟩,⟨10,0,1⟩,⟨0,10,0⟩,⟨13,0,9000⟩,⟨0,13,0⟩,⟨20,0,9⟩,⟨0,20,-1⟩,⟨24,0,9⟩,⟨0,24,0⟩,⟨26,0,1048576⟩,⟨0,26,0⟩,⟨10,20,0⟩],[(2,some c1),(6,some c8),(8,some [.int .u8 0 255])],[(5,false)],[]⟩,[⟨[⟨28,0,0⟩,⟨0,28,0⟩,⟨31,0,0⟩,⟨0,31,0⟩,⟨35,0,0⟩,⟨0,35,0⟩],[(11,none)],[],[]⟩,⟨[⟨28,0,0⟩,⟨0,28,0⟩,⟨31,0,-1⟩,⟨0,31,1⟩,⟨35,0,256⟩,⟨0,35,-1⟩],[(11,some c1)],[],[]⟩]⟩
def QV:aO:=⟨9,3,⟨[⟨1,0,0⟩,⟨0,1,0⟩,⟨4,0,0⟩,⟨0,4,1⟩,⟨8,0,512⟩,⟨0,8,0⟩,⟨10,0,1⟩,⟨0,10,0⟩,⟨13,0,9000⟩,⟨0,13,0⟩,⟨20,0,9⟩,⟨0,20,-1⟩,⟨24,0,9⟩,⟨0,24,0⟩,⟨26,0,1048576⟩,⟨0,26,0⟩,⟨10,20,0⟩],[(2,some c1),(6,some c8),(8,some [.int .u8 0 255])],[(5,false)],[]⟩,[⟨[⟨28,0,0⟩,⟨0,28,0⟩,⟨31,0,0⟩,⟨0,31,0⟩,⟨35,0,0⟩,⟨0,35,0⟩],[(11,none)],[],[]⟩,⟨[⟨28,0,0⟩,⟨0,28,0⟩,⟨31,0,-1⟩,⟨0,31,1⟩,⟨35,0,256⟩,⟨0,35,-1⟩],[(11,some c5)],[],[]⟩]⟩
def aED:bw:= .e
def azp:Nat→Option aO:=fW [(109,qA),(144,Y8),(130,J0)]
theorem axC:fD azp Ke aED QV []=true:=kr
theorem aul:QV.ok uq:=gu axC (gi (cs:=[(109,qH),(144,GN),(130,qn)]) kr ⟨aC rfl DX,aC rfl aCE,aC rfl Yk,trivial⟩)
end AI
end
end
end Go.Proofs.YtndegphojkiblaaGreatDoor
