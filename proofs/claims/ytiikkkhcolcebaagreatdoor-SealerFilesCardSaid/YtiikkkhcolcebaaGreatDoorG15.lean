/- A part. -/
import Derived.Test.YtiikkkhcolcebaaGreatDoorG6
import Derived.Test.YtiikkkhcolcebaaGreatDoorG7
import Derived.Test.YtiikkkhcolcebaaGreatDoorG13
import Derived.Test.YtiikkkhcolcebaaGreatDoorG14
import Derived.WalkKit
import Derived.Lib.AppendZeros
import Derived.Lib.AppendZerosOnto
import Derived.Lib.Overlaps
import Derived.Laws.Externs
import Derived.Deep.RegionLaw
import Derived.WalkSpells
import Derived.Shelf.Spec.SlicesInsert
import Derived.StillTail
import Derived.IntWalk
import Derived.StillTailTactics
set_option linter.all false
set_option maxHeartbeats 4000000
set_option maxRecDepth 100000
namespace Go.Proofs.YtiikkkhcolcebaaGreatDoor
noncomputable section
section
attribute [local irreducible] Fo
open Go.RowKit
def XV:bp:=.join (.loop [.i 0,.r0] (.ln U0<|.bI .lss U1 U3<|.ite U4 (.join (.loop [.i 0] (.join (.ln U2<|.bI .lss U5 U6<|.ite U7 (.rw U2 U5 4<|.op (.rc U2 U5 0 (.int .u64))<|.rw U0 U1 4<|.cl bD 0 (.int .u64)<|.op (.bi .lss .u64 U9 bF)<|.j [bH]) (.j [.b false])) (.ite U6 (.bI .add U5 (.i 1)<|.j [U7]) (.bq (.jump 1 [U5]))))) (.op (.lit [])<|.ln U2<|.op (.cut U2 U5 U7 4)<|.op (.vw U2 U5 U8)<|.op (.app U6 U9 4 32)<|.join (.join (.ln bD<|.bI .gtr bF (.i 0)<|.ite bH (.rw bD (.i 0) 4<|.op (.rc bD (.i 0) 0 (.int .u64))<|.rw U0 U1 4<|.cl bQ 0 (.int .u64)<|.op (.bi .eql .u64 bP bV)<|.j [bX]) (.j [.b false])) (.ite bF (.ln bD<|.op (.cut bD (.i 1) bH 4)<|.op (.vw bD (.i 1) bL)<|.j [bP]) (.j [bD]))) (.ln U2<|.op (.cut U2 (.i 0) U5 4)<|.rw U0 U1 4<|.cl bP 0 (.int .u64)<|.cl bP 1 (.int .u32)<|.cl bP 2 (.int .i64)<|.cl bP 3 (.int .i64)<|.op (.lit [[((.int .u64),bQ),((.int .u32),bV),((.int .i64),bX),((.int .i64),bU)]])<|.op (.tk U2 bL)<|.op (.app cv cd 4 32)<|.op (.app cR bF 4 32)<|.bI .add U1 (.i 1)<|.j [cn,cm]))) (.bq (.jump 1 [U2])))) (.j [U1])
def yy:=Fo XV
def s46:bw:=⟨189,[cs 0],[],1,1,.v (.c (.own 0)),[(0,(.row 164 U1))],yy,46⟩
def C_:Ok s46:=oS .nil
def ans:bp:=.op (.bi .mul .u64 U0 (.i 11400714819323198485))<|.op (.bi .shr .u64 U1 (.i 61))<|.op (.conv .i64 U2)<|.j [U3]
def GP:=Fo ans
def s50:bw:=⟨246,[.c (.p (.int .u64) U0)],[],1,1,.v (ci 1),[],GP,50⟩
def Tb:Ok s50:=oS .nil
def apV:bp:=.join (.bI .geq U2 (.i 16)<|.ite U4 (.bI .leq U2 (.i 1048576)<|.ite U5 (.bI .rem U2 (.i 8)<|.bI .eql U6 (.i 0)<|.ite U7 (.bI .geq U3 (.i 0)<|.ite U8 (.bI .leq U3 (.i 4096)<|.j [U9]) (.j [.b false])) (.j [.b false])) (.j [.b false])) (.j [.b false])) (.j [U4])
def Ba:=Fo apV
def s47:bw:=⟨243,[.agg [.p (.int .u64) U0,.p (.int .u32) U1,pi 2,pi 3]],[],4,1,.v (.c (.p .bool U4)),[],Ba,47⟩
def KZ:Ok s47:=oS .nil
def aub:bp:=.join (.loop [.i 0] (.ln U0<|.bI .lss U1 U2<|.ite U3 (.join (.rw U0 U1 4<|.cl U4 0 (.int .u64)<|.cl U4 1 (.int .u32)<|.cl U4 2 (.int .i64)<|.cl U4 3 (.int .i64)<|.op (.call 47 Ba (w 5 4) 1 [])<|.no U9<|.ite bD (.j [.b true]) (.bI .gtr U1 (.i 0)<|.ite bF (.rw U0 U1 4<|.cl bH 0 (.int .u64)<|.bI .sub U1 (.i 1)<|.rw U0 bP 4<|.cl bQ 0 (.int .u64)<|.op (.bi .leq .u64 bL bV)<|.j [bX]) (.j [.b false]))) (.ite U4 (.bq (.jump 2 [.b false])) (.bI .add U1 (.i 1)<|.j [U5]))) (.bq (.jump 1 [])))) (.j [.b true])
def AN:=Fo aub
def s48:bw:=⟨245,[cs 0],[],1,1,.v (.c (.p .bool U1)),[],AN,48⟩
def Om:Ok s48:=oS (.cons KZ .nil)
def auH:bp:=.join (.bI .lss U0 (.i 0)<|.ite U1 (.j [.b true]) (.bI .gtr U0 (.i 4096)<|.j [U2])) (.ite U1 (.j [.i 0]) (.bI .add (.i 20) U0<|.bI .add U2 (.i 4)<|.bI .add U3 (.i 7)<|.bI .quo U4 (.i 8)<|.bI .mul U5 (.i 8)<|.j [U6]))
def lB:=Fo auH
def s44:bw:=⟨102,[ci 0],[],1,1,.v (ci 1),[],lB,44⟩
def qm:Ok s44:=oS .nil
def aDn:bp:=.join (.bI .lss U0 (.i 1)<|.ite U1 (.j [.b true]) (.bI .gtr U0 (.i 8)<|.j [U2])) (.ite U1 (.j [.i 1,.i 0,.i 0,.i 0]) (.j [.i 0,U0,.i 1,.i 16]))
def Hc:=Fo aDn
def s57:bw:=⟨172,[ci 0],[],1,4,.bM [.agg [pi 2,.p (.int .i64) (.i 0),pi 3,pi 4,.nil,.nil,.nil,.nil,.nil,.nil,.nil,.nil,.p (.int .i64) (.i 0),.p (.int .i64) (.i 0)],ci 1],[],Hc,57⟩
def aaj:Ok s57:=oS .nil
def avQ:bp:=.cA 2060 xD [U0] 1<|.join (.ln U2<|.loop [.i 16,.i 0] (.bI .lss U5 U3<|.ite U6 (.rw U2 U5 4<|.op (.rc U2 U5 0 (.int .u64))<|.op (.rc U2 U5 1 (.int .u32))<|.op (.rc U2 U5 2 (.int .i64))<|.op (.rc U2 U5 3 (.int .i64))<|.bI .lss bD U4<|.ite bH (.bq (.jump 2 [.b false,U2])) (.cA 5 F5 [bF] 1<|.bI .add bD bL<|.bI .add U5 (.i 1)<|.j [bP,bQ])) (.bq (.jump 1 [U4])))) (.bI .leq U3 U1<|.j [U4,U2])
def Ll:=Fo avQ
def ame:bw:=⟨195,[.c (.own 0),ci 1],[.row 164 U0],2,2,.v (.c (.p .bool U2)),[(0,(.row 164 U3))],Ll,186⟩
def ahS:Ok ame:=oS (.cons F_ (.cons atu .nil))
def aaJ:bp:=.join (.bI .lss U0 (.i 0)<|.ite U1 (.op (.dM (.i 0) 0)<|.op (.dM (.i 0) 0)<|.j []) (.j [])) (.join (.bI .sub U0 (.i 0)<|.bI .gtr U1 (.i 0)<|.ite U2 (.op (.cut .r0 (.i 0) (.i 0) 4)<|.op (.jY U1 [((.int .u64),(.i 0)),((.int .u32),(.i 0)),((.int .i64),(.i 0)),((.int .i64),(.i 0))] 32)<|.rw U4 (.i 0) 4<|.op (.app .r0 U4 4 32)<|.ln U6<|.op (.cut U6 (.i 0) (.i 0) 4)<|.j [U6]) (.j [.r0])) (.j [U1]))
def F63:=Fo aaJ
def Cc:bw:=⟨310,[.c .nil,ci 0],[],1,1,.v (.c (.sub 0 (.i 0) (.i 0))),[(0,(.row 164 U1))],F63,63⟩
def Xs:Ok Cc:=oS .nil
def E4:List L->Option (List L):=λls=>match Cc.F ls with|some os=>if os.length=Cc.kF then some []else none|none=>none
def aAF:bw:=⟨310,[.c .nil,ci 0],[],1,0,.v (.c (.own 0)),[(0,.row 164 .r0)],E4,2001⟩
def afg:aAF.ok Tryz.prog:=aqS (s:=Cc) Xs rfl rfl (x:=(.v 1)) rfl 2001
def aft:bp:=.join (.ln U0<|.loop [.i 0] (.bI .lss U2 U1<|.ite U3 (.rw U0 U2 4<|.op (.rc U0 U2 0 (.int .u64))<|.op (.rc U0 U2 1 (.int .u32))<|.op (.rc U0 U2 2 (.int .i64))<|.op (.rc U0 U2 3 (.int .i64))<|.join (.bI .gtr U2 (.i 0)<|.ite U9 (.bI .sub U2 (.i 1)<|.rw U0 bD 4<|.op (.rc U0 bD 0 (.int .u64))<|.op (.bi .leq .u64 U5 bH)<|.j [bL]) (.j [.b false])) (.ite U9 (.bq (.jump 2 [.b false])) (.bI .add U2 (.i 1)<|.j [bD]))) (.bq (.jump 1 [])))) (.j [.b true])
def E9:=Fo aft
def s62:bw:=⟨224,[.c (.own 0)],[.row 164 U0],1,1,.v (.c (.p .bool U1)),[(0,(.row 164 U0))],E9,62⟩
def PB:Ok s62:=oS .nil
def asm:bp:=.join (.bI .lss U0 (.i 0)<|.ite U3 (.j [.b true]) (.bI .lss U1 (.i (-1))<|.ite U4 (.j [.b true]) (.ln U2<|.bI .gtr U5 (.i 256)<|.j [U6]))) (.ite U3 (.j [.b false]) (.join (.ln U2<|.loop [.i 0] (.bI .lss U5 U4<|.ite U6 (.rw U2 U5 3<|.cl U7 0 .str<|.cl U7 1 .sl<|.cl U7 2 .sl<|.join (.cA 321 Ar [U8] 1<|.no bF<|.ite bH (.j [.b true]) (.cA 350 Fw [U8,U9,bD] 1<|.no bL<|.ite bP (.j [.b true]) (.bI .gtr U5 (.i 0)<|.ite bQ (.bI .sub U5 (.i 1)<|.rw U2 bV 3<|.cl bX 0 .str<|.op (.bs .leq U8 bU)<|.j [cd]) (.j [.b false])))) (.ite bF (.bq (.jump 2 [.b false])) (.bI .add U5 (.i 1)<|.j [bH]))) (.bq (.jump 1 [])))) (.j [.b true])))
def Gx:=Fo asm
def aun:bw:=⟨86,[.agg [pi 0,pi 1,ps 2]],[],3,1,.v (.c (.p .bool U3)),[],Gx,351⟩
def YY:Ok aun:=oS (.cons IT (.cons W_ .nil))
def Wc:bp:=.bI .eql U0 (.i 1)<|.ite U5 (.bq (.jump 0 [.s ⟨#[100,97,116]⟩])) (.bI .eql U0 (.i 2)<|.ite U6 (.bq (.jump 0 [.s ⟨#[115,104,100]⟩])) (.bI .eql U0 (.i 3)<|.ite U7 (.bq (.jump 0 [.s ⟨#[100,101,108]⟩])) (.bI .eql U0 (.i 4)<|.ite U8 (.bq (.jump 0 [.s ⟨#[105,100,120]⟩])) (.cA 2021 pk [U3] 1<|.op (.bs .add (.s ⟨#[101,99]⟩) U9)<|.j [bD]))))
def FT:=Fo Wc
def aDq:bw:=⟨142,[.agg (cM 0 4++[.p .bool U4])],[],5,1,.v (.c (.p .str U5)),[],FT,331⟩
def auy:Ok aDq:=oS (.cons ZK .nil)
def Yn:bp:=.join (.join (.join (.bI .eql U0 (.i 1)<|.ite U5 (.j [U5]) (.bI .eql U0 (.i 2)<|.ite U6 (.j [U6]) (.bI .eql U0 (.i 3)<|.j [U7]))) (.ite U5 (.ite U4 (.bq (.jump 2 [.b false])) (.j [])) (.bI .eql U0 (.i 4)<|.ite U6 (.j []) (.bI .eql U0 (.i 5)<|.ite U7 (.bq (.jump 1 [])) (.bq (.jump 2 [.b false])))))) (.bI .neq U3 (.i 0)<|.ite U5 (.bq (.jump 1 [.b false])) (.j []))) (.join (.bI .geq U3 (.i 0)<|.ite U5 (.bI .lss U3 (.i 6)<|.ite U6 (.bI .geq U1 (.i 0)<|.ite U7 (.bI .lss U1 (.i 4)<|.ite U8 (.bI .geq U2 (.i 1)<|.ite U9 (.bI .leq U2 (.i 8)<|.j [bD]) (.j [.b false])) (.j [.b false])) (.j [.b false])) (.j [.b false])) (.j [.b false])) (.j [U5]))
def FU:=Fo Yn
def aiF:bw:=⟨139,[.agg (cM 0 4++[.p .bool U4])],[],5,1,.v (.c (.p .bool U5)),[],FU,332⟩
def ank:Ok aiF:=oS .nil
def Y':bp:=.op (.call 332 FU (w 0 5) 1 [])<|.no U5<|.ite U6 (.bq (.jump 0 [.s ⟨#[]⟩,.i 1])) (.cA 2021 pk [U1] 1<|.cA 2021 pk [U2] 1<|.op (.call 331 FT (w 0 5) 1 [])<|.op (.lit [[(.str,(.s ⟨#[118]⟩))],[(.str,U7)],[(.str,U8)],[(.str,U9)]])<|.op (.call 2022 uQ [bD,.s ⟨#[46]⟩] 1 [])<|.join (.ite U4 (.op (.bs .add bF (.s ⟨#[46,116,109,112]⟩))<|.j [bH]) (.j [bF])) (.j [bH,.i 0]))
def yG:=Fo Y'
def awi:bw:=⟨64,[.agg (cM 0 4++[.p .bool U4])],[],5,2,.bM [.c (.p .str U5),ci 6],[],yG,336⟩
def QY:Ok awi:=oS (.cons ank (.cons auy (.cons ZK (.cons asj .nil))))
def Y9:bp:=.cA 336 yG [U0,U1,U2,.i 0,.b false] 2<|.j [U3]
def tu:=Fo Y9
def aug:bw:=⟨43,[ci 0,ci 1,ci 2],[],3,1,.v (.c (.p .str U3)),[],tu,337⟩
def Jh:Ok aug:=oS (.cons QY .nil)
def apo:bp:=.join (.ln U3<|.loop [.i 0] (.bI .lss U5 U4<|.ite U6 (.rw U3 U5 14<|.cl U7 0 (.int .i64)<|.cl U7 1 (.int .i64)<|.cl U7 2 (.int .i64)<|.cl U7 3 (.int .i64)<|.cl U7 4 .sl<|.cl U7 5 .sl<|.cl U7 6 .sl<|.cl U7 7 .sl<|.cl U7 8 .sl<|.cl U7 9 .sl<|.cl U7 10 .sl<|.cl U7 11 .sl<|.cl U7 12 (.int .i64)<|.cl U7 13 (.int .i64)<|.bI .eql bD (.i 2)<|.ite cm (.bq (.jump 2 ([.b true]++w 8 14))) (.bI .add U5 (.i 1)<|.j [cn])) (.bq (.jump 1 [])))) (.j [.b false,.i 0,.i 0,.i 0,.i 0,.r0,.r0,.r0,.r0,.r0,.r0,.r0,.r0,.i 0,.i 0])
def zW:=Fo apo
def ard:bw:=⟨126,[.agg [pi 0,pi 1,.p .bool U2,ps 3]],[],4,15,.bM [.agg (cM 5 4++dL 9 8++[pi 17,pi 18]),.c (.p .bool U4)],[],zW,661⟩
def XQ:Ok ard:=oS .nil
def SD:bp:=.cA 2072 D1 [U3] 0<|.join (.ln U3<|.loop [.i 0,U3] (.bI .lss U5 U4<|.ite U7 (.rw U6 U5 14<|.op (.rc U6 U5 4 .sl)<|.cA 2000 mc [U9] 0<|.op (.set U6 U5 4 [(.sl,U9)])<|.op (.rc bD U5 5 .sl)<|.cA 2000 mc [bF] 0<|.op (.set bD U5 5 [(.sl,bF)])<|.op (.rc bH U5 6 .sl)<|.cA 2000 mc [bL] 0<|.op (.set bH U5 6 [(.sl,bL)])<|.op (.rc bP U5 7 .sl)<|.cA 2000 mc [bQ] 0<|.op (.set bP U5 7 [(.sl,bQ)])<|.op (.rc bV U5 8 .sl)<|.cA 2000 mc [bX] 0<|.op (.set bV U5 8 [(.sl,bX)])<|.op (.rc bU U5 9 .sl)<|.cA 2000 mc [cd] 0<|.op (.set bU U5 9 [(.sl,cd)])<|.op (.rc cv U5 10 .sl)<|.cA 2000 mc [cR] 0<|.op (.set cv U5 10 [(.sl,cR)])<|.op (.rc cm U5 11 .sl)<|.cA 2000 mc [cn] 0<|.op (.set cm U5 11 [(.sl,cn)])<|.bI .add U5 (.i 1)<|.j [cH,ct]) (.bq (.jump 1 [U6])))) (.j [U4])
def NH:=Fo SD
def Zw:bw:=⟨56,[.agg [pi 0,pi 1,.p .bool U2,ps 3]],[],4,1,.v (.agg [pi 0,pi 1,.p .bool U2,.own 0]),[(0,(.row 150 U4))],NH,662⟩
def IY:Ok Zw:=oS (.cons B3 (.cons aaG .nil))
def LM:List L->Option (List L):=NH
def aiL:bw:=⟨56,[.agg [pi 0,pi 1,.p .bool U2,ps 3]],[],4,1,.v (.agg [pi 0,pi 1,.p .bool U2,ps 4]),[],NH,2053⟩
def aat:aiL.ok Tryz.prog:=nY (s:=Zw) IY rfl (x:=(.v 4)) (e:=150) rfl rfl 2053
def Rr:bp:=.bI .mul U3 U1<|.bI .add U3 (.i 1)<|.bI .mul U5 U1<|.ln U2<|.op (.cut U2 U4 U6 1)<|.j [U4,U8]
def iK:=Fo Rr
def ary:bw:=⟨230,[.agg [pi 0,pi 1,.own 0],ci 3],[.row 5 U2],4,2,.v (.c (.sub 0 U4 U5)),[(0,(.row 5 U2))],iK,341⟩
def x6:Ok ary:=oS .nil
def Tm:bp:=.bI .rem U0 (.i 255)<|.bI .add U1 (.i 255)<|.bI .rem U2 (.i 255)<|.j [U3]
def De:=Fo Tm
def apW:bw:=⟨327,[ci 0],[],1,1,.v (ci 1),[],De,342⟩
def aou:Ok apW:=oS .nil
def ash:bp:=.join (.bI .lss U0 (.i 0)<|.ite U1 (.op (.dM (.i 0) 0)<|.op (.dM (.i 0) 0)<|.j []) (.j [])) (.join (.bI .sub U0 (.i 0)<|.bI .gtr U1 (.i 0)<|.ite U2 (.op (.cut .r0 (.i 0) (.i 0) 1)<|.op (.jY U1 [(.sl,.r0)] 24)<|.rw U4 (.i 0) 1<|.op (.app .r0 U4 1 24)<|.ln U6<|.op (.cut U6 (.i 0) (.i 0) 1)<|.j [U6]) (.j [.r0])) (.j [U1]))
def MO:=Fo ash
def aok:bw:=⟨311,[.c .nil,ci 0],[],1,1,.v (.c (.sub 0 (.i 0) (.i 0))),[(0,(.row 95 U1))],MO,668⟩
def aBA:Ok aok:=oS .nil
def anS:bp:=.ln U0<|.op (.part U0 (.i 4) (.i 6) 1)<|.cA 335 tU [U2] 1<|.ln U0<|.op (.part U0 (.i 6) (.i 8) 1)<|.cA 335 tU [U5] 1<|.ln U0<|.op (.part U0 (.i 8) (.i 12) 1)<|.cA 335 tU [U8] 1<|.ln U0<|.op (.part U0 (.i 12) (.i 20) 1)<|.cA 335 tU [bF] 1<|.join (.loop [.i 0,.i 0,.i 0,.i 0,.i 0,.i 0,.i 0] (.bI .lss bL (.i 6)<|.ite cv (.join (.bI .mul (.i 4) bL<|.bI .add (.i 20) cR<|.bI .add cm (.i 4)<|.ln U0<|.op (.part U0 cm cn 1)<|.cA 335 tU [cH] 1<|.op (.conv .u32 ck)<|.bI .eql bL (.i 0)<|.ite cS (.bq (.jump 0 ([.i 0,cK]++w 15 5))) (.bI .eql bL (.i 1)<|.ite dZ (.bq (.jump 0 ([.i 1,bP,cK]++w 16 4))) (.bI .eql bL (.i 2)<|.ite eJ (.j [.i 2,bP,bQ,cK,bX,bU,cd]) (.bI .eql bL (.i 3)<|.ite e8 (.j [.i 3,bP,bQ,bV,cK,bU,cd]) (.bI .eql bL (.i 4)<|.ite ee (.bq (.jump 0 ([.i 4]++w 14 4++[cK,cd]))) (.bI .eql bL (.i 5)<|.ite ig (.bq (.jump 0 ([.i 5]++w 14 5++[cK]))) (.op (.dM (.i 0) 0)<|.j []))))))) (.bI .add cR (.i 1)<|.bq (.jump 0 ([cS]++w 22 6)))) (.bq (.jump 1 (w 14 6))))) (.bq (.jump 0 ([U3,U6,U9]++w 12 7)))
def Ny:=Fo anS
def atA:bw:=⟨77,[cs 0],[],1,10,.v (.agg (cM 1 4++[.p (.int .u32) U5,.p (.int .u32) U6,.p (.int .u32) U7,.p (.int .u32) U8,.p (.int .u32) U9,.p (.int .u32) bD,.nil])),[],Ny,356⟩
def atZ:Ok atA:=oS (.cons aab .nil)
def ayY:bp:=.cA 351 Gx [U0,U1,U2] 1<|.no U3<|.ite U4 (.j [.r0]) (.join (.ln U2<|.loop [.i 0,.r0] (.bI .lss U6 U5<|.ite U8 (.rw U2 U6 3<|.cl U9 0 .str<|.cl U9 1 .sl<|.cl U9 2 .sl<|.op (.lit [[(.str,bD)]])<|.op (.app U7 bL 1 16)<|.bI .add U6 (.i 1)<|.j [bQ,bP]) (.bq (.jump 1 [U7])))) (.j [U5]))
def M9:=Fo ayY
def awP:bw:=⟨211,[.agg [pi 0,pi 1,ps 2]],[],3,1,.v (.c (.own 0)),[(0,(.row 9 U3))],M9,669⟩
def axO:Ok awP:=oS (.cons YY .nil)
def VR:bp:=.join (.bI .eql U2 (.i 6)<|.ite U4 (.j [.i 4,.i 0]) (.j [.i 5,U2])) (.cA 336 yG [U4,U0,U1,U5,U3] 2<|.j [U6])
def tV:=Fo VR
def amB:bw:=⟨28,[ci 0,ci 1,ci 2,.c (.p .bool U3)],[],4,1,.v (.c (.p .str U4)),[],tV,670⟩
def OU:Ok amB:=oS (.cons QY .nil)
def aBi:bp:=.cA 670 tV [U3,U8,cm,cn] 1<|.j [ct]
def uw:=Fo aBi
def acW:bw:=⟨207,[.c (.ptr 0 0),ci 22,.c (.p .bool cn)],[.box ([pi 0,pi 1,ps 2,pi 3,pi 4,.p .bool U5,ps 6]++cM 7 7++[.p (.int .u32) bP,.p (.int .u32) bQ,.p (.int .u32) bV,.p (.int .u32) bX,.p (.int .u32) bU,.p (.int .u32) cd,ps 20,ps 21])],24,1,.v (.c (.p .str ct)),[(0,(.box ([pi 0,pi 1,ps 2,pi 3,pi 4,.p .bool U5,ps 6]++cM 7 7++[.p (.int .u32) bP,.p (.int .u32) bQ,.p (.int .u32) bV,.p (.int .u32) bX,.p (.int .u32) bU,.p (.int .u32) cd,ps 20,ps 21])))],uw,671⟩
def VN:Ok acW:=oS (.cons OU .nil)
def auG:bp:=.cA 327 v_ [U0] 1<|.op (.conv .u8 U1)<|.op (.bi .shr .u32 U1 (.i 8))<|.op (.conv .u8 U3)<|.op (.bi .shr .u32 U1 (.i 16))<|.op (.conv .u8 U5)<|.op (.bi .shr .u32 U1 (.i 24))<|.op (.conv .u8 U7)<|.op (.lit [[((.int .u8),U2)],[((.int .u8),U4)],[((.int .u8),U6)],[((.int .u8),U8)]])<|.j [U9]
def A8:=Fo auG
def aeV:bw:=⟨75,[cs 0],[],1,1,.v (.c (.own 0)),[(0,(.row 5 U1))],A8,333⟩
def Sl:Ok aeV:=oS (.cons AH .nil)
def amS:bp:=.cA 327 v_ [U0] 1<|.op (.conv .u8 U1)<|.op (.bi .shr .u32 U1 (.i 8))<|.op (.conv .u8 U3)<|.op (.bi .shr .u32 U1 (.i 16))<|.op (.conv .u8 U5)<|.op (.bi .shr .u32 U1 (.i 24))<|.op (.conv .u8 U7)<|.op (.lit [[((.int .u8),U2)],[((.int .u8),U4)],[((.int .u8),U6)],[((.int .u8),U8)]])<|.j [U9]
def DF:=Fo amS
def aAD:bw:=⟨155,[cs 0],[],1,1,.v (.c (.own 0)),[(0,(.row 5 U1))],DF,353⟩
def QX:Ok aAD:=oS (.cons AH .nil)
def Rw:bp:=.join (.ln U0<|.loop [.i 0,.i 0] (.bI .lss U3 U1<|.ite U4 (.join (.rw U0 U3 1<|.cl U5 0 .sl<|.ln U6<|.bI .add U2 U7<|.bI .lss U8 (.i 0)<|.ite U9 (.op (.dM (.i 0) 0)<|.op (.dM (.i 0) 0)<|.j [U8]) (.j [U8])) (.bI .add U3 (.i 1)<|.j [U5,U6])) (.bq (.jump 1 [U2])))) (.cA 668 MO [U1] 1<|.join (.ln U0<|.loop [.i 0,.i 0,U2] (.bI .lss U5 U3<|.ite U7 (.rw U0 U5 1<|.cl U8 0 .sl<|.op (.tQ U6 U4 U9 1)<|.bI .add U5 (.i 1)<|.j [bF,bH,bD]) (.bq (.jump 1 [U4,U6])))) (.j [U3,U4]))
def K2:=Fo Rw
def aiI:bw:=⟨265,[cs 0],[],1,2,.v (.c (.sub 0 (.i 0) U1)),[(0,(.row 95 U2))],K2,672⟩
def aod:aiI.ok Tryz.prog:=lr Rw Y8 (.cons aBA .nil) Tryz.func265 kr kr rfl
def ajy:bp:=.ln U0<|.ln U1<|.bI .neq U3 U4<|.ite U5 (.j [.i 1,.r0]) (.cA 300 sg [] 0<|.op (.app .r0 U0 1 1)<|.join (.ln U1<|.loop [.i 0,U6] (.bI .lss U8 U7<|.ite bD (.join (.rw U1 U8 1<|.cl bF 0 (.int .u8)<|.join (.op (.bi .neq .u8 U2 (.i 0))<|.ite bL (.op (.bi .neq .u8 bH (.i 0))<|.j [bP]) (.j [.b false])) (.ite bL (.rw U9 U8 1<|.op (.rc U9 U8 0 (.int .u8))<|.op (.dM U2 256)<|.op (.ix yg U2)<|.op (.dM bH 256)<|.op (.ix yg bH)<|.bI .add bV bX<|.op (.dM bU 510)<|.op (.ix Ae bU)<|.op (.bi .xor .u8 bQ cd)<|.rw U9 U8 1<|.op (.set U9 U8 0 [((.int .u8),cv)])<|.j [cm]) (.j [U9]))) (.bI .add U8 (.i 1)<|.j [bH,bF])) (.bq (.jump 1 [U9])))) (.j [.i 0,U7]))
def Fq:=Fo ajy
def ayU:bw:=⟨234,[cs 0,cs 1,.c (.p (.int .u8) U2)],[],3,2,.bM [.c (.own 0),ci 3],[(0,(.row 5 U4))],Fq,301⟩
def TE:Ok ayU:=oS (.cons M5 .nil)
def YV:bp:=.op (.bi .eql .u8 U0 (.i 0))<|.ite U1 (.j [.i 0,.i 1]) (.cA 300 sg [] 0<|.op (.dM U0 256)<|.op (.ix yg U0)<|.bI .sub (.i 255) U2<|.op (.dM U3 510)<|.op (.ix Ae U3)<|.j [U4,.i 0])
def Gw:=Fo YV
def azF:bw:=⟨287,[.c (.p (.int .u8) U0)],[],1,2,.bM [.c (.p (.int .u8) U1),ci 2],[],Gw,305⟩
def ahC:Ok azF:=oS (.cons M5 .nil)
def WC:bp:=.cA 306 nf [U0] 1<|.no U1<|.ite U2 (.j [.i 1,.i 0,.r0]) (.cA 303 t_ [U0,U0] 1<|.join (.loop [.i 0,U3] (.bI .lss U4 U0<|.ite U6 (.cA 341 iK [U0,U0,U5,U4] 2<|.op (.ir U5 U7 U8 U4 1)<|.op (.set U5 U9 0 [((.int .u8),(.i 1))])<|.bI .add U4 (.i 1)<|.j [bF,bD]) (.bq (.jump 1 [U5])))) (.j [.i 0,U0,U4]))
def HT:=Fo WC
def awT:bw:=⟨286,[ci 0],[],1,3,.bM [.agg [pi 2,pi 2,.own 0],ci 1],[(0,(.row 5 U3))],HT,344⟩
def anE:Ok awT:=oS (.cons x6 (.cons Ea (.cons MN .nil)))
def Z3:bp:=.join (.cA 306 nf [U0] 1<|.ite U3 (.cA 306 nf [U1] 1<|.ite U4 (.ln U2<|.bI .mul U0 U1<|.bI .eql U5 U6<|.j [U7]) (.j [.b false])) (.j [.b false])) (.j [U3])
def nE:=Fo Z3
def apy:bw:=⟨228,[.agg [pi 0,pi 1,ps 2]],[],3,1,.v (.c (.p .bool U3)),[],nE,307⟩
def Ch:Ok apy:=oS (.cons Ea .nil)
def WL:bp:=.bI .eql U1 (.i 0)<|.ite U2 (.j [.i 1]) (.op (.bi .eql .u8 U0 (.i 0))<|.ite U3 (.j [.i 0]) (.cA 300 sg [] 0<|.op (.dM U0 256)<|.op (.ix yg U0)<|.cA 342 De [U1] 1<|.bI .mul U4 U5<|.bI .rem U6 (.i 255)<|.op (.dM U7 510)<|.op (.ix Ae U7)<|.j [U8]))
def FI:=Fo WL
def aBm:bw:=⟨284,[.c (.p (.int .u8) U0),ci 1],[],2,1,.v (.c (.p (.int .u8) U2)),[],FI,343⟩
def aul:Ok aBm:=oS (.cons aou (.cons M5 .nil))
def YQ:bp:=.join (.cA 306 nf [U0] 1<|.no U2<|.ite U3 (.j [.b true]) (.cA 306 nf [U1] 1<|.no U4<|.j [U5])) (.ite U2 (.j [.i 1,.i 0,.i 0,.r0]) (.cA 303 t_ [U0,U1] 1<|.join (.loop [.i 0,U3] (.bI .lss U4 U0<|.ite U6 (.join (.loop [.i 0,U5] (.bI .lss U7 U1<|.ite U9 (.cA 341 iK [U0,U1,U8,U4] 2<|.op (.conv .u8 U4)<|.cA 343 FI [bH,U7] 1<|.op (.ir U8 bD bF U7 1)<|.op (.set U8 bP 0 [((.int .u8),bL)])<|.bI .add U7 (.i 1)<|.j [bV,bQ]) (.bq (.jump 1 [U8])))) (.bI .add U4 (.i 1)<|.j [U8,U7])) (.bq (.jump 1 [U5])))) (.j [.i 0,U0,U1,U4])))
def Gh:=Fo YQ
def afl:bw:=⟨231,[ci 0,ci 1],[],2,4,.bM [.agg [pi 3,pi 4,.own 0],ci 2],[(0,(.row 5 U5))],Gh,345⟩
def aiz:Ok afl:=oS (.cons x6 (.cons aul (.cons Ea (.cons MN .nil))))
def ate:bp:=.ln U1<|.join (.ln U2<|.loop [U3,.i 0] (.bI .lss U6 U4<|.ite U7 (.rw U2 U6 3<|.cl U8 0 (.int .i64)<|.cl U8 1 .sl<|.cl U8 2 .bool<|.cA 320 z8 [U9,bD,bF,U5] 1<|.bI .add U6 (.i 1)<|.j [bH,bL]) (.bq (.jump 1 [U5])))) (.j [U4])
def sR:=Fo ate
def aCF:bw:=⟨261,[.agg [.p .str U0,ps 1,ps 2]],[],3,1,.v (ci 3),[],sR,328⟩
def JV:Ok aCF:=oS (.cons Jj .nil)
def ajc:bp:=.join (.ln U0<|.loop [.i 0,.i 0] (.bI .lss U3 U1<|.ite U4 (.join (.rw U0 U3 1<|.cl U5 0 .sl<|.ln U6<|.bI .add U2 U7<|.bI .lss U8 (.i 0)<|.ite U9 (.op (.dM (.i 0) 0)<|.op (.dM (.i 0) 0)<|.j [U8]) (.j [U8])) (.bI .add U3 (.i 1)<|.j [U5,U6])) (.bq (.jump 1 [U2])))) (.cA 2001 E4 [U1] 0<|.join (.ln U0<|.loop [.i 0,.r0] (.bI .lss U3 U2<|.ite U5 (.rw U0 U3 1<|.cl U6 0 .sl<|.op (.app U4 U7 4 32)<|.bI .add U3 (.i 1)<|.j [U9,U8]) (.bq (.jump 1 [U4])))) (.j [U2]))
def LY:=Fo ajc
def s64:bw:=⟨259,[cs 0],[],1,1,.v (.c (.own 0)),[(0,(.row 164 U1))],LY,64⟩
def apa:Ok s64:=oS (.cons afg (.cons Xs .nil))
def awH:bp:=.cA 2000 mc [bL] 0<|.cA 2073 R2 [bP] 0<|.join (.ln bP<|.loop [.i 0,bP] (.bI .lss bV bQ<|.ite bU (.rw bX bV 1<|.op (.rc bX bV 0 .sl)<|.cA 2011 qp [cv] 0<|.rw bX bV 1<|.op (.set bX bV 0 [(.sl,cv)])<|.bI .add bV (.i 1)<|.j [cn,cm]) (.bq (.jump 1 [bX])))) (.j [bQ])
def AY:=Fo awH
def aCx:bw:=⟨57,[.agg (cM 0 7++[.p (.int .u32) U7,.p (.int .u32) U8,.p (.int .u32) U9,.p (.int .u32) bD,.p (.int .u32) bF,.p (.int .u32) bH,ps 13,ps 14])],[],15,1,.v (.agg (cM 0 7++[.p (.int .u32) U7,.p (.int .u32) U8,.p (.int .u32) U9,.p (.int .u32) bD,.p (.int .u32) bF,.p (.int .u32) bH,.own 0,.own 1])),[(0,(.row 164 bL)),(1,(.row 95 bQ))],AY,665⟩
def Mt:Ok aCx:=oS (.cons B3 (.cons wB (.cons aqR .nil)))
def aum:bp:=.op (.call 665 AY (w 0 15) 1 [])<|.join (.bI .eql U0 (.i 0)<|.ite bV (.j [.i 1]) (.j [U0])) (.j [bV,bQ])
def G0:=Fo aum
def adu:bw:=⟨24,[.agg (cM 0 7++[.p (.int .u32) U7,.p (.int .u32) U8,.p (.int .u32) U9,.p (.int .u32) bD,.p (.int .u32) bF,.p (.int .u32) bH,ps 13,ps 14])],[],15,2,.v (.agg ([pi 15]++cM 1 6++[.p (.int .u32) U7,.p (.int .u32) U8,.p (.int .u32) U9,.p (.int .u32) bD,.p (.int .u32) bF,.p (.int .u32) bH,.own 0,.own 1])),[(0,(.row 164 bL)),(1,(.row 95 bV))],G0,666⟩
def Ul:Ok adu:=oS (.cons Mt .nil)
def aBp:bp:=.j []
def nQ:=Fo aBp
def aoC:bw:=⟨30,[],[],0,0,.v (.agg [.p (.int .i64) (.i 0),.p (.int .i64) (.i 0),.p (.int .i64) (.i 0),.p (.int .i64) (.i 0),.p (.int .i64) (.i 0),.p (.int .i64) (.i 0),.p (.int .i64) (.i 0),.p (.int .u32) (.i 0),.p (.int .u32) (.i 0),.p (.int .u32) (.i 0),.p (.int .u32) (.i 0),.p (.int .u32) (.i 0),.p (.int .u32) (.i 0),.nil,.nil]),[],nQ,667⟩
def EH:Ok aoC:=oS .nil
def aqY:bp:=.join (.loop [.i 0,.i 0] (.bI .lss U3 (.i 8)<|.ite U4 (.join (.op (.conv .u64 U3)<|.op (.bi .shr .u8 U1 U5)<|.op (.bi .and .u8 U6 (.i 1))<|.op (.bi .eql .u8 U7 (.i 1))<|.ite U8 (.op (.conv .i64 U0)<|.op (.conv .u64 U3)<|.bI .shl U9 bD<|.bI .xor U2 bF<|.j [bH]) (.j [U2])) (.bI .add U3 (.i 1)<|.j [U5,U6])) (.bq (.jump 1 [U2])))) (.join (.loop [U2,.i 14] (.bI .geq U4 (.i 8)<|.ite U5 (.join (.op (.conv .u64 U4)<|.bI .shr U3 U6<|.bI .and U7 (.i 1)<|.bI .eql U8 (.i 1)<|.ite U9 (.bI .sub U4 (.i 8)<|.op (.conv .u64 bD)<|.bI .shl (.i 285) bF<|.bI .xor U3 bH<|.j [bL]) (.j [U3])) (.bI .sub U4 (.i 1)<|.j [U6,U7])) (.bq (.jump 1 [U3])))) (.op (.conv .u8 U3)<|.j [U4]))
def pE:=Fo aqY
def s19:bw:=⟨370,[.c (.p (.int .u8) U0),.c (.p (.int .u8) U1)],[],2,1,.v (.c (.p (.int .u8) U2)),[],pE,19⟩
def Ci:Ok s19:=oS .nil
def YI:bp:=.join (.bI .geq U0 (.i 1)<|.ite U2 (.bI .leq U0 (.i 16)<|.ite U3 (.bI .geq U1 (.i 1)<|.ite U4 (.bI .leq U1 (.i 16)<|.j [U5]) (.j [.b false])) (.j [.b false])) (.j [.b false])) (.j [U2])
def mX:=Fo YI
def s22:bw:=⟨369,[ci 0,ci 1],[],2,1,.v (.c (.p .bool U2)),[],mX,22⟩
def A7:Ok s22:=oS .nil
def aak:bp:=.cA 22 mX [U0,U1] 1<|.no U2<|.ite U3 (.j [.i 1,.i 0,.i 0,.r0]) (.join (.loop [.i 0,.r0] (.bI .lss U4 U0<|.ite U6 (.join (.loop [.i 1,.i 0,U5] (.bI .lss U8 U1<|.ite bD (.op (.lit [[((.int .u8),U7)]])<|.op (.app U9 bF 1 1)<|.op (.conv .u8 U4)<|.cA 19 pE [U7,bL] 1<|.bI .add U8 (.i 1)<|.j [bP,bQ,bH]) (.bq (.jump 1 [U9])))) (.bI .add U4 (.i 1)<|.j [U8,U7])) (.bq (.jump 1 [U5])))) (.j [.i 0,U0,U1,U4]))
def FN:=Fo aak
def s23:bw:=⟨334,[ci 0,ci 1],[],2,4,.bM [.agg [pi 3,pi 4,.own 0],ci 2],[(0,(.row 5 U5))],FN,23⟩
def awv:Ok s23:=oS (.cons A7 (.cons Ci .nil))
def aji:bp:=.ln U0<|.bI .neq U2 U1<|.ite U3 (.j [.b false]) (.join (.loop [.i 0] (.bI .lss U4 U1<|.ite U5 (.rw U0 U4 1<|.cl U6 0 .sl<|.ln U7<|.rw U0 (.i 0) 1<|.cl U9 0 .sl<|.ln bD<|.bI .neq U8 bF<|.ite bH (.bq (.jump 2 [.b false])) (.bI .add U4 (.i 1)<|.j [bL])) (.bq (.jump 1 [])))) (.j [.b true]))
def Kv:=Fo aji
def s26:bw:=⟨250,[cs 0,ci 1],[],2,1,.v (.c (.p .bool U2)),[],Kv,26⟩
def aCs:Ok s26:=oS .nil
def aAN:bp:=.join (.loop [.i 0,.i 0] (.ln U0<|.bI .lss U2 U3<|.ite U4 (.op (.bi .shl .u64 U1 (.i 8))<|.rw U0 U2 1<|.cl U6 0 (.int .u8)<|.op (.conv .u64 U7)<|.op (.bi .or .u64 U5 U8)<|.bI .add U2 (.i 1)<|.j [U9,bD]) (.bq (.jump 1 [U1])))) (.j [U1])
def CB:=Fo aAN
def s40:bw:=⟨91,[cs 0],[],1,1,.v (.c (.p (.int .u64) U1)),[],CB,40⟩
def ajS:Ok s40:=oS .nil
def ayh:bp:=.join (.ln U3<|.bI .leq U4 (.i 4096)<|.ite U5 (.ite U2 (.ln U3<|.bI .gtr U6 (.i 0)<|.no U7<|.j [U8]) (.no (.b false)<|.j [U6])) (.j [.b false])) (.j [U4])
def Fi:=Fo ayh
def s43:bw:=⟨176,[.agg [.p (.int .u64) U0,.p (.int .u32) U1,.p .bool U2,ps 3]],[],4,1,.v (.c (.p .bool U4)),[],Fi,43⟩
def Z8:Ok s43:=oS .nil
def ael:bp:=.join (.ln U0<|.bI .sub U2 (.i 1)<|.loop [U3] (.bI .geq U4 (.i 0)<|.ite U5 (.rw U0 U4 4<|.cl U6 0 (.int .u64)<|.op (.bi .eql .u64 U7 U1)<|.ite U8 (.rw U0 U4 4<|.cl U9 0 (.int .u64)<|.cl U9 1 (.int .u32)<|.cl U9 2 (.int .i64)<|.cl U9 3 (.int .i64)<|.bq (.jump 2 ([.b true]++w 10 4))) (.bI .sub U4 (.i 1)<|.j [U9])) (.bq (.jump 1 [])))) (.j [.b false,.i 0,.i 0,.i 0,.i 0])
def Oy:=Fo ael
def s45:bw:=⟨219,[cs 0,.c (.p (.int .u64) U1)],[],2,5,.bM [.agg [.p (.int .u64) U3,.p (.int .u32) U4,pi 5,pi 6],.c (.p .bool U2)],[],Oy,45⟩
def arQ:Ok s45:=oS .nil
def Ut:bp:=.join (.loop [.i 0,.r0] (.join (.ln U0<|.bI .lss U2 U4<|.ite U5 (.bI .lss U2 U1<|.j [U6]) (.j [.b false])) (.ite U4 (.rw U0 U2 4<|.cl U5 0 (.int .u64)<|.cl U5 1 (.int .u32)<|.cl U5 2 .bool<|.cl U5 3 .sl<|.join (.ln U9<|.bI .gtr bD (.i 30)<|.ite bF (.ln U9<|.op (.part U9 (.i 0) (.i 30) 1)<|.j [bL]) (.j [U9])) (.join (.ite U8 (.j [.r0]) (.j [bD])) (.op (.bi .and .u64 U6 (.i 7))<|.op (.bi .and .u32 U7 (.i 3))<|.op (.lit [[((.int .u64),bH),((.int .u32),bL),(.bool,U8),(.sl,bF)]])<|.op (.app U3 bP 4 40)<|.bI .add U2 (.i 1)<|.j [bV,bQ]))) (.bq (.jump 1 [U3]))))) (.j [U2])
def Lq:=Fo Ut
def T0:bw:=⟨48,[cs 0,ci 1],[],2,1,.v (.c (.own 0)),[(0,(.row 97 U2))],Lq,59⟩
def Jo:Ok T0:=oS .nil
def OP:List L->Option (List L):=Lq
def anC:bw:=⟨48,[cs 0,ci 1],[],2,1,.v (cs 2),[],Lq,2004⟩
def RQ:anC.ok Tryz.prog:=nY (s:=T0) Jo rfl (x:=(.v 2)) (e:=97) rfl rfl 2004
def akU:bp:=.join (.loop [.b false,.i 0,.r0] (.ln U2<|.bI .lss U7 U9<|.ite bD (.join (.join (.join (.no U6<|.ite bF (.rw U2 U7 3<|.cl bH 0 .str<|.op (.bs .geq bL U3)<|.j [bP]) (.j [.b false])) (.ite bF (.op (.lit [[(.str,U3),(.sl,U4),(.sl,U5)]])<|.op (.app U8 bH 3 64)<|.j [.b true,bL]) (.j [U6,U8]))) (.rw U2 U7 3<|.cl bL 0 .str<|.op (.bs .neq bP U3)<|.ite bQ (.rw U2 U7 3<|.cl bV 0 .str<|.cl bV 1 .sl<|.cl bV 2 .sl<|.op (.lit [[(.str,bX),(.sl,bU),(.sl,cd)]])<|.op (.app bH cv 3 64)<|.j [bF,cR]) (.j [bF,bH]))) (.bI .add U7 (.i 1)<|.j [bF,bL,bH])) (.bq (.jump 1 [U6,U8])))) (.join (.no U6<|.ite U8 (.op (.lit [[(.str,U3),(.sl,U4),(.sl,U5)]])<|.op (.app U7 U9 3 64)<|.j [bD]) (.j [U7])) (.j [U8]))
def LV:=Fo akU
def s30:bw:=⟨192,[.agg [pi 0,pi 1,ps 2],.agg [.p .str U3,ps 4,ps 5]],[],6,1,.v (.agg [pi 0,pi 1,.own 0]),[(0,(.row 141 U6))],LV,30⟩
def arM:Ok s30:=oS .nil
def aDs:bp:=.op (.lit [])<|.op (.app U3 U2 3 64)<|.join (.bI .gtr U1 (.i 0)<|.ite U5 (.bI .sub U1 (.i 1)<|.j [U6]) (.j [U1])) (.j [U5,U4])
def x8:=Fo aDs
def s31:bw:=⟨191,[.agg [pi 0,pi 1,ps 2]],[],3,2,.v (.agg [pi 0,pi 3,.own 0]),[(0,(.row 141 U4))],x8,31⟩
def GC:Ok s31:=oS .nil
def aBV:bp:=.join (.loop [.i 0] (.ln U2<|.bI .lss U4 U5<|.ite U6 (.rw U2 U4 3<|.cl U7 0 .str<|.op (.bs .eql U8 U3)<|.ite U9 (.bq (.jump 2 [U4])) (.bI .add U4 (.i 1)<|.j [bD])) (.bq (.jump 1 [])))) (.j [.i (-1)])
def EJ:=Fo aBV
def s32:bw:=⟨151,[.agg [pi 0,pi 1,ps 2],.c (.p .str U3)],[],4,1,.v (ci 4),[],EJ,32⟩
def Z7:Ok s32:=oS .nil
def alo:bp:=.op (.lit [])<|.op (.app U4 U0 1 1)<|.ite U3 (.ln U5<|.op (.mn U6 U1)<|.ln U5<|.op (.cut U5 (.i 0) U7 1)<|.op (.tk U5 U9)<|.j [bD]) (.join (.loop [U5] (.ln U6<|.bI .lss U7 U1<|.ite U8 (.op (.lit [[((.int .u8),(.i 0))]])<|.op (.app U6 U9 1 1)<|.j [bD]) (.bq (.jump 1 [U6])))) (.ln U2<|.bI .add U1 U7<|.ln U6<|.bI .gtr U8 U9<|.ite bD (.ln U6<|.op (.cut U6 (.i 0) U1 1)<|.op (.tk U6 bH)<|.op (.app bL U2 1 1)<|.j [bP]) (.ln U6<|.op (.cut U6 U1 U8 1)<|.op (.px U6 U1 bH U2 1)<|.j [bL])))
def FW:=Fo alo
def s33:bw:=⟨153,[cs 0,.agg [pi 1,ps 2,.p .bool U3]],[],4,1,.v (.c (.own 0)),[(0,(.row 5 U4))],FW,33⟩
def Wo:Ok s33:=oS .nil
def aor:bp:=.join (.loop [.i 0] (.op (.nG U0)<|.bI .lss U1 U2<|.ite U3 (.op (.A5 U0 U1)<|.join (.op (.bi .geq .u8 U4 (.i 97))<|.ite U5 (.op (.bi .leq .u8 U4 (.i 122))<|.ite U6 (.no (.b true)<|.j [U7]) (.op (.bi .geq .u8 U4 (.i 48))<|.ite U7 (.op (.bi .leq .u8 U4 (.i 57))<|.ite U8 (.no (.b true)<|.j [U9]) (.op (.bi .eql .u8 U4 (.i 46))<|.ite U9 (.no (.b true)<|.j [bD]) (.op (.bi .eql .u8 U4 (.i 45))<|.no bD<|.j [bF]))) (.op (.bi .eql .u8 U4 (.i 46))<|.ite U8 (.no (.b true)<|.j [U9]) (.op (.bi .eql .u8 U4 (.i 45))<|.no U9<|.j [bD])))) (.op (.bi .geq .u8 U4 (.i 48))<|.ite U6 (.op (.bi .leq .u8 U4 (.i 57))<|.ite U7 (.no (.b true)<|.j [U8]) (.op (.bi .eql .u8 U4 (.i 46))<|.ite U8 (.no (.b true)<|.j [U9]) (.op (.bi .eql .u8 U4 (.i 45))<|.no U9<|.j [bD]))) (.op (.bi .eql .u8 U4 (.i 46))<|.ite U7 (.no (.b true)<|.j [U8]) (.op (.bi .eql .u8 U4 (.i 45))<|.no U8<|.j [U9])))) (.ite U5 (.bq (.jump 2 [.b false])) (.bI .add U1 (.i 1)<|.j [U6]))) (.bq (.jump 1 [])))) (.join (.op (.nG U0)<|.bI .geq U1 (.i 1)<|.ite U2 (.op (.nG U0)<|.bI .leq U3 (.i 40)<|.j [U4]) (.j [.b false])) (.j [U1]))
def Dj:=Fo aor
def s34:bw:=⟨110,[.c (.p .str U0)],[],1,1,.v (.c (.p .bool U1)),[],Dj,34⟩
def UT:Ok s34:=oS .nil
def aeU:bp:=.join (.cA 34 Dj [U0] 1<|.no U3<|.ite U4 (.j [.b true]) (.ln U1<|.bI .gtr U5 (.i 1048576)<|.j [U6])) (.ite U3 (.j [.b false]) (.join (.loop [U1,.i 0] (.ln U2<|.bI .lss U5 U6<|.ite U7 (.rw U2 U5 3<|.cl U8 0 (.int .i64)<|.cl U8 1 .sl<|.cl U8 2 .bool<|.join (.bI .lss U9 (.i 0)<|.ite bH (.j [.b true]) (.bI .gtr U9 (.i 1048576)<|.ite bL (.j [.b true]) (.ite bF (.ln bD<|.bI .gtr bP (.i 0)<|.ite bQ (.j [.b true]) (.ln bD<|.bI .gtr bV (.i 1048576)<|.j [bX])) (.ln bD<|.bI .gtr bP (.i 1048576)<|.j [bQ])))) (.ite bH (.bq (.jump 2 [.b false])) (.cA 33 FW [U4,U9,bD,bF] 1<|.ln bL<|.bI .gtr bP (.i 1048576)<|.ite bQ (.bq (.jump 2 [.b false])) (.bI .add U5 (.i 1)<|.j [bL,bV])))) (.bq (.jump 1 [])))) (.j [.b true])))
def Fb:=Fo aeU
def s70:bw:=⟨152,[.agg [.p .str U0,ps 1,ps 2]],[],3,1,.v (.c (.p .bool U3)),[],Fb,70⟩
def Y4:Ok s70:=oS (.cons UT (.cons Wo .nil))
def aov:bp:=.join (.bI .lss U0 (.i 0)<|.ite U3 (.j [.b true]) (.bI .lss U1 (.i (-1))<|.ite U4 (.j [.b true]) (.ln U2<|.bI .gtr U5 (.i 256)<|.j [U6]))) (.ite U3 (.j [.b false]) (.join (.loop [.i 0] (.ln U2<|.bI .lss U4 U5<|.ite U6 (.join (.rw U2 U4 3<|.cl U7 0 .str<|.cl U7 1 .sl<|.cl U7 2 .sl<|.cA 70 Fb [U8,U9,bD] 1<|.no bF<|.ite bH (.j [.b true]) (.bI .gtr U4 (.i 0)<|.ite bL (.rw U2 U4 3<|.cl bP 0 .str<|.bI .sub U4 (.i 1)<|.rw U2 bV 3<|.cl bX 0 .str<|.op (.bs .leq bQ bU)<|.j [cd]) (.j [.b false]))) (.ite U7 (.bq (.jump 2 [.b false])) (.bI .add U4 (.i 1)<|.j [U8]))) (.bq (.jump 1 [])))) (.j [.b true])))
def Jv:=Fo aov
def s71:bw:=⟨222,[.agg [pi 0,pi 1,ps 2]],[],3,1,.v (.c (.p .bool U3)),[],Jv,71⟩
def aBb:Ok s71:=oS (.cons Y4 .nil)
def Sv:bp:=.join (.cA 71 Jv [U0,U1,U2] 1<|.no U4<|.ite U5 (.j [.b true]) (.cA 34 Dj [U3] 1<|.no U6<|.j [U7])) (.ite U4 (.j [.i 1]) (.bI .eql U1 (.i 0)<|.ite U5 (.j [.i 13]) (.j [.i 0])))
def HQ:=Fo Sv
def s96:bw:=⟨150,[.agg [pi 0,pi 1,ps 2],.c (.p .str U3)],[],4,1,.v (ci 4),[],HQ,96⟩
def Vn:Ok s96:=oS (.cons aBb (.cons UT .nil))
def arb:bp:=.op (.call 96 HQ (w 0 4) 1 [])<|.bI .neq U4 (.i 0)<|.ite U5 (.j [U4,.i 0,.i 0,.r0]) (.op (.call 32 EJ (w 0 4) 1 [])<|.bI .geq U6 (.i 0)<|.ite U7 (.j [.i 7,.i 0,.i 0,.r0]) (.ln U2<|.bI .eql U8 (.i 256)<|.ite U9 (.j [.i 9,.i 0,.i 0,.r0]) (.cA 31 x8 [U0,U1,U2] 2<|.cA 30 LV [U0,bD,bF,U3,.r0,.r0] 1<|.j [.i 0,U0,bD,bH])))
def Aa:=Fo arb
def akb:bw:=⟨112,[.agg [pi 0,pi 1,ps 2],.c (.p .str U3)],[],4,4,.bM [.agg [pi 5,pi 6,.own 0],ci 4],[(0,(.row 141 U7))],Aa,109⟩
def amR:Ok akb:=oS (.cons Vn (.cons Z7 (.cons GC (.cons arM .nil))))
def XY:bp:=.bI .add (.i 48) U0<|.op (.conv .u8 U1)<|.op (.lit [[((.int .u8),U2)]])<|.op (.str U3)<|.j [U4]
def tP:=Fo XY
def s53:bw:=⟨144,[ci 0],[],1,1,.v (.c (.p .str U1)),[],tP,53⟩
def aAv:Ok s53:=oS .nil
def VX:bp:=.join (.bI .lss U0 (.i 1)<|.ite U5 (.j [.b true]) (.bI .gtr U0 (.i 5)<|.ite U6 (.j [.b true]) (.bI .lss U1 (.i 0)<|.ite U7 (.j [.b true]) (.bI .geq U1 (.i 4)<|.ite U8 (.j [.b true]) (.bI .lss U2 (.i 1)<|.ite U9 (.j [.b true]) (.bI .gtr U2 (.i 8)<|.j [bD])))))) (.ite U5 (.j [.b false]) (.bI .eql U0 (.i 5)<|.ite U6 (.join (.bI .geq U3 (.i 0)<|.ite U7 (.bI .lss U3 (.i 6)<|.j [U8]) (.j [.b false])) (.j [U7])) (.join (.bI .eql U3 (.i 0)<|.ite U7 (.bI .eql U0 (.i 4)<|.ite U8 (.j [.b true]) (.no U4<|.j [U9])) (.j [.b false])) (.j [U7]))))
def Dx:=Fo VX
def s54:bw:=⟨143,[.agg (cM 0 4++[.p .bool U4])],[],5,1,.v (.c (.p .bool U5)),[],Dx,54⟩
def aAh:Ok s54:=oS .nil
def XI:bp:=.op (.call 54 Dx (w 0 5) 1 [])<|.no U5<|.ite U6 (.bq (.jump 0 [.s ⟨#[]⟩,.i 1])) (.cA 53 tP [U3] 1<|.op (.bs .add (.s ⟨#[101,99]⟩) U7)<|.op (.lit [[(.str,(.s ⟨#[]⟩))],[(.str,(.s ⟨#[100,97,116]⟩))],[(.str,(.s ⟨#[115,104,100]⟩))],[(.str,(.s ⟨#[100,101,108]⟩))],[(.str,(.s ⟨#[105,100,120]⟩))],[(.str,U8)]])<|.cA 53 tP [U1] 1<|.op (.bs .add (.s ⟨#[118,46]⟩) bD)<|.op (.bs .add bF (.s ⟨#[46]⟩))<|.cA 53 tP [U2] 1<|.op (.bs .add bH bL)<|.op (.bs .add bP (.s ⟨#[46]⟩))<|.rw U9 U0 1<|.op (.rc U9 U0 0 .str)<|.op (.bs .add bQ bX)<|.join (.ite U4 (.op (.bs .add bU (.s ⟨#[46,116,109,112]⟩))<|.j [cd]) (.j [bU])) (.j [cd,.i 0]))
def yD:=Fo XI
def s55:bw:=⟨65,[.agg (cM 0 4++[.p .bool U4])],[],5,2,.bM [.c (.p .str U5),ci 6],[],yD,55⟩
def T8:Ok s55:=oS (.cons aAh (.cons aAv .nil))
def SZ:bp:=.cA 55 yD [U0,U1,U2,.i 0,.b false] 2<|.j [U3]
def pI:=Fo SZ
def s56:bw:=⟨35,[ci 0,ci 1,ci 2],[],3,1,.v (.c (.p .str U3)),[],pI,56⟩
def zc:Ok s56:=oS (.cons T8 .nil)
def ave:bp:=.join (.loop [U0,.i 0] (.bI .lss U2 (.i 8)<|.ite U3 (.join (.op (.bi .and .u32 U1 (.i 1))<|.op (.bi .eql .u32 U4 (.i 1))<|.ite U5 (.op (.bi .shr .u32 U1 (.i 1))<|.op (.bi .xor .u32 U6 (.i 2197175160))<|.j [U7]) (.op (.bi .shr .u32 U1 (.i 1))<|.j [U6])) (.bI .add U2 (.i 1)<|.j [U4,U5])) (.bq (.jump 1 [U1])))) (.j [U1])
def J4:=Fo ave
def s36:bw:=⟨300,[.c (.p (.int .u32) U0)],[],1,1,.v (.c (.p (.int .u32) U1)),[],J4,36⟩
def ahN:Ok s36:=oS .nil
def aoD:bp:=.op (.un .xor .u32 U0)<|.join (.loop [U2,.i 0] (.ln U1<|.bI .lss U4 U5<|.ite U6 (.rw U1 U4 1<|.cl U7 0 (.int .u8)<|.op (.conv .u32 U8)<|.op (.bi .xor .u32 U3 U9)<|.cA 36 J4 [bD] 1<|.bI .add U4 (.i 1)<|.j [bF,bH]) (.bq (.jump 1 [U3])))) (.op (.un .xor .u32 U3)<|.j [U4])
def Of:=Fo aoD
def s37:bw:=⟨239,[.c (.p (.int .u32) U0),cs 1],[],2,1,.v (.c (.p (.int .u32) U2)),[],Of,37⟩
def aAK:Ok s37:=oS (.cons ahN .nil)
def aue:bp:=.cA 37 Of [.i 0,U0] 1<|.j [U1]
def Eu:=Fo aue
def s38:bw:=⟨171,[cs 0],[],1,1,.v (.c (.p (.int .u32) U1)),[],Eu,38⟩
def VY:Ok s38:=oS (.cons aAK .nil)
def aoH:bp:=.cA 38 Eu [U0] 1<|.op (.conv .u8 U1)<|.op (.bi .shr .u32 U1 (.i 8))<|.op (.conv .u8 U3)<|.op (.bi .shr .u32 U1 (.i 16))<|.op (.conv .u8 U5)<|.op (.bi .shr .u32 U1 (.i 24))<|.op (.conv .u8 U7)<|.op (.lit [[((.int .u8),U2)],[((.int .u8),U4)],[((.int .u8),U6)],[((.int .u8),U8)]])<|.j [U9]
def tO:=Fo aoH
def s41:bw:=⟨90,[cs 0],[],1,1,.v (.c (.own 0)),[(0,(.row 5 U1))],tO,41⟩
def xp:Ok s41:=oS (.cons VY .nil)
def ajY:bp:=.join (.bI .sub U1 (.i 1)<|.loop [U2,.r0] (.bI .geq U3 (.i 0)<|.ite U5 (.bI .mul (.i 8) U3<|.op (.conv .u64 U6)<|.op (.bi .shr .u64 U0 U7)<|.op (.conv .u8 U8)<|.op (.lit [[((.int .u8),U9)]])<|.op (.app U4 bD 1 1)<|.bI .sub U3 (.i 1)<|.j [bH,bF]) (.bq (.jump 1 [U4])))) (.j [U2])
def j_:=Fo ajY
def s42:bw:=⟨180,[.c (.p (.int .u64) U0),ci 1],[],2,1,.v (.c (.own 0)),[(0,(.row 5 U2))],j_,42⟩
def Bb:Ok s42:=oS .nil
def aeI:bp:=.join (.bI .geq U0 (.i 0)<|.ite U3 (.bI .lss U0 (.i 4)<|.ite U4 (.bI .geq U1 (.i 1)<|.ite U5 (.bI .leq U1 (.i 8)<|.ite U6 (.bI .geq U2 (.i 0)<|.ite U7 (.bI .lss U2 (.i 4294967296)<|.j [U8]) (.j [.b false])) (.j [.b false])) (.j [.b false])) (.j [.b false])) (.j [.b false])) (.j [U3])
def AB:=Fo aeI
def s39:bw:=⟨185,[.agg [pi 0,pi 1,pi 2]],[],3,1,.v (.c (.p .bool U3)),[],AB,39⟩
def Kn:Ok s39:=oS .nil
def aCB:bp:=.cA 39 AB [U0,U1,U2] 1<|.no U3<|.ite U4 (.j [.i 1,.r0]) (.op (.lit [[((.int .u8),(.i 78))],[((.int .u8),(.i 86))],[((.int .u8),(.i 79))],[((.int .u8),(.i 76))]])<|.rw U5 (.i 0) 1<|.op (.conv .u64 U0)<|.cA 42 j_ [U7,.i 2] 1<|.op (.app U5 U8 1 1)<|.op (.conv .u64 U1)<|.cA 42 j_ [bD,.i 2] 1<|.op (.app U9 bF 1 1)<|.op (.conv .u64 U2)<|.cA 42 j_ [bL,.i 4] 1<|.op (.app bH bP 1 1)<|.op (.call 41 tO [bQ] 1 [0])<|.op (.app bQ bV 1 1)<|.j [.i 0,bX])
def Ou:=Fo aCB
def s73:bw:=⟨173,[.agg [pi 0,pi 1,pi 2]],[],3,2,.bM [.c (.own 0),ci 3],[(0,(.row 5 U4))],Ou,73⟩
def aqI:Ok s73:=oS (.cons Kn (.cons Bb (.cons xp .nil)))
def apP:bp:=.op (.mx (.i 0) U0)<|.j [U1]
def KW:=Fo apP
def s35:bw:=⟨93,[ci 0],[],1,1,.v (.agg [pi 1,.p (.int .i64) (.i (-1)),.nil]),[],KW,35⟩
def akn:Ok s35:=oS .nil
def akd:bp:=.cA 5 F5 [U3] 1<|.j [U4]
def L7:=Fo akd
def s11:bw:=⟨254,[.agg [.p (.int .u64) U0,.p (.int .u32) U1,pi 2,pi 3]],[],4,1,.v (ci 4),[],L7,11⟩
def aCO:Ok s11:=oS (.cons F_ .nil)
def air:bp:=.cA 48 AN [U0] 1<|.no U1<|.ite U2 (.j [.i 1,.r0]) (.join (.loop [.i 0,.r0] (.ln U0<|.bI .lss U3 U5<|.ite U6 (.rw U0 U3 4<|.cl U7 0 (.int .u64)<|.cA 42 j_ [U8,.i 8] 1<|.rw U0 U3 4<|.cl bD 1 (.int .u32)<|.op (.conv .u64 bF)<|.cA 42 j_ [bH,.i 4] 1<|.op (.app U9 bL 1 1)<|.rw U0 U3 4<|.cl bQ 2 (.int .i64)<|.op (.conv .u64 bV)<|.cA 42 j_ [bX,.i 4] 1<|.op (.app bP bU 1 1)<|.rw U0 U3 4<|.cl cv 3 (.int .i64)<|.op (.conv .u64 cR)<|.cA 42 j_ [cm,.i 4] 1<|.op (.app cd cn 1 1)<|.op (.app U4 ct 1 1)<|.op (.call 41 tO [ct] 1 [0])<|.op (.app cH ck 1 1)<|.bI .add U3 (.i 1)<|.j [cS,cK]) (.bq (.jump 1 [U4])))) (.j [.i 0,U3]))
def NT:=Fo air
def s75:bw:=⟨190,[cs 0],[],1,2,.bM [.c (.own 0),ci 1],[(0,(.row 5 U2))],NT,75⟩
def ani:Ok s75:=oS (.cons Om (.cons Bb (.cons xp .nil)))
def Z0:bp:=.cA 55 yD [.i 5,U0,U1,U2,.b false] 2<|.j [U3]
def Ee:=Fo Z0
def s68:bw:=⟨174,[ci 0,ci 1,ci 2],[],3,1,.v (.c (.p .str U3)),[],Ee,68⟩
def aAr:Ok s68:=oS (.cons T8 .nil)
def agu:bp:=.ln U0<|.ln U1<|.bI .neq U3 U4<|.ite U5 (.j [.i 1,.r0]) (.join (.loop [.i 0,.r0] (.ln U0<|.bI .lss U6 U8<|.ite U9 (.rw U0 U6 1<|.cl bD 0 (.int .u8)<|.rw U1 U6 1<|.cl bH 0 (.int .u8)<|.cA 19 pE [U2,bL] 1<|.op (.bi .xor .u8 bF bP)<|.op (.lit [[((.int .u8),bQ)]])<|.op (.app U7 bV 1 1)<|.bI .add U6 (.i 1)<|.j [bU,bX]) (.bq (.jump 1 [U7])))) (.j [.i 0,U6]))
def M2:=Fo agu
def s21:bw:=⟨333,[cs 0,cs 1,.c (.p (.int .u8) U2)],[],3,2,.bM [.c (.own 0),ci 3],[(0,(.row 5 U4))],M2,21⟩
def agE:Ok s21:=oS (.cons Ci .nil)
def aiD:bp:=.join (.loop [.i 1] (.bI .lss U1 (.i 256)<|.ite U2 (.op (.conv .u8 U1)<|.cA 19 pE [U0,U3] 1<|.op (.bi .eql .u8 U4 (.i 1))<|.ite U5 (.op (.conv .u8 U1)<|.bq (.jump 2 [U6,.i 0])) (.bI .add U1 (.i 1)<|.j [U6])) (.bq (.jump 1 [])))) (.j [.i 0,.i 1])
def BB:=Fo aiD
def s20:bw:=⟨373,[.c (.p (.int .u8) U0)],[],1,2,.bM [.c (.p (.int .u8) U1),ci 2],[],BB,20⟩
def aid:Ok s20:=oS (.cons Ci .nil)
def Vw:bp:=.cA 22 mX [U0,U0] 1<|.no U1<|.ite U2 (.j [.i 1,.i 0,.r0]) (.bI .mul U0 U0<|.op (.jY U3 [((.int .u8),(.i 0))] 1)<|.join (.loop [.i 0,U4] (.bI .lss U5 U0<|.ite U7 (.bI .mul U5 U0<|.bI .add U8 U5<|.rw U6 U9 1<|.op (.set U6 U9 0 [((.int .u8),(.i 1))])<|.bI .add U5 (.i 1)<|.j [bH,bF]) (.bq (.jump 1 [U6])))) (.j [.i 0,U0,U5]))
def Dr:=Fo Vw
def s65:bw:=⟨371,[ci 0],[],1,3,.bM [.agg [pi 2,pi 2,.own 0],ci 1],[(0,(.row 5 U3))],Dr,65⟩
def aoY:Ok s65:=oS (.cons A7 .nil)
def VP:bp:=.join (.cA 22 mX [U0,U1] 1<|.ite U3 (.ln U2<|.bI .mul U0 U1<|.bI .eql U4 U5<|.j [U6]) (.j [.b false])) (.j [U3])
def qD:=Fo VP
def s24:bw:=⟨332,[.agg [pi 0,pi 1,ps 2]],[],3,1,.v (.c (.p .bool U3)),[],qD,24⟩
def Ef:Ok s24:=oS (.cons A7 .nil)
def adi:bp:=.join (.cA 39 AB [U0,U1,U2] 1<|.no bF<|.ite bH (.j [.b true]) (.bI .lss U3 (.i 16)<|.ite bL (.j [.b true]) (.bI .gtr U3 (.i 524288)<|.ite bP (.j [.b true]) (.cA 48 AN [bD] 1<|.no bQ<|.j [bV])))) (.ite bF (.j [.b false]) (.join (.loop [.i 0] (.ln bD<|.bI .lss bH bL<|.ite bP (.rw bD bH 4<|.cl bQ 2 (.int .i64)<|.rw bD bH 4<|.cl bX 3 (.int .i64)<|.cA 44 lB [bU] 1<|.bI .add bV cd<|.bI .gtr cv U3<|.ite cR (.bq (.jump 2 [.b false])) (.bI .add bH (.i 1)<|.j [cm])) (.bq (.jump 1 [])))) (.j [.b true])))
def Dw:=Fo adi
def s67:bw:=⟨186,[.agg (cM 0 4++[.p (.int .u32) U4,.p (.int .u32) U5,.p (.int .u32) U6,.p (.int .u32) U7,.p (.int .u32) U8,.p (.int .u32) U9,ps 10])],[],11,1,.v (.c (.p .bool bF)),[],Dw,67⟩
def TS:Ok s67:=oS (.cons qm (.cons Om (.cons Kn .nil)))
def asQ:bp:=.ln U0<|.bI .lss U1 (.i 16)<|.ite U2 (.j [.i 4,.i 0,.i 0,.i 0]) (.ln U0<|.op (.part U0 (.i 0) (.i 4) 1)<|.op (.str U4)<|.op (.bs .neq U5 (.s ⟨#[78,86,79,76]⟩))<|.ite U6 (.j [.i 3,.i 0,.i 0,.i 0]) (.ln U0<|.op (.part U0 (.i 0) (.i 12) 1)<|.cA 41 tO [U8] 1<|.op (.str U9)<|.ln U0<|.op (.part U0 (.i 12) (.i 16) 1)<|.op (.str bH)<|.op (.bs .neq bD bL)<|.ite bP (.j [.i 5,.i 0,.i 0,.i 0]) (.ln U0<|.op (.part U0 (.i 4) (.i 6) 1)<|.cA 40 CB [bV] 1<|.op (.conv .i64 bX)<|.ln U0<|.op (.part U0 (.i 6) (.i 8) 1)<|.cA 40 CB [cv] 1<|.op (.conv .i64 cR)<|.ln U0<|.op (.part U0 (.i 8) (.i 12) 1)<|.cA 40 CB [ct] 1<|.op (.conv .i64 cH)<|.cA 39 AB [bU,cm,ck] 1<|.no cK<|.ite cS (.j [.i 3,.i 0,.i 0,.i 0]) (.j [.i 0,bU,cm,ck]))))
def J1:=Fo asQ
def s72:bw:=⟨105,[cs 0],[],1,4,.bM [.agg [pi 2,pi 3,pi 4],ci 1],[],J1,72⟩
def atr:Ok s72:=oS (.cons Kn (.cons xp (.cons ajS .nil)))
def aAd:bp:=.bI .eql U0 cm<|.j [jG]
def Mk:=Fo aAd
def amk:bw:=⟨203,[.agg (cM 0 4++dL 4 8++[pi 12,pi 13]),.c (.ptr 0 0)],[.box [.ptr 1 0],.box ([pi 14,pi 15,ps 16,pi 17,pi 18,.p .bool cd,ps 20]++cM 21 7++[.p (.int .u32) cS,.p (.int .u32) dZ,.p (.int .u32) eJ,.p (.int .u32) e8,.p (.int .u32) ee,.p (.int .u32) ig,ps 34,ps 35])],36,1,.v (.c (.p .bool jG)),[(0,(.box [.ptr 1 0])),(1,(.box ([pi 14,pi 15,ps 16,pi 17,pi 18,.p .bool cd,ps 20]++cM 21 7++[.p (.int .u32) cS,.p (.int .u32) dZ,.p (.int .u32) eJ,.p (.int .u32) e8,.p (.int .u32) ee,.p (.int .u32) ig,ps 34,ps 35])))],Mk,676⟩
def asZ:Ok amk:=oS .nil
def Vp:bp:=.join (.ln U0<|.loop [.i 0] (.bI .lss U2 U1<|.ite U3 (.rw U0 U2 4<|.cl U4 0 (.int .u64)<|.cl U4 1 (.int .u32)<|.cl U4 2 (.int .i64)<|.cl U4 3 (.int .i64)<|.cA 8 F8 [U5,U6,U7,U8] 1<|.ite U9 (.bq (.jump 2 [U2])) (.bI .add U2 (.i 1)<|.j [bD])) (.bq (.jump 1 [])))) (.j [.i (-1)])
def HB:=Fo Vp
def s84:bw:=⟨227,[cs 0,.c (.fn 225 [])],[],1,1,.v (ci 1),[],HB,84⟩
def KM:Ok s84:=oS (.cons ok8 .nil)
def Va:bp:=.join (.cA 22 mX [U0,U1] 1<|.ite U3 (.ln U2<|.bI .mul U0 U1<|.bI .eql U4 U5<|.j [U6]) (.j [.b false])) (.j [U3])
def Eh:=Fo Va
def aky:bw:=⟨332,[.agg [pi 0,pi 1,.own 0]],[.row 5 U2],3,1,.v (.c (.p .bool U3)),[(0,(.row 5 U2))],Eh,677⟩
def OJ:Ok aky:=oS (.cons A7 .nil)
def RY:bp:=.bI .add U1 (.i 1)<|.loop [U3,U0] (.bI .lss U4 U2<|.ite U6 (.join (.loop [U4,U5] (.join (.bI .gtr U7 U1<|.ite U9 (.rw U8 U7 4<|.op (.rc U8 U7 0 (.int .u64))<|.op (.rc U8 U7 1 (.int .u32))<|.op (.rc U8 U7 2 (.int .i64))<|.op (.rc U8 U7 3 (.int .i64))<|.bI .sub U7 (.i 1)<|.rw U8 bQ 4<|.op (.rc U8 bQ 0 (.int .u64))<|.op (.rc U8 bQ 1 (.int .u32))<|.op (.rc U8 bQ 2 (.int .i64))<|.op (.rc U8 bQ 3 (.int .i64))<|.cA 6 F6 [bF,bH,bL,bP,bX,bU,cd,cv] 1<|.bI .lss cR (.i 0)<|.j [cm]) (.j [.b false])) (.ite U9 (.bI .sub U7 (.i 1)<|.bI .sub U7 (.i 1)<|.rw U8 bF 4<|.op (.rc U8 bF 0 (.int .u64))<|.op (.rc U8 bF 1 (.int .u32))<|.op (.rc U8 bF 2 (.int .i64))<|.op (.rc U8 bF 3 (.int .i64))<|.rw U8 U7 4<|.op (.rc U8 U7 0 (.int .u64))<|.op (.rc U8 U7 1 (.int .u32))<|.op (.rc U8 U7 2 (.int .i64))<|.op (.rc U8 U7 3 (.int .i64))<|.rw U8 U7 4<|.op (.set U8 U7 0 [((.int .u64),bL),((.int .u32),bP),((.int .i64),bQ),((.int .i64),bV)])<|.rw cn bD 4<|.op (.set cn bD 0 [((.int .u64),bU),((.int .u32),cd),((.int .i64),cv),((.int .i64),cR)])<|.bI .sub U7 (.i 1)<|.j [ck,cH]) (.bq (.jump 1 [U8]))))) (.bI .add U4 (.i 1)<|.j [U8,U7])) (.bq (.jump 1 [U5])))
def DQ:=Fo RY
def s85:bw:=⟨338,[.c (.own 0),ci 1,ci 2,.c (.fn 349 [])],[.row 164 U0],3,1,.bM [],[(0,(.row 164 U3))],DQ,85⟩
def awQ:Ok s85:=oS (.cons vJ .nil)
def aaT:bp:=.join (.cA 677 Eh [U0,U1,U2] 1<|.no U4<|.ite U5 (.j [.b true]) (.ln U3<|.cA 22 mX [U6,U1] 1<|.no U7<|.j [U8])) (.ite U4 (.j [.i 1,.i 0,.i 0,.r0]) (.ln U3<|.join (.loop [.i 0,.r0] (.ln U3<|.bI .lss U6 U8<|.ite U9 (.join (.rw U3 U6 1<|.op (.rc U3 U6 0 (.int .i64))<|.bI .lss bF (.i 0)<|.ite bH (.j [.b true]) (.rw U3 U6 1<|.op (.rc U3 U6 0 (.int .i64))<|.bI .geq bP U0<|.j [bQ])) (.ite bD (.bq (.jump 2 [.i 1,.i 0,.i 0,.r0])) (.rw U3 U6 1<|.op (.rc U3 U6 0 (.int .i64))<|.bI .mul bH U1<|.rw U3 U6 1<|.op (.rc U3 U6 0 (.int .i64))<|.bI .add bQ (.i 1)<|.bI .mul bV U1<|.ln U2<|.op (.cut U2 bL bX 1)<|.op (.vw U2 bL cd)<|.op (.app U7 cv 1 1)<|.bI .add U6 (.i 1)<|.j [cm,cR]))) (.bq (.jump 1 [U7])))) (.j [.i 0,U5,U1,U6])))
def G9:=Fo aaT
def agx:bw:=⟨335,[.agg [pi 0,pi 1,.own 0],.c (.own 1)],[.row 5 U2,.row 3 U3],4,4,.bM [.agg [pi 5,pi 6,.own 2],ci 4],[(1,(.row 3 U3)),(0,(.row 5 U2)),(2,(.row 5 U7))],G9,678⟩
def aCi:Ok agx:=oS (.cons OJ (.cons Ef (.cons A7 .nil)))
def ahl:bp:=.cA 84 HB [U0] 1<|.bI .geq U1 (.i 0)<|.j [U2]
def Ke:=Fo ahl
def s87:bw:=⟨159,[cs 0,.c (.fn 225 [])],[],1,1,.v (.c (.p .bool U1)),[],Ke,87⟩
def Nx:Ok s87:=oS (.cons KM .nil)
def arv:bp:=.ln U3<|.bI .gtr U4 (.i 4096)<|.ite U5 (.j [.i 8,.r0]) (.op (.call 43 Fi (w 0 4) 1 [])<|.no U6<|.ite U7 (.j [.i 1,.r0]) (.op (.lit [[((.int .u8),(.i 78))],[((.int .u8),(.i 165))],[((.int .u8),(.i 0))],[((.int .u8),(.i 0))]])<|.join (.ite U2 (.rw U8 (.i 2) 1<|.op (.set U8 (.i 2) 0 [((.int .u8),(.i 1))])<|.j [bD]) (.j [U8])) (.op (.conv .u64 U1)<|.cA 42 j_ [bD,.i 4] 1<|.op (.app U9 bF 1 1)<|.cA 42 j_ [U0,.i 8] 1<|.op (.app bH bL 1 1)<|.ln U3<|.op (.conv .u64 bQ)<|.cA 42 j_ [bV,.i 4] 1<|.op (.app bP bX 1 1)<|.op (.app bU U3 1 1)<|.op (.call 41 tO [cd] 1 [0])<|.op (.app cd cv 1 1)<|.join (.loop [cR] (.ln cm<|.ln U3<|.cA 44 lB [ct] 1<|.bI .lss cn cH<|.ite ck (.op (.lit [[((.int .u8),(.i 0))]])<|.op (.app cm cK 1 1)<|.j [cS]) (.bq (.jump 1 [cm])))) (.j [.i 0,cm]))))
def Ly:=Fo arv
def s74:bw:=⟨99,[.agg [.p (.int .u64) U0,.p (.int .u32) U1,.p .bool U2,ps 3]],[],4,2,.bM [.c (.own 0),ci 4],[(0,(.row 5 U5))],Ly,74⟩
def aqX:Ok s74:=oS (.cons qm (.cons Bb (.cons xp (.cons Z8 .nil))))
def ajs:bp:=.cA 46 yy [U0] 1<|.join (.loop [.b false,.i 0,.r0] (.ln U5<|.bI .lss U7 U9<|.ite bD (.join (.join (.join (.no U6<|.ite bF (.rw U5 U7 4<|.op (.rc U5 U7 0 (.int .u64))<|.op (.bi .geq .u64 bL U1)<|.j [bP]) (.j [.b false])) (.ite bF (.op (.lit [[((.int .u64),U1),((.int .u32),U2),((.int .i64),U3),((.int .i64),U4)]])<|.op (.app U8 bH 4 32)<|.j [.b true,bL]) (.j [U6,U8]))) (.rw U5 U7 4<|.op (.rc U5 U7 0 (.int .u64))<|.op (.bi .neq .u64 bP U1)<|.ite bQ (.rw U5 U7 4<|.op (.rc U5 U7 0 (.int .u64))<|.op (.rc U5 U7 1 (.int .u32))<|.op (.rc U5 U7 2 (.int .i64))<|.op (.rc U5 U7 3 (.int .i64))<|.op (.lit [[((.int .u64),bX),((.int .u32),bU),((.int .i64),cd),((.int .i64),cv)]])<|.op (.app bH cR 4 32)<|.j [bF,cm]) (.j [bF,bH]))) (.bI .add U7 (.i 1)<|.j [bF,bL,bH])) (.bq (.jump 1 [U6,U8])))) (.join (.no U6<|.ite U8 (.op (.lit [[((.int .u64),U1),((.int .u32),U2),((.int .i64),U3),((.int .i64),U4)]])<|.op (.app U7 U9 4 32)<|.j [bD]) (.j [U7])) (.j [U8]))
def Kr:=Fo ajs
def s76:bw:=⟨244,[cs 0,.agg [.p (.int .u64) U1,.p (.int .u32) U2,pi 3,pi 4]],[],5,1,.v (.c (.own 0)),[(0,(.row 164 U5))],Kr,76⟩
def aCr:Ok s76:=oS (.cons C_ .nil)
def aww:bp:=.join (.loop [.i 0,.r0] (.ln U0<|.bI .lss U1 U3<|.ite U4 (.rw U0 U1 1<|.cl U5 0 (.int .u64)<|.cA 42 j_ [U6,.i 8] 1<|.op (.app U2 U7 1 1)<|.op (.call 41 tO [U7] 1 [0])<|.op (.app U8 U9 1 1)<|.bI .add U1 (.i 1)<|.j [bF,bD]) (.bq (.jump 1 [U2])))) (.j [U1])
def Jd:=Fo aww
def s69:bw:=⟨147,[cs 0],[],1,1,.v (.c (.own 0)),[(0,(.row 5 U1))],Jd,69⟩
def aiK:Ok s69:=oS (.cons Bb (.cons xp .nil))
def ajZ:bp:=.cA 46 yy [U0] 1<|.join (.loop [.i 0,.r0] (.ln U2<|.bI .lss U3 U5<|.ite U6 (.join (.rw U2 U3 4<|.op (.rc U2 U3 0 (.int .u64))<|.op (.bi .neq .u64 U8 U1)<|.ite U9 (.rw U2 U3 4<|.op (.rc U2 U3 0 (.int .u64))<|.op (.rc U2 U3 1 (.int .u32))<|.op (.rc U2 U3 2 (.int .i64))<|.op (.rc U2 U3 3 (.int .i64))<|.op (.lit [[((.int .u64),bF),((.int .u32),bH),((.int .i64),bL),((.int .i64),bP)]])<|.op (.app U4 bQ 4 32)<|.j [bV]) (.j [U4])) (.bI .add U3 (.i 1)<|.j [U8,U7])) (.bq (.jump 1 [U4])))) (.j [U3])
def NN:=Fo ajZ
def s77:bw:=⟨242,[cs 0,.c (.p (.int .u64) U1)],[],2,1,.v (.c (.own 0)),[(0,(.row 164 U2))],NN,77⟩
def awt:Ok s77:=oS (.cons C_ .nil)
def aeE:bp:=.op (.call 70 Fb [.s ⟨#[120]⟩,U1,U2] 1 [])<|.no U3<|.ite U4 (.j [.r0]) (.join (.loop [U1,.i 0] (.ln U2<|.bI .lss U6 U7<|.ite U8 (.rw U2 U6 3<|.cl U9 0 (.int .i64)<|.cl U9 1 .sl<|.cl U9 2 .bool<|.cA 33 FW [U5,bD,bF,bH] 1<|.bI .add U6 (.i 1)<|.j [bL,bP]) (.bq (.jump 1 [U5])))) (.op (.lit [])<|.op (.app U6 U5 1 1)<|.j [U7]))
def o_:=Fo aeE
def s97:bw:=⟨72,[.agg [.p .str U0,ps 1,ps 2]],[],3,1,.v (.c (.own 0)),[(0,(.row 5 U3))],o_,97⟩
def yd:Ok s97:=oS (.cons Y4 (.cons Wo .nil))
def aiP:bp:=.cA 96 HQ [U0,U1,U2,U3] 1<|.bI .neq U4 (.i 0)<|.ite U5 (.j [.i (-1),U4]) (.cA 32 EJ [U0,U1,U2,U3] 1<|.bI .lss U6 (.i 0)<|.ite U7 (.j [.i (-1),.i 6]) (.j [U6,.i 0]))
def qy:=Fo aiP
def aka:bw:=⟨71,[.agg [pi 0,pi 1,ps 2],.c (.p .str U3)],[],4,2,.bM [ci 4,ci 5],[],qy,110⟩
def AZ:Ok aka:=oS (.cons Vn (.cons Z7 .nil))
def apA:bp:=.join (.loop [.i 0] (.ln U0<|.bI .lss U2 U3<|.ite U4 (.join (.rw U0 U2 4<|.cl U5 2 (.int .i64)<|.rw U0 U2 4<|.cl U7 3 (.int .i64)<|.cA 44 lB [U8] 1<|.bI .add U6 U9<|.bI .gtr bD U1<|.ite bF (.bq (.jump 3 [.b false])) (.loop [.i 0] (.ln U0<|.bI .lss bH bL<|.ite bP (.join (.bI .neq bH U2<|.ite bQ (.rw U0 bH 4<|.cl bV 2 (.int .i64)<|.rw U0 U2 4<|.cl bU 2 (.int .i64)<|.bI .geq bX cd<|.ite cv (.rw U0 bH 4<|.cl cR 2 (.int .i64)<|.bI .lss cm bD<|.j [cn]) (.j [.b false])) (.j [.b false])) (.ite bQ (.bq (.jump 4 [.b false])) (.bI .add bH (.i 1)<|.j [bV]))) (.bq (.jump 1 []))))) (.bI .add U2 (.i 1)<|.j [U5])) (.bq (.jump 1 [])))) (.j [.b true])
def O2:=Fo apA
def s58:bw:=⟨184,[cs 0,ci 1],[],2,1,.v (.c (.p .bool U2)),[],O2,58⟩
def axL:Ok s58:=oS (.cons qm .nil)
def agw:bp:=.join (.loop [.i 0,.i 0] (.ln U0<|.bI .lss U2 U3<|.ite U4 (.rw U0 U2 4<|.cl U5 3 (.int .i64)<|.cA 44 lB [U6] 1<|.bI .add U1 U7<|.bI .add U2 (.i 1)<|.j [U8,U9]) (.bq (.jump 1 [U1])))) (.j [U1])
def OE:=Fo agw
def s49:bw:=⟨247,[cs 0],[],1,1,.v (ci 1),[],OE,49⟩
def Q1:Ok s49:=oS (.cons qm .nil)
def amy:bp:=.join (.cA 9 F9 [U0] 1<|.ite U1 (.cA 87 Ke [U0] 1<|.no U2<|.j [U3]) (.j [.b false])) (.j [U1])
def BR:=Fo amy
def s91:bw:=⟨157,[cs 0],[],1,1,.v (.c (.p .bool U1)),[],BR,91⟩
def G_:Ok s91:=oS (.cons Nx (.cons PB (.cons Kp .nil)))
def apc:bp:=.join (.loop [.i 0,.i 0] (.bI .lss bF (.i 8)<|.ite bH (.join (.op (.dM bF 8)<|.op (.ix [U0,U1,U2,U3,U4,U5,U6,U7] bF)<|.cA 91 BR [bL] 1<|.no bP<|.ite bQ (.bq (.jump 3 [.b false])) (.ln bL<|.loop [bD,.i 0] (.bI .lss bU bV<|.ite cd (.rw bL bU 4<|.cl cv 0 (.int .u64)<|.cl cv 1 (.int .u32)<|.cl cv 2 (.int .i64)<|.cl cv 3 (.int .i64)<|.cA 12 KL [cR] 1<|.bI .neq cH bF<|.ite ck (.bq (.jump 4 [.b false])) (.cA 11 L7 [cR,cm,cn,ct] 1<|.bI .add bX cK<|.bI .add bU (.i 1)<|.j [cS,dZ])) (.bq (.jump 1 [bX]))))) (.bI .add bF (.i 1)<|.j [bL,bP])) (.bq (.jump 1 [bD])))) (.join (.bI .eql U8 bD<|.ite bF (.bI .geq U9 (.i 0)<|.ite bH (.bI .leq U9 (.i 1099511627776)<|.j [bL]) (.j [.b false])) (.j [.b false])) (.j [bF]))
def Bg:=Fo apc
def s92:bw:=⟨194,[.agg (dL 0 8++[pi 8,pi 9])],[],10,1,.v (.c (.p .bool bD)),[],Bg,92⟩
def Ol:Ok s92:=oS (.cons G_ (.cons aCO (.cons ahg .nil)))
def aDF:bp:=.op (.call 110 qy (w 0 4) 2 [])<|.bI .neq U5 (.i 0)<|.ite U6 (.j [U5,.i 0,.i 0,.r0]) (.cA 31 x8 [U0,U1,U2] 2<|.op (.lit [])<|.ln U8<|.op (.cut U8 (.i 0) U4 3)<|.op (.vw U8 (.i 0) bF)<|.op (.app U9 bH 3 64)<|.bI .add U4 (.i 1)<|.ln U8<|.op (.cut U8 bP bQ 3)<|.op (.vw U8 bP bV)<|.op (.app bL bX 3 64)<|.j [.i 0,U0,U7,bU])
def Ko:=Fo aDF
def ayK:bw:=⟨111,[.agg [pi 0,pi 1,ps 2],.c (.p .str U3)],[],4,4,.bM [.agg [pi 5,pi 6,.own 0],ci 4],[(0,(.row 141 U7))],Ko,129⟩
def asz:Ok ayK:=oS (.cons AZ (.cons GC .nil))
def amE:bp:=.op (.call 67 Dw (w 0 11) 1 [])<|.no bF<|.ite bH (.j [.i 1,.r0]) (.op (.lit [[((.int .u8),(.i 78))],[((.int .u8),(.i 73))],[((.int .u8),(.i 68))],[((.int .u8),(.i 88))]])<|.rw bL (.i 0) 1<|.op (.conv .u64 U0)<|.cA 42 j_ [bQ,.i 2] 1<|.op (.app bL bV 1 1)<|.op (.conv .u64 U1)<|.cA 42 j_ [bU,.i 2] 1<|.op (.app bX cd 1 1)<|.op (.conv .u64 U2)<|.cA 42 j_ [cR,.i 4] 1<|.op (.app cv cm 1 1)<|.op (.conv .u64 U3)<|.cA 42 j_ [ct,.i 8] 1<|.op (.app cn cH 1 1)<|.join (.loop [.i 0,ck] (.bI .lss cK (.i 6)<|.ite dZ (.op (.dM cK 6)<|.op (.ix (w 4 6) cK)<|.op (.conv .u64 eJ)<|.cA 42 j_ [e8,.i 4] 1<|.op (.app cS ee 1 1)<|.bI .add cK (.i 1)<|.j [iH,ig]) (.bq (.jump 1 [cS])))) (.cA 75 NT [bD] 2<|.ln bD<|.op (.conv .u64 eJ)<|.cA 42 j_ [e8,.i 4] 1<|.op (.app cK ee 1 1)<|.op (.app ig dZ 1 1)<|.op (.call 41 tO [iH] 1 [0])<|.op (.app iH ke 1 1)<|.j [.i 0,jG]))
def N2:=Fo amE
def s95:bw:=⟨108,[.agg (cM 0 4++[.p (.int .u32) U4,.p (.int .u32) U5,.p (.int .u32) U6,.p (.int .u32) U7,.p (.int .u32) U8,.p (.int .u32) U9,ps 10])],[],11,2,.bM [.c (.own 0),ci 11],[(0,(.row 5 bH))],N2,95⟩
def anv:Ok s95:=oS (.cons TS (.cons ani (.cons Bb (.cons xp .nil))))
def UJ:bp:=.join (.cA 24 qD [U0,U1,U2] 1<|.no U6<|.ite U7 (.j [.b true]) (.cA 24 qD [U3,U4,U5] 1<|.no U8<|.ite U9 (.j [.b true]) (.bI .neq U1 U3<|.j [bD]))) (.ite U6 (.j [.i 1,.i 0,.i 0,.r0]) (.join (.loop [.i 0,.r0] (.bI .lss U7 U0<|.ite U9 (.join (.loop [.i 0,U8] (.bI .lss bD U4<|.ite bH (.join (.loop [.i 0,.i 0] (.bI .lss bP U1<|.ite bQ (.bI .mul U7 U1<|.bI .add bV bP<|.rw U2 bX 1<|.cl bU 0 (.int .u8)<|.bI .mul bP U4<|.bI .add cv bD<|.rw U5 cR 1<|.cl cm 0 (.int .u8)<|.cA 19 pE [cd,cn] 1<|.op (.bi .xor .u8 bL ct)<|.bI .add bP (.i 1)<|.j [cH,ck]) (.bq (.jump 1 [bL])))) (.op (.lit [[((.int .u8),bL)]])<|.op (.app bF bP 1 1)<|.bI .add bD (.i 1)<|.j [bV,bQ])) (.bq (.jump 1 [bF])))) (.bI .add U7 (.i 1)<|.j [bF,bD])) (.bq (.jump 1 [U8])))) (.j [.i 0,U0,U4,U7])))
def Gb:=Fo UJ
def s66:bw:=⟨337,[.agg [pi 0,pi 1,ps 2],.agg [pi 3,pi 4,ps 5]],[],6,4,.bM [.agg [pi 7,pi 8,.own 0],ci 6],[(0,(.row 5 U9))],Gb,66⟩
def akz:Ok s66:=oS (.cons OJ (.cons Ef (.cons Ci .nil)))
def aAt:bp:=.op (.call 110 qy (w 0 4) 2 [])<|.bI .neq U7 (.i 0)<|.ite U8 (.j [.r0,U7]) (.rw U2 U6 3<|.cl U9 0 .str<|.cl U9 1 .sl<|.cl U9 2 .sl<|.cA 97 o_ [bD,bF,bH] 1<|.join (.bI .lss U4 (.i 0)<|.ite bP (.j [.b true]) (.bI .lss U5 (.i 0)<|.ite bQ (.j [.b true]) (.ln bL<|.bI .gtr U4 bV<|.ite bX (.j [.b true]) (.ln bL<|.bI .sub bU U4<|.bI .gtr U5 cd<|.j [cv])))) (.ite bP (.j [.r0,.i 2]) (.bI .add U4 U5<|.ln bL<|.op (.cut bL U4 bQ 1)<|.op (.vw bL U4 bX)<|.j [bU,.i 0])))
def vf:=Fo aAt
def arL:bw:=⟨70,[.agg [pi 0,pi 1,ps 2],.c (.p .str U3),ci 4,ci 5],[],6,2,.bM [cs 6,ci 7],[],vf,127⟩
def axC:Ok arL:=oS (.cons AZ (.cons yd .nil))
def aeB:bp:=.cA 316 Su [U0,U1,U2] 0<|.cA 312 Pm [U0,U3] 1<|.j [U4]
def Hj:=Fo aeB
def ahY:bw:=⟨356,[.agg [.p .str U0,ps 1,ps 2],.c (.p .str U3),.c (.ptr 0 0)],[.box [.fn 315 []]],4,1,.v (ci 4),[(0,(.box [.fn 315 []]))],Hj,368⟩
def agp:Ok ahY:=oS (.cons ahx (.cons agJ .nil))
def aoP:bp:=.cA 84 HB [U0] 1<|.bI .geq U1 (.i 0)<|.j [U2]
def Lm:=Fo aoP
def aqk:bw:=⟨159,[.c (.own 0),.c (.fn 225 [])],[.row 164 U0],1,1,.v (.c (.p .bool U1)),[(0,(.row 164 U0))],Lm,369⟩
def Ro:Ok aqk:=oS (.cons KM .nil)
def Ts:bp:=.loop [.i 0,U0] (.bI .lss U5 U1<|.ite U7 (.bI .mul U2 U1<|.bI .add U8 U5<|.rw U6 U9 1<|.op (.rc U6 U9 0 (.int .u8))<|.bI .mul U3 U1<|.bI .add bH U5<|.rw U6 bL 1<|.op (.rc U6 bL 0 (.int .u8))<|.cA 19 pE [U4,bQ] 1<|.op (.bi .xor .u8 bF bV)<|.rw U6 U9 1<|.op (.set U6 U9 0 [((.int .u8),bX)])<|.bI .add U5 (.i 1)<|.j [cv,cd]) (.bq (.jump 1 [U6])))
def ng:=Fo Ts
def s81:bw:=⟨372,[.c (.own 0),ci 1,ci 2,ci 3,.c (.p (.int .u8) U4)],[.row 5 U0],5,1,.bM [],[(0,(.row 5 U5))],ng,81⟩
def aqq:Ok s81:=oS (.cons Ci .nil)
def afm:bp:=.join (.cA 62 E9 [U0] 1<|.ite U1 (.cA 369 Lm [U0] 1<|.no U2<|.j [U3]) (.j [.b false])) (.j [U1])
def O9:=Fo afm
def afo:bw:=⟨157,[.c (.own 0)],[.row 164 U0],1,1,.v (.c (.p .bool U1)),[(0,(.row 164 U0))],O9,370⟩
def LI:Ok afo:=oS (.cons Ro (.cons Nx (.cons PB (.cons Kp .nil))))
def aar:bp:=.ln U0<|.join (.loop [.i 0,U2] (.bI .lss U3 U4<|.ite U5 (.bI .add U3 U4<|.op (.conv .u64 U6)<|.op (.bi .shr .u64 U7 (.i 1))<|.op (.conv .i64 U8)<|.rw U0 U9 3<|.cl bD 0 .str<|.cl bD 1 .sl<|.cl bD 2 .sl<|.cA 368 Hj [bF,bH,bL,U1] 1<|.bI .lss bP (.i 0)<|.ite bQ (.bI .add U9 (.i 1)<|.j [bV,U4]) (.j [U3,U9])) (.bq (.jump 1 [U3])))) (.join (.bI .lss U3 U2<|.ite U4 (.rw U0 U3 3<|.cl U5 0 .str<|.cl U5 1 .sl<|.cl U5 2 .sl<|.cA 368 Hj [U6,U7,U8,U1] 1<|.bI .eql U9 (.i 0)<|.j [bD]) (.j [.b false])) (.j [U3,U4]))
def yU:=Fo aar
def adE:bw:=⟨355,[cs 0,.c (.p .str U1),.c (.fn 356 [0])],[.box [.fn 315 []]],2,2,.bM [ci 2,.c (.p .bool U3)],[(0,(.box [.fn 315 []]))],yU,371⟩
def amF:Ok adE:=oS (.cons agp .nil)
def asd:bp:=.cA 371 yU [U0,U1] 2<|.j [U2,U3]
def Hk:=Fo asd
def anh:bw:=⟨314,[cs 0,.c (.p .str U1),.c (.fn 315 [])],[],2,2,.bM [ci 2,.c (.p .bool U3)],[],Hk,372⟩
def aAA:Ok anh:=oS (.cons amF .nil)
def aAG:bp:=.join (.loop [U0,.r0] (.ln U1<|.bI .gtr U3 (.i 0)<|.ite U4 (.ln U1<|.bI .lss U5 (.i 24)<|.ite U6 (.bq (.jump 2 [.i 4,.r0])) (.ln U1<|.op (.part U1 (.i 0) (.i 20) 1)<|.cA 353 DF [U8] 1<|.ln U1<|.op (.part U1 (.i 20) (.i 24) 1)<|.cA 334 Hv [U9,bF] 1<|.no bH<|.ite bL (.bq (.jump 2 [.i 5,.r0])) (.ln U1<|.op (.part U1 (.i 0) (.i 8) 1)<|.cA 326 xS [bQ] 1<|.ln U1<|.op (.part U1 (.i 8) (.i 12) 1)<|.cA 326 xS [bU] 1<|.op (.conv .u32 cd)<|.ln U1<|.op (.part U1 (.i 12) (.i 16) 1)<|.cA 326 xS [cm] 1<|.op (.conv .i64 cn)<|.ln U1<|.op (.part U1 (.i 16) (.i 20) 1)<|.cA 326 xS [ck] 1<|.op (.conv .i64 cK)<|.op (.lit [[((.int .u64),bV),((.int .u32),cv),((.int .i64),ct),((.int .i64),cS)]])<|.op (.app U2 dZ 4 32)<|.ln U1<|.op (.part U1 (.i 24) e8 1)<|.j [ee,eJ]))) (.bq (.jump 1 [U2])))) (.cA 370 O9 [U1] 1<|.no U2<|.ite U3 (.j [.i 3,.r0]) (.j [.i 0,U1]))
def M8:=Fo aAG
def aeu:bw:=⟨76,[cs 0],[],1,2,.bM [.c (.own 0),ci 1],[(0,(.row 164 U2))],M8,375⟩
def asH:Ok aeu:=oS (.cons LI (.cons G_ (.cons QX (.cons V8 (.cons ams .nil)))))
def auo:bp:=.cA 372 Hk [U2,U3] 2<|.j [U4,U5]
def rT:=Fo auo
def atb:bw:=⟨272,[.agg [pi 0,pi 1,ps 2],.c (.p .str U3)],[],4,2,.bM [ci 4,.c (.p .bool U5)],[],rT,373⟩
def E_:Ok atb:=oS (.cons aAA .nil)
def Q3:bp:=.join (.cA 351 Gx [U0,U1,U2] 1<|.no U4<|.ite U5 (.j [.b true]) (.cA 321 Ar [U3] 1<|.no U6<|.j [U7])) (.ite U4 (.j [.i 0,.i 1]) (.bI .eql U1 (.i 0)<|.ite U5 (.j [.i 0,.i 13]) (.op (.call 373 rT (w 0 4) 2 [])<|.no U7<|.ite U8 (.j [.i 0,.i 6]) (.j [U6,.i 0]))))
def rj:=Fo Q3
def amN:bw:=⟨260,[.agg [pi 0,pi 1,ps 2],.c (.p .str U3)],[],4,2,.bM [ci 4,ci 5],[],rj,374⟩
def HE:Ok amN:=oS (.cons E_ (.cons YY (.cons IT .nil)))
def aze:bp:=.op (.call 374 rj (w 0 4) 2 [])<|.bI .neq U5 (.i 0)<|.ite U6 (.j [.i 0,U5]) (.rw U2 U4 3<|.cl U7 0 .str<|.cl U7 1 .sl<|.cl U7 2 .sl<|.cA 328 sR [U8,U9,bD] 1<|.j [bF,.i 0])
def Ht:=Fo aze
def alF:bw:=⟨197,[.agg [pi 0,pi 1,ps 2],.c (.p .str U3)],[],4,2,.bM [ci 4,ci 5],[],Ht,377⟩
def arI:Ok alF:=oS (.cons HE (.cons JV .nil))
end
section
open Go.RowKit
open Classical
namespace Si
def vx:Code:=((Code.region 7 #[{dst:=some 23,op:=Op.move (Operand.tmp 0),type:=55,pos:= "slices.go:145",after:= #[],guard:=none},{dst:=some 24,op:=Op.move (Operand.tmp 2),type:=55,pos:= "slices.go:145",after:= #[],guard:=none},{dst:=some 25,op:=Op.call {callee:=Callee.builtin Builtin.append,args:= #[Operand.tmp 23,Operand.tmp 24],argTypes:= #[55,55]},type:=55,pos:= "slices.go:145",after:= #[{on:=0,ground:=Ground.data},{on:=1,ground:=Ground.data}],guard:=none},{dst:=some 6,op:=Op.assign (Operand.tmp 25),type:=55,pos:= "slices.go:145",after:= #[{on:=2,ground:=Ground.data},{on:=2,ground:=Ground.chain},{on:=0,ground:=Ground.phase},{on:=1,ground:=Ground.phase},{on:=2,ground:=Ground.phase}],guard:=none}] false).seq Code.ret)
def va:Code:=((Code.region 10 #[{dst:=some 41,op:=Op.move (Operand.tmp 9),type:=55,pos:= "slices.go:153",after:= #[],guard:=none},{dst:=some 42,op:=Op.move (Operand.tmp 1),type:=3,pos:= "slices.go:153",after:= #[],guard:=none},{dst:=some 43,op:=Op.slice 55 (Operand.tmp 41) (some (Operand.tmp 42)) none none,type:=55,pos:= "slices.go:153",after:= #[{on:=0,ground:=Ground.data},{on:=1,ground:=Ground.data}],guard:=none},{dst:=some 44,op:=Op.move (Operand.tmp 2),type:=55,pos:= "slices.go:153",after:= #[],guard:=none},{dst:=some 45,op:=Op.call {callee:=Callee.builtin Builtin.copy,args:= #[Operand.tmp 43,Operand.tmp 44],argTypes:= #[55,55]},type:=3,pos:= "slices.go:153",after:= #[{on:=2,ground:=Ground.data},{on:=3,ground:=Ground.data}],guard:=none}] false).seq ((Code.region 11 #[{dst:=some 46,op:=Op.move (Operand.tmp 9),type:=55,pos:= "slices.go:154",after:= #[],guard:=none},{dst:=some 47,op:=Op.move (Operand.tmp 1),type:=3,pos:= "slices.go:154",after:= #[],guard:=none},{dst:=some 48,op:=Op.move (Operand.tmp 7),type:=3,pos:= "slices.go:154",after:= #[],guard:=none},{dst:=some 49,op:=Op.binOp BinOp.add 3 (Operand.tmp 47) (Operand.tmp 48) 3,type:=3,pos:= "slices.go:154",after:= #[{on:=1,ground:=Ground.data},{on:=2,ground:=Ground.data}],guard:=none},{dst:=some 50,op:=Op.slice 55 (Operand.tmp 46) (some (Operand.tmp 49)) none none,type:=55,pos:= "slices.go:154",after:= #[{on:=0,ground:=Ground.data},{on:=3,ground:=Ground.data}],guard:=none},{dst:=some 51,op:=Op.move (Operand.tmp 0),type:=55,pos:= "slices.go:154",after:= #[],guard:=none},{dst:=some 52,op:=Op.move (Operand.tmp 1),type:=3,pos:= "slices.go:154",after:= #[],guard:=none},{dst:=some 53,op:=Op.slice 55 (Operand.tmp 51) (some (Operand.tmp 52)) none none,type:=55,pos:= "slices.go:154",after:= #[{on:=5,ground:=Ground.data},{on:=6,ground:=Ground.data}],guard:=none},{dst:=some 54,op:=Op.call {callee:=Callee.builtin Builtin.copy,args:= #[Operand.tmp 50,Operand.tmp 53],argTypes:= #[55,55]},type:=3,pos:= "slices.go:154",after:= #[{on:=4,ground:=Ground.data},{on:=7,ground:=Ground.data}],guard:=none}] true).seq ((Code.region 12 #[{dst:=some 55,op:=Op.move (Operand.tmp 9),type:=55,pos:= "slices.go:155",after:= #[],guard:=none},{dst:=some 6,op:=Op.assign (Operand.tmp 55),type:=55,pos:= "slices.go:155",after:= #[{on:=0,ground:=Ground.data},{on:=0,ground:=Ground.phase}],guard:=none}] false).seq Code.ret)))
def vF:Code:=((Code.region 16 #[{dst:=some 78,op:=Op.move (Operand.tmp 0),type:=55,pos:= "slices.go:186",after:= #[],guard:=none},{dst:=some 79,op:=Op.move (Operand.tmp 1),type:=3,pos:= "slices.go:186",after:= #[],guard:=none},{dst:=some 80,op:=Op.slice 55 (Operand.tmp 78) (some (Operand.tmp 79)) none none,type:=55,pos:= "slices.go:186",after:= #[{on:=0,ground:=Ground.data},{on:=1,ground:=Ground.data}],guard:=none},{dst:=some 81,op:=Op.move (Operand.tmp 2),type:=55,pos:= "slices.go:186",after:= #[],guard:=none},{dst:=some 82,op:=Op.call {callee:=Callee.builtin Builtin.copy,args:= #[Operand.tmp 80,Operand.tmp 81],argTypes:= #[55,55]},type:=3,pos:= "slices.go:186",after:= #[{on:=2,ground:=Ground.data},{on:=3,ground:=Ground.data}],guard:=none}] false).seq ((Code.region 17 #[{dst:=some 83,op:=Op.move (Operand.tmp 0),type:=55,pos:= "slices.go:193",after:= #[],guard:=none},{dst:=some 6,op:=Op.assign (Operand.tmp 83),type:=55,pos:= "slices.go:193",after:= #[{on:=0,ground:=Ground.data},{on:=0,ground:=Ground.phase}],guard:=none}] false).seq Code.ret))
theorem uM:Tryz.f273.body=some (((Code.region 0 #[{dst:=some 6,op:=Op.assign (Operand.const (Value.slice none 0 0)),type:=55,pos:= "slices.go:136",after:= #[],guard:=none}] false).seq ((Code.region 1 #[{dst:=some 10,op:=Op.move (Operand.tmp 0),type:=55,pos:= "slices.go:137",after:= #[],guard:=none},{dst:=some 11,op:=Op.move (Operand.tmp 1),type:=3,pos:= "slices.go:137",after:= #[],guard:=none},{dst:=some 12,op:=Op.slice 55 (Operand.tmp 10) (some (Operand.tmp 11)) none none,type:=55,pos:= "slices.go:137",after:= #[{on:=0,ground:=Ground.data},{on:=1,ground:=Ground.data}],guard:=none}] false).seq ((Code.region 2 #[{dst:=some 13,op:=Op.move (Operand.tmp 2),type:=55,pos:= "slices.go:139",after:= #[],guard:=none},{dst:=some 14,op:=Op.call {callee:=Callee.builtin Builtin.len,args:= #[Operand.tmp 13],argTypes:= #[55]},type:=3,pos:= "slices.go:139",after:= #[{on:=0,ground:=Ground.data}],guard:=none},{dst:=some 7,op:=Op.assign (Operand.tmp 14),type:=3,pos:= "slices.go:139",after:= #[{on:=1,ground:=Ground.data},{on:=0,ground:=Ground.phase},{on:=1,ground:=Ground.phase}],guard:=none}] false).seq (((Code.region 3 #[{dst:=some 15,op:=Op.move (Operand.tmp 7),type:=3,pos:= "slices.go:140",after:= #[],guard:=none},{dst:=some 16,op:=Op.binOp BinOp.eql 3 (Operand.tmp 15) (Operand.const (Value.int IntKind.i64 0)) 3,type:=4,pos:= "slices.go:140",after:= #[{on:=0,ground:=Ground.data}],guard:=none}] false).seq (Code.cond (Operand.tmp 16) ((Code.region 4 #[{dst:=some 17,op:=Op.move (Operand.tmp 0),type:=55,pos:= "slices.go:141",after:= #[],guard:=none},{dst:=some 6,op:=Op.assign (Operand.tmp 17),type:=55,pos:= "slices.go:141",after:= #[{on:=0,ground:=Ground.data},{on:=0,ground:=Ground.phase}],guard:=none}] false).seq Code.ret) Code.skip)).seq ((Code.region 5 #[{dst:=some 18,op:=Op.move (Operand.tmp 0),type:=55,pos:= "slices.go:143",after:= #[],guard:=none},{dst:=some 19,op:=Op.call {callee:=Callee.builtin Builtin.len,args:= #[Operand.tmp 18],argTypes:= #[55]},type:=3,pos:= "slices.go:143",after:= #[{on:=0,ground:=Ground.data}],guard:=none},{dst:=some 8,op:=Op.assign (Operand.tmp 19),type:=3,pos:= "slices.go:143",after:= #[{on:=1,ground:=Ground.data},{on:=0,ground:=Ground.phase},{on:=1,ground:=Ground.phase}],guard:=none}] false).seq (((Code.region 6 #[{dst:=some 20,op:=Op.move (Operand.tmp 1),type:=3,pos:= "slices.go:144",after:= #[],guard:=none},{dst:=some 21,op:=Op.move (Operand.tmp 8),type:=3,pos:= "slices.go:144",after:= #[],guard:=none},{dst:=some 22,op:=Op.binOp BinOp.eql 3 (Operand.tmp 20) (Operand.tmp 21) 3,type:=4,pos:= "slices.go:144",after:= #[{on:=0,ground:=Ground.data},{on:=1,ground:=Ground.data}],guard:=none}] false).seq (Code.cond (Operand.tmp 22) vx Code.skip)).seq (((Code.region 8 #[{dst:=some 26,op:=Op.move (Operand.tmp 8),type:=3,pos:= "slices.go:147",after:= #[],guard:=none},{dst:=some 27,op:=Op.move (Operand.tmp 7),type:=3,pos:= "slices.go:147",after:= #[],guard:=none},{dst:=some 28,op:=Op.binOp BinOp.add 3 (Operand.tmp 26) (Operand.tmp 27) 3,type:=3,pos:= "slices.go:147",after:= #[{on:=0,ground:=Ground.data},{on:=1,ground:=Ground.data}],guard:=none},{dst:=some 29,op:=Op.move (Operand.tmp 0),type:=55,pos:= "slices.go:147",after:= #[],guard:=none},{dst:=some 30,op:=Op.call {callee:=Callee.builtin Builtin.cap,args:= #[Operand.tmp 29],argTypes:= #[55]},type:=3,pos:= "slices.go:147",after:= #[{on:=3,ground:=Ground.data}],guard:=none},{dst:=some 31,op:=Op.binOp BinOp.gtr 3 (Operand.tmp 28) (Operand.tmp 30) 3,type:=4,pos:= "slices.go:147",after:= #[{on:=2,ground:=Ground.data},{on:=4,ground:=Ground.data}],guard:=none}] false).seq (Code.cond (Operand.tmp 31) ((Code.region 9 #[{dst:=some 32,op:=Op.move (Operand.tmp 0),type:=55,pos:= "slices.go:152",after:= #[],guard:=none},{dst:=some 33,op:=Op.move (Operand.tmp 1),type:=3,pos:= "slices.go:152",after:= #[],guard:=none},{dst:=some 34,op:=Op.slice 55 (Operand.tmp 32) none (some (Operand.tmp 33)) none,type:=55,pos:= "slices.go:152",after:= #[{on:=0,ground:=Ground.data},{on:=1,ground:=Ground.data}],guard:=none},{dst:=some 35,op:=Op.move (Operand.tmp 8),type:=3,pos:= "slices.go:152",after:= #[],guard:=none},{dst:=some 36,op:=Op.move (Operand.tmp 7),type:=3,pos:= "slices.go:152",after:= #[],guard:=none},{dst:=some 37,op:=Op.binOp BinOp.add 3 (Operand.tmp 35) (Operand.tmp 36) 3,type:=3,pos:= "slices.go:152",after:= #[{on:=3,ground:=Ground.data},{on:=4,ground:=Ground.data}],guard:=none},{dst:=some 38,op:=Op.move (Operand.tmp 1),type:=3,pos:= "slices.go:152",after:= #[],guard:=none},{dst:=some 39,op:=Op.binOp BinOp.sub 3 (Operand.tmp 37) (Operand.tmp 38) 3,type:=3,pos:= "slices.go:152",after:= #[{on:=5,ground:=Ground.data},{on:=6,ground:=Ground.data}],guard:=none},{dst:=some 40,op:=Op.call {callee:=Callee.builtin Builtin.append,args:= #[Operand.tmp 34,Operand.tmp 39],argTypes:= #[55,3]},type:=55,pos:= "slices.go:152",after:= #[{on:=2,ground:=Ground.data},{on:=7,ground:=Ground.data}],guard:=none},{dst:=some 9,op:=Op.assign (Operand.tmp 40),type:=55,pos:= "slices.go:152",after:= #[{on:=8,ground:=Ground.data},{on:=8,ground:=Ground.chain},{on:=0,ground:=Ground.phase},{on:=1,ground:=Ground.phase},{on:=2,ground:=Ground.phase},{on:=3,ground:=Ground.phase},{on:=4,ground:=Ground.phase},{on:=5,ground:=Ground.phase},{on:=6,ground:=Ground.phase},{on:=7,ground:=Ground.phase},{on:=8,ground:=Ground.phase}],guard:=none}] false).seq va) Code.skip)).seq ((Code.region 13 #[{dst:=some 56,op:=Op.move (Operand.tmp 0),type:=55,pos:= "slices.go:157",after:= #[],guard:=none},{dst:=some 57,op:=Op.move (Operand.tmp 8),type:=3,pos:= "slices.go:157",after:= #[],guard:=none},{dst:=some 58,op:=Op.move (Operand.tmp 7),type:=3,pos:= "slices.go:157",after:= #[],guard:=none},{dst:=some 59,op:=Op.binOp BinOp.add 3 (Operand.tmp 57) (Operand.tmp 58) 3,type:=3,pos:= "slices.go:157",after:= #[{on:=1,ground:=Ground.data},{on:=2,ground:=Ground.data}],guard:=none},{dst:=some 60,op:=Op.slice 55 (Operand.tmp 56) none (some (Operand.tmp 59)) none,type:=55,pos:= "slices.go:157",after:= #[{on:=0,ground:=Ground.data},{on:=3,ground:=Ground.data}],guard:=none},{dst:=some 0,op:=Op.assign (Operand.tmp 60),type:=55,pos:= "slices.go:157",after:= #[{on:=4,ground:=Ground.data},{on:=0,ground:=Ground.phase},{on:=1,ground:=Ground.phase},{on:=2,ground:=Ground.phase},{on:=3,ground:=Ground.phase},{on:=4,ground:=Ground.phase}],guard:=none}] false).seq (((Code.region 14 #[{dst:=some 61,op:=Op.move (Operand.tmp 2),type:=55,pos:= "slices.go:173",after:= #[],guard:=none},{dst:=some 62,op:=Op.move (Operand.tmp 0),type:=55,pos:= "slices.go:173",after:= #[],guard:=none},{dst:=some 63,op:=Op.move (Operand.tmp 1),type:=3,pos:= "slices.go:173",after:= #[],guard:=none},{dst:=some 64,op:=Op.move (Operand.tmp 7),type:=3,pos:= "slices.go:173",after:= #[],guard:=none},{dst:=some 65,op:=Op.binOp BinOp.add 3 (Operand.tmp 63) (Operand.tmp 64) 3,type:=3,pos:= "slices.go:173",after:= #[{on:=2,ground:=Ground.data},{on:=3,ground:=Ground.data}],guard:=none},{dst:=some 66,op:=Op.slice 55 (Operand.tmp 62) (some (Operand.tmp 65)) none none,type:=55,pos:= "slices.go:173",after:= #[{on:=1,ground:=Ground.data},{on:=4,ground:=Ground.data}],guard:=none},{dst:=some 67,op:=Op.call {callee:=Callee.value (Operand.func 316),args:= #[Operand.tmp 61,Operand.tmp 66],argTypes:= #[55,55]},type:=4,pos:= "slices.go:173",after:= #[{on:=0,ground:=Ground.data},{on:=5,ground:=Ground.data}],guard:=none},{dst:=some 68,op:=Op.unOp UnOp.not 4 (Operand.tmp 67),type:=4,pos:= "slices.go:173",after:= #[{on:=6,ground:=Ground.data}],guard:=none}] false).seq (Code.cond (Operand.tmp 68) ((Code.region 15 #[{dst:=some 69,op:=Op.move (Operand.tmp 0),type:=55,pos:= "slices.go:178",after:= #[],guard:=none},{dst:=some 70,op:=Op.move (Operand.tmp 1),type:=3,pos:= "slices.go:178",after:= #[],guard:=none},{dst:=some 71,op:=Op.move (Operand.tmp 7),type:=3,pos:= "slices.go:178",after:= #[],guard:=none},{dst:=some 72,op:=Op.binOp BinOp.add 3 (Operand.tmp 70) (Operand.tmp 71) 3,type:=3,pos:= "slices.go:178",after:= #[{on:=1,ground:=Ground.data},{on:=2,ground:=Ground.data}],guard:=none},{dst:=some 73,op:=Op.slice 55 (Operand.tmp 69) (some (Operand.tmp 72)) none none,type:=55,pos:= "slices.go:178",after:= #[{on:=0,ground:=Ground.data},{on:=3,ground:=Ground.data}],guard:=none},{dst:=some 74,op:=Op.move (Operand.tmp 0),type:=55,pos:= "slices.go:178",after:= #[],guard:=none},{dst:=some 75,op:=Op.move (Operand.tmp 1),type:=3,pos:= "slices.go:178",after:= #[],guard:=none},{dst:=some 76,op:=Op.slice 55 (Operand.tmp 74) (some (Operand.tmp 75)) none none,type:=55,pos:= "slices.go:178",after:= #[{on:=5,ground:=Ground.data},{on:=6,ground:=Ground.data}],guard:=none},{dst:=some 77,op:=Op.call {callee:=Callee.builtin Builtin.copy,args:= #[Operand.tmp 73,Operand.tmp 76],argTypes:= #[55,55]},type:=3,pos:= "slices.go:178",after:= #[{on:=4,ground:=Ground.data},{on:=7,ground:=Ground.data}],guard:=none}] true).seq vF) Code.skip)).seq ((Code.region 18 #[{dst:=some 84,op:=Op.move (Operand.tmp 0),type:=55,pos:= "slices.go:200",after:= #[],guard:=none},{dst:=some 85,op:=Op.move (Operand.tmp 8),type:=3,pos:= "slices.go:200",after:= #[],guard:=none},{dst:=some 86,op:=Op.slice 55 (Operand.tmp 84) (some (Operand.tmp 85)) none none,type:=55,pos:= "slices.go:200",after:= #[{on:=0,ground:=Ground.data},{on:=1,ground:=Ground.data}],guard:=none},{dst:=some 87,op:=Op.move (Operand.tmp 2),type:=55,pos:= "slices.go:200",after:= #[],guard:=none},{dst:=some 88,op:=Op.call {callee:=Callee.builtin Builtin.copy,args:= #[Operand.tmp 86,Operand.tmp 87],argTypes:= #[55,55]},type:=3,pos:= "slices.go:200",after:= #[{on:=2,ground:=Ground.data},{on:=3,ground:=Ground.data}],guard:=none}] false).seq ((Code.region 19 #[{dst:=some 89,op:=Op.move (Operand.tmp 0),type:=55,pos:= "slices.go:207",after:= #[],guard:=none},{dst:=some 90,op:=Op.move (Operand.tmp 1),type:=3,pos:= "slices.go:207",after:= #[],guard:=none},{dst:=some 91,op:=Op.slice 55 (Operand.tmp 89) (some (Operand.tmp 90)) none none,type:=55,pos:= "slices.go:207",after:= #[{on:=0,ground:=Ground.data},{on:=1,ground:=Ground.data}],guard:=none},{dst:=some 92,op:=Op.move (Operand.tmp 7),type:=3,pos:= "slices.go:207",after:= #[],guard:=none},{dst:=some 93,op:=Op.call {callee:=Callee.value (Operand.func 317),args:= #[Operand.tmp 91,Operand.tmp 92],argTypes:= #[55,3]},type:=0,pos:= "slices.go:207",after:= #[{on:=2,ground:=Ground.data},{on:=3,ground:=Ground.data}],guard:=none}] false).seq ((Code.region 20 #[{dst:=some 94,op:=Op.move (Operand.tmp 0),type:=55,pos:= "slices.go:214",after:= #[],guard:=none},{dst:=some 6,op:=Op.assign (Operand.tmp 94),type:=55,pos:= "slices.go:214",after:= #[{on:=0,ground:=Ground.data},{on:=0,ground:=Ground.phase}],guard:=none}] false).seq Code.ret))))))))))))):=rfl
def pn(l:List (Nat×SV)):List SV:=(List.range 95).map λi=>(l.lookup i).getD (.v (.c .dead))
def o(n:Nat):SV:=.v (.c (.own n))
def n(k:Nat):SV:=.v (.c (.p (.int .i64) (.v k)))
def SE:bt:=⟨pn [(0,o 0),(2,o 1)],[(0,.row 144 (.v 0)),(1,.row 144 (.v 1))],[],2,2⟩
def SA:bt:=⟨pn [(0,o 0),(1,n 2),(2,o 1),(7,n 3),(9,o 2)],[(2,.row 144 (.v 4)),(0,.row 144 (.v 0)),(1,.row 144 (.v 1))],[],3,5⟩
def Uj:bt:=⟨pn [(0,o 2),(1,n 1),(2,o 1)],[(2,.row 144 (.v 2)),(1,.row 144 (.v 0))],[],3,3⟩
end Si
namespace Si
def Hn(T:bY)(k0 a:Nat)(b:bt)(d:Nat)(e:Ex)(S:bt):Option bp:=match e with
 |.ret=>jmp T k0 a b d .normal S
 |_=>none
def amh{T k0 a c d e S f b}(h:Hn T k0 a c d e S=some f):f.a_ b=((Hn T k0 a c 0 e S).bind (·.a_ b)).map (lift d):=by
 cases e with
 |ret=>
  simp only[Hn]at h⊢;exact zY h
 |_=>cases h
def Cy(T:bY)(C:fr)(c:Code)(k0:Nat)(rs:List ResultVar)(S:bt):Option xn:=
 match exec T C k0 c (o9 rs) [] (o9 rs) S with
 |some t=>match(merge (o9 rs) k0 S.nv t.rk).map (bt.order k0)with
  |some a=>match t.bind (Hn T k0 S.nv a) 0,Az T rs a with
   |some u,some r=>some ⟨u,r,a.heap.filter (λx=>(reach a.heap 4 (List.range k0++r.names)).contains x.1),a.nv-S.nv⟩
   |_,_=>none
  |none=>none
 |none=>none
def Nq{P T C}(l:bY.ok P T)(D:fr.ok P C)(E:P.follows .mixedOrders=true){c k0 rs S o}(p:S.bx=[])(h:Cy T C c k0 rs S=some o)
 {ls os} (q:ls.length=S.nv) (j:gH (o.AE.a_ ls)=some os) {X} (hP:X.P=P) (iB:X.k0=k0):Aw X c (λe st=>e=.ret/\oJ P rs (o.res.a_ (ls++os)) (o.out.a_ (ls++os)) e st) (S.a_ ls):=by
 unfold Cy at h;split at h
 .rename_i t z;split at h
  .rename_i F G;split at h
   .rename_i u r H I;cases h;have g:=mG l D E c (S:=S) p z;simp only[gH]at j;split at j
    .rename_i k J s K;cases j;obtain⟨e,A,a,v,L,B,M⟩:=rb (λx a N=>(g ls x a q N).bare) (λe A a z d u1 O=>amh O) H K;obtain⟨e',Q,R,U,⟨ys,V⟩,W,Y⟩:=g ls _ _ q L;cases R;subst V;have key:e=.ret/\∀X:Fx,X.P=P->X.k0=k0->Le X (A.a_ (ls++ys)) (F.a_ (ls++J.map (At.ev s))):=by
      cases e with
      |ret=>
       obtain⟨Z,zs,j1,_,_,j4⟩:=ur l q U W B M;cases j1;exact⟨rfl,j4⟩
      |_=>cases B
     obtain⟨rfl,w⟩:=key;refine nK (Y X hP iB _ ⟨_,w X hP iB,?_⟩);refine⟨rfl,?_,L1 l I,λn b f=>?_⟩;rotate_left
     .rw[fk];rw[dh.rP]at f;simp only[b9]at f;obtain⟨b0,y,rfl⟩:=f;rw[AW y];rfl
     trivial
    .cases j
   .cases h
  .cases h
 .cases h
def auU{a k ρ l}(h:Nd.ev ρ a=some l):(bp.op a k).a_ ρ=k.a_ (ρ++l):=by
 simp only[bp.a_,h]
def mY{a k ρ l r}(h:Nd.ev ρ a=some l)(b:gH (k.a_ (ρ++l))=r):gH ((bp.op a k).a_ ρ)=r:=by rw[auU h];exact b
def FY{ρ x lo a size}{l h:Int}{rows:List (List PV)}(b:(lo.ev ρ).br=l)(c:(At.ev ρ a).br=h)(e:(x.ev ρ).bE=rows)(f:0<=l/\l<=h/\h.toNat<=rows.length/\pD size rows=true){d:Nat}(g:h.toNat-l.toNat=d):
 Nd.ev ρ (.cut x lo a size)=some [.i (d:Int)]:=by
 simp only[Nd.ev,b,c,e];rw[bB f,g]
def PD{ρ x lo ln y size}{l h:Nat}{rows ys:List (List PV)}(a:(lo.ev ρ).br=(l:Int))(b:(At.ev ρ ln).br=(h:Int))(c:(x.ev ρ).bE=rows)(d:(y.ev ρ).bE=ys)(hR:cC size ys=true)(e:l+h<=rows.length){k:Nat}(f:min ys.length h=k){rs}(g:rows.take l++ys.take k++rows.drop (l+k)=rs):
 Nd.ev ρ (.px x lo ln y size)=some [.r rs,.i (k:Int)]:=by
 simp only[Nd.ev,a,b,c,d,eO];rw[bB ⟨hR,e⟩,f,g]
def aqO{ρ x lo ln}{l h:Nat}{rows:List (List PV)}(a:(lo.ev ρ).br=(l:Int))(b:(At.ev ρ ln).br=(h:Int))(c:(x.ev ρ).bE=rows){rs}(d:(rows.drop l).take h=rs):
 Nd.ev ρ (.vw x lo ln)=some [.r rs]:=by
 simp only[Nd.ev,a,b,c,eO,d]
def Ei{ρ x}{rows:List (List PV)}(a:(At.ev ρ x).bE=rows){k:Nat}(b:rows.length=k):Nd.ev ρ (.len x)=some [.i (k:Int)]:=by
 simp only[Nd.ev,a,b]
def alz{ρ x y}{a b:Nat}(c:(At.ev ρ x).br=(a:Int))(d:(At.ev ρ y).br=(b:Int))(h:a+b<=9223372036854775807):Nd.ev ρ (.bi .add .i64 x y)=some [.i ((a+b:Nat):Int)]:=by
 have e:IntKind.i64.wrap ((a:Int)+(b:Int))=((a+b:Nat):Int):=by rw[IntKind.wrap_i64];omega
 simp only[Nd.ev,c,d,eC,e];rfl
def DU{size:Nat}{rows:List (List PV)}(h:dS size rows):pD size rows=true:=by
 cases rows with
 |nil=>rfl
 |cons r l=>simp[pD,h r ch]
def N':bp:=.op (.app (.v 0) (.v 1) 3 64) (.bq (.jump 0 [(.v 2)]))
def I_:bp:=.op (.len (.v 4))<| .op (.cut (.v 4) (.v 2) (.v 5) 3)<| .op (.px (.v 4) (.v 2) (.v 6) (.v 1) 3)<| .op (.bi .add .i64 (.v 2) (.v 3))<| .op (.len (.v 7))<|
 .op (.cut (.v 7) (.v 9) (.v 10) 3)<| .op (.len (.v 0))<| .op (.cut (.v 0) (.v 2) (.v 12) 3)<| .op (.vw (.v 0) (.v 2) (.v 13))<| .op (.px (.v 7) (.v 9) (.v 11) (.v 14) 3)<| .bq (.jump 0 [(.v 15)])
def Mj:bp:=.op (.len (.v 2))<| .op (.cut (.v 2) (.v 1) (.v 3) 3)<| .op (.px (.v 2) (.v 1) (.v 4) (.v 0) 3)<| .bq (.jump 0 [(.v 5)])
section
variable{rows vs:List (List PV)}{i m n:Nat}
def axB(hR:dS 3 rows)(a:dS 3 vs)(b:(rows.length+vs.length)*64<=140737488355328):gH (N'.a_ [.r rows,.r vs])=some [.r (rows++vs)]:=by
 have h:Nd.ev [.r rows,.r vs] (.app (.v 0) (.v 1) 3 64)=some [.r (rows++vs)]:=by
  show(if rows.length+vs.length<=9223372036854775807/\(rows.length+vs.length)*64<=140737488355328/\cC 3 rows=true/\cC 3 vs=true then some [L.r (rows++vs)]else none)=_;rw[bB ⟨om,b,kf.2 hR,kf.2 a⟩]
 unfold N';exact mY h rfl
def aet(q:rows.length=n)(s:vs.length=m)(w:i<=n)(hR:dS 3 rows)(o:dS 3 vs)(x:(n+m)*64<=140737488355328){Z:List (List PV)}(p:dS 3 Z)(t:Z.length=n+m-i):
 gH (I_.a_ [.r rows,.r vs,.i i,.i m,.r (rows.take i++Z)])=some [.r (rows.take i++vs++rows.drop i)]:=by
 have c:(rows.take i).length=i:=by simp;omega
 have u:(rows.take i++Z).length=n+m:=by simp;omega
 have e:dS 3 (rows.take i++Z):=(hR.take i).app p;have c1:(rows.take i++Z).take i++vs.take m++(rows.take i++Z).drop (i+m)=rows.take i++vs++Z.drop m:=by
  rw[List.take_left' c,eP (l:=vs) om,Qy,IB (l:=rows.take i) om,c,show i+m-i=m by omega];simp
 have v:(rows.take i++vs++Z.drop m).length=n+m:=by simp;omega
 have f:dS 3 (rows.drop i):=λr g=>hR r (oZ g)
 have j:dS 3 (rows.take i++vs++Z.drop m):=((hR.take i).app o).app (λr g=>p r (oZ g));have c2:(rows.take i++vs++Z.drop m).take (i+m)++(rows.drop i).take (n-i)++(rows.take i++vs++Z.drop m).drop (i+m+(n-i))=rows.take i++vs++rows.drop i:=by
  rw[List.take_left' (l₁:=rows.take i++vs) (by rw[cw,c,s]),eP (l:=rows.drop i) (by rw[jE];omega),IB (l:=rows.take i++vs++Z.drop m) om,gd]
 unfold I_;refine mY (Ei rfl u) ?_;refine mY (FY (l:=i) (h:=((n+m:Nat):Int)) (rows:=rows.take i++Z) rfl rfl rfl ⟨om,om,om,DU e⟩ (d:=n+m-i) om) ?_;refine mY (PD (l:=i) (h:=n+m-i) (rows:=rows.take i++Z) (ys:=vs) rfl rfl rfl rfl (kf.2 o) om (k:=m) om c1) ?_;refine mY (alz (a:=i) (b:=m) rfl rfl om) ?_;refine mY (Ei rfl v) ?_;refine mY (FY (l:=((i+m:Nat):Int)) (h:=((n+m:Nat):Int)) (rows:=rows.take i++vs++Z.drop m) rfl rfl rfl ⟨om,om,om,DU j⟩ (d:=n-i) om) ?_;refine mY (Ei rfl q) ?_;refine mY (FY (l:=i) (h:=(n:Int)) (rows:=rows) rfl rfl rfl ⟨om,om,om,DU hR⟩ (d:=n-i) om) ?_;refine mY (aqO (l:=i) (h:=n-i) (rows:=rows) rfl rfl rfl (rs:=rows.drop i) (eP (by simp;omega))) ?_;refine mY (PD (l:=i+m) (h:=n-i) (rows:=rows.take i++vs++Z.drop m) (ys:=rows.drop i) rfl rfl rfl rfl (kf.2 f) om (k:=n-i) (by simp;omega) c2) ?_;rfl
def aBP(f:rows.length=n)(g:vs.length=1)(j:i<n)(hR:dS 3 rows)(b:dS 3 vs):
 gH (Mj.a_ [.r vs,.i i,.r (rows.take (i+1)++rows.drop i)])=some [.r (rows.take i++vs++rows.drop i)]:=by
 have c:(rows.take (i+1)++rows.drop i).length=n+1:=by simp;omega
 have a:dS 3 (rows.take (i+1)++rows.drop i):=(hR.take _).app λr e=>hR r (oZ e)
 have c2:(rows.take (i+1)++rows.drop i).take i++vs.take 1++(rows.take (i+1)++rows.drop i).drop (i+1)=rows.take i++vs++rows.drop i:=by
  rw[aGf (by simp;omega),List.take_take,o0 om,eP (l:=vs) om,Qz (l₁:=rows.take (i+1)) (by simp;omega)]
 unfold Mj;refine mY (Ei rfl c) ?_;refine mY (FY (l:=i) (h:=((n+1:Nat):Int)) (rows:=rows.take (i+1)++rows.drop i) rfl rfl rfl ⟨om,om,om,DU a⟩ (d:=n+1-i) om) ?_;refine mY (PD (l:=i) (h:=n+1-i) (rows:=rows.take (i+1)++rows.drop i) (ys:=vs) rfl rfl rfl rfl (kf.2 b) om (k:=1) om c2) ?_;rfl
end
section
variable{X:Fx}(hP:X.P=Tryz.prog)(iB:X.k0=2){rows vs:List (List PV)}{i m n:Nat}
include hP iB
def awE(hR:dS 3 rows)(a:dS 3 vs)(b:(rows.length+vs.length)*64<=140737488355328):
 Aw X vx (λe st=>e=.ret/\oJ Tryz.prog [.tmp 6] (.v (.c (.own 2))) [(2,.row 144 (rows++vs)),(1,.row 144 vs)] e st) (SE.a_ [.r rows,.r vs]):=
 Nq js .nil oM rfl (show Cy TT [] vx 2 [.tmp 6] SE=some ⟨N',.v (.c (.own 2)),[(2,.row 144 (.v 2)),(1,.row 144 (.v 1))],1⟩by kernel_rfl) rfl (axB hR a b) hP iB
def awA(b:rows.length=n)(c:vs.length=m)(d:i<=n)(hR:dS 3 rows)(f:dS 3 vs)(g:(n+m)*64<=140737488355328){Z:List (List PV)}(h:dS 3 Z)(a:Z.length=n+m-i):
 Aw X va (λe st=>e=.ret/\oJ Tryz.prog [.tmp 6] (.v (.c (.own 2))) [(2,.row 144 (rows.take i++vs++rows.drop i)),(0,.row 144 rows),(1,.row 144 vs)] e st) (SA.a_ [.r rows,.r vs,.i i,.i m,.r (rows.take i++Z)]):=
 Nq js .nil oM rfl (show Cy TT [] va 2 [.tmp 6] SA=some ⟨I_,.v (.c (.own 2)),[(2,.row 144 (.v 5)),(0,.row 144 (.v 0)),(1,.row 144 (.v 1))],1⟩by kernel_rfl) rfl (aet b c d hR f g h a) hP iB
def awB(a:rows.length=n)(b:vs.length=1)(c:i<n)(hR:dS 3 rows)(d:dS 3 vs):
 Aw X vF (λe st=>e=.ret/\oJ Tryz.prog [.tmp 6] (.v (.c (.own 2))) [(2,.row 144 (rows.take i++vs++rows.drop i)),(1,.row 144 vs)] e st) (Uj.a_ [.r vs,.i i,.r (rows.take (i+1)++rows.drop i)]):=
 Nq js .nil oM rfl (show Cy TT [] vF 2 [.tmp 6] Uj=some ⟨Mj,.v (.c (.own 2)),[(2,.row 144 (.v 3)),(1,.row 144 (.v 0))],1⟩by kernel_rfl) rfl (aBP a b c hR d) hP iB
end
end Si
namespace Si
def awn{l:List (Nat×SV)}{ρ}{k:Nat}{v:V}(h:((pn l).map (SV.a_ ρ))[k]?=some v):k<95/\v=((l.lookup k).getD (.v (.c .dead))).a_ ρ:=by
 simp only[pn,gW,cY,b9]at h;obtain⟨j,c,rfl⟩:=h;obtain⟨a,b⟩:=ek.1 c;simp at a b;subst b;exact⟨a,rfl⟩
def alR{α:Type}{l:List (Nat×α)}{k:Nat}{v:α}(h:l.lookup k=some v):(k,v)∈l:=by
 induction l with
 |nil=>cases h
 |cons x l ih=>
  obtain⟨a,b⟩:=x;simp only[gb]at h;split at h
  .rename_i c;simp at c;subst c;cases h;exact jg
  .exact je _ (ih h)
def LW{M E w}{l:List (Nat×SV)}{ρ}{ts:Array b8}(a:ts.size=95)(h:∀x∈l,∃u,ts[x.1]?=some u/\RV M E w (x.2.a_ ρ) u)(k:Nat)(v:V)(b:((pn l).map (SV.a_ ρ))[k]?=some v):∃u,ts[k]?=some u/\RV M E w v u:=by
 obtain⟨d,rfl⟩:=awn b
 cases c:l.lookup k with
 |none=>exact⟨_,sD om,trivial⟩
 |some s=>exact h (k,s) (alR c)
def ET{X E st a w}(h:Rel X E st a w){a':Act}{ts:List V}(c:a'.defers=a.defers)(b:a'.tmps.size=ts.length)(d:∀(i:Nat)(v:V),ts[i]?=some v->∃u,a'.tmps[i]?=some u/\RV X.M E w v u):Rel X E {st with tmps:=ts} a' w:={
 defers:=c.trans h.defers
 bx:=h.bx
 frame:=h.frame
 jJ:=h.jJ
 fj:=h.fj
 names:=h.names
 inj:=h.inj
 gl:=h.gl
 kb:=h.kb
 lH:=h.lH
 size:=b
 tmps:=d
 heap:=h.heap}
def Wd{X E st a w}(h:Rel X E st a w){k:Nat}(b:st.next<=k):Rel X E {st with next:=k} a w:={
 defers:=h.defers
 bx:=h.bx
 frame:=h.frame
 jJ:=h.jJ
 fj:=λn x c=>nt (h.fj n x c) b
 names:=h.names
 inj:=h.inj
 gl:=h.gl
 kb:=n_ h.kb b
 lH:=λn c=>nt (h.lH n c) b
 size:=h.size
 tmps:=h.tmps
 heap:=h.heap}
def Lt{X E args H a w}{c d e:b8}(b:args.length=3)(hR:Rel X E (jz 95 args H) a w)(f:a.tmps[0]?=some c)(g:a.tmps[1]?=some d)(h:a.tmps[2]?=some e):a.tmps= #[c,d,e]++Array.replicate 92 undef:=by
 have q:a.tmps.size=95:=by rw[hR.size];simp[jz,b]
 apply Array.ext_getElem?;intro k;by_cases j:k<3
 .have:k=0\/k=1\/k=2:=om;rcases this with rfl|rfl|rfl
  .rw[f,wZ ch];rfl
  .rw[g,wZ ch];rfl
  .rw[h,wZ ch];rfl
 .by_cases l:k<95
  .obtain⟨u,o,us,rfl,p,_⟩:=hR.tmps k (.bM []) (by
    show(args.map V.v++List.replicate (95-args.length) (.bM []))[k]?=_;rw[kX (by simp[b];omega),Qv,bB (by simp[b];omega)])
   obtain rfl:us= #[]:=CY p;rw[o,ui];simp[j,acy];exact⟨om,rfl⟩
  .rw[QA om,QA (by simp;omega)]
def Db:(Tryz.prog.info? 144).map (λi=>(i.zero,i.size,i.bytes))=some (some (.agg #[.string ⟨#[]⟩,.slice none 0 0,.slice none 0 0]),3,64):=kr
def Dm:Tryz.prog.cellsOf 144=3:=kr
end Si
namespace Si
def EB(Q:Exit->Act->bW->Prop)(e:Exit)(a:Act)(w:bW):Prop:=e=.ret/\Q .ret a w
def aeO{Q:Exit->Act->bW->Prop}(A:Option Addr)(n c:Nat)(B:Option Addr)(m c2:Nat)(ds)(w:bW)(hm:0<m)(PN:n<=c)
 (hE:∀ts:Array b8,ts.size=95->ts[0]?=some (.slice A n c)->ts[2]?=some (.slice B m c2)->vx.wp Tryz.prog (EB Q) ⟨ts,ds⟩ w) (c0:Code) (hc0:Tryz.f273.body=some c0):
 c0.wp Tryz.prog Q ⟨#[.slice A n c,.int .i64 n,.slice B m c2]++Array.replicate 92 undef,ds⟩ w:=by
 rw[uM]at hc0;cases hc0;have hz1:¬((m:Int)=0):=om;generalize hcE:vx=cE at hE⊢;generalize hcA:va=cA;generalize hcB:vF=cB;simp only[kW,h_,jW,Nat.reduceAdd,Nat.reduceSub,w2,w3,w5,w6,kZ,qU]
 cases A with
 |none=>
  go_wp2
  all_goals (refine wp_mono (hE _ ?_ ?_ ?_) (λe a w h=>by obtain⟨rfl,h⟩:=h;exact h)<;>rfl)
 |some a=>
  by_cases zm:c=n
  .subst zm
   go_wp2
   all_goals (refine wp_mono (hE _ ?_ ?_ ?_) (λe a w h=>by obtain⟨rfl,h⟩:=h;exact h)<;>rfl)
  .go_wp2
   all_goals (refine wp_mono (hE _ ?_ ?_ ?_) (λe a w h=>by obtain⟨rfl,h⟩:=h;exact h)<;>rfl)
end Si
namespace Si
def aqf{Q:Exit->Act->bW->Prop}(b n c i:Nat)(B:Option Addr)(m c2:Nat)(ds)(w w':bW)(v':b8)(hm:0<m)(PN:n<=c)(hi:i<n)(hroom:c<n+m)(aEh:(n+m)*64<=140737488355328)
 (hap:∀ty,(Builtin.append_ #[55,3] ty #[.slice (some ⟨b,0,none⟩) i c,.int .i64 ((n+m-i:Nat):Int)]).run Tryz.prog w=.ok v' w')
 (hA:∀ts:Array b8,ts.size=95->ts[0]?=some (.slice (some ⟨b,0,none⟩) n c)->ts[1]?=some (.int .i64 i)->ts[2]?=some (.slice B m c2)->ts[7]?=some (.int .i64 m)->ts[9]?=some v'->va.wp Tryz.prog (EB Q) ⟨ts,ds⟩ w') (c0:Code) (hc0:Tryz.f273.body=some c0):
 c0.wp Tryz.prog Q ⟨#[.slice (some ⟨b,0,none⟩) n c,.int .i64 i,.slice B m c2]++Array.replicate 92 undef,ds⟩ w:=by
 rw[uM]at hc0;cases hc0;have hz1:¬((m:Int)=0):=om;have hz2:¬((i:Int)=(n:Int)):=om;have hz3:(c:Int)< (n:Int)+(m:Int):=om;have hkk:(n:Int)+(m:Int) - (i:Int)=((n+m-i:Nat):Int):=om;have qQ:(i:Int)<=(n:Int):=om;have zn:(i:Int)<=(c:Int):=om;rw[<-hkk]at hap;clear hkk;generalize hcE:vx=cE;generalize hcA:va=cA at hA⊢;generalize hcB:vF=cB;simp only[kW,h_,jW,Nat.reduceAdd,Nat.reduceSub,w2,w3,w5,w6,kZ,qU];have CD:¬(c=i):=om
 go_wp2_with (at_builtin;refine Lib.wpList_append_run _ rfl _ _ _ _ rfl _ _ rfl rfl _ _ (hap _) ?_)
 all_goals (refine wp_mono (hA _ ?_ ?_ ?_ ?_ ?_ ?_) (λe a w h=>by obtain⟨rfl,h⟩:=h;exact h)<;>rfl)
end Si
namespace Si
def aAs{Q:Exit->Act->bW->Prop}(b n c i vb c2:Nat)(ds)(w w':bW)(PN:n+1<=c)(hi:i<n)(aEh:(n+1)*64<=140737488355328)(abj:c<=9223372036854775807)
 (PO:∀lb cb,(callFunc 316 #[.slice (some ⟨vb,0,none⟩) 1 c2,.slice (some ⟨b,(i+1)*3,none⟩) lb cb]).run Tryz.prog w=.ok (.value (.bool false)) w)
 (PQ:∀ty dc sc,(Builtin.copy_ #[55,55] ty #[.slice (some ⟨b,(i+1)*3,none⟩) (n-i) dc,.slice (some ⟨b,i*3,none⟩) (n+1-i) sc]).run Tryz.prog w.drew=.ok (goInt (n-i)) w')
 (hB:∀ts:Array b8,ts.size=95->ts[0]?=some (.slice (some ⟨b,0,none⟩) (n+1) c)->ts[1]?=some (.int .i64 i)->ts[2]?=some (.slice (some ⟨vb,0,none⟩) 1 c2)->vF.wp Tryz.prog (EB Q) ⟨ts,ds⟩ w') (c0:Code) (hc0:Tryz.f273.body=some c0):
 c0.wp Tryz.prog Q ⟨#[.slice (some ⟨b,0,none⟩) n c,.int .i64 i,.slice (some ⟨vb,0,none⟩) 1 c2]++Array.replicate 92 undef,ds⟩ w:=by
 rw[uM]at hc0;cases hc0;have hz2:¬((i:Int)=(n:Int)):=om;have hz3:¬((c:Int)< (n:Int)+1):=om;have qQ:(i:Int)<=(n:Int):=om;have aGk:(i:Int)+1<=(n:Int)+1:=om;have aGl:(i:Int)<=(n:Int)+1:=om;have zn:(i:Int)<=(c:Int):=om;have CD:¬(c=i):=om;have aGm:¬(c=i+1):=om;have htn:((i:Int)+1).toNat=i+1:=om;have aGo:((n:Int)+1).toNat=n+1:=om;have hw1:IntKind.i64.wrap ((i:Int)+1)=(i:Int)+1:=IntWalk.i64_in _ om;have hb1:(0:Int)<=(i:Int)+1:=om;generalize hcE:vx=cE;generalize hcA:va=cA;generalize hcB:vF=cB at hB⊢;simp only[kW,h_,jW,Nat.reduceAdd,Nat.reduceSub,w2,w3,w5,w6,kZ,qU]
 go_wp2_with (simp only[PO])
 go_still_tail 8,kr
 refine wpList_copy_runI _ rfl _ _ 55 55 rfl _ _ rfl rfl (PQ _ _ _) ?_
 go_wp2
 all_goals (refine wp_mono (hB _ ?_ ?_ ?_ ?_) (λe a w h=>by obtain⟨rfl,h⟩:=h;exact h)<;>rfl)
end Si
namespace Si
def age{R b:fv}{n:Nat}{l:List (Nat×fv)}(h:List.lookup n [(2,R)]=some b):List.lookup n ((2,R)::l)=some b:=by
 simp only[gb,kJ]at h⊢;split at h
 .exact h
 .cases h
def MC{X:Fx}{c:Code}{R:fv}{l:Hp}{st a w}(hP:X.P=Tryz.prog)(h:Aw X c (λe st=>e=.ret/\oJ Tryz.prog [.tmp 6] (.v (.c (.own 2))) ((2,R)::l) e st) st)(ht:Told X st a w):
 c.wp Tryz.prog (EB λe a' w'=>∃st',oJ Tryz.prog [.tmp 6] (.v (.c (.own 2))) [(2,R)] e st'/\Told X st' a' w') a w:=by
 rw[<-hP];refine wp_mono (h a w ht) ?_;rintro e a' w' ⟨st',⟨rfl,h1,h2,h3⟩,h4⟩;exact⟨rfl,st',⟨trivial,hP▸h2,λn b CE=>h3 n b (age CE)⟩,h4⟩
def afu(w:bW)(ty:cf)(g a c len dc nG sc:Nat){cur:Array b8}{fz}(d:ou cur.size fz)(h:w.heap[g]?=some (.cells cur 144 fz)){k:Nat}(o:Nat.min nG len=k)(iB:0<k){news:List b8}(e:news.length=k*3)
 (hnews:∀j u,news[j]?=some u->cur[c+j]?=some u) (p:∀u∈news,u.oneCell'=true) (l:a+k*3<=cur.size):
 (Builtin.copy_ #[55,55] ty #[.slice (some ⟨g,a,none⟩) len dc,.slice (some ⟨g,c,none⟩) nG sc]).run Tryz.prog w=.ok (goInt k) (w.setRow g (cur.toList.take a++news++cur.toList.drop (a+news.length)).toArray):=by
 obtain⟨x,q,r,f,s⟩:=info_parts Db;have t:=run_firstCells_some (P:=Tryz.prog) w 3 k ⟨g,c,none⟩ nG sc news e (λj u v=>by
  rw[Addr.add_lit,cell_of_row w g _ cur 144 fz h];exact hnews j u v)
 have b:=wz Tryz.prog g a 144 fz news 0 cur w d h om p;generalize y:w.setRow g _=W at b⊢;simp[Builtin.copy_,run_underlying Tryz.underlying55,Builtin.lenOf,sizeOf,typeInfo,q,f,o,t,b,goInt]
set_option maxHeartbeats 1000000 in
def agb(rows vs:List (List PV))(i:Nat)(hi:i<=rows.length)(zo:vs.length=1)(hR:dS 3 rows)(hV:dS 3 vs)(hb:(rows.length+1)*64<=140737488355328):
 eX Tryz.prog 273 [.c (.own 0),.c (.p (.sc (.int .i64 i))),.c (.own 1)] [.row 144 rows,.row 144 vs] (.v (.c (.own 2))) [(2,.row 144 (rows.take i++vs++rows.drop i))]:=by
 refine eX.intro Tryz.func273 kr uM rfl rfl λX hP iB=>?_
 intro a w ht;obtain⟨E,pQ,hg⟩:=ht;rw[hP];have iB:X.k0=2:=iB;have hgE:E.bx=[]:=pQ.bx;obtain⟨u0,a0,r0⟩:=pQ.tmps 0 (.v (.c (.own 0))) rfl;obtain⟨u1,a1,r1⟩:=pQ.tmps 1 (.v (.c (.p (.sc (.int .i64 i))))) rfl;obtain⟨u2,a2,r2⟩:=pQ.tmps 2 (.v (.c (.own 1))) rfl;obtain⟨x,hx,rfl⟩:=dj.get (show RC X.M E w (.own 0) u0 from r0) (by simp[hgE]);obtain⟨y,hy,rfl⟩:=dj.get (show RC X.M E w (.own 1) u2 from r2) (by simp[hgE]);have hu1:u1=.int .i64 i:=RP.eM r1;subst hu1;have hts:=Lt rfl pQ a0 a1 a2;obtain⟨x',cur,fz,k1,zq,k2,k3,k4,k5,k6,k7,k8,k9,k10,k11⟩:=pQ.row (n:=0) (b:=.row 144 rows) (by simp[jz]) rfl;rw[hx]at k1;cases k1;obtain⟨y',aEl,fz1,q1,aEn,q2,q3,q4,q5,q6,q7,q8,q9,BK,Vt⟩:=pQ.row (n:=1) (b:=.row 144 vs) (by simp[jz]) rfl;rw[hy]at q1;cases q1;have zk:x.sz=3:=k7.trans (by rw[hP];exact Dm);have hys:y.sz=3:=q7.trans (by rw[hP];exact Dm);have hbase:∀(l:List (Nat×SV))(ρ:List L)(ts:Array b8),ts.size=95->(∀z∈l,∃u,ts[z.1]?=some u/\RV X.M E w (z.2.a_ ρ) u)->Rel X E {jz 95 [.c (.own 0),.c (.p (.sc (.int .i64 i))),.c (.own 1)] [.row 144 rows,.row 144 vs]with tmps:=(pn l).map (SV.a_ ρ)} ⟨ts,a.defers⟩ w:=λl ρ ts hs h=>
  ET pQ rfl (by simp[hs,pn]) (LW hs h)
 obtain⟨ts0,ds⟩:=a;simp only at hts hbase;subst hts;obtain⟨n,hn⟩:∃n,rows.length=n:=⟨_,rfl⟩
 have H5:x.len=n:=om;have zr:y.len=1:=om;rw[H5,zr];rcases nw i n with hlt|hge
 .obtain ⟨g,CF⟩:∃g,x.g=some g:=by
   cases h:x.g with
   |none=>have:=k10 h;omega
   |some g=>exact⟨g,rfl⟩
  obtain⟨g1,CG⟩:∃g,y.g=some g:=by
   cases h:y.g with
   |none=>have:=BK h;omega
   |some g=>exact⟨g,rfl⟩
  have hblk:=k2 g CF;have PR:=q2 g1 CG;rw[CF,CG];have hcs:cur.size=x.cap*3:=by rw[k8,zk]
  have dX:n<=x.cap:=om;have hval:∀(i':Nat)(r:List PV)(j:Nat)(p:PV),rows[i']?=some r->r[j]?=some p->∃u,cur[i'*3+j]?=some u/\RP (bad X.M E) w p u:=λi' r j p h1 h2=>by
   have:=k11 i' r j p h1 h2
   rwa [zk]at this
  have zt:E.N 2=none:=by
   cases h:E.N 2 with
   |none=>rfl
   |some z=>have:=pQ.fj 2 z h;exact absurd this (by simp[jz])
  have hR3:=Wd pQ (k:=3) (by simp[jz]);have wK:dS 3 (rows.take i):=hR.take i;have aEo:3=X.P.cellsOf 144:=by rw[hP];exact Dm.symm
  rcases nw x.cap (n+1)with hroom|hroom
  ·
   obtain⟨i0,hi0,hz0,hz1,hz2⟩:=info_parts Db;obtain⟨N,hN⟩:∃N,N=n+1-i:=⟨_,rfl⟩
   have CH:i+N=n+1:=om;obtain⟨G,hG⟩:∃G,G=grownCap w (n+1) x.cap 144:=⟨_,rfl⟩
   have hGn:n+1<=G:=by rw[hG];exact grownCap_ge w _ _ _
   have hGm:G<=maxLen:=by rw[hG];exact grownCap_le_maxLen w _ _ _ (by simp only[maxLen];omega)
   obtain⟨olds,ho⟩:∃olds,olds=cur.toList.take (i*3):=⟨_,rfl⟩
   have kn:olds.length=i*3:=by rw[ho];simp;omega
   have hap:∀ty,(Builtin.append_ #[55,3] ty #[.slice (some ⟨g,0,none⟩) i x.cap,.int .i64 ((n+1-i:Nat):Int)]).run Tryz.prog w=.ok (.slice (some ⟨w.heap.size,0,none⟩) (n+1) G) (w.drew.alloc (.cells (olds.toArray++(Builtin.zeroCells (#[.string ⟨#[]⟩,.slice none 0 0,.slice none 0 0]:Array b8) N).toList.toArray++Builtin.zeroCells (#[.string ⟨#[]⟩,.slice none 0 0,.slice none 0 0]:Array b8) (G- (n+1))) 144)):=λty=>by
    have h:=US (P:=Tryz.prog) (w:=w) 55 3 ty 144 i0 _ Tryz.underlying55 Tryz.underlying3 hi0 hz0 ⟨g,0,none⟩ i x.cap olds (by rw[kn,hz1]) (λj v hj=>by
     rw[Addr.add_lit,cell_of_row w g _ cur 144 fz hblk];rw[ho,jD]at hj;split at hj
     .simpa using hj
     .cases hj) N om (by rw[hz1];decide) (by rw[hz2];omega) om om (by rw[hz2,CH];have:=growslice_fits (bytes:=64) hroom om;omega)
    rw[CH,<-hG]at h;rw[<-hN];exact h
   have hzl:(List.replicate N [PV.any,PV.any,PV.any]).length=n+1-i:=by simp[hN]
   have hZ:dS 3 (List.replicate N [PV.any,PV.any,PV.any]):=λr hr=>by rw[(C0.1 hr).2];rfl
   have hzc:∀k,k<N*3->∃u,(Builtin.zeroCells (#[.string ⟨#[]⟩,.slice none 0 0,.slice none 0 0]:Array b8) N)[k]?=some u/\u.oneCell'=true:=λk hk=>by
    simp only[Builtin.zeroCells,acq,kW,h_,jW,acr];rw[bB om];refine⟨_,rfl,?_⟩;have:k%3=0\/k%3=1\/k%3=2:=om;rcases this with h|h|h<;>simp[h,Value.oneCell']
   have hf :=hR3.qM (d:=2) zt (by rw[iB];exact dz _) (by show 2<3;decide) (e:=144) (n:=3) dc aEo (rows:=rows.take i++List.replicate N [PV.any,PV.any,PV.any]) (wK.app hZ) (cap:=G) (by simp;omega) hGm
    (us:=olds.toArray++(Builtin.zeroCells (#[.string ⟨#[]⟩,.slice none 0 0,.slice none 0 0]:Array b8) N).toList.toArray++Builtin.zeroCells (#[.string ⟨#[]⟩,.slice none 0 0,.slice none 0 0]:Array b8) (G- (n+1)))
    (by simp only[wY,kW,Is,size_zeroCells,kn,h_,jW];omega)
    (λi' r j p h5 h6=>by
     have hlr:=(wK.app hZ) r (eN h5);have hj:=(ek.1 h6).1;rw[ui,bB (by
      have:=(ek.1 h5).1;simp[size_zeroCells,kn]at this⊢;omega)]
     rw[mm]at h5;have PS:(rows.take i).length=i:=by simp;omega
     rw[PS]at h5;split at h5
     .rename_i qR;have h7:rows[i']?=some r:=by rw[jD,bB qR]at h5;exact h5
      obtain⟨u,h8,h9⟩:=hval i' r j p h7 h6;refine⟨u,?_,h9⟩;rw[ui,bB (by simp[kn];omega),qV,ho,jD,bB om];simpa using h8
     .have hr:r=[.any,.any,.any]:=(C0.1 (eN h5)).2;have aEs:=(ek.1 h5).1;simp at aEs;obtain⟨u,h8,h9⟩:=hzc (i'*3+j-i*3) om;refine⟨u,?_,?_⟩
      .rw[ui,bG (by simp[kn];omega)];simpa[kn]using h8
      .have:p=.any:=by
        subst hr;have:j=0\/j=1\/j=2:=om;rcases this with rfl|rfl|rfl<;> (simp at h6;exact h6.symm)
       subst this;exact .any h9) (wd:=w.drew) (.inr rfl)
   refine aqf g n x.cap i _ 1 y.cap ds w _ _ om dX hlt hroom om hap (λts hs t0 t1 t2 t7 t9=>MC hP (awA hP iB hn zo om hR hV om hZ hzl) ⟨_,ET hf.1 rfl (by simp[hs,pn,SA]) (LW (l:=[(0,o 0),(1,Si.n 2),(2,o 1),(7,Si.n 3),(9,o 2)]) (ρ:=[.r rows,.r vs,.i i,.i ((1:Nat):Int),.r (rows.take i++List.replicate N [PV.any,PV.any,PV.any])]) hs ?_),rfl⟩) _ uM;intro z hz;simp only[fh,IC,or_false]at hz;rcases hz with rfl|rfl|rfl|rfl|rfl
   .exact⟨_,t0,.inr ⟨x,by simp[Env.add,hx],by simp[H5,CF]⟩⟩
   .exact⟨_,t1,.sc rfl⟩
   .exact⟨_,t2,.inr ⟨y,by simp[Env.add,hy],by simp[zr,CG]⟩⟩
   .exact⟨_,t7,.sc rfl⟩
   .refine⟨_,t9,?_⟩;have h:=hf.2;have el:(rows.take i++List.replicate N [PV.any,PV.any,PV.any]).length=n+1:=by simp;omega
    simp only[el]at h⊢;exact h
  ·
   have hgg:g1≠g:=λe=>absurd (pQ.inj 0 1 x y g hx hy CF (by rw[CG,e])) dc
   have abn:fz1=(0,0):=aEn.resolve_right (λh=>by omega);obtain⟨news,PT⟩:∃news,news=(cur.toList.drop (i*3)).take ((n-i)*3):=⟨_,rfl⟩
   have HY:news.length=(n-i)*3:=by rw[PT];simp;omega
   have sv:∀j u,news[j]?=some u->j< (n-i)*3/\cur[i*3+j]?=some u:=λj u hj=>by
    rw[PT,jD]at hj;split at hj
    .rename_i h;rw[kU]at hj;exact⟨h,by simpa using hj⟩
    .cases hj
   have PU:∀u∈news,u.oneCell'=true:=λu hu=>by
    obtain⟨j,hj⟩:=acw hu;obtain⟨h1,h2⟩:=sv j u hj;have hk:(i*3+j) /3<rows.length:=om;have hr:=hR _ (cV hk);obtain⟨u',h3,h4⟩:=hval ((i*3+j) /3) _ ((i*3+j)%3) _ (db hk) (db (by rw[hr];omega));rw[show(i*3+j) /3*3+(i*3+j)%3=i*3+j by omega,h2]at h3;cases h3;exact h4.tq
   obtain⟨cur',PW⟩:∃cur':Array b8,cur'=(cur.toList.take ((i+1)*3)++news++cur.toList.drop ((i+1)*3+news.length)).toArray:=⟨_,rfl⟩
   have hcz:cur'.size=cur.size:=by rw[PW];simp[HY];omega
   have PQ:∀ty dc sc,(Builtin.copy_ #[55,55] ty #[.slice (some ⟨g,(i+1)*3,none⟩) (n-i) dc,.slice (some ⟨g,i*3,none⟩) (n+1-i) sc]).run Tryz.prog w.drew=.ok (goInt (n-i)) (w.drew.setRow g cur'):=λty dc sc=>by
    rw[PW,show((n:Int) - (i:Int))=((n-i:Nat):Int)by omega];exact afu w.drew ty g ((i+1)*3) (i*3) (n-i) dc (n+1-i) sc zq hblk (k:=n-i) (Nat.min_eq_right om) om HY (λj u hj=>(sv j u hj).2) PU om
   have PO:∀lb cb,(callFunc 316 #[.slice (some ⟨g1,0,none⟩) 1 y.cap,.slice (some ⟨g,(i+1)*3,none⟩) lb cb]).run Tryz.prog w=.ok (.value (.bool false)) w:=λlb cb=>by
    rw [run_callFunc_extern Tryz.func316 kr kr kr (e:=Extern.SlicesOverlaps.overlaps #[55,55] #[4]) kr,
     Lib.run_overlaps_apart w 55 4 144 Tryz.underlying55 3 Tryz.sizeOf144 ⟨g1,0,none⟩ ⟨g,(i+1)*3,none⟩ 1 y.cap lb cb hgg 144 144 aEl.size cur.size (by simp[World.shape?,PR]) (by simp[World.shape?,hblk]) om
      (by simp[World.frozen?,PR,abn]) (by simp[World.frozen?,PR,abn])]
    rfl
   have hRX:dS 3 (rows.take (i+1)++rows.drop i):=(hR.take _).app λr hr=>hR r (oZ hr)
   have hf:=hR3.take (m:=0) (d:=2) (by show 0<3;decide) hx CF (cur:=cur) (us:=cur') (e:=144) (fz:=fz) hblk (by rw[hcz];exact zq) zt (by rw[iB];exact dz _) (by show 2<3;decide) (by simp[jz]) (rows:=rows.take (i+1)++rows.drop i)
    (by
     rw[zk];exact hRX) k6 k7 (by simp;omega) k5 (by rw[hcz,k8]) (λi' r j p h5 h6=>by
     rw[zk];have hlr:=hRX r (eN h5);have hj:=(ek.1 h6).1;have hl5:=(ek.1 h5).1;have hlx:(rows.take (i+1)++rows.drop i).length=n+1:=by simp;omega
     rw[hlx]at hl5;have PS:(rows.take (i+1)).length=i+1:=by simp;omega
     rw[mm,PS]at h5;rw[PW,qV];have htc:(cur.toList.take ((i+1)*3)).length=(i+1)*3:=by simp;omega
     split at h5
     .rename_i qR;have h7:rows[i']?=some r:=by rw[jD,bB qR]at h5;exact h5
      obtain⟨u,h8,h9⟩:=hval i' r j p h7 h6;refine⟨u,?_,h9⟩;rw[dr,nz om,jD,bB om];simpa using h8
     .rw[kU]at h5;obtain⟨u,h8,h9⟩:=hval _ r j p h5 h6;refine⟨u,?_,h9⟩;rw[dr,kX om,nz om,htc,PT,jD,bB om,kU];rw[show i*3+(i'*3+j- (i+1)*3)=(i+(i'- (i+1)))*3+j by omega];simpa using h8)
   refine aAs g n x.cap i g1 y.cap ds w _ hroom hlt om (by have:=k5;simp only[maxLen]at this;omega) PO PQ (λts hs t0 t1 t2=>MC hP (awB hP iB hn zo hlt hR hV) ?_) _ uM;have h1:=ET hf.1 (a':=⟨ts,ds⟩) (ts:=(pn [(0,o 2),(1,Si.n 1),(2,o 1)]).map (SV.a_ [.r vs,.i i,.r (rows.take (i+1)++rows.drop i)])) rfl (by simp[hs,pn]) (LW hs (λz hz=>by
    simp only[fh,IC,or_false]at hz;rcases hz with rfl|rfl|rfl
    .refine⟨_,t0,?_⟩;have h:=hf.2;have el:(rows.take (i+1)++rows.drop i).length=n+1:=by simp;omega
     simp only[el]at h⊢;exact h
    .exact⟨_,t1,.sc rfl⟩
    .exact⟨_,t2,.inr ⟨y,by simp[Env.add,Env.drop,hy],by simp[zr,CG]⟩⟩))
   obtain⟨E2,h2,h3⟩:=h1.drew.settle;exact⟨E2,h2,rfl⟩
 .obtain rfl:i=n:=om;have hE:=awE hP iB hR hV (by rw[zo,hn];omega);have aEw:rows++vs=rows.take i++vs++rows.drop i:=by rw[eP om,IB om,gd]
  rw[aEw]at hE;refine aeO _ i x.cap _ 1 y.cap ds w om om (λts hs t0 t2=>MC hP hE ⟨E,hbase [(0,o 0),(2,o 1)] _ ts hs ?_,rfl⟩) _ uM;intro z hz;simp only[fh,IC,or_false]at hz;rcases hz with rfl|rfl
  .exact⟨_,t0,.inr ⟨x,hx,by simp only[H5]⟩⟩
  .exact⟨_,t2,.inr ⟨y,hy,by simp only[zr]⟩⟩
end Si
def ve:List L->Option (List L):=λls=>match ls with
 |[.r rows,.i i,.r vs]=>if 0<=i/\i.toNat<=rows.length/\vs.length=1/\cC 3 rows=true/\cC 3 vs=true/\(rows.length+1)*64<=140737488355328 then some [.r (rows.take i.toNat++vs++rows.drop i.toNat)]else none
 |_=>none
def ayD:bw:=⟨273,[.c (.own 0),.c (.p (.int .i64) U1),.c (.own 1)],[.row 144 U0,.row 144 U2],3,1,.v (.c (.own 2)),[(2,.row 144 U3)],ve,2074⟩
def SM:ayD.ok Tryz.prog:=by
 intro ls os l a b;have a:ve ls=some os:=a;unfold ve at a;split at a
 .rename_i rows i vs _;split at a
  .rename_i c;obtain⟨d,e,f,g,h,j⟩:=c;obtain⟨k,rfl⟩:∃k:Nat,i=(k:Int):=⟨i.toNat,(zG d).symm⟩
   cases a;exact Si.agb rows vs k e f (kf.1 g) (kf.1 h) j
  .cases a
 .cases a
namespace Sd
def afc{Q:Exit->Act->bW->Prop}(g n c i j:Nat)(ds)(w W1 W2:bW)(PX:i<j)(hj:j<=n)(PN:n<=c)(hcj:¬c=j)(abj:c<=9223372036854775807)
 (hap:∀ty,(Builtin.append_ #[55,55] ty #[.slice (some ⟨g,0,none⟩) i c,.slice (some ⟨g,j*3,none⟩) (n-j) (c-j)]).run Tryz.prog w.drew=.ok (.slice (some ⟨g,0,none⟩) (i+(n-j)) c) W1)
 (ja:∀ty,(Builtin.clear_ #[55] ty #[.slice (some ⟨g,(i+(n-j))*3,none⟩) (n- (i+(n-j))) (c- (i+(n-j)))]).run Tryz.prog W1=.ok (.tuple #[]) W2)
 (hD:∀ts:Array b8,(ts.size=33/\ts[6]?=some (.slice (some ⟨g,0,none⟩) (i+(n-j)) c))->Q .ret ⟨ts,ds⟩ W2) (c0:Code) (hc0:Tryz.f209.body=some c0):
 c0.wp Tryz.prog Q ⟨#[.slice (some ⟨g,0,none⟩) n c,.int .i64 i,.int .i64 j]++Array.replicate 30 undef,ds⟩ w:=by
 cases hc0;have hz2:¬((i:Int)=(j:Int)):=om;have h1:(i:Int)<=(j:Int):=om;have h2:(j:Int)<=(n:Int):=om;have h3:(n:Int)<=(c:Int):=om;have h4:(i:Int)<=(c:Int):=om;have CD:¬(c=i):=om;have hck:¬(c=i+(n-j)):=om;have h5:((i+(n-j):Nat):Int)<=(n:Int):=om;have h6:(0:Int)<=((i+(n-j):Nat):Int):=om;simp only[kW,h_,jW,Nat.reduceAdd,Nat.reduceSub,w2,w3,w5,w6,kZ,qU]
 go_wp2_with fail
 go_still_tail 6,kr
 refine Lib.wpList_append_run _ rfl _ _ _ _ rfl _ _ rfl rfl _ _ (hap _) ?_
 go_wp2
 all_goals exact⟨rfl,rfl⟩
def aBw{Q:Exit->Act->bW->Prop}(g n i:Nat)(ds)(w W1 W2:bW)(PX:i<n)(abj:n<=9223372036854775807)
 (hap:∀ty,(Builtin.append_ #[55,55] ty #[.slice (some ⟨g,0,none⟩) i n,.slice (some ⟨g,0,none⟩) 0 0]).run Tryz.prog w.drew=.ok (.slice (some ⟨g,0,none⟩) i n) W1)
 (ja:∀ty,(Builtin.clear_ #[55] ty #[.slice (some ⟨g,i*3,none⟩) (n-i) (n-i)]).run Tryz.prog W1=.ok (.tuple #[]) W2)
 (hD:∀ts:Array b8,(ts.size=33/\ts[6]?=some (.slice (some ⟨g,0,none⟩) i n))->Q .ret ⟨ts,ds⟩ W2) (c0:Code) (hc0:Tryz.f209.body=some c0):
 c0.wp Tryz.prog Q ⟨#[.slice (some ⟨g,0,none⟩) n n,.int .i64 i,.int .i64 n]++Array.replicate 30 undef,ds⟩ w:=by
 cases hc0;have hz2:¬((i:Int)=(n:Int)):=om;have h1:(i:Int)<=(n:Int):=om;have CD:¬(n=i):=om;simp only[kW,h_,jW,Nat.reduceAdd,Nat.reduceSub,w2,w3,w5,w6,kZ,qU]
 go_wp2_with fail
 go_still_tail 6,kr
 refine Lib.wpList_append_run _ rfl _ _ _ _ rfl _ _ rfl rfl _ _ (hap _) ?_
 go_wp2
 all_goals exact⟨rfl,rfl⟩
end Sd
namespace Sd
open Si
def Lt{X E args H a w}{k:Nat}{c d e:b8}(b:args.length=3)(hR:Rel X E (jz (k+3) args H) a w)(f:a.tmps[0]?=some c)(g:a.tmps[1]?=some d)(h:a.tmps[2]?=some e):a.tmps= #[c,d,e]++Array.replicate k undef:=by
 have p:a.tmps.size=k+3:=by rw[hR.size];simp[jz,b];omega
 apply Array.ext_getElem?;intro q;by_cases j:q<3
 .have:q=0\/q=1\/q=2:=om;rcases this with rfl|rfl|rfl
  .rw[f,wZ ch];rfl
  .rw[g,wZ ch];rfl
  .rw[h,wZ ch];rfl
 .by_cases r:q<k+3
  .obtain⟨u,l,us,rfl,o,_⟩:=hR.tmps q (.bM []) (by
    show(args.map V.v++List.replicate (k+3-args.length) (.bM []))[q]?=_;rw[kX (by simp[b];omega),Qv,bB (by simp[b];omega)])
   obtain rfl:us= #[]:=CY o;rw[l,ui];simp[j,acy];exact⟨om,rfl⟩
  .rw[QA om,QA (by simp;omega)]
def aow(w:bW)(g o k:Nat){cur:Array b8}{fz}(b:ou cur.size fz)(l:w.heap[g]?=some (.cells cur 144 fz))(v:0<k)(f:o+k*3<=cur.size):
 ∃d:List b8,d.length=k*3/\∀ty c,(Builtin.clear_ #[55] ty #[.slice (some ⟨g,o,none⟩) k c]).run Tryz.prog w=.ok (.tuple #[]) (w.setRow g (cur.toList.take o++d++cur.toList.drop (o+d.length)).toArray):=by
 obtain⟨x,p,e,r,s⟩:=info_parts Db;refine⟨(Builtin.zeroCells (#[.string ⟨#[]⟩,.slice none 0 0,.slice none 0 0]:Array b8) k).toList,by simp[size_zeroCells],λty c=>?_⟩;have a:=wz Tryz.prog g o 144 fz (Builtin.zeroCells (#[.string ⟨#[]⟩,.slice none 0 0,.slice none 0 0]:Array b8) k).toList 0 cur w b l (by simp[size_zeroCells];omega) (λu j=>by
  simp only[Builtin.zeroCells,Qn,gg,Array.toList_range,ku]at j;obtain⟨q,_,rfl⟩:=j;have:q%3=0\/q%3=1\/q%3=2:=om;rcases this with h|h|h<;>simp[h,Value.oneCell'])
 cases k with
 |zero=>omega
 |succ k=>
  generalize y:w.setRow g _=W at a⊢;have t:∀w,(zeroValue 144).run Tryz.prog w=.ok (.agg #[.string ⟨#[]⟩,.slice none 0 0,.slice none 0 0]) w:=λw=>by simp[zeroValue,typeInfo,p,e]
  simp[Builtin.clear_,run_underlying Tryz.underlying55,t,Value.cells,a]
set_option maxHeartbeats 1000000 in
def aDb(rows:List (List PV))(i j:Nat)(ac:i<j)(hj:j<=rows.length)(hR:dS 3 rows):
 eX Tryz.prog 209 [.c (.own 0),.c (.p (.sc (.int .i64 i))),.c (.p (.sc (.int .i64 j)))] [.row 144 rows] (.v (.c (.own 1))) [(1,.row 144 (rows.take i++rows.drop j))]:=by
 refine eX.intro Tryz.func209 kr rfl rfl rfl λX hP iB=>?_
 intro a w ht;obtain⟨E,o,hg⟩:=ht;rw[hP];have iB:X.k0=1:=iB;have ad:E.bx=[]:=o.bx;obtain⟨u0,a0,r0⟩:=o.tmps 0 (.v (.c (.own 0))) rfl;obtain⟨u1,a1,r1⟩:=o.tmps 1 (.v (.c (.p (.sc (.int .i64 i))))) rfl;obtain⟨u2,a2,r2⟩:=o.tmps 2 (.v (.c (.p (.sc (.int .i64 j))))) rfl;obtain⟨x,hx,rfl⟩:=dj.get (show RC X.M E w (.own 0) u0 from r0) (by simp[ad]);have ae:u1=.int .i64 i:=RP.eM r1;have af:u2=.int .i64 j:=RP.eM r2;subst ae af;have T:=Lt (k:=30) rfl o a0 a1 a2;have aw:a.tmps.size=33:=by rw[o.size];rfl
 obtain⟨x',cur,fz,k1,A,k2,k3,k4,k5,k6,k7,k8,k9,ag,ah⟩:=o.row (n:=0) (b:=.row 144 rows) (by simp[jz]) rfl;rw[hx]at k1;cases k1;have B:x.sz=3:=k7.trans (by rw[hP];exact Dm);obtain⟨ax,ds⟩:=a;simp only at T;subst T;obtain⟨n,hn⟩:∃n,rows.length=n:=⟨_,rfl⟩
 have ai:x.len=n:=om;rw[ai];obtain⟨g,I⟩:∃g,x.g=some g:=by
  cases h:x.g with
  |none=>have:=ag h;omega
  |some g=>exact⟨g,rfl⟩
 have hblk:=k2 g I;rw[I];have ay:cur.size=x.cap*3:=by rw[k8,B]
 have aj:n<=x.cap:=om;have ak:x.cap<=9223372036854775807:=by have:=k5;simp only[maxLen]at this;omega
 have hval:∀(y:Nat)(r:List PV)(q:Nat)(p:PV),rows[y]?=some r->r[q]?=some p->∃u,cur[y*3+q]?=some u/\RP (bad X.M E) w p u:=λy r q p h1 U=>by
  have:=ah y r q p h1 U
  rwa [B]at this
 obtain⟨i0,V,az,t,aA⟩:=info_parts Db;obtain⟨news,J⟩:∃news,news=(cur.toList.drop (j*3)).take ((n-j)*3):=⟨_,rfl⟩
 have K:news.length=(n-j)*3:=by rw[J];simp;omega
 have W:∀q u,news[q]?=some u->q< (n-j)*3/\cur[j*3+q]?=some u:=λq u s=>by
  rw[J,jD]at s;split at s
  .rename_i h;rw[kU]at s;exact⟨h,by simpa using s⟩
  .cases s
 have D:∀u∈news,u.oneCell'=true:=λu hu=>by
  obtain⟨q,s⟩:=acw hu;obtain⟨h1,U⟩:=W q u s;have Y:(j*3+q) /3<rows.length:=om;have hr:=hR _ (cV Y);obtain⟨u',h3,h4⟩:=hval ((j*3+q) /3) _ ((j*3+q)%3) _ (db Y) (db (by rw[hr];omega));rw[show(j*3+q) /3*3+(j*3+q)%3=j*3+q by omega,U]at h3;cases h3;exact h4.tq
 obtain⟨f,C⟩:∃f:Array b8,f=(cur.toList.take (i*3)++news++cur.toList.drop (i*3+news.length)).toArray:=⟨_,rfl⟩
 have Z:f.size=cur.size:=by rw[C];simp[K];omega
 have al:(w.drew.setRow g f).heap[g]?=some (.cells f 144 fz):=setRow_heap w.drew g cur f 144 fz hblk;obtain⟨R,am,L⟩:∃R:List b8,R.length=(n- (i+(n-j)))*3/\∀ty c,(Builtin.clear_ #[55] ty #[.slice (some ⟨g,(i+(n-j))*3,none⟩) (n- (i+(n-j))) c]).run Tryz.prog (w.drew.setRow g f)=.ok (.tuple #[]) ((w.drew.setRow g f).setRow g (f.toList.take ((i+(n-j))*3)++R++f.toList.drop ((i+(n-j))*3+R.length)).toArray):=
  aow (w.drew.setRow g f) g ((i+(n-j))*3) (n- (i+(n-j))) (fz:=fz) (by rw[Z];exact A.ok) al om om
 obtain⟨l,M⟩:∃l:Array b8,l=(f.toList.take ((i+(n-j))*3)++R++f.toList.drop ((i+(n-j))*3+R.length)).toArray:=⟨_,rfl⟩
 rw[<-M,setRow_setRow]at L;have F:l.size=cur.size:=by rw[M];simp[am];omega
 have an:E.N 1=none:=by
  cases h:E.N 1 with
  |none=>rfl
  |some z=>have:=o.fj 1 z h;exact absurd this (by simp[jz])
 have ao:=Wd o (k:=2) (by simp[jz]);have aa:dS 3 (rows.take i++rows.drop j):=(hR.take _).app λr hr=>hR r (oZ hr)
 have ab:(rows.take i++rows.drop j).length=i+(n-j):=by simp;omega
 have hf:=ao.take (m:=0) (d:=1) (by show 0<2;decide) hx I (cur:=cur) (us:=l) (e:=144) (fz:=fz) hblk (by rw[F];exact A) an (by rw[iB];exact dz _) (by show 1<2;decide) (by simp[jz]) (rows:=rows.take i++rows.drop j)
  (by
   rw[B];exact aa) k6 k7 om k5 (by rw[F,k8]) (λy r q p G S=>by
   rw[B];have aB:=aa r (eN G);have s:=(ek.1 S).1;have ap:=(ek.1 G).1;rw[ab]at ap;have aq:(rows.take i).length=i:=by simp;omega
   rw[mm,aq]at G;have aC:(f.toList.take ((i+(n-j))*3)).length=(i+(n-j))*3:=by simp;omega
   have ar:(cur.toList.take (i*3)).length=i*3:=by simp;omega
   have e1:l[y*3+q]?=(cur.toList.take (i*3)++news++cur.toList.drop (i*3+news.length))[y*3+q]?:=by
    rw[M,qV,dr,nz om,jD,bB om,C]
   rw[e1];split at G
   .rename_i au;have h7:rows[y]?=some r:=by rw[jD,bB au]at G;exact G
    obtain⟨u,h8,h9⟩:=hval y r q p h7 S;refine⟨u,?_,h9⟩;rw[dr,nz om,jD,bB om];simpa using h8
   .rw[kU]at G;obtain⟨u,h8,h9⟩:=hval _ r q p G S;refine⟨u,?_,h9⟩;rw[dr,kX om,nz om,ar,J,jD,bB om,kU];rw[show j*3+(y*3+q-i*3)=(j+(y-i))*3+q by omega];simpa using h8)
 have hend:∀ts:Array b8,ts.size=33->ts[6]?=some (.slice (some ⟨g,0,none⟩) (i+(n-j)) x.cap)->∃st',oJ Tryz.prog [.tmp 6] (.v (.c (.own 1))) [(1,.row 144 (rows.take i++rows.drop j))] .ret st'/\Told X st' ⟨ts,ds⟩ (w.drew.setRow g l):=λts hs t6=>by
  have h1:=ET hf.1 (a':=⟨ts,ds⟩) (ts:=(List.range 33).map λk=>if k=6 then .v (.c (.own 1))else .v (.c .dead)) rfl (by simp[hs]) (λk v Y=>by
   simp only[cY,b9]at Y;obtain⟨q,s,rfl⟩:=Y;obtain⟨q1,q2⟩:=ek.1 s;simp at q1 q2;subst q2;by_cases S:k=6
   .subst S;refine⟨_,t6,?_⟩;have h:=hf.2;simp only[ab]at h⊢;exact h
   .rw[bG S];exact⟨_,sD (by show k<ts.size;omega),trivial⟩)
  obtain⟨E2,U,h3⟩:=h1.drew.settle;exact⟨_,⟨trivial,rfl,λn b h=>h⟩,E2,U,rfl⟩
 by_cases av:x.cap=j
 .have N:j=n:=om;have hnil:news=[]:=nu (by rw[K,N];simp);have O:∀ty,(Builtin.append_ #[55,55] ty #[.slice (some ⟨g,0,none⟩) i n,.slice (some ⟨g,0,none⟩) 0 0]).run Tryz.prog w.drew=.ok (.slice (some ⟨g,0,none⟩) i n) (w.drew.setRow g f):=λty=>by
   rw[C,show i*3=i*i0.size by rw[t]];exact Du (P:=Tryz.prog) w.drew 55 ty 144 i0 Tryz.underlying55 V g i n cur A.ok hblk ⟨g,0,none⟩ 0 0 news (by rw[hnil];simp) (λq u s=>by rw[hnil]at s;simp at s) D om (by rw[t];omega)
  have H:=λty=>L ty (n-i)
  have h0:n-j=0:=om;rw[h0]at H hend;have h:=aBw (Q:=λe a' w'=>∃st',oJ Tryz.prog [.tmp 6] (.v (.c (.own 1))) [(1,.row 144 (rows.take i++rows.drop j))] e st'/\Told X st' a' w') g n i ds w (w.drew.setRow g f) (w.drew.setRow g l) om om (by rw[t]at*;exact O) H (λts h=>hend ts h.1 (by rw[show x.cap=n by omega];exact h.2)) _ rfl;rw[show x.cap=n by omega,N];rw[N]at h;exact h
 .have O:∀ty,(Builtin.append_ #[55,55] ty #[.slice (some ⟨g,0,none⟩) i x.cap,.slice (some ⟨g,j*3,none⟩) (n-j) (x.cap-j)]).run Tryz.prog w.drew=.ok (.slice (some ⟨g,0,none⟩) (i+(n-j)) x.cap) (w.drew.setRow g f):=λty=>by
   rw[C,show i*3=i*i0.size by rw[t]];exact Du (P:=Tryz.prog) w.drew 55 ty 144 i0 Tryz.underlying55 V g i x.cap cur A.ok hblk ⟨g,j*3,none⟩ (n-j) (x.cap-j) news (by rw[t];exact K) (λq u s=>by
    rw[Addr.add_lit,cell_of_row w.drew g _ cur 144 fz hblk];exact(W q u s).2) D om (by rw[t];omega)
  exact afc (Q:=λe a' w'=>∃st',oJ Tryz.prog [.tmp 6] (.v (.c (.own 1))) [(1,.row 144 (rows.take i++rows.drop j))] e st'/\Told X st' a' w') g n x.cap i j ds w _ _ ac om aj av ak O (λty=>L ty _) (λts h=>hend ts h.1 h.2) _ rfl
end Sd
def vc:List L->Option (List L):=λls=>match ls with
 |[.r rows,.i i,.i j]=>if 0<=i/\i<j/\j.toNat<=rows.length/\cC 3 rows=true then some [.r (rows.take i.toNat++rows.drop j.toNat)]else none
 |_=>none
def ayO:bw:=⟨209,[.c (.own 0),.c (.p (.int .i64) U1),.c (.p (.int .i64) U2)],[.row 144 U0],3,1,.v (.c (.own 1)),[(1,.row 144 U3)],vc,2075⟩
def QW:ayO.ok Tryz.prog:=by
 intro ls os g a b;have a:vc ls=some os:=a;unfold vc at a;split at a
 .rename_i rows i j _;split at a
  .rename_i c;obtain⟨d,h,e,f⟩:=c;obtain⟨k,rfl⟩:∃k:Nat,i=(k:Int):=⟨i.toNat,(zG d).symm⟩
   obtain⟨q,rfl⟩:∃q:Nat,j=(q:Int):=⟨j.toNat,om⟩
   cases a;exact Sd.aDb rows k q om e (kf.1 f)
  .cases a
 .cases a
end
section
attribute [local irreducible] Fo
open Go.RowKit
def aiT:bp:=.join (.loop [.i 0,.i 0] (.bI .lss bF (.i 8)<|.ite bH (.op (.dM bF 8)<|.op (.ix (w 0 8) bF)<|.cA 48 AN [bL] 1<|.no bP<|.ite bQ (.bq (.jump 2 [.b false])) (.join (.loop [.i 0] (.op (.dM bF 8)<|.op (.ix (w 0 8) bF)<|.ln bX<|.bI .lss bV bU<|.ite cd (.op (.dM bF 8)<|.op (.ix (w 0 8) bF)<|.rw cv bV 4<|.cl cR 0 (.int .u64)<|.cA 50 GP [cm] 1<|.bI .neq cn bF<|.ite ct (.bq (.jump 4 [.b false])) (.bI .add bV (.i 1)<|.j [cH])) (.bq (.jump 1 [])))) (.op (.dM bF 8)<|.op (.ix (w 0 8) bF)<|.cA 49 OE [bV] 1<|.bI .add bD bX<|.bI .add bF (.i 1)<|.j [bU,cd]))) (.bq (.jump 1 [bD])))) (.join (.bI .eql U8 bD<|.ite bF (.bI .geq U9 (.i 0)<|.ite bH (.bI .leq U9 (.i 1099511627776)<|.j [bL]) (.j [.b false])) (.j [.b false])) (.j [bF]))
def xk:=Fo aiT
def s52:bw:=⟨183,[.agg (dL 0 8++[pi 8,pi 9])],[],10,1,.v (.c (.p .bool bD)),[],xk,52⟩
def HR:Ok s52:=oS (.cons Q1 (.cons Om (.cons Tb .nil)))
def aAc:bp:=.join (.cA 24 qD [U0,U1,U2] 1<|.no U4<|.ite U5 (.j [.b true]) (.ln U3<|.bI .neq U6 U1<|.j [U7])) (.ite U4 (.j [.i 1,.r0]) (.join (.loop [.i 0] (.ln U3<|.bI .lss U5 U6<|.ite U7 (.rw U3 U5 1<|.op (.rc U3 U5 0 .sl)<|.ln U9<|.rw U3 (.i 0) 1<|.op (.rc U3 (.i 0) 0 .sl)<|.ln bH<|.bI .neq bD bL<|.ite bP (.bq (.jump 2 [.i 1,.r0])) (.bI .add U5 (.i 1)<|.j [bQ])) (.bq (.jump 1 [])))) (.join (.loop [.i 0,.r0] (.bI .lss U5 U0<|.ite U7 (.rw U3 (.i 0) 1<|.op (.rc U3 (.i 0) 0 .sl)<|.ln U9<|.op (.jY bD [((.int .u8),(.i 0))] 1)<|.join (.loop [.i 0,bF] (.bI .lss bH U1<|.ite bP (.rw U3 bH 1<|.op (.rc U3 bH 0 .sl)<|.bI .mul U5 U1<|.bI .add bX bH<|.rw U2 bU 1<|.cl cd 0 (.int .u8)<|.op (.call 21 M2 [bL,bV,cv] 2 [1])<|.bI .add bH (.i 1)<|.j [cn,cm]) (.bq (.jump 1 [bL])))) (.op (.lit [[(.sl,bH)]])<|.op (.app U6 bL 1 24)<|.bI .add U5 (.i 1)<|.j [bQ,bP])) (.bq (.jump 1 [U6])))) (.j [.i 0,U5]))))
def O1:=Fo aAc
def s60:bw:=⟨301,[.agg [pi 0,pi 1,ps 2],.c (.own 0)],[.row 95 U3],4,2,.bM [.c (.own 1),ci 4],[(1,(.row 95 U5)),(0,(.row 95 U3))],O1,60⟩
def alv:Ok s60:=oS (.cons Ef (.cons agE .nil))
def anQ:bp:=.join (.cA 307 nE [U0,U1,U2] 1<|.no U4<|.ite U5 (.j [.b true]) (.ln U3<|.bI .neq U6 U1<|.j [U7])) (.ite U4 (.j [.i 1,.r0]) (.join (.ln U3<|.loop [.i 0] (.bI .lss U6 U5<|.ite U7 (.rw U3 U6 1<|.op (.rc U3 U6 0 .sl)<|.ln U9<|.rw U3 (.i 0) 1<|.op (.rc U3 (.i 0) 0 .sl)<|.ln bH<|.bI .neq bD bL<|.ite bP (.bq (.jump 2 [.i 1,.r0])) (.bI .add U6 (.i 1)<|.j [bQ])) (.bq (.jump 1 [])))) (.op (.jY U0 [(.sl,.r0)] 24)<|.join (.ln U5<|.loop [.i 0,U5] (.bI .lss U7 U6<|.ite U9 (.join (.rw U3 (.i 0) 1<|.op (.rc U3 (.i 0) 0 .sl)<|.ln bF<|.op (.jY bH [((.int .u8),(.i 0))] 1)<|.rw U8 U7 1<|.op (.set U8 U7 0 [(.sl,bL)])<|.ln U3<|.loop [.i 0,bQ] (.bI .lss bX bV<|.ite cd (.rw U3 bX 1<|.op (.rc U3 bX 0 .sl)<|.rw bU U7 1<|.op (.rc bU U7 0 .sl)<|.cA 304 nF [U0,U1,U2,U7,bX] 1<|.cA 301 Fq [cn,cR,ct] 2<|.rw bU U7 1<|.op (.set bU U7 0 [(.sl,ck)])<|.bI .add bX (.i 1)<|.j [dZ,cS]) (.bq (.jump 1 [bU])))) (.bI .add U7 (.i 1)<|.j [bF,bD])) (.bq (.jump 1 [U8])))) (.j [.i 0,U6]))))
def Px:=Fo anQ
def atT:bw:=⟨165,[.agg [pi 0,pi 1,ps 2],.c (.own 0)],[.row 95 U3],4,2,.bM [.c (.own 1),ci 4],[(1,(.row 95 U5)),(0,(.row 95 U3))],Px,673⟩
def ZW:Ok atT:=oS (.cons Ch (.cons TE (.cons Fg .nil)))
def ajW:bp:=.join (.loop [.i 0,.i 0] (.ln U0<|.bI .lss U2 U3<|.ite U4 (.rw U0 U2 4<|.op (.rc U0 U2 3 (.int .i64))<|.cA 44 lB [U6] 1<|.bI .add U1 U7<|.bI .add U2 (.i 1)<|.j [U8,U9]) (.bq (.jump 1 [U1])))) (.j [U1])
def O4:=Fo ajW
def awI:bw:=⟨247,[.c (.own 0)],[.row 164 U0],1,1,.v (ci 1),[(0,(.row 164 U0))],O4,674⟩
def awx:Ok awI:=oS (.cons qm .nil)
def asD:bp:=.ite U2 (.ln U3<|.op (.mx U0 (.i 0))<|.op (.mn U4 U5)<|.ln U3<|.op (.cut U3 (.i 0) U6 1)<|.op (.tk U3 U8)<|.j [U9]) (.join (.ln U3<|.cA 320 z8 [U0,U1,U2,U4] 1<|.ln U3<|.bI .gtr U5 U6<|.ite U7 (.ln U3<|.bI .sub U5 U8<|.op (.jY U9 [((.int .u8),(.i 0))] 1)<|.rw bD (.i 0) 1<|.op (.app U3 bD 1 1)<|.j [bH]) (.j [U3])) (.ln U4<|.op (.cut U4 U0 U5 1)<|.op (.px U4 U0 U6 U1 1)<|.j [U7]))
def Ku:=Fo asD
def aCg:bw:=⟨170,[.agg [pi 0,ps 1,.p .bool U2],.c (.own 0)],[.row 5 U3],4,1,.v (.c (.own 1)),[(1,(.row 5 U4))],Ku,358⟩
def ayJ:Ok aCg:=oS (.cons Jj .nil)
def YR:bp:=.bI .mul U3 U1<|.bI .add U3 (.i 1)<|.bI .mul U5 U1<|.ln U2<|.op (.part U2 U4 U6 1)<|.j [U8]
def Gd:=Fo YR
def agG:bw:=⟨230,[.agg [pi 0,pi 1,ps 2],ci 3],[],4,1,.v (cs 4),[],Gd,340⟩
def Gj:Ok agG:=oS .nil
end
end
end Go.Proofs.YtiikkkhcolcebaaGreatDoor
