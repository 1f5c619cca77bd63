/- A part. -/
import Derived.Test.YtndegphojkiblaaGreatDoorG12
import Derived.Test.YtndegphojkiblaaGreatDoorG13
import Derived.Test.YtndegphojkiblaaGreatDoorG15
import Derived.Test.YtndegphojkiblaaGreatDoorG22
import Derived.WalkKit
set_option linter.all false
set_option maxHeartbeats 4000000
set_option maxRecDepth 100000
namespace Go.Proofs.YtndegphojkiblaaGreatDoor
noncomputable section
section
attribute [local irreducible] Fo
open Go.RowKit
def US:a8:=.join (.cA 34 rq [U0] 1<|.no U3<|.ite U4 (.j [.b true]) (.ln U1<|.bI .gtr U5 (.i 1048576)<|.j [U6])) (.ite U3 (.j [.b false]) (.join (.loop [U1,.i 0] (.ln U2<|.bI .lss U5 U6<|.ite U7 (.rw U2 U5 3<|.cl U8 0 (.int .i64)<|.cl U8 1 .sl<|.cl U8 2 .bool<|.join (.bI .lss U9 (.i 0)<|.ite bJ (.j [.b true]) (.bI .gtr U9 (.i 1048576)<|.ite bH (.j [.b true]) (.ite bD (.ln bA<|.bI .gtr bM (.i 0)<|.ite bL (.j [.b true]) (.ln bA<|.bI .gtr bV (.i 1048576)<|.j [bR])) (.ln bA<|.bI .gtr bM (.i 1048576)<|.j [bL])))) (.ite bJ (.br (.jump 2 [.b false])) (.cA 33 qz [U4,U9,bA,bD] 1<|.ln bH<|.bI .gtr bM (.i 1048576)<|.ite bL (.br (.jump 2 [.b false])) (.bI .add U5 (.i 1)<|.j [bH,bV])))) (.br (.jump 1 [])))) (.j [.b true])))
def uj:=Fo US
def Kh:bB:=⟨91,[.agg [.p .str U0,ps 1,ps 2]],[],3,1,.v (.c (.p .bool U3)),[],uj,70⟩
instance:Ok Kh:=oS [LU,LZ]
def aiJ:a8:=.join (.bI .lss U0 (.i 0)<|.ite U3 (.j [.b true]) (.bI .lss U1 (.i (-1))<|.ite U4 (.j [.b true]) (.ln U2<|.bI .gtr U5 (.i 256)<|.j [U6]))) (.ite U3 (.j [.b false]) (.join (.loop [.i 0] (.ln U2<|.bI .lss U4 U5<|.ite U6 (.join (.rw U2 U4 3<|.cl U7 0 .str<|.cl U7 1 .sl<|.cl U7 2 .sl<|.cA 70 uj [U8,U9,bA] 1<|.no bD<|.ite bJ (.j [.b true]) (.bI .gtr U4 (.i 0)<|.ite bH (.rw U2 U4 3<|.cl bM 0 .str<|.bI .sub U4 (.i 1)<|.rw U2 bV 3<|.cl bR 0 .str<|.op (.bs .leq bL bW)<|.j [bX]) (.j [.b false]))) (.ite U7 (.br (.jump 2 [.b false])) (.bI .add U4 (.i 1)<|.j [U8]))) (.br (.jump 1 [])))) (.j [.b true])))
def De:=Fo aiJ
def UR:bB:=⟨45,[.agg [pi 0,pi 1,ps 2]],[],3,1,.v (.c (.p .bool U3)),[],De,71⟩
instance:Ok UR:=oS [Kh]
def MK:=mS [ox,yQ,za] 64 [cs 0] [] 1 4 (.bq [.agg [pi 2,pi 3,pi 4],ci 1]) [] 72
def F72:=MK.F
instance:Ok MK:=oM
def Hw:=mS [vN,ox,za] 117 [.agg [pi 0,pi 1,pi 2]] [] 3 2 (.bq [.c (.own 0),ci 3]) [(0,(.row 5 U4))] 73
def F73:=Hw.F
instance:Ok Hw:=oM
def HW:=mS [kX,D3,vN,ox] 78 [.agg [.p (.int .u64) U0,.p (.int .u32) U1,.p .bool U2,ps 3]] [] 4 2 (.bq [.c (.own 0),ci 4]) [(0,(.row 5 U5))] 74
def F74:=HW.F
instance:Ok HW:=oM
def Kw:=mS [wB,vN,ox] 133 [cs 0] [] 1 2 (.bq [.c (.own 0),ci 1]) [(0,(.row 5 U2))] 75
def F75:=Kw.F
instance:Ok Kw:=oM
def agS:a8:=.ln U0<|.op (.part U0 (.i 4) (.i 6) 1)<|.cA 335 rS [U2] 1<|.ln U0<|.op (.part U0 (.i 6) (.i 8) 1)<|.cA 335 rS [U5] 1<|.ln U0<|.op (.part U0 (.i 8) (.i 12) 1)<|.cA 335 rS [U8] 1<|.ln U0<|.op (.part U0 (.i 12) (.i 20) 1)<|.cA 335 rS [bD] 1<|.join (.loop [.i 0,.i 0,.i 0,.i 0,.i 0,.i 0,.i 0] (.bI .lss bH (.i 6)<|.ite b9 (.join (.bI .mul (.i 4) bH<|.bI .add (.i 20) cu<|.bI .add cq (.i 4)<|.ln U0<|.op (.part U0 cq cv 1)<|.cA 335 rS [cG] 1<|.op (.conv .u32 cK)<|.bI .eql bH (.i 0)<|.ite dJ (.j [.i 0,c9,bL,bV,bR,bW,bX]) (.bI .eql bH (.i 1)<|.ite dI (.j [.i 1,bM,c9,bV,bR,bW,bX]) (.bI .eql bH (.i 2)<|.ite eo (.j [.i 2,bM,bL,c9,bR,bW,bX]) (.bI .eql bH (.i 3)<|.ite fm (.j [.i 3,bM,bL,bV,c9,bW,bX]) (.bI .eql bH (.i 4)<|.ite e_ (.j [.i 4,bM,bL,bV,bR,c9,bX]) (.bI .eql bH (.i 5)<|.ite eH (.j [.i 5,bM,bL,bV,bR,bW,c9]) (.op (.ed (.i 0) 0)<|.j []))))))) (.bI .add cu (.i 1)<|.j [dJ,cq,cv,cX,cG,cK,c9])) (.br (.jump 1 [bM,bL,bV,bR,bW,bX])))) (.j [U3,U6,U9,bJ,bH,bM,bL,bV,bR,bW])
def HT:=Fo agS
def RX:bB:=⟨99,[cs 0],[],1,10,.v (.agg (de 1 4++[.p (.int .u32) U5,.p (.int .u32) U6,.p (.int .u32) U7,.p (.int .u32) U8,.p (.int .u32) U9,.p (.int .u32) bA,.nil])),[],HT,356⟩
instance:Ok RX:=oS [MC]
def Xy:a8:=.join (.ln U0<|.loop [.i 0,.i 0] (.bI .lss U3 U1<|.ite U4 (.join (.rw U0 U3 1<|.cl U5 0 .sl<|.ln U6<|.bI .add U2 U7<|.bI .lss U8 (.i 0)<|.ite U9 (.op (.ed (.i 0) 0)<|.op (.ed (.i 0) 0)<|.j [U8]) (.j [U8])) (.bI .add U3 (.i 1)<|.j [U5,U6])) (.br (.jump 1 [U2])))) (.cA 2001 zA [U1] 0<|.join (.ln U0<|.loop [.i 0,.r0] (.bI .lss U3 U2<|.ite U5 (.rw U0 U3 1<|.cl U6 0 .sl<|.op (.app U4 U7 4 32)<|.bI .add U3 (.i 1)<|.j [U9,U8]) (.br (.jump 1 [U4])))) (.j [U2]))
def Ox:=Fo Xy
def Lm:bB:=⟨193,[cs 0],[],1,1,.v (.c (.own 0)),[(0,(.row 25 U1))],Ox,64⟩
instance:Ok Lm:=oS [OC,pA]
def S3:a8:=.cA 22 nh [U0,U0] 1<|.no U1<|.ite U2 (.j [.i 1,.i 0,.r0]) (.bI .mul U0 U0<|.op (.f_ U3 [((.int .u8),(.i 0))] 1)<|.join (.loop [.i 0,U4] (.bI .lss U5 U0<|.ite U7 (.bI .mul U5 U0<|.bI .add U8 U5<|.rw U6 U9 1<|.op (.set U6 U9 0 [((.int .u8),(.i 1))])<|.bI .add U5 (.i 1)<|.j [bJ,bD]) (.br (.jump 1 [U6])))) (.j [.i 0,U0,U5]))
def Wq:=Fo S3
def S5:bB:=⟨286,[ci 0],[],1,3,.bq [.agg [pi 2,pi 2,.own 0],ci 1],[(0,(.row 5 U3))],Wq,65⟩
instance:Ok S5:=oS [wu]
def W8:a8:=.join (.cA 24 nM [U0,U1,U2] 1<|.no U6<|.ite U7 (.j [.b true]) (.cA 24 nM [U3,U4,U5] 1<|.no U8<|.ite U9 (.j [.b true]) (.bI .neq U1 U3<|.j [bA]))) (.ite U6 (.j [.i 1,.i 0,.i 0,.r0]) (.join (.loop [.i 0,.r0] (.bI .lss U7 U0<|.ite U9 (.join (.loop [.i 0,U8] (.bI .lss bA U4<|.ite bJ (.join (.loop [.i 0,.i 0] (.bI .lss bM U1<|.ite bL (.bI .mul U7 U1<|.bI .add bV bM<|.rw U2 bR 1<|.cl bW 0 (.int .u8)<|.bI .mul bM U4<|.bI .add b9 bA<|.rw U5 cu 1<|.cl cq 0 (.int .u8)<|.cA 19 pW [bX,cv] 1<|.op (.bi .xor .u8 bH cX)<|.bI .add bM (.i 1)<|.j [cG,cK]) (.br (.jump 1 [bH])))) (.op (.lit [[((.int .u8),bH)]])<|.op (.app bD bM 1 1)<|.bI .add bA (.i 1)<|.j [bV,bL])) (.br (.jump 1 [bD])))) (.bI .add U7 (.i 1)<|.j [bD,bA])) (.br (.jump 1 [U8])))) (.j [.i 0,U0,U4,U7])))
def Xn:=Fo W8
def TG:bB:=⟨255,[.agg [pi 0,pi 1,ps 2],.agg [pi 3,pi 4,ps 5]],[],6,4,.bq [.agg [pi 7,pi 8,.own 0],ci 6],[(0,(.row 5 U9))],Xn,66⟩
instance:Ok TG:=oS [uz,vI]
def ame:a8:=.join (.cA 39 yp [U0,U1,U2] 1<|.no bD<|.ite bJ (.j [.b true]) (.bI .lss U3 (.i 16)<|.ite bH (.j [.b true]) (.bI .gtr U3 (.i 524288)<|.ite bM (.j [.b true]) (.cA 48 sG [bA] 1<|.no bL<|.j [bV])))) (.ite bD (.j [.b false]) (.join (.loop [.i 0] (.ln bA<|.bI .lss bJ bH<|.ite bM (.rw bA bJ 4<|.cl bL 2 (.int .i64)<|.rw bA bJ 4<|.cl bR 3 (.int .i64)<|.cA 44 mL [bW] 1<|.bI .add bV bX<|.bI .gtr b9 U3<|.ite cu (.br (.jump 2 [.b false])) (.bI .add bJ (.i 1)<|.j [cq])) (.br (.jump 1 [])))) (.j [.b true])))
def AF:=Fo ame
def yI:bB:=⟨110,[.agg (de 0 4++[.p (.int .u32) U4,.p (.int .u32) U5,.p (.int .u32) U6,.p (.int .u32) U7,.p (.int .u32) U8,.p (.int .u32) U9,ps 10])],[],11,1,.v (.c (.p .bool bD)),[],AF,67⟩
instance:Ok yI:=oS [wB,kX,za]
def Xv:a8:=.cA 55 BK [.i 5,U0,U1,U2,.b false] 2<|.j [U3]
def Cd:=Fo Xv
def H3:bB:=⟨67,[ci 0,ci 1,ci 2],[],3,1,.v (.c (.p .str U3)),[],Cd,68⟩
instance:Ok H3:=oS [HX]
def K5:=mS [vN,ox] 75 [cs 0] [] 1 1 (.v (.c (.own 0))) [(0,(.row 5 U1))] 69
def F69:=K5.F
instance:Ok K5:=oM
def K0:=mS [y9] 187 [cs 0,.agg [.p (.int .u64) U1,.p (.int .u32) U2,pi 3,pi 4]] [] 5 1 (.v (.c (.own 0))) [(0,(.row 25 U5))] 76
def F76:=K0.F
instance:Ok K0:=oM
def Hz:=mS [y9] 185 [cs 0,.c (.p (.int .u64) U1)] [] 2 1 (.v (.c (.own 0))) [(0,(.row 25 U2))] 77
def F77:=Hz.F
instance:Ok Hz:=oM
def KV:=mS [yA] 138 [.agg (eT 0 8++[pi 8,pi 9]),ci 10] [] 11 1 (.v (.agg (eT 0 8++[pi 8,pi 11]))) [] 78
def F78:=KV.F
instance:Ok KV:=oM
def ail:a8:=.join (.loop [.i 0,.r0] (.join (.bI .lss bA (.i 8)<|.ite bJ (.op (.call 52 zK (w 0 10) 1 [])<|.j [bH]) (.j [.b false])) (.ite bJ (.op (.ed bA 8)<|.op (.fw (w 0 8) bA)<|.op (.app bD bH 4 32)<|.bI .add bA (.i 1)<|.j [bL,bM]) (.br (.jump 1 [bD]))))) (.op (.call 46 yK [bA] 1 [0])<|.j [bD])
def ve:=Fo ail
def tn:bB:=⟨66,[.agg (eT 0 8++[pi 8,pi 9])],[],10,1,.v (.c (.own 0)),[(0,(.row 25 bA))],ve,79⟩
instance:Ok tn:=oS [yA,y9]
def aiE:a8:=.join (.bI .lss U0 (.i 1)<|.ite bM (.j [.b true]) (.bI .gtr U0 (.i 8)<|.ite bL (.j [.b true]) (.bI .lss U1 (.i 0)<|.ite bV (.j [.b true]) (.bI .geq U1 (.i 4294967296)<|.ite bR (.j [.b true]) (.bI .lss U2 (.i 1)<|.ite bW (.j [.b true]) (.bI .gtr U2 (.i 3)<|.j [bX])))))) (.ite bM (.j [.b false]) (.join (.bI .lss U3 (.i 16)<|.ite bL (.j [.b true]) (.bI .gtr U3 (.i 1048576)<|.ite bV (.j [.b true]) (.bI .rem U3 (.i 8)<|.bI .neq bR (.i 0)<|.ite bW (.j [.b true]) (.op (.call 52 zK (w 4 10) 1 [])<|.no bX<|.ite b9 (.j [.b true]) (.op (.call 79 ve (w 4 10) 1 [])<|.cA 58 BU [cu,U3] 1<|.no cq<|.j [cv]))))) (.ite bL (.j [.b false]) (.bI .sub U3 (.i 16)<|.bI .sub bV bJ<|.bI .eql bR bH<|.j [bW]))))
def EZ:=Fo aiE
def wQ:bB:=⟨80,[.agg (de 0 4++eT 4 8++[pi 12,pi 13])],[],14,1,.v (.c (.p .bool bM)),[],EZ,80⟩
instance:Ok wQ:=oS [tn,s58,yA]
def Sv:a8:=.loop [.i 0,U0] (.bI .lss U5 U1<|.ite U7 (.bI .mul U2 U1<|.bI .add U8 U5<|.rw U6 U9 1<|.op (.rc U6 U9 0 (.int .u8))<|.bI .mul U3 U1<|.bI .add bJ U5<|.rw U6 bH 1<|.op (.rc U6 bH 0 (.int .u8))<|.cA 19 pW [U4,bL] 1<|.op (.bi .xor .u8 bD bV)<|.rw U6 U9 1<|.op (.set U6 U9 0 [((.int .u8),bR)])<|.bI .add U5 (.i 1)<|.j [b9,bX]) (.br (.jump 1 [U6])))
def uh:=Fo Sv
def X9:bB:=⟨287,[.c (.own 0),ci 1,ci 2,ci 3,.c (.p (.int .u8) U4)],[.row 5 U0],5,1,.bq [],[(0,(.row 5 U5))],uh,81⟩
instance:Ok X9:=oS [vI]
def alh:a8:=.loop [.i 0,.r0] (.bI .lss U2 U1<|.ite U4 (.bI .mul (.i 8) U2<|.op (.bi .shr .u64 U0 U5)<|.op (.conv .u8 U6)<|.op (.lit [[((.int .u8),U7)]])<|.op (.app U3 U8 1 1)<|.bI .add U2 (.i 1)<|.j [bA,U9]) (.br (.jump 1 [U3])))
def Of:=Fo alh
def QR:bB:=⟨195,[.c (.ptr 0 0),.c (.p (.int .u64) U0),ci 1],[.box [.nil]],2,1,.bq [],[(0,(.box [.own 1])),(1,(.row 5 U2))],Of,357⟩
instance:Ok QR:=oS []
def Vb:a8:=.join (.cA 24 nM [U0,U1,U2] 1<|.no U3<|.ite U4 (.j [.b true]) (.bI .neq U0 U1<|.j [U5])) (.ite U3 (.j [.i 1,.i 0,.r0]) (.op (.lit [])<|.op (.app U4 U2 1 1)<|.cA 65 Wq [U0] 3<|.join (.loop [.i 0,U5,U8] (.bI .lss U9 U0<|.ite bJ (.join (.join (.bI .mul U9 U0<|.bI .add bH U9<|.rw bA bM 1<|.op (.rc bA bM 0 (.int .u8))<|.op (.bi .eql .u8 bV (.i 0))<|.ite bR (.bI .add U9 (.i 1)<|.join (.loop [bW] (.join (.bI .lss bX U0<|.ite b9 (.bI .mul bX U0<|.bI .add cu U9<|.rw bA cq 1<|.op (.rc bA cq 0 (.int .u8))<|.op (.bi .eql .u8 cX (.i 0))<|.j [cG]) (.j [.b false])) (.ite b9 (.bI .add bX (.i 1)<|.j [cu]) (.br (.jump 1 [bX]))))) (.bI .eql bX U0<|.ite b9 (.br (.jump 4 [.i 14,.i 0,.r0])) (.cA 81 uh [bA,U0,U9,bX,.i 1] 1<|.cA 81 uh [bD,U0,U9,bX,.i 1] 1<|.j [cu,cq]))) (.j [bA,bD])) (.bI .mul U9 U0<|.bI .add bL U9<|.rw bH bV 1<|.op (.rc bH bV 0 (.int .u8))<|.cA 20 D7 [bW] 2<|.op (.bi .xor .u8 bX (.i 1))<|.cA 81 uh [bM,U0,U9,U9,cu] 1<|.op (.bi .xor .u8 bX (.i 1))<|.cA 81 uh [bH,U0,U9,U9,cv] 1<|.loop [.i 0,cX,cq] (.bI .lss cG U0<|.ite dJ (.join (.bI .mul cG U0<|.bI .add dI U9<|.rw cK eo 1<|.op (.rc cK eo 0 (.int .u8))<|.join (.bI .neq cG U9<|.ite eH (.op (.bi .neq .u8 e_ (.i 0))<|.j [gG]) (.j [.b false])) (.ite eH (.cA 81 uh [c9,U0,cG,U9,e_] 1<|.cA 81 uh [cK,U0,cG,U9,e_] 1<|.j [fv,gG]) (.j [cK,c9]))) (.bI .add cG (.i 1)<|.j [fm,dI,eo])) (.br (.jump 1 [cK,c9]))))) (.bI .add U9 (.i 1)<|.j [bL,bH,bM])) (.br (.jump 1 [bD])))) (.j [.i 0,U7,U9])))
def EP:=Fo Vb
def LF:bB:=⟨245,[.agg [pi 0,pi 1,ps 2]],[],3,3,.bq [.agg [pi 4,pi 4,.own 0],ci 3],[(0,(.row 5 U5))],EP,93⟩
instance:Ok LF:=oS [X9,S5,uz,XI]
def aah:a8:=.cA 23 F23 [.i 6,.i 4] 4<|.op (.lit [[((.int .i64),(.i 0))],[((.int .i64),(.i 1))],[((.int .i64),(.i 2))],[((.int .i64),(.i 3))]])<|.op (.call 25 F25 (w 1 4) 4 [3])<|.op (.call 93 EP [U6,U7,U8] 3 [2])<|.op (.call 66 Xn [U1,U2,U3,bA,bA,bD] 4 [3])<|.j [bH,bM,bL]
def vB:=Fo aah
def OI:bB:=⟨222,[],[],0,3,.v (.agg [pi 0,pi 1,.own 0]),[(0,(.row 5 U2))],vB,94⟩
instance:Ok OI:=oS [LF,TG,Lq,Wp]
def Kx:=mS [Kw,yI,vY,vN,ox] 68 [.agg (de 0 4++[.p (.int .u32) U4,.p (.int .u32) U5,.p (.int .u32) U6,.p (.int .u32) U7,.p (.int .u32) U8,.p (.int .u32) U9,ps 10])] [] 11 2 (.bq [.c (.own 0),ci 11]) [(0,(.row 5 bJ))] 95
def F95:=Kx.F
instance:Ok Kx:=oM
def Wi:a8:=.join (.cA 71 De [U0,U1,U2] 1<|.no U4<|.ite U5 (.j [.b true]) (.cA 34 rq [U3] 1<|.no U6<|.j [U7])) (.ite U4 (.j [.i 1]) (.bI .eql U1 (.i 0)<|.ite U5 (.j [.i 13]) (.j [.i 0])))
def Ea:=Fo Wi
def Jr:bB:=⟨92,[.agg [pi 0,pi 1,ps 2],.c (.p .str U3)],[],4,1,.v (ci 4),[],Ea,96⟩
instance:Ok Jr:=oS [UR,LU]
def anz:a8:=.op (.call 70 uj [.s ⟨#[120]⟩,U1,U2] 1 [])<|.no U3<|.ite U4 (.j [.r0]) (.join (.loop [U1,.i 0] (.ln U2<|.bI .lss U6 U7<|.ite U8 (.rw U2 U6 3<|.cl U9 0 (.int .i64)<|.cl U9 1 .sl<|.cl U9 2 .bool<|.cA 33 qz [U5,bA,bD,bJ] 1<|.bI .add U6 (.i 1)<|.j [bH,bM]) (.br (.jump 1 [U5])))) (.op (.lit [])<|.op (.app U6 U5 1 1)<|.j [U7]))
def oK:=Fo anz
def qP:bB:=⟨174,[.agg [.p .str U0,ps 1,ps 2]],[],3,1,.v (.c (.own 0)),[(0,(.row 5 U3))],oK,97⟩
instance:Ok qP:=oS [Kh,LZ]
def aeb:a8:=.op (.call 79 ve (w 0 10) 1 [])<|.ln bA<|.j [bD]
def CE:=Fo aeb
def Hc:bB:=⟨81,[.agg (eT 0 8++[pi 8,pi 9])],[],10,1,.v (ci 10),[],CE,98⟩
instance:Ok Hc:=oS [tn]
def arB:a8:=.op (.call 79 ve (w 0 10) 1 [])<|.cA 45 C4 [bD,bA] 5<|.br (.jump 0 (w 12 5))
def Dd:=Fo arB
def vO:bB:=⟨39,[.agg (eT 0 8++[pi 8,pi 9]),.c (.p (.int .u64) bA)],[],11,5,.bq [.agg [.p (.int .u64) bJ,.p (.int .u32) bH,pi 14,pi 15],.c (.p .bool bD)],[],Dd,99⟩
instance:Ok vO:=oS [tn,Sq]
def ER:=mS [wQ] 134 [.agg (de 0 4++eT 4 8++[pi 12,pi 13]),ci 14,ci 15] [] 16 15 (.bq [.agg (de 17 4++eT 21 8++[pi 29,pi 30]),ci 16]) [] 100
def avl:=ER.F
instance:Ok ER:=oM
def M4:=mS [ER] 69 [.agg (de 0 4++eT 4 8++[pi 12,pi 13])] [] 14 15 (.bq [.agg (de 15 4++eT 19 8++[pi 27,pi 28]),ci 14]) [] 101
def anD:=M4.F
instance:Ok M4:=oM
def NC:=mS [ER] 115 [.agg (de 0 4++eT 4 8++[pi 12,pi 13])] [] 14 15 (.bq [.agg (de 15 4++eT 19 8++[pi 27,pi 28]),ci 14]) [] 102
def agX:=NC.F
instance:Ok NC:=oM
def akP:a8:=.ln U3<|.join (.bI .lss U0 (.i 0)<|.ite U5 (.j [.b true]) (.bI .geq U0 (.i 4)<|.ite U6 (.j [.b true]) (.cA 44 mL [.i 4096] 1<|.bI .add (.i 16) U7<|.bI .lss U1 U8<|.ite U9 (.j [.b true]) (.bI .gtr U1 (.i 262144)<|.ite bA (.j [.b true]) (.bI .lss U4 (.i 1)<|.ite bD (.j [.b true]) (.bI .gtr U4 (.i 8)<|.j [bJ])))))) (.ite U5 (.j [.b false]) (.join (.loop [.i 0] (.bI .lss U6 U4<|.ite U7 (.rw U3 U6 14<|.cl U8 0 (.int .i64)<|.cl U8 1 (.int .i64)<|.cl U8 2 (.int .i64)<|.cl U8 3 (.int .i64)<|.cl U8 4 .sl<|.cl U8 5 .sl<|.cl U8 6 .sl<|.cl U8 7 .sl<|.cl U8 8 .sl<|.cl U8 9 .sl<|.cl U8 10 .sl<|.cl U8 11 .sl<|.cl U8 12 (.int .i64)<|.cl U8 13 (.int .i64)<|.join (.op (.call 80 EZ (w 9 14) 1 [])<|.no cv<|.ite cX (.j [.b true]) (.bI .eql bD (.i 1)<|.bI .sub U4 (.i 1)<|.bI .eql U6 cK<|.op (.bb .neq cG c9)<|.ite dJ (.j [.b true]) (.bI .gtr U6 (.i 0)<|.ite dI (.bI .sub U6 (.i 1)<|.rw U3 eo 14<|.cl fm 0 (.int .i64)<|.bI .leq U9 e_<|.ite eH (.j [.b true]) (.bI .mul (.i 2) U1<|.bI .gtr bJ gG<|.j [fv])) (.bI .mul (.i 2) U1<|.bI .gtr bJ eo<|.j [fm])))) (.ite cv (.br (.jump 2 [.b false])) (.bI .add U6 (.i 1)<|.j [cX]))) (.br (.jump 1 [])))) (.bI .sub U4 (.i 1)<|.rw U3 U6 14<|.cl U7 0 (.int .i64)<|.cl U7 1 (.int .i64)<|.cl U7 2 (.int .i64)<|.cl U7 3 (.int .i64)<|.cl U7 4 .sl<|.cl U7 5 .sl<|.cl U7 6 .sl<|.cl U7 7 .sl<|.cl U7 8 .sl<|.cl U7 9 .sl<|.cl U7 10 .sl<|.cl U7 11 .sl<|.cl U7 12 (.int .i64)<|.cl U7 13 (.int .i64)<|.cA 44 mL [.i 0] 1<|.op (.call 98 CE (w 12 10) 1 [])<|.bI .mul cq cv<|.bI .add bD cX<|.bI .mul (.i 2) U1<|.bI .leq cG cK<|.j [c9])))
def zM:=Fo akP
def py:bB:=⟨38,[.agg [pi 0,pi 1,.p .bool U2,ps 3]],[],4,1,.v (.c (.p .bool U4)),[],zM,103⟩
instance:Ok py:=oS [Hc,wQ,kX]
def NI:=mS [py,BF] 72 [ci 0,ci 1] [] 2 4 (.bq [.agg [pi 3,pi 4,.p .bool (.b false),.own 0],ci 2]) [(0,(.row 94 U5))] 104
def aes:=NI.F
instance:Ok NI:=oM
def alv:a8:=.cA 94 vB [] 3<|.cA 60 xd [U1,U2,U3,U0] 2<|.j [U5]
def F105:=Fo alv
def Nu:bB:=⟨180,[.c (.own 0)],[.row 71 U0],1,1,.v (.c (.own 1)),[(1,(.row 71 U1)),(0,(.row 71 U0))],F105,105⟩
instance:Ok Nu:=oS [OI,MX]
def Wg:a8:=.join (.cA 24 nM [U0,U1,U2] 1<|.no U6<|.ite U7 (.j [.b true]) (.op (.vw U3 U4 U5)<|.ln U8<|.cA 22 nh [U9,U1] 1<|.no bA<|.j [bD])) (.ite U6 (.j [.i 1,.i 0,.i 0,.r0]) (.op (.vw U3 U4 U5)<|.ln U7<|.join (.loop [.i 0,.r0] (.op (.vw U3 U4 U5)<|.ln bD<|.bI .lss U9 bJ<|.ite bH (.join (.op (.gh U3 U4 U5 U9 1)<|.op (.rc U3 bM 0 (.int .i64))<|.bI .lss bL (.i 0)<|.ite bV (.j [.b true]) (.op (.gh U3 U4 U5 U9 1)<|.op (.rc U3 bR 0 (.int .i64))<|.bI .geq bW U0<|.j [bX])) (.ite bM (.br (.jump 2 [.i 1,.i 0,.i 0,.r0])) (.op (.gh U3 U4 U5 U9 1)<|.op (.rc U3 bL 0 (.int .i64))<|.bI .mul bV U1<|.op (.gh U3 U4 U5 U9 1)<|.op (.rc U3 bW 0 (.int .i64))<|.bI .add bX (.i 1)<|.bI .mul b9 U1<|.ln U2<|.op (.cut U2 bR cu 1)<|.op (.vw U2 bR cv)<|.op (.app bA cX 1 1)<|.bI .add U9 (.i 1)<|.j [cK,cG]))) (.br (.jump 1 [bA])))) (.j [.i 0,U8,U1,U9])))
def IG:=Fo Wg
def abR:bB:=⟨244,[.agg [pi 0,pi 1,.own 0],.c (.sub 1 U4 U5)],[.row 5 U2,.row 3 U3],6,4,.bq [.agg [pi 7,pi 8,.own 2],ci 6],[(1,(.row 3 U3)),(0,(.row 5 U2)),(2,(.row 5 U9))],IG,366⟩
instance:Ok abR:=oS [uz,wu]
def X3:a8:=.op (.vw U0 U1 U2)<|.ln U4<|.loop [.i 0,U0] (.bI .lss U6 U5<|.ite U8 (.op (.gh U7 U1 U2 U6 1)<|.op (.rc U7 U9 0 (.int .u8))<|.cA 302 vT [bA,U3] 1<|.op (.gh U7 U1 U2 U6 1)<|.op (.set U7 bJ 0 [((.int .u8),bD)])<|.bI .add U6 (.i 1)<|.j [bM,bH]) (.br (.jump 1 [U7])))
def Kg:=Fo X3
def TJ:bB:=⟨322,[.c (.sub 0 U1 U2),.c (.p (.int .u8) U3)],[.row 5 U0],4,1,.bq [],[(0,(.row 5 U4))],Kg,367⟩
instance:Ok TJ:=oS [Cj]
def ajc:a8:=.cA 316 RE [U0,U1,U2] 0<|.cA 312 Mg [U0,U3] 1<|.j [U4]
def Cm:=Fo ajc
def aao:bB:=⟨275,[.agg [.p .str U0,ps 1,ps 2],.c (.p .str U3),.c (.ptr 0 0)],[.box [.fn 233 []]],4,1,.v (ci 4),[(0,(.box [.fn 233 []]))],Cm,368⟩
instance:Ok aao:=oS [Yp,aar]
def aod:a8:=.cA 84 EE [U0] 1<|.bI .geq U1 (.i 0)<|.j [U2]
def Ir:=Fo aod
def L9:bB:=⟨156,[.c (.own 0),.c (.fn 206 [])],[.row 25 U0],1,1,.v (.c (.p .bool U1)),[(0,(.row 25 U0))],Ir,369⟩
instance:Ok L9:=oS [Fp]
def avs:a8:=.join (.cA 62 BH [U0] 1<|.ite U1 (.cA 369 Ir [U0] 1<|.no U2<|.j [U3]) (.j [.b false])) (.j [U1])
def Jp:=Fo avs
def IU:bB:=⟨154,[.c (.own 0)],[.row 25 U0],1,1,.v (.c (.p .bool U1)),[(0,(.row 25 U0))],Jp,370⟩
instance:Ok IU:=oS [L9,Es,Dm,s9]
def WY:a8:=.ln U0<|.join (.loop [.i 0,U2] (.bI .lss U3 U4<|.ite U5 (.bI .add U3 U4<|.op (.conv .u64 U6)<|.op (.bi .shr .u64 U7 (.i 1))<|.op (.conv .i64 U8)<|.rw U0 U9 3<|.cl bA 0 .str<|.cl bA 1 .sl<|.cl bA 2 .sl<|.cA 368 Cm [bD,bJ,bH,U1] 1<|.bI .lss bM (.i 0)<|.ite bL (.bI .add U9 (.i 1)<|.j [bV,U4]) (.j [U3,U9])) (.br (.jump 1 [U3])))) (.join (.bI .lss U3 U2<|.ite U4 (.rw U0 U3 3<|.cl U5 0 .str<|.cl U5 1 .sl<|.cl U5 2 .sl<|.cA 368 Cm [U6,U7,U8,U1] 1<|.bI .eql U9 (.i 0)<|.j [bA]) (.j [.b false])) (.j [U3,U4]))
def vx:=Fo WY
def S9:bB:=⟨274,[cs 0,.c (.p .str U1),.c (.fn 275 [0])],[.box [.fn 233 []]],2,2,.bq [ci 2,.c (.p .bool U3)],[(0,(.box [.fn 233 []]))],vx,371⟩
instance:Ok S9:=oS [aao]
def po:=mS [Hc,wQ,kX] 38 [.agg [pi 0,pi 1,.p .bool U2,.own 0]] [.row 94 U3] 4 1 (.v (.c (.p .bool U4))) [(0,(.row 94 U3))] 107
def F107:=po.F
instance:Ok po:=oM
def DN:=mS [Jr,LM,yn,K3] 118 [.agg [pi 0,pi 1,ps 2],.c (.p .str U3)] [] 4 4 (.bq [.agg [pi 5,pi 6,.own 0],ci 4]) [(0,(.row 109 U7))] 109
def rW:=DN.F
instance:Ok DN:=oM
def Qx:a8:=.cA 96 Ea [U0,U1,U2,U3] 1<|.bI .neq U4 (.i 0)<|.ite U5 (.j [.i (-1),U4]) (.cA 32 zc [U0,U1,U2,U3] 1<|.bI .lss U6 (.i 0)<|.ite U7 (.j [.i (-1),.i 6]) (.j [U6,.i 0]))
def p8:=Fo Qx
def sW:bB:=⟨48,[.agg [pi 0,pi 1,ps 2],.c (.p .str U3)],[],4,2,.bq [ci 4,ci 5],[],p8,110⟩
instance:Ok sW:=oS [Jr,LM]
def IW:=mS [vO,tn,K0,yA,Dq,DD,kX] 139 [.agg (eT 0 8++[pi 8,pi 9]),.agg [.p (.int .u64) bA,.p (.int .u32) bD,pi 12,pi 13]] [] 14 10 (.v (.agg (eT 14 8++[pi 22,pi 23]))) [] 111
def apF:=IW.F
instance:Ok IW:=oM
def D_:=mS [vO,tn,Hz,Dq,kX] 136 [.agg (eT 0 8++[pi 8,pi 9]),.c (.p (.int .u64) bA)] [] 11 10 (.v (.agg (eT 11 8++[pi 19,pi 20]))) [] 112
def F112:=D_.F
instance:Ok D_:=oM
def KM:=mS [D_,wQ] 74 [.agg (de 0 4++eT 4 8++[pi 12,pi 13]),cs 14] [] 15 15 (.bq [.agg (de 16 4++eT 20 8++[pi 28,pi 29]),ci 15]) [] 113
def F113:=KM.F
instance:Ok KM:=oM
def zu:=mS [po,py] 70 [.agg [pi 0,pi 1,.p .bool U2,ps 3],.agg (de 4 4++eT 8 8++[pi 16,pi 17])] [] 18 5 (.bq [.agg [pi 19,pi 20,.p .bool cu,.own 0],ci 18]) [(0,(.row 94 cq))] 118
def amU:=zu.F
instance:Ok zu:=oM
def OD:=mS [po,py] 114 [.agg [pi 0,pi 1,.p .bool U2,ps 3]] [] 4 1 (.v (.c (.p .bool U4))) [] 119
def awj:=OD.F
instance:Ok OD:=oM
def M2:=mS [OD,po,py,NC,BF] 59 [.agg [pi 0,pi 1,.p .bool U2,ps 3]] [] 4 5 (.bq [.agg [pi 5,pi 6,.p .bool U7,.own 0],ci 4]) [(0,(.row 94 U8))] 120
def apW:=M2.F
instance:Ok M2:=oM
def HO:=mS [Nu,Yt] 128 [.c (.own 0)] [.row 71 U0] 1 2 (.bq [cs 1,ci 2]) [(0,(.row 71 U0))] 122
def amq:=HO.F
instance:Ok HO:=oM
def Sz:a8:=.op (.vw U0 U3 U4)<|.ln U6<|.loop [.i 0,U0] (.bI .lss U8 U7<|.ite bA (.op (.gh U9 U3 U4 U8 1)<|.op (.rc U9 bD 0 (.int .u8))<|.op (.gh U9 U1 U2 U8 1)<|.op (.rc U9 bH 0 (.int .u8))<|.cA 302 vT [bJ,U5] 1<|.op (.bi .xor .u8 bM bL)<|.op (.gh U9 U1 U2 U8 1)<|.op (.set U9 bR 0 [((.int .u8),bV)])<|.bI .add U8 (.i 1)<|.j [bX,bW]) (.br (.jump 1 [U9])))
def Js:=Fo Sz
def ZT:bB:=⟨323,[.c (.sub 0 U1 U2),.c (.sub 0 U3 U4),.c (.p (.int .u8) U5)],[.row 5 U0],6,1,.bq [],[(0,(.row 5 U6))],Js,380⟩
instance:Ok ZT:=oS [Cj]
def akG:a8:=.join (.cA 24 nM [U0,U1,U2] 1<|.no U6<|.ite U7 (.j [.b true]) (.op (.vw U3 U4 U5)<|.ln U8<|.bI .neq U9 U1<|.j [bA])) (.ite U6 (.j [.i 1,.r0]) (.join (.loop [.i 0] (.op (.vw U3 U4 U5)<|.ln U8<|.bI .lss U7 U9<|.ite bA (.op (.gh U3 U4 U5 U7 1)<|.op (.rc U3 bD 0 .sl)<|.ln bJ<|.op (.gh U3 U4 U5 (.i 0) 1)<|.op (.rc U3 bM 0 .sl)<|.ln bL<|.bI .neq bH bV<|.ite bR (.br (.jump 2 [.i 1,.r0])) (.bI .add U7 (.i 1)<|.j [bW])) (.br (.jump 1 [])))) (.join (.loop [.i 0,.r0] (.bI .lss U7 U0<|.ite U9 (.op (.gh U3 U4 U5 (.i 0) 1)<|.op (.rc U3 bA 0 .sl)<|.ln bD<|.op (.f_ bJ [((.int .u8),(.i 0))] 1)<|.join (.loop [.i 0,bH] (.bI .lss bM U1<|.ite bV (.op (.gh U3 U4 U5 bM 1)<|.op (.rc U3 bR 0 .sl)<|.bI .mul U7 U1<|.bI .add bX bM<|.rw U2 b9 1<|.op (.rc U2 b9 0 (.int .u8))<|.op (.call 21 qD [bL,bW,cq] 2 [1])<|.bI .add bM (.i 1)<|.j [cG,cX]) (.br (.jump 1 [bL])))) (.op (.lit [[(.sl,bM)]])<|.op (.app U8 bL 1 24)<|.bI .add U7 (.i 1)<|.j [bR,bV])) (.br (.jump 1 [U8])))) (.j [.i 0,U7]))))
def M7:=Fo akG
def abx:bB:=⟨221,[.agg [pi 0,pi 1,.own 0],.c (.sub 1 U4 U5)],[.row 5 U2,.row 71 U3],6,2,.bq [.c (.own 2),ci 6],[(2,(.row 71 U7)),(1,(.row 71 U3)),(0,(.row 5 U2))],M7,381⟩
instance:Ok abx:=oS [uz,J']
end
section
open Go.RowKit
open Classical
def aik(b:Bool):bp:=⟨[.v (.c (.p .sl (.v 0))),.bq [],.v (.c .nil),.v (.c (.p .sl (.v 0))),.v (.c (.p .bool (.b b))),.bq [],.bq [],.bq []],[],[],8,1⟩
def amh:Code:=(Code.region 3 #[{dst:=some 5,op:=Op.buildSlice 71 0 #[],type:=71,pos:= "slices.go:362",after:= #[],guard:=none},{dst:=some 6,op:=Op.move (Operand.tmp 0),type:=71,pos:= "slices.go:362",after:= #[],guard:=none},{dst:=some 7,op:=Op.call {callee:=Callee.builtin Builtin.append,args:= #[Operand.tmp 5,Operand.tmp 6],argTypes:= #[71,71]},type:=71,pos:= "slices.go:362",after:= #[{on:=0,ground:=Ground.data},{on:=1,ground:=Ground.data}],guard:=none},{dst:=some 2,op:=Op.assign (Operand.tmp 7),type:=71,pos:= "slices.go:362",after:=#[{on:=2,ground:=Ground.data},{on:=2,ground:=Ground.chain},{on:=0,ground:=Ground.phase},{on:=1,ground:=Ground.phase},{on:=2,ground:=Ground.phase}],guard:=none}] false).seq Code.ret
def NL:a8:=.op (.lit []) (.op (.app (.v 1) (.v 0) 1 1) (.br (.jump 0 [(.v 2)])))
theorem ans:zx TT [] amh 0 [.tmp 2] (aik false)=some ⟨NL,(.v (.c (.own 0))),[(0,(.row 5 (.v 1)))],1⟩:=kr
theorem anl(rows)(hR:cf 1 rows=true)(k:rows.length*1<=140737488355328):
 fg Tryz.prog 196 [.c (.p (.sl rows))] [] (.v (.c (.own 0))) [(0,.row 5 rows)]:=by
 refine fg.intro Tryz.func196 kr rfl rfl rfl λX f a=>uw ?_
 refine gg ?_;refine te (Sp:=λ_=>none) rfl rfl ?_;refine gg ?_;refine gg ?_;refine H_ (rows:=rows) (e:=5) rfl (by show 3<8;decide) (by rw[f];exact Tryz.underlying71) ?_;intro b g;refine tp (t:=b) rfl (λh=>?_) (λh=>?_)
 .subst h;cases g rfl;refine gg (te (Sp:=λ_=>none) rfl rfl (tB ?_));refine⟨⟨[.v (.c .dead),.v (.c .dead),.v (.c (.own 0)),.v (.c .dead),.v (.c .dead),.v (.c .dead),.v (.c .dead),.v (.c .dead)],[(0,.row 5 [])],[],16⟩,mX.le (ι:=[]) (Z:=[0]) rfl ?_,trivial,rfl,λn b h=>h⟩;have c:X.k0=0:=a;rw[c,f];exact{
   bt:=rfl,old:=by simp[Ren.old],new:=by simp[Ren.new],zs:=λn d=>by
    simp at d;subst d;exact⟨by simp[Ren.new],gk _,by simp,5,rfl,dZ kr⟩
   lt:=λx i=>by simp at i
   k0:=gk _
   tmps:=by
    refine⟨trivial,trivial,?_,trivial,trivial,trivial,trivial,trivial,trivial⟩;exact fO.2 rfl
   heap:=λn b h=>.inl (by
    simp only[hX,nR]at h;split at h
    .rename_i d;simp at d;subst d;simp
    .cases h)}
 .subst h;refine Dc ?_;have j:gu (NL.a6 [.r rows])=some [.r rows]:=by
   simp[NL,a8.a6,Nd.ev,At.ev,L.bm,gu];rw[bF ⟨om,om,rfl,hR⟩];rfl
  refine lB (IN gf .nil zv rfl ans (ls:=[.r rows]) (os:=[.r rows]) rfl j f a) λe st h=>⟨st,λ_ _ h=>h,h⟩
def qH:List L->Option (List L):=λls=>match ls with
 |[.r rows]=>if cf 1 rows=true/\rows.length*1<=140737488355328 then some []else none
 |_=>none
def FF:bB:=⟨196,[.c (.p .sl U0)],[],1,0,.v (.c (.own 0)),[(0,.row 5 U0)],qH,2010⟩
theorem agI:FF.ok Tryz.prog:=by
 intro ls os d a c;have a:qH ls=some os:=a;unfold qH at a;split at a
 .split at a
  .rename_i b;cases a;exact anl _ b.1 b.2
  .cases a
 .cases a
instance:Ok FF:=⟨agI⟩
def amE(b:Bool):bp:=⟨[.v (.c (.p .sl (.v 0))),.bq [],.v (.c .nil),.v (.c (.p .sl (.v 0))),.v (.c (.p .bool (.b b))),.bq [],.bq [],.bq []],[],[],8,1⟩
def afG:Code:=(Code.region 3 #[{dst:=some 5,op:=Op.buildSlice 71 0 #[],type:=71,pos:= "bytes.go:1395",after:= #[],guard:=none},{dst:=some 6,op:=Op.move (Operand.tmp 0),type:=71,pos:= "bytes.go:1395",after:= #[],guard:=none},{dst:=some 7,op:=Op.call {callee:=Callee.builtin Builtin.append,args:= #[Operand.tmp 5,Operand.tmp 6],argTypes:= #[71,71]},type:=71,pos:= "bytes.go:1395",after:= #[{on:=0,ground:=Ground.data},{on:=1,ground:=Ground.data}],guard:=none},{dst:=some 2,op:=Op.assign (Operand.tmp 7),type:=71,pos:= "bytes.go:1395",after:=#[{on:=2,ground:=Ground.data},{on:=2,ground:=Ground.chain},{on:=0,ground:=Ground.phase},{on:=1,ground:=Ground.phase},{on:=2,ground:=Ground.phase}],guard:=none}] false).seq Code.ret
def IV:a8:=.op (.lit []) (.op (.app (.v 1) (.v 0) 1 1) (.br (.jump 0 [(.v 2)])))
theorem akH:zx TT [] afG 0 [.tmp 2] (amE false)=some ⟨IV,(.v (.c (.own 0))),[(0,(.row 5 (.v 1)))],1⟩:=kr
theorem atU(rows)(hR:cf 1 rows=true)(k:rows.length*1<=140737488355328):
 fg Tryz.prog 150 [.c (.p (.sl rows))] [] (.v (.c (.own 0))) [(0,.row 5 rows)]:=by
 refine fg.intro Tryz.func150 kr rfl rfl rfl λX f a=>uw ?_
 refine gg ?_;refine te (Sp:=λ_=>none) rfl rfl ?_;refine gg ?_;refine gg ?_;refine H_ (rows:=rows) (e:=5) rfl (by show 3<8;decide) (by rw[f];exact Tryz.underlying71) ?_;intro b g;refine tp (t:=b) rfl (λh=>?_) (λh=>?_)
 .subst h;cases g rfl;refine gg (te (Sp:=λ_=>none) rfl rfl (tB ?_));refine⟨⟨[.v (.c .dead),.v (.c .dead),.v (.c (.own 0)),.v (.c .dead),.v (.c .dead),.v (.c .dead),.v (.c .dead),.v (.c .dead)],[(0,.row 5 [])],[],16⟩,mX.le (ι:=[]) (Z:=[0]) rfl ?_,trivial,rfl,λn b h=>h⟩;have c:X.k0=0:=a;rw[c,f];exact{
   bt:=rfl,old:=by simp[Ren.old],new:=by simp[Ren.new],zs:=λn d=>by
    simp at d;subst d;exact⟨by simp[Ren.new],gk _,by simp,5,rfl,dZ kr⟩
   lt:=λx i=>by simp at i
   k0:=gk _
   tmps:=by
    refine⟨trivial,trivial,?_,trivial,trivial,trivial,trivial,trivial,trivial⟩;exact fO.2 rfl
   heap:=λn b h=>.inl (by
    simp only[hX,nR]at h;split at h
    .rename_i d;simp at d;subst d;simp
    .cases h)}
 .subst h;refine Dc ?_;have j:gu (IV.a6 [.r rows])=some [.r rows]:=by
   simp[IV,a8.a6,Nd.ev,At.ev,L.bm,gu];rw[bF ⟨om,om,rfl,hR⟩];rfl
  refine lB (IN gf .nil zv rfl akH (ls:=[.r rows]) (os:=[.r rows]) rfl j f a) λe st h=>⟨st,λ_ _ h=>h,h⟩
def vu:List L->Option (List L):=λls=>match ls with
 |[.r rows]=>if cf 1 rows=true/\rows.length*1<=140737488355328 then some []else none
 |_=>none
def Gj:bB:=⟨150,[.c (.p .sl U0)],[],1,0,.v (.c (.own 0)),[(0,.row 5 U0)],vu,2011⟩
theorem aia:Gj.ok Tryz.prog:=by
 intro ls os d a c;have a:vu ls=some os:=a;unfold vu at a;split at a
 .split at a
  .rename_i b;cases a;exact atU _ b.1 b.2
  .cases a
 .cases a
instance:Ok Gj:=⟨aia⟩
end
section
attribute [local irreducible] Fo
open Go.RowKit
def ato:a8:=.op (.f_ (.i 6) [(.bool,(.b false))] 1)<|.join (.loop [.i 0,bM] (.bI .lss bL (.i 6)<|.ite bR (.join (.join (.rw bJ bL 1<|.cl bW 0 .bool<|.ite bX (.rw bD bL 1<|.cl b9 0 .sl<|.ln cu<|.cA 28 MR [U3] 1<|.bI .eql cq cv<|.rw bV bL 1<|.op (.set bV bL 0 [(.bool,cX)])<|.j [cK]) (.rw bV bL 1<|.op (.set bV bL 0 [(.bool,(.b false))])<|.j [cu])) (.loop [.i 0,bW] (.ln bH<|.bI .lss bX cu<|.ite cq (.join (.rw b9 bL 1<|.op (.rc b9 bL 0 .bool)<|.ite cX (.rw bH bX 1<|.cl cG 0 (.int .i64)<|.bI .neq cK bL<|.rw b9 bL 1<|.op (.set b9 bL 0 [(.bool,c9)])<|.j [dI]) (.rw b9 bL 1<|.op (.set b9 bL 0 [(.bool,(.b false))])<|.j [cK])) (.bI .add bX (.i 1)<|.j [cX,cv])) (.br (.jump 1 [b9]))))) (.bI .add bL (.i 1)<|.j [bX,bW])) (.br (.jump 1 [bV])))) (.j [bL])
def Mx:=Fo ato
def VW:bB:=⟨215,[.agg (de 0 4++[.p (.int .u32) U4,.p (.int .u32) U5,.p (.int .u32) U6,.p (.int .u32) U7,.p (.int .u32) U8,.p (.int .u32) U9,ps 10]),cs 11,cs 12,cs 13],[],14,1,.v (.c (.own 0)),[(0,(.row 4 bM))],Mx,349⟩
instance:Ok VW:=oS [WT]
def avU:a8:=.ln U1<|.bI .gtr U3 (.i 1048576)<|.ite U4 (.j [.b false]) (.join (.ln U2<|.loop [U3,.i 0] (.bI .lss U7 U5<|.ite U8 (.rw U2 U7 3<|.cl U9 0 (.int .i64)<|.cl U9 1 .sl<|.cl U9 2 .bool<|.join (.bI .lss bA (.i 0)<|.ite bH (.j [.b true]) (.bI .gtr bA (.i 1048576)<|.ite bM (.j [.b true]) (.ite bJ (.ln bD<|.bI .gtr bL (.i 0)<|.j [bV]) (.j [.b false])))) (.ite bH (.br (.jump 2 [.b false])) (.cA 320 yf [bA,bD,bJ,U6] 1<|.bI .gtr bM (.i 1048576)<|.ite bL (.br (.jump 2 [.b false])) (.bI .add U7 (.i 1)<|.j [bM,bV])))) (.br (.jump 1 [])))) (.j [.b true]))
def B4:=Fo avU
def Ky:bB:=⟨201,[.agg [.p .str U0,ps 1,ps 2]],[],3,1,.v (.c (.p .bool U3)),[],B4,350⟩
instance:Ok Ky:=oS [Dz]
def apx:a8:=.join (.bI .lss U0 (.i 0)<|.ite U3 (.j [.b true]) (.bI .lss U1 (.i (-1))<|.ite U4 (.j [.b true]) (.ln U2<|.bI .gtr U5 (.i 256)<|.j [U6]))) (.ite U3 (.j [.b false]) (.join (.ln U2<|.loop [.i 0] (.bI .lss U5 U4<|.ite U6 (.rw U2 U5 3<|.cl U7 0 .str<|.cl U7 1 .sl<|.cl U7 2 .sl<|.join (.cA 321 Eo [U8] 1<|.no bD<|.ite bJ (.j [.b true]) (.cA 350 B4 [U8,U9,bA] 1<|.no bH<|.ite bM (.j [.b true]) (.bI .gtr U5 (.i 0)<|.ite bL (.bI .sub U5 (.i 1)<|.rw U2 bV 3<|.cl bR 0 .str<|.op (.bs .leq U8 bW)<|.j [bX]) (.j [.b false])))) (.ite bD (.br (.jump 2 [.b false])) (.bI .add U5 (.i 1)<|.j [bJ]))) (.br (.jump 1 [])))) (.j [.b true])))
def L5:=Fo apx
def Ri:bB:=⟨197,[.agg [pi 0,pi 1,ps 2]],[],3,1,.v (.c (.p .bool U3)),[],L5,351⟩
instance:Ok Ri:=oS [Ky,KL]
def aiF:a8:=.join (.loop [.i 0,.r0] (.ln U0<|.bI .lss U1 U3<|.ite U4 (.ln U0<|.bI .sub U5 U1<|.bI .lss U6 (.i 24)<|.ite U7 (.br (.jump 2 [.i 4,.r0])) (.bI .add U1 (.i 24)<|.ln U0<|.op (.part U0 U1 U8 1)<|.ln bA<|.op (.part bA (.i 0) (.i 20) 1)<|.cA 41 wO [bJ] 1<|.op (.str bH)<|.ln bA<|.op (.part bA (.i 20) bL 1)<|.op (.str bV)<|.op (.bs .neq bM bR)<|.ite bW (.br (.jump 2 [.i 5,.r0])) (.ln bA<|.op (.part bA (.i 0) (.i 8) 1)<|.cA 40 F40 [b9] 1<|.ln bA<|.op (.part bA (.i 8) (.i 12) 1)<|.cA 40 F40 [cv] 1<|.op (.conv .u32 cX)<|.ln bA<|.op (.part bA (.i 12) (.i 16) 1)<|.cA 40 F40 [c9] 1<|.op (.conv .i64 dJ)<|.ln bA<|.op (.part bA (.i 16) (.i 20) 1)<|.cA 40 F40 [fm] 1<|.op (.conv .i64 e_)<|.op (.lit [[((.int .u64),cu),((.int .u32),cG),((.int .i64),dI),((.int .i64),eH)]])<|.op (.app U2 gG 4 32)<|.bI .add U1 (.i 24)<|.j [mb,fv]))) (.br (.jump 1 [U2])))) (.cA 48 sG [U1] 1<|.no U2<|.ite U3 (.j [.i 3,.r0]) (.j [.i 0,U1]))
def Kz:=Fo aiF
def TH:bB:=⟨165,[cs 0],[],1,2,.bq [.c (.own 0),ci 1],[(0,(.row 25 U2))],Kz,352⟩
instance:Ok TH:=oS [wB,ox,yQ]
def LN:=mS [FD] 152 [cs 0] [] 1 1 (.v (.c (.own 0))) [(0,(.row 5 U1))] 353
def aaE:=LN.F
instance:Ok LN:=oM
def Kl:a8:=.join (.ln U0<|.loop [.i 0] (.bI .lss U9 U8<|.ite bA (.rw U0 U9 14<|.cl bD 0 (.int .i64)<|.cl bD 1 (.int .i64)<|.cl bD 2 (.int .i64)<|.cl bD 3 (.int .i64)<|.cl bD 4 .sl<|.cl bD 5 .sl<|.cl bD 6 .sl<|.cl bD 7 .sl<|.cl bD 8 .sl<|.cl bD 9 .sl<|.cl bD 10 .sl<|.cl bD 11 .sl<|.cl bD 12 (.int .i64)<|.cl bD 13 (.int .i64)<|.cA 360 NU [bJ,bH,bM,bL,bV,bR,bW,bX,b9,cu,cq,cv,cX,cG,U1,U2,U3,U4,U5,U6,U7] 1<|.ite cK (.br (.jump 2 [U9])) (.bI .add U9 (.i 1)<|.j [c9])) (.br (.jump 1 [])))) (.j [.i (-1)])
def OE:=Fo Kl
def aai:bB:=⟨86,[cs 0,.c (.fn 87 [0])],[.box [pi 1,pi 2,pi 3,.p (.int .u64) U4,.p (.int .u32) U5,pi 6,pi 7]],8,1,.v (ci 8),[(0,(.box [pi 1,pi 2,pi 3,.p (.int .u64) U4,.p (.int .u32) U5,pi 6,pi 7]))],OE,361⟩
instance:Ok aai:=oS [aaM]
def agq:a8:=.cA 350 B4 [U0,U1,U2] 1<|.no U3<|.ite U4 (.j [.r0]) (.cA 2011 vu [U1] 0<|.join (.ln U2<|.loop [.i 0,U1] (.bI .lss U6 U5<|.ite U8 (.rw U2 U6 3<|.cl U9 0 (.int .i64)<|.cl U9 1 .sl<|.cl U9 2 .bool<|.cA 358 LR [bA,bD,bJ,U7] 1<|.bI .add U6 (.i 1)<|.j [bM,bH]) (.br (.jump 1 [U7])))) (.cA 319 HI [U5] 1<|.j [U6]))
def JN:=Fo agq
def abW:bB:=⟨149,[.agg [.p .str U0,ps 1,ps 2]],[],3,1,.v (cs 3),[],JN,362⟩
instance:Ok abW:=oS [Yy,Ky,Rj,Gj]
def ahw:a8:=.ln U0<|.bI .lss U1 (.i 20)<|.ite U2 (.j [.i 0,.i 4,.i 0,.i 0,.b false,.r0]) (.ln U0<|.op (.part U0 (.i 16) (.i 20) 1)<|.cA 322 DF [U4] 1<|.join (.rw U0 (.i 0) 1<|.cl U6 0 (.int .u8)<|.op (.bi .neq .u8 U7 (.i 78))<|.ite U8 (.j [.b true]) (.rw U0 (.i 1) 1<|.cl U9 0 (.int .u8)<|.op (.bi .neq .u8 bA (.i 165))<|.ite bD (.j [.b true]) (.rw U0 (.i 2) 1<|.cl bJ 0 (.int .u8)<|.op (.bi .gtr .u8 bH (.i 1))<|.ite bM (.j [.b true]) (.rw U0 (.i 3) 1<|.cl bL 0 (.int .u8)<|.op (.bi .neq .u8 bV (.i 0))<|.ite bR (.j [.b true]) (.op (.bi .gtr .u64 U5 (.i 4096))<|.ite bW (.j [.b true]) (.rw U0 (.i 2) 1<|.cl bX 0 (.int .u8)<|.op (.bi .eql .u8 b9 (.i 1))<|.ite cu (.op (.bi .gtr .u64 U5 (.i 0))<|.j [cq]) (.j [.b false]))))))) (.ite U6 (.j [.i 0,.i 3,.i 0,.i 0,.b false,.r0]) (.op (.conv .i64 U5)<|.cA 5 F5 [U7] 1<|.op (.conv .i64 U5)<|.bI .add (.i 20) U9<|.ln U0<|.bI .lss bD U8<|.ite bJ (.j [.i 0,.i 4,.i 0,.i 0,.b false,.r0]) (.ln U0<|.op (.part U0 (.i 0) bA 1)<|.cA 327 E4 [bM] 1<|.op (.conv .u64 bL)<|.cA 357 Of [bV,.i 4] 1<|.bI .add bA (.i 4)<|.ln U0<|.op (.part U0 bA bW 1)<|.cA 334 Ar [bR,b9] 1<|.no cu<|.ite cq (.j [.i 0,.i 5,.i 0,.i 0,.b false,.r0]) (.join (.bI .add bA (.i 4)<|.ln U0<|.op (.part U0 cv U8 1)<|.ln cG<|.loop [.i 0] (.bI .lss c9 cK<|.ite dJ (.rw cG c9 1<|.cl dI 0 (.int .u8)<|.op (.bi .neq .u8 eo (.i 0))<|.ite fm (.br (.jump 2 [.i 0,.i 3,.i 0,.i 0,.b false,.r0])) (.bI .add c9 (.i 1)<|.j [e_])) (.br (.jump 1 [])))) (.ln U0<|.op (.part U0 (.i 8) (.i 16) 1)<|.cA 322 DF [cX] 1<|.ln U0<|.op (.part U0 (.i 4) (.i 8) 1)<|.cA 322 DF [c9] 1<|.op (.conv .u32 dJ)<|.rw U0 (.i 2) 1<|.cl eo 0 (.int .u8)<|.op (.bi .eql .u8 fm (.i 1))<|.ln U0<|.op (.part U0 (.i 20) bA 1)<|.cA 2010 qH [gG] 0<|.j [U8,.i 0,cG,dI,e_,gG]))))))
def BW:=Fo ahw
def NR:bB:=⟨144,[cs 0],[],1,6,.bq [.agg [.p (.int .u64) U3,.p (.int .u32) U4,.p .bool U5,.own 0],ci 1,ci 2],[(0,(.row 5 U6))],BW,363⟩
instance:Ok NR:=oS [QR,s5,C_,FD,Ma,FF]
def K9:a8:=.ln U0<|.cA 88 La [U2,U0,U1] 1<|.join (.ln U0<|.bI .lss U3 U4<|.ite U5 (.rw U0 U3 4<|.cl U6 0 (.int .u64)<|.op (.bi .eql .u64 U7 U1)<|.j [U8]) (.j [.b false])) (.j [U3,U4])
def LX:=Fo K9
def Rh:bB:=⟨219,[cs 0,.c (.p (.int .u64) U1)],[],2,2,.bq [ci 2,.c (.p .bool U3)],[],LX,90⟩
instance:Ok Rh:=oS [ZD]
def Vz:a8:=.join (.cA 9 F9 [U0] 1<|.ite U1 (.cA 87 H7 [U0] 1<|.no U2<|.j [U3]) (.j [.b false])) (.j [U1])
def EX:=Fo Vz
def DT:bB:=⟨154,[cs 0],[],1,1,.v (.c (.p .bool U1)),[],EX,91⟩
instance:Ok DT:=oS [Es,Dm,s9]
def V_:a8:=.join (.loop [.i 0,.i 0] (.bI .lss bD (.i 8)<|.ite bJ (.join (.op (.ed bD 8)<|.op (.fw [U0,U1,U2,U3,U4,U5,U6,U7] bD)<|.cA 91 EX [bH] 1<|.no bM<|.ite bL (.br (.jump 3 [.b false])) (.ln bH<|.loop [bA,.i 0] (.bI .lss bW bV<|.ite bX (.rw bH bW 4<|.cl b9 0 (.int .u64)<|.cl b9 1 (.int .u32)<|.cl b9 2 (.int .i64)<|.cl b9 3 (.int .i64)<|.cA 12 Oc [cu] 1<|.bI .neq cG bD<|.ite cK (.br (.jump 4 [.b false])) (.cA 11 Iw [cu,cq,cv,cX] 1<|.bI .add bR c9<|.bI .add bW (.i 1)<|.j [dJ,dI])) (.br (.jump 1 [bR]))))) (.bI .add bD (.i 1)<|.j [bH,bM])) (.br (.jump 1 [bA])))) (.join (.bI .eql U8 bA<|.ite bD (.bI .geq U9 (.i 0)<|.ite bJ (.bI .leq U9 (.i 1099511627776)<|.j [bH]) (.j [.b false])) (.j [.b false])) (.j [bD]))
def xU:=Fo V_
def vA:bB:=⟨141,[.agg (eT 0 8++[pi 8,pi 9])],[],10,1,.v (.c (.p .bool bA)),[],xU,92⟩
instance:Ok vA:=oS [DT,Ds,DC]
def aks:a8:=.cA 371 vx [U0,U1] 2<|.j [U2,U3]
def JT:=Fo aks
def R5:bB:=⟨232,[cs 0,.c (.p .str U1),.c (.fn 233 [])],[],2,2,.bq [ci 2,.c (.p .bool U3)],[],JT,372⟩
instance:Ok R5:=oS [S9]
def agC:a8:=.cA 372 JT [U2,U3] 2<|.j [U4,U5]
def zr:=Fo agC
def Qs:bB:=⟨199,[.agg [pi 0,pi 1,ps 2],.c (.p .str U3)],[],4,2,.bq [ci 4,.c (.p .bool U5)],[],zr,373⟩
instance:Ok Qs:=oS [R5]
def Yc:a8:=.join (.cA 351 L5 [U0,U1,U2] 1<|.no U4<|.ite U5 (.j [.b true]) (.cA 321 Eo [U3] 1<|.no U6<|.j [U7])) (.ite U4 (.j [.i 0,.i 1]) (.bI .eql U1 (.i 0)<|.ite U5 (.j [.i 0,.i 13]) (.cA 373 zr [U0,U1,U2,U3] 2<|.no U7<|.ite U8 (.j [.i 0,.i 6]) (.j [U6,.i 0]))))
def zQ:=Fo Yc
def Ob:bB:=⟨147,[.agg [pi 0,pi 1,ps 2],.c (.p .str U3)],[],4,2,.bq [ci 4,ci 5],[],zQ,374⟩
instance:Ok Ob:=oS [Qs,Ri,KL]
def afo:a8:=.join (.loop [U0,.r0] (.ln U1<|.bI .gtr U3 (.i 0)<|.ite U4 (.ln U1<|.bI .lss U5 (.i 24)<|.ite U6 (.br (.jump 2 [.i 4,.r0])) (.ln U1<|.op (.part U1 (.i 0) (.i 20) 1)<|.cA 353 aaE [U8] 1<|.ln U1<|.op (.part U1 (.i 20) (.i 24) 1)<|.cA 334 Ar [U9,bD] 1<|.no bJ<|.ite bH (.br (.jump 2 [.i 5,.r0])) (.ln U1<|.op (.part U1 (.i 0) (.i 8) 1)<|.cA 326 vX [bL] 1<|.ln U1<|.op (.part U1 (.i 8) (.i 12) 1)<|.cA 326 vX [bW] 1<|.op (.conv .u32 bX)<|.ln U1<|.op (.part U1 (.i 12) (.i 16) 1)<|.cA 326 vX [cq] 1<|.op (.conv .i64 cv)<|.ln U1<|.op (.part U1 (.i 16) (.i 20) 1)<|.cA 326 vX [cK] 1<|.op (.conv .i64 c9)<|.op (.lit [[((.int .u64),bV),((.int .u32),b9),((.int .i64),cX),((.int .i64),dJ)]])<|.op (.app U2 dI 4 32)<|.ln U1<|.op (.part U1 (.i 24) fm 1)<|.j [e_,eo]))) (.br (.jump 1 [U2])))) (.cA 370 Jp [U1] 1<|.no U2<|.ite U3 (.j [.i 3,.r0]) (.j [.i 0,U1]))
def L0:=Fo afo
def Ub:bB:=⟨98,[cs 0],[],1,2,.bq [.c (.own 0),ci 1],[(0,(.row 25 U2))],L0,375⟩
instance:Ok Ub:=oS [IU,DT,LN,C_,WQ]
def atO:a8:=.cA 374 zQ [U0,U1,U2,U3] 2<|.bI .neq U7 (.i 0)<|.ite U8 (.j [U7,.r0]) (.rw U2 U6 3<|.cl U9 0 .str<|.cl U9 1 .sl<|.cl U9 2 .sl<|.cA 362 JN [bA,bD,bJ] 1<|.ln bH<|.join (.bI .lss U4 (.i 0)<|.ite bL (.j [.b true]) (.bI .lss U5 (.i 0)<|.ite bV (.j [.b true]) (.bI .gtr U4 bM<|.ite bR (.j [.b true]) (.bI .sub bM U4<|.bI .gtr U5 bW<|.j [bX])))) (.ite bL (.j [.i 2,.r0]) (.bI .add U4 U5<|.ln bH<|.op (.part bH U4 bV 1)<|.cA 2011 vu [bW] 0<|.j [.i 0,bW])))
def p7:=Fo atO
def ME:bB:=⟨94,[.agg [pi 0,pi 1,ps 2],.c (.p .str U3),ci 4,ci 5],[],6,2,.bq [.c (.own 0),ci 6],[(0,(.row 5 U7))],p7,376⟩
instance:Ok ME:=oS [Ob,abW,Gj]
def ahU:a8:=.cA 374 zQ [U0,U1,U2,U3] 2<|.bI .neq U5 (.i 0)<|.ite U6 (.j [.i 0,U5]) (.rw U2 U4 3<|.cl U7 0 .str<|.cl U7 1 .sl<|.cl U7 2 .sl<|.cA 328 Mm [U8,U9,bA] 1<|.j [bD,.i 0])
def B':=Fo ahU
def Ya:bB:=⟨93,[.agg [pi 0,pi 1,ps 2],.c (.p .str U3)],[],4,2,.bq [ci 4,ci 5],[],B',377⟩
instance:Ok Ya:=oS [Ob,TN]
def akt:a8:=.cA 337 FE [.i 1,U3,U4] 1<|.cA 5 F5 [U8] 1<|.cA 376 p7 [U0,U1,U2,U9,U7,bA] 2<|.op (.call 363 BW [bJ] 6 [5])<|.join (.bI .eql bM (.i 0)<|.ite bX (.no bR<|.ite b9 (.op (.bi .eql .u64 bL U5)<|.ite cu (.op (.bi .eql .u32 bV U6)<|.ite cq (.ln bW<|.bI .eql cv U8<|.j [cX]) (.j [.b false])) (.j [.b false])) (.j [.b false])) (.j [.b false])) (.j [bX,bL,bV,bR,bW])
def KT:=Fo akt
def Qr:bB:=⟨88,[.agg [pi 0,pi 1,ps 2],ci 3,ci 4,.agg [.p (.int .u64) U5,.p (.int .u32) U6,pi 7,pi 8]],[],9,5,.bq [.agg [.p (.int .u64) bA,.p (.int .u32) bD,.p .bool bJ,.own 0],.c (.p .bool U9)],[(0,(.row 5 bH))],KT,378⟩
instance:Ok Qr:=oS [ME,NR,s5,Mc]
def adZ:a8:=.cA 377 B' [U0,U1,U2,U3] 2<|.bI .neq U5 (.i 0)<|.ite U6 (.j [.b false,.r0]) (.cA 376 p7 [U0,U1,U2,U3,.i 0,U4] 2<|.bI .eql U7 (.i 0)<|.j [U9,U8])
def ud:=Fo adZ
def TP:bB:=⟨50,[.agg [pi 0,pi 1,ps 2],.c (.p .str U3)],[],4,2,.bq [.c (.own 0),.c (.p .bool U4)],[(0,(.row 5 U5))],ud,379⟩
instance:Ok TP:=oS [Ya,ME]
def NG:=mS [qP] 220 [.agg [pi 0,pi 1,ps 2]] [] 3 1 (.v (ci 3)) [] 108
def F108:=NG.F
instance:Ok NG:=oM
def NY:=mS [HO,yI,vY,Mr,G8] 65 [cs 0,.agg [pi 1,pi 2,pi 3],cs 4] [] 5 13 (.bq [.c (.own 0),.agg (de 7 4++[.p (.int .u32) bD,.p (.int .u32) bJ,.p (.int .u32) bH,.p (.int .u32) bM,.p (.int .u32) bL,.p (.int .u32) bV,.own 1]),ci 5]) [(0,(.row 71 U6)),(1,(.row 25 bR))] 126
def avF:=NY.F
instance:Ok NY:=oM
def anm:a8:=.op (.call 110 p8 (w 0 4) 2 [])<|.bI .neq U7 (.i 0)<|.ite U8 (.j [.r0,U7]) (.rw U2 U6 3<|.cl U9 0 .str<|.cl U9 1 .sl<|.cl U9 2 .sl<|.cA 97 oK [bA,bD,bJ] 1<|.join (.bI .lss U4 (.i 0)<|.ite bM (.j [.b true]) (.bI .lss U5 (.i 0)<|.ite bL (.j [.b true]) (.ln bH<|.bI .gtr U4 bV<|.ite bR (.j [.b true]) (.ln bH<|.bI .sub bW U4<|.bI .gtr U5 bX<|.j [b9])))) (.ite bM (.j [.r0,.i 2]) (.bI .add U4 U5<|.ln bH<|.op (.cut bH U4 bL 1)<|.op (.vw bH U4 bR)<|.j [bW,.i 0])))
def nZ:=Fo anm
def Lu:bB:=⟨123,[.agg [pi 0,pi 1,ps 2],.c (.p .str U3),ci 4,ci 5],[],6,2,.bq [cs 6,ci 7],[],nZ,127⟩
instance:Ok Lu:=oS [sW,qP]
def amR:a8:=.op (.call 110 p8 (w 0 4) 2 [])<|.bI .neq U5 (.i 0)<|.ite U6 (.j [.i 0,U5]) (.rw U2 U4 3<|.cl U7 0 .str<|.cl U7 1 .sl<|.cl U7 2 .sl<|.cA 97 oK [U8,U9,bA] 1<|.ln bD<|.j [bJ,.i 0])
def z_:=Fo amR
def Sk:bB:=⟨122,[.agg [pi 0,pi 1,ps 2],.c (.p .str U3)],[],4,2,.bq [ci 4,ci 5],[],z_,128⟩
instance:Ok Sk:=oS [sW,qP]
def J_:=mS [sW,yn] 25 [.agg [pi 0,pi 1,ps 2],.c (.p .str U3)] [] 4 4 (.bq [.agg [pi 5,pi 6,.own 0],ci 4]) [(0,(.row 109 U7))] 129
def aoy:=J_.F
instance:Ok J_:=oM
def VS:a8:=.cA 110 p8 [U0,U1,U2,U3] 2<|.bI .neq U5 (.i 0)<|.ite U6 (.j [U5,.i 0,.i 0,.r0]) (.cA 31 rf [U0,U1,U2] 2<|.rw U8 U4 3<|.op (.rc U8 U4 0 .str)<|.op (.rc U8 U4 1 .sl)<|.op (.rc U8 U4 2 .sl)<|.cA 97 oK [bA,bD,bJ] 1<|.rw U8 U4 3<|.op (.set U8 U4 0 [(.str,U3),(.sl,bH),(.sl,.r0)])<|.j [.i 0,U0,U7,bL])
def uG:=Fo VS
def KN:bB:=⟨120,[.agg [pi 0,pi 1,ps 2],.c (.p .str U3)],[],4,4,.bq [.agg [pi 5,pi 6,.own 0],ci 4],[(0,(.row 109 U7))],uG,130⟩
instance:Ok KN:=oS [sW,qP,yn]
def T8:a8:=.rw U2 U3 3<|.cl U7 0 .str<|.cl U7 1 .sl<|.cl U7 2 .sl<|.cA 97 oK [U8,U9,bA] 1<|.ln bD<|.ln U5<|.bI .add U4 bH<|.bI .gtr bM (.i 1048576)<|.ite bL (.j [.i 9,.i 0,.i 0,.r0]) (.op (.lit [])<|.op (.app bV U5 1 1)<|.op (.lit [])<|.op (.app bW bA 3 40)<|.op (.lit [[((.int .i64),U4),(.sl,bR),(.bool,U6)]])<|.op (.app bX b9 3 40)<|.op (.call 97 oK [U8,U9,cu] 1 [0])<|.ln cq<|.bI .sub cv bJ<|.join (.bI .gtr U0 (.i 0)<|.ite cG (.bI .gtr cX (.i 0)<|.ite cK (.cA 108 F108 [U0,U1,U2] 1<|.bI .add c9 cX<|.bI .gtr dJ U0<|.j [dI]) (.j [.b false])) (.j [.b false])) (.ite cG (.j [.i 9,.i 0,.i 0,.r0]) (.cA 31 rf [U0,U1,U2] 2<|.rw c9 U3 3<|.op (.set c9 U3 0 [(.str,U8),(.sl,U9),(.sl,cu)])<|.j [.i 0,U0,cK,dI])))
def CW:=Fo T8
def IX:bB:=⟨173,[.agg [pi 0,pi 1,ps 2],ci 3,.agg [pi 4,ps 5,.p .bool U6]],[],7,4,.bq [.agg [pi 8,pi 9,.own 0],ci 7],[(0,(.row 109 bA))],CW,131⟩
instance:Ok IX:=oS [NG,qP,yn]
def atm:a8:=.join (.ln U0<|.bI .neq U2 (.i 6)<|.ite U3 (.j [.b true]) (.ln U1<|.bI .neq U4 (.i 6)<|.j [U5])) (.ite U2 (.j [.i 1,.r0]) (.join (.loop [.i 0,.r0,.r0] (.bI .lss U3 (.i 6)<|.ite U6 (.join (.rw U1 U3 1<|.op (.rc U1 U3 0 .bool)<|.no U8<|.ite U9 (.j [U4,U5]) (.join (.ln U5<|.bI .gtr bA (.i 0)<|.ite bD (.rw U0 U3 1<|.cl bJ 0 .sl<|.ln bH<|.rw U5 (.i 0) 1<|.op (.rc U5 (.i 0) 0 .sl)<|.ln bV<|.bI .neq bM bR<|.j [bW]) (.j [.b false])) (.ite bA (.br (.jump 3 [.i 1,.r0])) (.op (.lit [[((.int .i64),U3)]])<|.op (.app U4 bD 1 8)<|.rw U0 U3 1<|.cl bH 0 .sl<|.op (.lit [[(.sl,bM)]])<|.op (.app U5 bL 1 24)<|.j [bJ,bV])))) (.bI .add U3 (.i 1)<|.j [U9,U7,U8])) (.br (.jump 1 [U4,U5])))) (.ln U3<|.bI .lss U5 (.i 4)<|.ite U6 (.j [.i 11,.r0]) (.cA 94 vB [] 3<|.ln U3<|.op (.cut U3 (.i 0) (.i 4) 1)<|.cA 366 IG [U7,U8,U9,U3,.i 0,bD] 4<|.op (.call 93 EP [bH,bM,bL] 3 [2])<|.ln U4<|.op (.cut U4 (.i 0) (.i 4) 1)<|.cA 381 M7 [bR,bR,bW,U4,.i 0,b9] 2<|.cA 105 F105 [cq] 1<|.j [.i 0,cv]))))
def As:=Fo atm
def XG:bB:=⟨217,[cs 0,.c (.own 0)],[.row 4 U1],2,2,.bq [.c (.own 1),ci 2],[(1,(.row 71 U3)),(0,(.row 4 U1))],As,390⟩
instance:Ok XG:=oS [abx,abR,Nu,OI,LF,MX,Lq]
def UZ:a8:=.loop [.i 0,U0] (.bI .lss U4 U3<|.ite U6 (.bI .add U1 U4<|.bI .add U2 U4<|.bI .add U2 U4<|.rw U5 U9 4<|.op (.rc U5 U9 0 (.int .u64))<|.op (.rc U5 U9 1 (.int .u32))<|.op (.rc U5 U9 2 (.int .i64))<|.op (.rc U5 U9 3 (.int .i64))<|.bI .add U1 U4<|.rw U5 bL 4<|.op (.rc U5 bL 0 (.int .u64))<|.op (.rc U5 bL 1 (.int .u32))<|.op (.rc U5 bL 2 (.int .i64))<|.op (.rc U5 bL 3 (.int .i64))<|.rw U5 U7 4<|.op (.set U5 U7 0 [((.int .u64),bD),((.int .u32),bJ),((.int .i64),bH),((.int .i64),bM)])<|.rw cq U8 4<|.op (.set cq U8 0 [((.int .u64),bR),((.int .u32),bW),((.int .i64),bX),((.int .i64),b9)])<|.bI .add U4 (.i 1)<|.j [cG,cX]) (.br (.jump 1 [U5])))
def y_:=Fo UZ
def abM:bB:=⟨334,[.c (.own 0),ci 1,ci 2,ci 3,.c (.fn 248 [])],[.row 25 U0],4,1,.bq [],[(0,(.row 25 U4))],y_,506⟩
instance:Ok abM:=oS []
def Db:a8:=.cA 110 p8 [U0,U1,U2,U3] 2<|.bI .neq U6 (.i 0)<|.ite U7 (.j [U6,.i 0,.i 0,.r0]) (.rw U2 U5 3<|.cl U8 0 .str<|.cl U8 1 .sl<|.cl U8 2 .sl<|.cA 97 oK [U9,bA,bD] 1<|.ln bJ<|.cA 131 CW [U0,U1,U2,U5,bH,U4,.b false] 4<|.j [bM,bL,bV,bR])
def F2:=Fo Db
def OS:bB:=⟨119,[.agg [pi 0,pi 1,ps 2],.c (.p .str U3),.c (.own 0)],[.row 5 U4],5,4,.bq [.agg [pi 6,pi 7,.own 1],ci 5],[(1,(.row 109 U8))],F2,135⟩
instance:Ok OS:=oS [IX,sW,qP]
def Si:a8:=.bI .sub U2 U1<|.bI .sub U3 U2<|.join (.loop [U4,U5,U0] (.bI .neq U6 U7<|.ite U9 (.bI .gtr U6 U7<|.ite bA (.bI .sub U2 U6<|.cA 506 y_ [U8,bD,U2,U7] 1<|.bI .sub U6 U7<|.j [bH,U7,bJ]) (.bI .sub U2 U6<|.bI .add U2 U7<|.bI .sub bJ U6<|.cA 506 y_ [U8,bD,bH,U6] 1<|.bI .sub U7 U6<|.j [U6,bL,bM])) (.br (.jump 1 [U6,U8])))) (.bI .sub U2 U6<|.cA 506 y_ [U7,U8,U2,U6] 1<|.j [U9])
def Nt:=Fo Si
def sR:bB:=⟨327,[.c (.own 0),ci 1,ci 2,ci 3,.c (.fn 248 [])],[.row 25 U0],4,1,.bq [],[(0,(.row 25 U4))],Nt,508⟩
instance:Ok sR:=oS [abM]
def Vk:a8:=.join (.cA 109 rW [U0,U1,U2,U7] 4<|.bI .eql U9 (.i 0)<|.ite bH (.j [bA,bD,bJ]) (.j [U0,U1,U2])) (.cA 135 F2 [U9,bA,bD,U7,U8] 4<|.cA 130 uG [bH,bM,bL,U7] 4<|.j [bR,bW,bX])
def wX:=Fo Vk
def wY:bB:=⟨61,[.c (.ptr 0 0),.c (.p .str U7),.c (.own 2)],[.box [pi 0,pi 1,ps 2,pi 3,pi 4,.p .bool U5,ps 6,.mp 1],.map,.row 5 U8],9,3,.bq [],[(0,(.box [pi 9,pi 10,.own 3,pi 3,pi 4,.p .bool U5,ps 6,.mp 1])),(1,.map),(3,(.row 109 bD))],wX,138⟩
instance:Ok wY:=oS [OS,KN,DN]
def Ef:=mS [wY,Hw,qG] 60 [.c (.ptr 0 0),ci 7] [.box [pi 0,pi 1,ps 2,pi 3,pi 4,.p .bool U5,ps 6,.mp 1],.map] 8 3 (.bq []) [(0,(.box [pi 8,pi 9,.own 2,pi 3,pi 4,.p .bool U5,ps 6,.mp 1])),(1,.map),(2,(.row 109 bA))] 141
def akX:=Ef.F
instance:Ok Ef:=oM
def EA:List L->Option (List L):=λ_=>none
def HG:bB:=⟨309,[.c (.own 0),ci 1,ci 2,ci 3,.c (.fn 248 [])],[.row 25 U0],4,1,.bq [],[(0,(.row 25 U4))],EA,1740⟩
theorem asf:HG.ok Tryz.prog:=λ_ _ _ h=>by
 have h:(none:Option (List L))=some _:=h;cases h
instance:Ok HG:=⟨asf⟩
def km(t:Nat)(g:List L->Option (List L)):a8:=
 .op (.bi .sub .i64 (.v 2) (.v 1))<|
 .op (.bi .eql .i64 (.v 4) (.i 1))<|
 .ite (.v 5)
  (.join
   (.loop [(.v 2),(.v 3)]
    (.op (.bi .lss .i64 (.v 6) (.v 7))<|
    .ite (.v 8)
     (.op (.bi .add .i64 (.v 6) (.v 7))<|
     .op (.conv .u64 (.v 9))<|
     .op (.bi .shr .u64 (.v 10) (.i 1))<|
     .op (.conv .i64 (.v 11))<|
     .op (.row (.v 0) (.v 12) 4)<|
     .op (.rc (.v 0) (.v 12) 0 (.int .u64))<|
     .op (.rc (.v 0) (.v 12) 1 (.int .u32))<|
     .op (.rc (.v 0) (.v 12) 2 (.int .i64))<|
     .op (.rc (.v 0) (.v 12) 3 (.int .i64))<|
     .op (.row (.v 0) (.v 1) 4)<|
     .op (.rc (.v 0) (.v 1) 0 (.int .u64))<|
     .op (.rc (.v 0) (.v 1) 1 (.int .u32))<|
     .op (.rc (.v 0) (.v 1) 2 (.int .i64))<|
     .op (.rc (.v 0) (.v 1) 3 (.int .i64))<|
     .op (.call 6 F6 [(.v 14),(.v 15),(.v 16),(.v 17),(.v 19),(.v 20),(.v 21),(.v 22)] 1 [])<|
     .op (.bi .lss .i64 (.v 23) (.i 0))<|
     .ite (.v 24)
      (.op (.bi .add .i64 (.v 12) (.i 1))<|
      .br (.jump 0 [(.v 25),(.v 7)]))
      (.br (.jump 0 [(.v 6),(.v 12)])))
     (.br (.jump 1 [(.v 6)]))))
   (.join
    (.loop [(.v 1),(.v 0)]
     (.op (.bi .sub .i64 (.v 6) (.i 1))<|
     .op (.bi .lss .i64 (.v 7) (.v 9))<|
     .ite (.v 10)
      (.op (.bi .add .i64 (.v 7) (.i 1))<|
      .op (.bi .add .i64 (.v 7) (.i 1))<|
      .op (.row (.v 8) (.v 12) 4)<|
      .op (.rc (.v 8) (.v 12) 0 (.int .u64))<|
      .op (.rc (.v 8) (.v 12) 1 (.int .u32))<|
      .op (.rc (.v 8) (.v 12) 2 (.int .i64))<|
      .op (.rc (.v 8) (.v 12) 3 (.int .i64))<|
      .op (.row (.v 8) (.v 7) 4)<|
      .op (.rc (.v 8) (.v 7) 0 (.int .u64))<|
      .op (.rc (.v 8) (.v 7) 1 (.int .u32))<|
      .op (.rc (.v 8) (.v 7) 2 (.int .i64))<|
      .op (.rc (.v 8) (.v 7) 3 (.int .i64))<|
      .op (.row (.v 8) (.v 7) 4)<|
      .op (.set (.v 8) (.v 7) 0 [((.int .u64),(.v 14)),((.int .u32),(.v 15)),((.int .i64),(.v 16)),((.int .i64),(.v 17))])<|
      .op (.row (.v 24) (.v 11) 4)<|
      .op (.set (.v 24) (.v 11) 0 [((.int .u64),(.v 19)),((.int .u32),(.v 20)),((.int .i64),(.v 21)),((.int .i64),(.v 22))])<|
      .op (.bi .add .i64 (.v 7) (.i 1))<|
      .br (.jump 0 [(.v 27),(.v 26)]))
      (.br (.jump 1 [(.v 8)]))))
    (.br (.jump 0 [(.v 7)]))))
  (.op (.bi .sub .i64 (.v 3) (.v 2))<|
  .op (.bi .eql .i64 (.v 6) (.i 1))<|
  .ite (.v 7)
   (.join
    (.loop [(.v 1),(.v 2)]
     (.op (.bi .lss .i64 (.v 8) (.v 9))<|
     .ite (.v 10)
      (.op (.bi .add .i64 (.v 8) (.v 9))<|
      .op (.conv .u64 (.v 11))<|
      .op (.bi .shr .u64 (.v 12) (.i 1))<|
      .op (.conv .i64 (.v 13))<|
      .op (.row (.v 0) (.v 2) 4)<|
      .op (.rc (.v 0) (.v 2) 0 (.int .u64))<|
      .op (.rc (.v 0) (.v 2) 1 (.int .u32))<|
      .op (.rc (.v 0) (.v 2) 2 (.int .i64))<|
      .op (.rc (.v 0) (.v 2) 3 (.int .i64))<|
      .op (.row (.v 0) (.v 14) 4)<|
      .op (.rc (.v 0) (.v 14) 0 (.int .u64))<|
      .op (.rc (.v 0) (.v 14) 1 (.int .u32))<|
      .op (.rc (.v 0) (.v 14) 2 (.int .i64))<|
      .op (.rc (.v 0) (.v 14) 3 (.int .i64))<|
      .op (.call 6 F6 [(.v 16),(.v 17),(.v 18),(.v 19),(.v 21),(.v 22),(.v 23),(.v 24)] 1 [])<|
      .op (.bi .lss .i64 (.v 25) (.i 0))<|
      .op (.not (.v 26))<|
      .ite (.v 27)
       (.op (.bi .add .i64 (.v 14) (.i 1))<|
       .br (.jump 0 [(.v 28),(.v 9)]))
       (.br (.jump 0 [(.v 8),(.v 14)])))
      (.br (.jump 1 [(.v 8)]))))
    (.join
     (.loop [(.v 2),(.v 0)]
      (.op (.bi .gtr .i64 (.v 9) (.v 8))<|
      .ite (.v 11)
       (.op (.bi .sub .i64 (.v 9) (.i 1))<|
       .op (.bi .sub .i64 (.v 9) (.i 1))<|
       .op (.row (.v 10) (.v 13) 4)<|
       .op (.rc (.v 10) (.v 13) 0 (.int .u64))<|
       .op (.rc (.v 10) (.v 13) 1 (.int .u32))<|
       .op (.rc (.v 10) (.v 13) 2 (.int .i64))<|
       .op (.rc (.v 10) (.v 13) 3 (.int .i64))<|
       .op (.row (.v 10) (.v 9) 4)<|
       .op (.rc (.v 10) (.v 9) 0 (.int .u64))<|
       .op (.rc (.v 10) (.v 9) 1 (.int .u32))<|
       .op (.rc (.v 10) (.v 9) 2 (.int .i64))<|
       .op (.rc (.v 10) (.v 9) 3 (.int .i64))<|
       .op (.row (.v 10) (.v 9) 4)<|
       .op (.set (.v 10) (.v 9) 0 [((.int .u64),(.v 15)),((.int .u32),(.v 16)),((.int .i64),(.v 17)),((.int .i64),(.v 18))])<|
       .op (.row (.v 25) (.v 12) 4)<|
       .op (.set (.v 25) (.v 12) 0 [((.int .u64),(.v 20)),((.int .u32),(.v 21)),((.int .i64),(.v 22)),((.int .i64),(.v 23))])<|
       .op (.bi .sub .i64 (.v 9) (.i 1))<|
       .br (.jump 0 [(.v 28),(.v 27)]))
       (.br (.jump 1 [(.v 10)]))))
     (.br (.jump 0 [(.v 9)]))))
   (.op (.bi .add .i64 (.v 1) (.v 3))<|
   .op (.conv .u64 (.v 8))<|
   .op (.bi .shr .u64 (.v 9) (.i 1))<|
   .op (.conv .i64 (.v 10))<|
   .op (.bi .add .i64 (.v 11) (.v 2))<|
   .join
    (.op (.bi .gtr .i64 (.v 2) (.v 11))<|
    .ite (.v 13)
     (.op (.bi .sub .i64 (.v 12) (.v 3))<|
     .br (.jump 0 [(.v 14),(.v 11)]))
     (.br (.jump 0 [(.v 1),(.v 2)])))
    (.op (.bi .sub .i64 (.v 12) (.i 1))<|
    .join
     (.loop [(.v 13),(.v 14)]
      (.op (.bi .lss .i64 (.v 16) (.v 17))<|
      .ite (.v 18)
       (.op (.bi .add .i64 (.v 16) (.v 17))<|
       .op (.conv .u64 (.v 19))<|
       .op (.bi .shr .u64 (.v 20) (.i 1))<|
       .op (.conv .i64 (.v 21))<|
       .op (.bi .sub .i64 (.v 15) (.v 22))<|
       .op (.row (.v 0) (.v 23) 4)<|
       .op (.rc (.v 0) (.v 23) 0 (.int .u64))<|
       .op (.rc (.v 0) (.v 23) 1 (.int .u32))<|
       .op (.rc (.v 0) (.v 23) 2 (.int .i64))<|
       .op (.rc (.v 0) (.v 23) 3 (.int .i64))<|
       .op (.row (.v 0) (.v 22) 4)<|
       .op (.rc (.v 0) (.v 22) 0 (.int .u64))<|
       .op (.rc (.v 0) (.v 22) 1 (.int .u32))<|
       .op (.rc (.v 0) (.v 22) 2 (.int .i64))<|
       .op (.rc (.v 0) (.v 22) 3 (.int .i64))<|
       .op (.call 6 F6 [(.v 25),(.v 26),(.v 27),(.v 28),(.v 30),(.v 31),(.v 32),(.v 33)] 1 [])<|
       .op (.bi .lss .i64 (.v 34) (.i 0))<|
       .op (.not (.v 35))<|
       .ite (.v 36)
        (.op (.bi .add .i64 (.v 22) (.i 1))<|
        .br (.jump 0 [(.v 37),(.v 17)]))
        (.br (.jump 0 [(.v 16),(.v 22)])))
       (.br (.jump 1 [(.v 16)]))))
     (.op (.bi .sub .i64 (.v 12) (.v 16))<|
     .join
      (.join
       (.op (.bi .lss .i64 (.v 16) (.v 2))<|
       .ite (.v 18)
        (.op (.bi .lss .i64 (.v 2) (.v 17))<|
        .br (.jump 0 [(.v 19)]))
        (.br (.jump 0 [(.b false)])))
       (.ite (.v 18)
        (.op (.call 508 Nt [(.v 0),(.v 16),(.v 2),(.v 17)] 1 [])<|
        .br (.jump 0 [(.v 19)]))
        (.br (.jump 0 [(.v 0)]))))
      (.join
       (.join
        (.op (.bi .lss .i64 (.v 1) (.v 16))<|
        .ite (.v 19)
         (.op (.bi .lss .i64 (.v 16) (.v 11))<|
         .br (.jump 0 [(.v 20)]))
         (.br (.jump 0 [(.b false)])))
        (.ite (.v 19)
         (.op (.call t g [(.v 18),(.v 1),(.v 16),(.v 11)] 1 [])<|
         .br (.jump 0 [(.v 20)]))
         (.br (.jump 0 [(.v 18)]))))
       (.join
        (.op (.bi .lss .i64 (.v 11) (.v 17))<|
        .ite (.v 20)
         (.op (.bi .lss .i64 (.v 17) (.v 3))<|
         .br (.jump 0 [(.v 21)]))
         (.br (.jump 0 [(.b false)])))
        (.ite (.v 20)
         (.op (.call t g [(.v 19),(.v 11),(.v 17),(.v 3)] 1 [])<|
         .br (.jump 0 [(.v 21)]))
         (.br (.jump 0 [(.v 19)])))))))))
def LP:=Fo (km 1740 EA)
def Uf:bB:=⟨309,[.c (.own 0),ci 1,ci 2,ci 3,.c (.fn 248 [])],[.row 25 U0],4,1,.bq [],[(0,(.row 25 U4))],LP,2071⟩
instance:Ok Uf:=oT gf [HG,sR,s6] ((km 1740 EA))
def HQ:=Fo (km 2071 LP)
def ZU:bB:=⟨309,[.c (.own 0),ci 1,ci 2,ci 3,.c (.fn 248 [])],[.row 25 U0],4,1,.bq [],[(0,(.row 25 U4))],HQ,2072⟩
instance:Ok ZU:=oT gf [Uf,sR,s6] ((km 2071 LP))
def H9:=Fo (km 2072 HQ)
def T0:bB:=⟨309,[.c (.own 0),ci 1,ci 2,ci 3,.c (.fn 248 [])],[.row 25 U0],4,1,.bq [],[(0,(.row 25 U4))],H9,2073⟩
instance:Ok T0:=oT gf [ZU,sR,s6] ((km 2072 HQ))
def O0:=Fo (km 2073 H9)
def Rt:bB:=⟨309,[.c (.own 0),ci 1,ci 2,ci 3,.c (.fn 248 [])],[.row 25 U0],4,1,.bq [],[(0,(.row 25 U4))],O0,2074⟩
instance:Ok Rt:=oT gf [T0,sR,s6] ((km 2073 H9))
def JA:=Fo (km 2074 O0)
def abn:bB:=⟨309,[.c (.own 0),ci 1,ci 2,ci 3,.c (.fn 248 [])],[.row 25 U0],4,1,.bq [],[(0,(.row 25 U4))],JA,2075⟩
instance:Ok abn:=oT gf [Rt,sR,s6] ((km 2074 O0))
def EB:=Fo (km 2075 JA)
def WU:bB:=⟨309,[.c (.own 0),ci 1,ci 2,ci 3,.c (.fn 248 [])],[.row 25 U0],4,1,.bq [],[(0,(.row 25 U4))],EB,513⟩
instance:Ok WU:=oT gf [abn,sR,s6] ((km 2075 JA))
def Nx:a8:=.join (.loop [.i 0,.i 20,U0] (.bI .leq U3 U1<|.ite U5 (.cA 85 Ep [U4,U2,U3] 1<|.bI .add U3 (.i 20)<|.j [U3,U7,U6]) (.br (.jump 1 [U2,U4])))) (.cA 85 Ep [U3,U2,U1] 1<|.loop [.i 20,U4] (.bI .lss U5 U1<|.ite U7 (.bI .mul (.i 2) U5<|.join (.loop [.i 0,U8,U6] (.bI .leq bA U1<|.ite bJ (.bI .add U9 U5<|.cA 513 EB [bD,U9,bH,bA] 1<|.bI .mul (.i 2) U5<|.bI .add bA bL<|.j [bA,bV,bM]) (.br (.jump 1 [U9,bD])))) (.join (.bI .add U9 U5<|.bI .lss bD U1<|.ite bJ (.cA 513 EB [bA,U9,bD,U1] 1<|.j [bH]) (.j [bA])) (.bI .mul U5 (.i 2)<|.j [bJ,bD]))) (.br (.jump 1 [U6]))))
def F106:=Fo Nx
def SP:bB:=⟨289,[.c (.own 0),ci 1,.c (.fn 248 [])],[.row 25 U0],2,1,.bq [],[(0,(.row 25 U2))],F106,106⟩
instance:Ok SP:=oS [WU,Tn]
end
section
open Go.RowKit Pl AI
attribute [local irreducible] a8.wp
theorem avI{ρ xs a}:(At.v ρ.length).ev (ρ++a::xs)=a:=by simp[At.ev]
theorem Z1{ρ xs a n}(h:n=ρ.length):(At.v n).ev (ρ++a::xs)=a:=by subst h;exact avI
theorem iF{ρ Q k}{x i:At}{l:List It}{j:Nat}(a:(x.ev ρ).bm=l.map bw)(b:(i.ev ρ).a_=j)(c)
 (e:k.wp (ρ++[.c (bw l[j]),.i l[j].key,.i l[j].cookie,.i l[j].off,.i l[j].size]) Q)
 (ex:∀ys,x.ev (ρ++ys)=x.ev ρ:=by intro ys;rfl) (d:∀ys,i.ev (ρ++ys)=i.ev ρ:=by intro ys;rfl):
 (a8.op (.row x i 4) (.op (.rc x i 0 (.int .u64)) (.op (.rc x i 1 (.int .u32)) (.op (.rc x i 2 (.int .i64)) (.op (.rc x i 3 (.int .i64)) k))))).wp ρ Q:=by
 refine bU a b c rfl ?_;refine eb (f:=bw) (j:=j) (by rw[ex];exact a) (by rw[d];exact b) c rfl rfl ?_;rw[eU];refine eb (f:=bw) (j:=j) (by rw[ex];exact a) (by rw[d];exact b) c rfl rfl ?_;rw[eU];refine eb (f:=bw) (j:=j) (by rw[ex];exact a) (by rw[d];exact b) c rfl rfl ?_;rw[eU];refine eb (f:=bw) (j:=j) (by rw[ex];exact a) (by rw[d];exact b) c rfl rfl ?_;rw[eU];exact e
theorem qS{ρ Q k}{x i:At}{l:List It}{j:Nat}{ps z}(a:(x.ev ρ).bm=l.map bw)(b:(i.ev ρ).a_=j)(c)
 (g:cH (ρ++[.c (bw l[j])]) ps=bw z) (d:ps.length=4)
 (h:k.wp (ρ++[.c (bw l[j]),.r ((l.set j z).map bw)]) Q)
 (ex:∀ys,x.ev (ρ++ys)=x.ev ρ:=by intro ys;rfl) (f:∀ys,i.ev (ρ++ys)=i.ev ρ:=by intro ys;rfl):
 (a8.op (.row x i 4) (.op (.set x i 0 ps) k)).wp ρ Q:=by
 refine bU a b c rfl ?_;have m:(x.ev (ρ++[.c (bw l[j])])).bm[(i.ev (ρ++[.c (bw l[j])])).a_.toNat]?=some (bw l[j]):=by
  rw[ex,f,a,b,fM,cN,cW c];rfl
 refine aac m (by rw[d];exact dx 4) ?_;rw[ex,f,a,b,g,d,eU];have e:(l.map bw).set ((j:Int)).toNat ((bw l[j]).take 0++bw z++(bw l[j]).drop (0+4))=(l.set j z).map bw:=by
  simp[bw]
 rw[e];exact h
theorem xK{ρ Q k}{x y:At}{i j n:Nat}(a:n=ρ.length)(c:(x.ev ρ).a_=i)(d:(y.ev ρ).a_=j)(h:i+j<=4611686018427387904)
 (b:k.wp (ρ++[.i ((i+j:Nat):Int),.i ((i+j:Nat):Int),.i (((i+j) /2:Nat):Int),.i (((i+j) /2:Nat):Int)]) Q):
 (a8.op (.bi .add .i64 x y) (.op (.conv .u64 (.v n)) (.op (.bi .shr .u64 (.v (n+1)) (.i 1)) (.op (.conv .i64 (.v (n+2))) k)))).wp ρ Q:=by
 refine c_ (n:=((i+j:Nat):Int)) om om om ?_;refine qe (n:=((i+j:Nat):Int)) (by rw[Z1 a];rfl) om om ?_;rw[eU];refine cP (l:=.i (((i+j) /2:Nat):Int)) ?_ ?_
 .have e:(At.v (n+1)).ev (ρ++([L.i ((i+j:Nat):Int)]++[.i ((i+j:Nat):Int)]))=.i ((i+j:Nat):Int):=by subst a;simp[At.ev]
  rw[e];exact(yv (x:=i+j) (k:=1) dc).trans (by rw[Qe])
 rw[eU];refine od (n:=(((i+j) /2:Nat):Int)) ?_ om om ?_
 .have e:(At.v (n+2)).ev (ρ++([L.i ((i+j:Nat):Int),.i ((i+j:Nat):Int)]++[.i (((i+j) /2:Nat):Int)]))=.i (((i+j) /2:Nat):Int):=by subst a;simp[At.ev]
  exact cO L.a_ e
 rw[eU];exact b
theorem Eu{α:Type}{l:List α}{i j p}(b)(c):((l.set i l[j]).set j l[i])[p]?=if p=j then l[i]? else if p=i then l[j]? else l[p]?:=by
 by_cases a:p=j
 .subst a;rw[G4 (by simpa using c),bF rfl,cW b]
 .rw[BA (λh=>a h.symm),bO a];by_cases e2:p=i
  .subst e2;rw[G4 b,bF rfl,cW c]
  .rw[BA (λh=>e2 h.symm),bO e2]
theorem agd{a b n i p}(c:a+n<=b)(d:i<n):(if p=b+i then kp a b i (a+i)else if p=a+i then kp a b i (b+i)else kp a b i p)=kp a b (i+1) p:=by
 unfold kp; (repeat' split)<;>omega
theorem Hj(l)(hl:l.length<=1000000){a b n:Nat}(hab:a+n<=b)(hb:b+n<=l.length):
 ∃d,y_ [.r (l.map bw),.i a,.i b,.i n]=some [.r (d.map bw)]/\dU a (b+n) l d/\∀p,d[p]?=l[kp a b n p]?:=by
 suffices h:∃o,Fo UZ [.r (l.map bw),.i a,.i b,.i n]=some o/\∃d:List It,o=[.r (d.map bw)]/\dU a (b+n) l d/\∀p,d[p]?=l[kp a b n p]? by
  obtain⟨o,h1,d,rfl,h2⟩:=h;exact⟨d,h1,h2⟩
 refine gi ?_;refine wp_loop (I:=λs=>∃(i:Nat)(d:List It),s=[.i i,.r (d.map bw)]/\i<=n/\dU a (b+n) l d/\∀p,d[p]?=l[kp a b i p]?) (mu:=λs=>match s with|[.i i,_]=>n-i.toNat|_=>0)
  ⟨0,l,rfl,om,.refl l,λp=>by congr 1;unfold kp; (repeat' split)<;>omega⟩ ?_
 rintro s ⟨i,d,rfl,hi,hs,hd⟩;have jU:=hs.perm.length_eq;refine uR ?_;refine bG rfl (λhc=>?_) (λhc=>?_);rotate_left
 .obtain rfl:i=n:=om;exact a7 ⟨d,rfl,hs,hd⟩
 have uI:i<n:=om;have ha:a+i<d.length:=om;have hb':b+i<d.length:=om;refine c_ (n:=((a+i:Nat):Int)) (by rfl) om om (nW ?_);refine c_ (n:=((b+i:Nat):Int)) (by rfl) om om (nW ?_);refine c_ (n:=((b+i:Nat):Int)) (by rfl) om om (nW ?_);refine iF (l:=d) (j:=b+i) rfl rfl hb' (nW ?_);refine c_ (n:=((a+i:Nat):Int)) (by rfl) om om (nW ?_);refine iF (l:=d) (j:=a+i) rfl rfl ha (nW ?_);refine qS (l:=d) (j:=a+i) (z:=d[b+i]) rfl rfl ha rfl rfl (nW ?_);refine qS (l:=d.set (a+i) d[b+i]) (j:=b+i) (z:=d[a+i]) rfl rfl (by simpa using hb') rfl rfl (nW ?_);refine cm (i:=i) rfl om (nW ?_);refine a7 ⟨⟨i+1,_,rfl,om,hs.trans (.swap ha hb' om om om om),λp=>?_⟩,?_⟩
 .rw[Eu ha hb',<-agd hab uI]
  (repeat' split)<;>exact hd _
 .show n- ((i+1:Nat):Int).toNat<n-i;omega
theorem agG(l)(hl:l.length<=1000000){a m b:Nat}(h1:a<m)(h2:m<b)(hb:b<=l.length):
 ∃d,Nt [.r (l.map bw),.i a,.i m,.i b]=some [.r (d.map bw)]/\dU a b l d/\∀p,d[p]?=l[cR a m b p]?:=by
 suffices h:∃o,Fo Si [.r (l.map bw),.i a,.i m,.i b]=some o/\∃d:List It,o=[.r (d.map bw)]/\dU a b l d/\∀p,d[p]?=l[cR a m b p]? by
  obtain⟨o,h1,d,rfl,h2⟩:=h;exact⟨d,h1,h2⟩
 refine gi ?_;refine dk (n:=((m-a:Nat):Int)) (by show(m:Int) -a=_;omega) om om (nW ?_);refine dk (n:=((b-m:Nat):Int)) (by show(b:Int) -m=_;omega) om om (nW ?_);refine bE (λxs=>∃(i:Nat)(d:List It),xs=[.i i,.r (d.map bw)]/\0<i/\i<=m-a/\i<=b-m/\dU a b l d/\∀p,d[cR (m-i) m (m+i) p]?=l[cR a m b p]?) ?_ ?_
 .refine wp_loop (I:=λs=>∃(i j:Nat)(d:List It),s=[.i i,.i j,.r (d.map bw)]/\0<i/\i<=m-a/\0<j/\j<=b-m/\dU a b l d/\∀p,d[cR (m-i) m (m+j) p]?=l[cR a m b p]?)
   (mu:=λs=>match s with|[.i i,.i j,_]=>i.toNat+j.toNat|_=>0) ⟨m-a,b-m,l,rfl,om,om,om,om,.refl l,λp=>by rw[Nat.sub_sub_self om,Nat.add_sub_cancel' om]⟩ ?_
  rintro s ⟨i,j,d,rfl,i0,i1,j0,j1,hs,hd⟩;have jU:=hs.perm.length_eq;refine uR ?_;refine bG rfl (λhc=>?_) (λhc=>?_);rotate_left
  .obtain rfl:i=j:=om;exact a7 ⟨i,d,rfl,i0,i1,j1,hs,hd⟩
  refine uR ?_;refine bG rfl (λhg=>?_) (λhg=>?_)
  .have kG:j<i:=om;obtain⟨e,he,gQ,nP⟩:=Hj d om (a:=m-i) (b:=m) (n:=j) om om;refine dk (n:=((m-i:Nat):Int)) (by show(m:Int) -i=_;omega) om om (nW ?_);refine bu he rfl rfl (nW ?_);refine dk (n:=((i-j:Nat):Int)) (by show(i:Int) -j=_;omega) om om (nW ?_);refine a7 ⟨⟨i-j,j,e,rfl,om,om,j0,j1,hs.trans (gQ.mono om om),λp=>?_⟩,?_⟩
   .rw[nP,asG om kG];exact hd p
   .show((i-j:Nat):Int).toNat+j<i+j;omega
  .have hij:i<j:=om;obtain⟨e,he,gQ,nP⟩:=Hj d om (a:=m-i) (b:=m+j-i) (n:=i) om om;refine dk (n:=((m-i:Nat):Int)) (by show(m:Int) -i=_;omega) om om (nW ?_);refine c_ (n:=((m+j:Nat):Int)) (by rfl) om om (nW ?_);refine dk (n:=((m+j-i:Nat):Int)) (by show((m+j:Nat):Int) -i=_;omega) om om (nW ?_);refine bu he rfl rfl (nW ?_);refine dk (n:=((j-i:Nat):Int)) (by show(j:Int) -i=_;omega) om om (nW ?_);refine a7 ⟨⟨i,j-i,e,rfl,i0,i1,om,om,hs.trans (gQ.mono om om),λp=>?_⟩,?_⟩
   .rw[nP,afV om hij];exact hd p
   .show i+((j-i:Nat):Int).toNat<i+j;omega
 .rintro _ ⟨i,d,rfl,i0,i1,i2,hs,hd⟩;have jU:=hs.perm.length_eq;refine nW ?_;obtain⟨e,he,gQ,nP⟩:=Hj d om (a:=m-i) (b:=m) (n:=i) om om;refine dk (n:=((m-i:Nat):Int)) (by show(m:Int) -i=_;omega) om om (nW ?_);refine bu he rfl rfl (nW ?_);refine a7 ⟨e,rfl,hs.trans (gQ.mono om om),λp=>?_⟩;rw[nP,ajY om];exact hd p
end
end
end Go.Proofs.YtndegphojkiblaaGreatDoor
