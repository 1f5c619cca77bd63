/- A part. -/
import Derived.Test.YtiikkkhcolcebaaGreatDoorG6
import Derived.Test.YtiikkkhcolcebaaGreatDoorG13
import Derived.Test.YtiikkkhcolcebaaGreatDoorG15
import Derived.WalkKit
set_option linter.all false
set_option maxHeartbeats 4000000
set_option maxRecDepth 100000
namespace Go.Proofs.YtiikkkhcolcebaaGreatDoor
noncomputable section
section
attribute [local irreducible] Fo
open Go.RowKit
def afj:bp:=.join (.ln U0<|.loop [.i 0] (.bI .lss ct cn<|.ite cH (.rw U0 ct 14<|.cl ck 0 (.int .i64)<|.cl ck 1 (.int .i64)<|.cl ck 2 (.int .i64)<|.cl ck 3 (.int .i64)<|.cl ck 4 .sl<|.cl ck 5 .sl<|.cl ck 6 .sl<|.cl ck 7 .sl<|.cl ck 8 .sl<|.cl ck 9 .sl<|.cl ck 10 .sl<|.cl ck 11 .sl<|.cl ck 12 (.int .i64)<|.cl ck 13 (.int .i64)<|.op (.call 676 Mk (w 27 14++w 1 22) 1 [])<|.ite mw (.bq (.jump 2 [ct])) (.bI .add ct (.i 1)<|.j [oB])) (.bq (.jump 1 [])))) (.j [.i (-1)])
def Pb:=Fo afj
def avC:bw:=⟨202,[cs 0,.c (.fn 203 [0])],[.box [.ptr 1 0],.box ([pi 1,pi 2,ps 3,pi 4,pi 5,.p .bool U6,ps 7]++cM 8 7++[.p (.int .u32) bQ,.p (.int .u32) bV,.p (.int .u32) bX,.p (.int .u32) bU,.p (.int .u32) cd,.p (.int .u32) cv,ps 21,ps 22])],23,1,.v (ci 23),[(0,(.box [.ptr 1 0])),(1,(.box ([pi 1,pi 2,ps 3,pi 4,pi 5,.p .bool U6,ps 7]++cM 8 7++[.p (.int .u32) bQ,.p (.int .u32) bV,.p (.int .u32) bX,.p (.int .u32) bU,.p (.int .u32) cd,.p (.int .u32) cv,ps 21,ps 22])))],Pb,679⟩
def QU:Ok avC:=oS (.cons asZ .nil)
def ajU:bp:=.op (.call 679 Pb ([U6]++w 0 22) 1 [])<|.j [cm]
def Ca:=Fo ajU
def aAI:bw:=⟨128,[.c (.ptr 0 0)],[.box ([pi 0,pi 1,ps 2,pi 3,pi 4,.p .bool U5,ps 6]++cM 7 7++[.p (.int .u32) bP,.p (.int .u32) bQ,.p (.int .u32) bV,.p (.int .u32) bX,.p (.int .u32) bU,.p (.int .u32) cd,ps 20,ps 21])],22,1,.v (ci 22),[(0,(.box ([pi 0,pi 1,ps 2,pi 3,pi 4,.p .bool U5,ps 6]++cM 7 7++[.p (.int .u32) bP,.p (.int .u32) bQ,.p (.int .u32) bV,.p (.int .u32) bX,.p (.int .u32) bU,.p (.int .u32) cd,ps 20,ps 21])))],Ca,680⟩
def Oe:Ok aAI:=oS (.cons QU .nil)
def UQ:bp:=.join (.cA 307 nE [U0,U1,U2] 1<|.no U6<|.ite U7 (.j [.b true]) (.cA 307 nE [U3,U4,U5] 1<|.no U8<|.ite U9 (.j [.b true]) (.bI .neq U1 U3<|.j [bD]))) (.ite U6 (.j [.i 1,.i 0,.i 0,.r0]) (.cA 303 t_ [U0,U4] 1<|.join (.loop [.i 0,U7] (.bI .lss U8 U0<|.ite bD (.join (.loop [.i 0,U9] (.bI .lss bF U4<|.ite bL (.join (.loop [.i 0,bH] (.bI .lss bP U1<|.ite bV (.cA 341 iK [U0,U4,bQ,U8] 2<|.op (.ir bQ bX bU bF 1)<|.op (.rc bQ cd 0 (.int .u8))<|.cA 304 nF [U0,U1,U2,U8,bP] 1<|.cA 304 nF [U3,U4,U5,bP,bF] 1<|.cA 302 sd [cR,cm] 1<|.op (.bi .xor .u8 cv cn)<|.op (.ir bQ bX bU bF 1)<|.op (.set bQ cH 0 [((.int .u8),ct)])<|.bI .add bP (.i 1)<|.j [cK,ck]) (.bq (.jump 1 [bQ])))) (.bI .add bF (.i 1)<|.j [bQ,bP])) (.bq (.jump 1 [bH])))) (.bI .add U8 (.i 1)<|.j [bH,bF])) (.bq (.jump 1 [U9])))) (.j [.i 0,U0,U4,U8])))
def FO:=Fo UQ
def alP:bw:=⟨233,[.agg [pi 0,pi 1,ps 2],.agg [pi 3,pi 4,ps 5]],[],6,4,.bM [.agg [pi 7,pi 8,.own 0],ci 6],[(0,(.row 5 U9))],FO,346⟩
def aBn:Ok alP:=oS (.cons x6 (.cons Gj (.cons Ch (.cons MN (.cons Fg (.cons On .nil))))))
def Rq:bp:=.join (.cA 307 nE [U0,U1,U2] 1<|.no U4<|.ite U5 (.j [.b true]) (.ln U3<|.cA 306 nf [U6] 1<|.no U7<|.j [U8])) (.ite U4 (.j [.i 1,.i 0,.i 0,.r0]) (.ln U3<|.join (.ln U3<|.loop [.i 0,.r0] (.bI .lss U7 U6<|.ite U9 (.rw U3 U7 1<|.cl bD 0 (.int .i64)<|.join (.bI .lss bF (.i 0)<|.ite bH (.j [.b true]) (.bI .geq bF U0<|.j [bL])) (.ite bH (.bq (.jump 2 [.i 1,.i 0,.i 0,.r0])) (.cA 340 Gd [U0,U1,U2,bF] 1<|.op (.app U8 bL 1 1)<|.bI .add U7 (.i 1)<|.j [bQ,bP]))) (.bq (.jump 1 [U8])))) (.j [.i 0,U5,U1,U6])))
def uz:=Fo Rq
def auV:bw:=⟨163,[.agg [pi 0,pi 1,ps 2],cs 3],[],4,4,.bM [.agg [pi 5,pi 6,.own 0],ci 4],[(0,(.row 5 U7))],uz,347⟩
def J6:Ok auV:=oS (.cons x6 (.cons Gj (.cons Ch (.cons Ea .nil))))
def aDc:bp:=.cA 350 Fw [U0,U1,U2] 1<|.no U3<|.ite U4 (.j [.r0]) (.cA 2011 qp [U1] 0<|.join (.ln U2<|.loop [.i 0,U1] (.bI .lss U6 U5<|.ite U8 (.rw U2 U6 3<|.cl U9 0 (.int .i64)<|.cl U9 1 .sl<|.cl U9 2 .bool<|.cA 358 Ku [bD,bF,bH,U7] 1<|.bI .add U6 (.i 1)<|.j [bP,bL]) (.bq (.jump 1 [U7])))) (.cA 319 MI [U5] 1<|.j [U6]))
def G3:=Fo aDc
def aes:bw:=⟨169,[.agg [.p .str U0,ps 1,ps 2]],[],3,1,.v (cs 3),[],G3,362⟩
def Sg:Ok aes:=oS (.cons ayJ (.cons W_ (.cons aCk (.cons wB .nil))))
def aqe:bp:=.cA 110 qy [U0,U1,U2,U3] 2<|.bI .neq U5 (.i 0)<|.ite U6 (.j [U5,.i 0,.i 0,.r0]) (.cA 31 x8 [U0,U1,U2] 2<|.rw U8 U4 3<|.op (.rc U8 U4 0 .str)<|.op (.rc U8 U4 1 .sl)<|.op (.rc U8 U4 2 .sl)<|.cA 97 o_ [bD,bF,bH] 1<|.rw U8 U4 3<|.op (.set U8 U4 0 [(.str,U3),(.sl,bL),(.sl,.r0)])<|.j [.i 0,U0,U7,bQ])
def MZ:=Fo aqe
def alM:bw:=⟨114,[.agg [pi 0,pi 1,ps 2],.c (.p .str U3)],[],4,4,.bM [.agg [pi 5,pi 6,.own 0],ci 4],[(0,(.row 141 U7))],MZ,130⟩
def ahT:Ok alM:=oS (.cons AZ (.cons yd (.cons GC .nil)))
def arz:bp:=.join (.loop [.i 0,.i 0] (.ln U2<|.bI .lss U4 U5<|.ite U6 (.rw U2 U4 3<|.cl U7 0 .str<|.cl U7 1 .sl<|.cl U7 2 .sl<|.cA 97 o_ [U8,U9,bD] 1<|.ln bF<|.bI .add U3 bH<|.bI .add U4 (.i 1)<|.j [bL,bP]) (.bq (.jump 1 [U3])))) (.j [U3])
def WD:=Fo arz
def aDp:bw:=⟨252,[.agg [pi 0,pi 1,ps 2]],[],3,1,.v (ci 3),[],WD,108⟩
def akg:Ok aDp:=oS (.cons yd .nil)
def adY:bp:=.rw U2 U3 3<|.cl U7 0 .str<|.cl U7 1 .sl<|.cl U7 2 .sl<|.cA 97 o_ [U8,U9,bD] 1<|.ln bF<|.ln U5<|.bI .add U4 bL<|.bI .gtr bP (.i 1048576)<|.ite bQ (.j [.i 9,.i 0,.i 0,.r0]) (.op (.lit [])<|.op (.app bV U5 1 1)<|.op (.lit [])<|.op (.app bU bD 3 40)<|.op (.lit [[((.int .i64),U4),(.sl,bX),(.bool,U6)]])<|.op (.app cd cv 3 40)<|.op (.call 97 o_ [U8,U9,cR] 1 [0])<|.ln cm<|.bI .sub cn bH<|.join (.bI .gtr U0 (.i 0)<|.ite cH (.bI .gtr ct (.i 0)<|.ite ck (.cA 108 WD [U0,U1,U2] 1<|.bI .add cK ct<|.bI .gtr cS U0<|.j [dZ]) (.j [.b false])) (.j [.b false])) (.ite cH (.j [.i 9,.i 0,.i 0,.r0]) (.cA 31 x8 [U0,U1,U2] 2<|.rw cK U3 3<|.op (.set cK U3 0 [(.str,U8),(.sl,U9),(.sl,cR)])<|.j [.i 0,U0,ck,dZ])))
def Nn:=Fo adY
def aeQ:bw:=⟨193,[.agg [pi 0,pi 1,ps 2],ci 3,.agg [pi 4,ps 5,.p .bool U6]],[],7,4,.bM [.agg [pi 8,pi 9,.own 0],ci 7],[(0,(.row 141 bD))],Nn,131⟩
def atd:Ok aeQ:=oS (.cons akg (.cons yd (.cons GC .nil)))
def agY:bp:=.op (.call 110 qy (w 0 4) 2 [])<|.bI .neq U6 (.i 0)<|.ite U7 (.j [U6,.i 0,.i 0,.r0]) (.rw U2 U5 3<|.cl U8 0 .str<|.cl U8 1 .sl<|.cl U8 2 .sl<|.cA 97 o_ [U9,bD,bF] 1<|.ln bH<|.cA 131 Nn [U0,U1,U2,U5,bL,U4,.b false] 4<|.bq (.jump 0 (w 14 4)))
def KO:=Fo agY
def avu:bw:=⟨113,[.agg [pi 0,pi 1,ps 2],.c (.p .str U3),cs 4],[],5,4,.bM [.agg [pi 6,pi 7,.own 0],ci 5],[(0,(.row 141 U8))],KO,144⟩
def arJ:Ok avu:=oS (.cons atd (.cons AZ (.cons yd .nil)))
def akk:bp:=.join (.loop [.i 0,.r0] (.join (.bI .lss bD (.i 8)<|.ite bH (.op (.call 52 xk (w 0 10) 1 [])<|.j [bL]) (.j [.b false])) (.ite bH (.op (.dM bD 8)<|.op (.ix (w 0 8) bD)<|.op (.app bF bL 4 32)<|.bI .add bD (.i 1)<|.j [bQ,bP]) (.bq (.jump 1 [bF]))))) (.op (.call 46 yy [bD] 1 [0])<|.j [bF])
def rJ:=Fo akk
def s79:bw:=⟨107,[.agg (dL 0 8++[pi 8,pi 9])],[],10,1,.v (.c (.own 0)),[(0,(.row 164 bD))],rJ,79⟩
def xg:Ok s79:=oS (.cons HR (.cons C_ .nil))
def arh:bp:=.join (.bI .lss U0 (.i 1)<|.ite bP (.j [.b true]) (.bI .gtr U0 (.i 8)<|.ite bQ (.j [.b true]) (.bI .lss U1 (.i 0)<|.ite bV (.j [.b true]) (.bI .geq U1 (.i 4294967296)<|.ite bX (.j [.b true]) (.bI .lss U2 (.i 1)<|.ite bU (.j [.b true]) (.bI .gtr U2 (.i 3)<|.j [cd])))))) (.ite bP (.j [.b false]) (.join (.bI .lss U3 (.i 16)<|.ite bQ (.j [.b true]) (.bI .gtr U3 (.i 1048576)<|.ite bV (.j [.b true]) (.bI .rem U3 (.i 8)<|.bI .neq bX (.i 0)<|.ite bU (.j [.b true]) (.op (.call 52 xk (w 4 10) 1 [])<|.no cd<|.ite cv (.j [.b true]) (.op (.call 79 rJ (w 4 10) 1 [])<|.cA 58 O2 [cR,U3] 1<|.no cm<|.j [cn]))))) (.ite bQ (.j [.b false]) (.bI .sub U3 (.i 16)<|.bI .sub bV bH<|.bI .eql bX bL<|.j [bU]))))
def s_:=Fo arh
def s80:bw:=⟨103,[.agg (cM 0 4++dL 4 8++[pi 12,pi 13])],[],14,1,.v (.c (.p .bool bP)),[],s_,80⟩
def Cq:Ok s80:=oS (.cons xg (.cons HR (.cons axL .nil)))
def Xr:bp:=.op (.call 341 iK (w 0 4) 2 [])<|.cA 341 iK [U0,U1,U2,U4] 2<|.op (.vw U2 U5 U6)<|.ln U9<|.loop [.i 0,U2] (.bI .lss bF bD<|.ite bL (.op (.ir bH U7 U8 bF 1)<|.op (.rc bH bP 0 (.int .u8))<|.op (.ir bH U5 U6 bF 1)<|.op (.rc bH bV 0 (.int .u8))<|.op (.ir bH U5 U6 bF 1)<|.op (.set bH bU 0 [((.int .u8),bQ)])<|.op (.ir cd U7 U8 bF 1)<|.op (.set cd cv 0 [((.int .u8),bX)])<|.bI .add bF (.i 1)<|.j [cm,cR]) (.bq (.jump 1 [bH])))
def xj:=Fo Xr
def aoO:bw:=⟨288,[.agg [pi 0,pi 1,.own 0],ci 3,ci 4],[.row 5 U2],5,1,.bM [],[(0,(.row 5 U5))],xj,359⟩
def azd:Ok aoO:=oS (.cons x6 (.cons Gj .nil))
def aiY:bp:=.bI .eql U7 (.i 5)<|.ite cm (.bI .add U9 (.i 1)<|.bI .eql cn (.i 7)<|.ite ct (.j [.i 6,.i 0]) (.j [.i 2,cn])) (.bI .eql U7 (.i 6)<|.ite cn (.bI .add U9 (.i 1)<|.bI .eql ct (.i 6)<|.ite cH (.j [.i 7,ct]) (.j [U7,ct])) (.bI .add U7 (.i 1)<|.j [ct,U9]))
def o4:=Fo aiY
def apn:bw:=⟨134,[.c (.ptr 0 0)],[.box ([pi 0,pi 1,ps 2,pi 3,pi 4,.p .bool U5,ps 6]++cM 7 7++[.p (.int .u32) bP,.p (.int .u32) bQ,.p (.int .u32) bV,.p (.int .u32) bX,.p (.int .u32) bU,.p (.int .u32) cd,ps 20,ps 21])],22,2,.bM [],[(0,(.box ([pi 0,pi 1,ps 2,pi 3,pi 4,.p .bool U5,ps 6,pi 22,pi 8,pi 23]++cM 10 4++[.p (.int .u32) bP,.p (.int .u32) bQ,.p (.int .u32) bV,.p (.int .u32) bX,.p (.int .u32) bU,.p (.int .u32) cd,ps 20,ps 21])))],o4,649⟩
def T':Ok apn:=oS .nil
def aCJ:bp:=.join (.ln U0<|.loop [.i 0] (.bI .lss U3 U2<|.ite U4 (.rw U0 U3 1<|.cl U5 0 .str<|.op (.bs .eql U1 U6)<|.ite U7 (.bq (.jump 2 [U3])) (.bI .add U3 (.i 1)<|.j [U8])) (.bq (.jump 1 [])))) (.j [.i (-1)])
def I5:=Fo aCJ
def aCU:bw:=⟨274,[cs 0,.c (.p .str U1)],[],2,1,.v (ci 2),[],I5,650⟩
def axh:Ok aCU:=oS .nil
def afq:bp:=.cA 650 I5 [U0,U1] 1<|.bI .geq U2 (.i 0)<|.j [U3]
def HJ:=Fo afq
def aml:bw:=⟨210,[cs 0,.c (.p .str U1)],[],2,1,.v (.c (.p .bool U2)),[],HJ,651⟩
def aCh:Ok aml:=oS (.cons axh .nil)
def aib:bp:=.join (.bI .eql cH (.i 0)<|.ite ck (.j [cm,cn,ct]) (.j [U0,U1,U2])) (.j [ck,cK,cS])
def qG:=Fo aib
def alS:bw:=⟨131,[.c (.ptr 0 0),.agg [pi 22,pi 23,ps 24],ci 25],[.box ([pi 0,pi 1,ps 2,pi 3,pi 4,.p .bool U5,ps 6]++cM 7 7++[.p (.int .u32) bP,.p (.int .u32) bQ,.p (.int .u32) bV,.p (.int .u32) bX,.p (.int .u32) bU,.p (.int .u32) cd,ps 20,ps 21])],26,3,.v (ci 25),[(0,(.box ([pi 26,pi 27,ps 28,pi 3,pi 4,.p .bool U5,ps 6]++cM 7 7++[.p (.int .u32) bP,.p (.int .u32) bQ,.p (.int .u32) bV,.p (.int .u32) bX,.p (.int .u32) bU,.p (.int .u32) cd,ps 20,ps 21])))],qG,652⟩
def GH:Ok alS:=oS .nil
def aza:bp:=.cA 2011 qp [U1] 0<|.cA 2071 LC [U2] 0<|.join (.ln U2<|.loop [.i 0,U2] (.bI .lss U4 U3<|.ite U6 (.rw U5 U4 3<|.op (.rc U5 U4 0 (.int .i64))<|.op (.rc U5 U4 1 .sl)<|.op (.rc U5 U4 2 .bool)<|.cA 2011 qp [U9] 0<|.rw U5 U4 3<|.op (.set U5 U4 1 [(.sl,U9)])<|.bI .add U4 (.i 1)<|.j [bL,bH]) (.bq (.jump 1 [U5])))) (.j [U3])
def Nb:=Fo aza
def aBT:bw:=⟨166,[.agg [.p .str U0,ps 1,ps 2]],[],3,1,.v (.agg [.p .str U0,.own 0,.own 1]),[(0,(.row 5 U1)),(1,(.row 147 U3))],Nb,653⟩
def ayL:Ok aBT:=oS (.cons wB (.cons XR .nil))
def avc:bp:=.cA 2070 Hr [U2] 0<|.join (.ln U2<|.loop [.i 0,U2] (.bI .lss U4 U3<|.ite U6 (.rw U5 U4 3<|.op (.rc U5 U4 0 .str)<|.op (.rc U5 U4 1 .sl)<|.op (.rc U5 U4 2 .sl)<|.cA 653 Nb [U8,U9,bD] 1<|.rw U5 U4 3<|.op (.set U5 U4 0 [(.str,U8),(.sl,U9),(.sl,bF)])<|.bI .add U4 (.i 1)<|.j [bP,bL]) (.bq (.jump 1 [U5])))) (.j [U3])
def N4:=Fo avc
def ayE:bw:=⟨85,[.agg [pi 0,pi 1,ps 2]],[],3,1,.v (.agg [pi 0,pi 1,.own 0]),[(0,(.row 144 U3))],N4,654⟩
def avj:Ok ayE:=oS (.cons ayL (.cons Mv .nil))
def ahH:bp:=.cA 3006 aqx [bD] 1<|.cA 3004 NU [bF] 1<|.cA 3008 aAS [bD] 1<|.cA 3004 NU [bL] 1<|.j [bH,bP]
def S0:=Fo ahH
def amO:bw:=⟨353,[.agg (dL 0 8++[pi 8,pi 9]),.c (.p .kM bD)],[],11,2,.v (.agg (dL 0 8++[pi 11,pi 12])),[],S0,655⟩
def afE:Ok amO:=oS .nil
def Yr:bp:=.join (.cA 24 qD [U0,U1,U2] 1<|.no U3<|.ite U4 (.j [.b true]) (.bI .neq U0 U1<|.j [U5])) (.ite U3 (.j [.i 1,.i 0,.r0]) (.op (.lit [])<|.op (.app U4 U2 1 1)<|.cA 65 Dr [U0] 3<|.join (.loop [.i 0,U5,U8] (.bI .lss U9 U0<|.ite bH (.join (.join (.bI .mul U9 U0<|.bI .add bL U9<|.rw bD bP 1<|.op (.rc bD bP 0 (.int .u8))<|.op (.bi .eql .u8 bV (.i 0))<|.ite bX (.bI .add U9 (.i 1)<|.join (.loop [bU] (.join (.bI .lss cd U0<|.ite cv (.bI .mul cd U0<|.bI .add cR U9<|.rw bD cm 1<|.op (.rc bD cm 0 (.int .u8))<|.op (.bi .eql .u8 ct (.i 0))<|.j [cH]) (.j [.b false])) (.ite cv (.bI .add cd (.i 1)<|.j [cR]) (.bq (.jump 1 [cd]))))) (.bI .eql cd U0<|.ite cv (.bq (.jump 4 [.i 14,.i 0,.r0])) (.cA 81 ng [bD,U0,U9,cd,.i 1] 1<|.cA 81 ng [bF,U0,U9,cd,.i 1] 1<|.j [cR,cm]))) (.j [bD,bF])) (.bI .mul U9 U0<|.bI .add bQ U9<|.rw bL bV 1<|.op (.rc bL bV 0 (.int .u8))<|.cA 20 BB [bU] 2<|.op (.bi .xor .u8 cd (.i 1))<|.cA 81 ng [bP,U0,U9,U9,cR] 1<|.op (.bi .xor .u8 cd (.i 1))<|.cA 81 ng [bL,U0,U9,U9,cn] 1<|.loop [.i 0,ct,cm] (.bI .lss cH U0<|.ite cS (.join (.bI .mul cH U0<|.bI .add dZ U9<|.rw ck eJ 1<|.op (.rc ck eJ 0 (.int .u8))<|.join (.bI .neq cH U9<|.ite ig (.op (.bi .neq .u8 ee (.i 0))<|.j [iH]) (.j [.b false])) (.ite ig (.cA 81 ng [cK,U0,cH,U9,ee] 1<|.cA 81 ng [ck,U0,cH,U9,ee] 1<|.j [ke,iH]) (.j [ck,cK]))) (.bI .add cH (.i 1)<|.j [e8,dZ,eJ])) (.bq (.jump 1 [ck,cK]))))) (.bI .add U9 (.i 1)<|.j [bQ,bL,bP])) (.bq (.jump 1 [bF])))) (.j [.i 0,U7,U9])))
def Gi:=Fo Yr
def s93:bw:=⟨336,[.agg [pi 0,pi 1,ps 2]],[],3,3,.bM [.agg [pi 4,pi 4,.own 0],ci 3],[(0,(.row 5 U5))],Gi,93⟩
def alN:Ok s93:=oS (.cons aqq (.cons OJ (.cons Ef (.cons aoY (.cons aid .nil)))))
def Xl:bp:=.cA 23 FN [.i 6,.i 4] 4<|.op (.lit [[((.int .i64),(.i 0))],[((.int .i64),(.i 1))],[((.int .i64),(.i 2))],[((.int .i64),(.i 3))]])<|.op (.call 678 G9 (w 1 4) 4 [])<|.op (.call 93 Gi [U6,U7,U8] 3 [2])<|.op (.call 66 Gb [U1,U2,U3,bD,bD,bF] 4 [3])<|.j [bL,bP,bQ]
def FP:=Fo Xl
def s94:bw:=⟨302,[],[],0,3,.v (.agg [pi 0,pi 1,.own 0]),[(0,(.row 5 U2))],FP,94⟩
def apT:Ok s94:=oS (.cons alN (.cons akz (.cons aCi (.cons awv .nil))))
def afY:bp:=.op (.call 80 s_ (w 0 14) 1 [])<|.no bV<|.ite bX (.j [.i 1,.i 0,.i 0,.i 0,.i 0,.r0,.r0,.r0,.r0,.r0,.r0,.r0,.r0,.i 0,.i 0]) (.bI .neq U2 bP<|.ite bU (.j [.i 12,.i 0,.i 0,.i 0,.i 0,.r0,.r0,.r0,.r0,.r0,.r0,.r0,.r0,.i 0,.i 0]) (.bq (.jump 0 ([.i 0,U0,U1,bQ]++w 3 11))))
def Fy:=Fo afY
def agF:bw:=⟨240,[.agg (cM 0 4++dL 4 8++[pi 12,pi 13]),ci 14,ci 15],[],16,15,.bM [.agg (cM 17 4++dL 21 8++[pi 29,pi 30]),ci 16],[],Fy,100⟩
def aax:Ok agF:=oS (.cons Cq .nil)
def asW:bp:=.op (.call 100 Fy (w 0 14++[.i 1,.i 2]) 15 [])<|.bq (.jump 0 (w 14 15))
def Nz:=Fo asW
def ayi:bw:=⟨182,[.agg (cM 0 4++dL 4 8++[pi 12,pi 13])],[],14,15,.bM [.agg (cM 15 4++dL 19 8++[pi 27,pi 28]),ci 14],[],Nz,102⟩
def axV:Ok ayi:=oS (.cons aax .nil)
def arj:bp:=.op (.call 79 rJ (w 0 10) 1 [])<|.cA 45 Oy [bF,bD] 5<|.bq (.jump 0 (w 12 5))
def vl:=Fo arj
def s99:bw:=⟨148,[.agg (dL 0 8++[pi 8,pi 9]),.c (.p (.int .u64) bD)],[],11,5,.bM [.agg [.p (.int .u64) bH,.p (.int .u32) bL,pi 14,pi 15],.c (.p .bool bF)],[],vl,99⟩
def DV:Ok s99:=oS (.cons xg (.cons arQ .nil))
def axG:bp:=.op (.call 79 rJ (w 0 10) 1 [])<|.ln bD<|.j [bF]
def D2:=Fo axG
def s98:bw:=⟨104,[.agg (dL 0 8++[pi 8,pi 9])],[],10,1,.v (ci 10),[],D2,98⟩
def Wx:Ok s98:=oS (.cons xg .nil)
def arZ:bp:=.ln U3<|.join (.bI .lss U0 (.i 0)<|.ite U5 (.j [.b true]) (.bI .geq U0 (.i 4)<|.ite U6 (.j [.b true]) (.cA 44 lB [.i 4096] 1<|.bI .add (.i 16) U7<|.bI .lss U1 U8<|.ite U9 (.j [.b true]) (.bI .gtr U1 (.i 262144)<|.ite bD (.j [.b true]) (.bI .lss U4 (.i 1)<|.ite bF (.j [.b true]) (.bI .gtr U4 (.i 8)<|.j [bH])))))) (.ite U5 (.j [.b false]) (.join (.loop [.i 0] (.bI .lss U6 U4<|.ite U7 (.rw U3 U6 14<|.cl U8 0 (.int .i64)<|.cl U8 1 (.int .i64)<|.cl U8 2 (.int .i64)<|.cl U8 3 (.int .i64)<|.cl U8 4 .sl<|.cl U8 5 .sl<|.cl U8 6 .sl<|.cl U8 7 .sl<|.cl U8 8 .sl<|.cl U8 9 .sl<|.cl U8 10 .sl<|.cl U8 11 .sl<|.cl U8 12 (.int .i64)<|.cl U8 13 (.int .i64)<|.join (.op (.call 80 s_ (w 9 14) 1 [])<|.no cn<|.ite ct (.j [.b true]) (.bI .eql bF (.i 1)<|.bI .sub U4 (.i 1)<|.bI .eql U6 ck<|.op (.bb .neq cH cK)<|.ite cS (.j [.b true]) (.bI .gtr U6 (.i 0)<|.ite dZ (.bI .sub U6 (.i 1)<|.rw U3 eJ 14<|.cl e8 0 (.int .i64)<|.bI .leq U9 ee<|.ite ig (.j [.b true]) (.bI .mul (.i 2) U1<|.bI .gtr bH iH<|.j [ke])) (.bI .mul (.i 2) U1<|.bI .gtr bH eJ<|.j [e8])))) (.ite cn (.bq (.jump 2 [.b false])) (.bI .add U6 (.i 1)<|.j [ct]))) (.bq (.jump 1 [])))) (.bI .sub U4 (.i 1)<|.rw U3 U6 14<|.cl U7 0 (.int .i64)<|.cl U7 1 (.int .i64)<|.cl U7 2 (.int .i64)<|.cl U7 3 (.int .i64)<|.cl U7 4 .sl<|.cl U7 5 .sl<|.cl U7 6 .sl<|.cl U7 7 .sl<|.cl U7 8 .sl<|.cl U7 9 .sl<|.cl U7 10 .sl<|.cl U7 11 .sl<|.cl U7 12 (.int .i64)<|.cl U7 13 (.int .i64)<|.cA 44 lB [.i 0] 1<|.op (.call 98 D2 (w 12 10) 1 [])<|.bI .mul cm cn<|.bI .add bF ct<|.bI .mul (.i 2) U1<|.bI .leq cH ck<|.j [cK])))
def tj:=Fo arZ
def aCo:bw:=⟨51,[.agg [pi 0,pi 1,.p .bool U2,ps 3]],[],4,1,.v (.c (.p .bool U4)),[],tj,103⟩
def xZ:Ok aCo:=oS (.cons Wx (.cons Cq (.cons qm .nil)))
def agc:bp:=.cA 57 Hc [.i 1] 4<|.op (.lit [[((.int .i64),U3),((.int .i64),(.i 0)),((.int .i64),U4),((.int .i64),U5),(.sl,.r0),(.sl,.r0),(.sl,.r0),(.sl,.r0),(.sl,.r0),(.sl,.r0),(.sl,.r0),(.sl,.r0),((.int .i64),(.i 0)),((.int .i64),(.i 0))]])<|.cA 103 tj [U0,U1,.b false,U6] 1<|.no U7<|.ite U8 (.j [.i 1,.i 0,.i 0,.r0]) (.j [.i 0,U0,U1,U6])
def LD:=Fo agc
def aDh:bw:=⟨92,[ci 0,ci 1],[],2,4,.bM [.agg [pi 3,pi 4,.p .bool (.b false),.own 0],ci 2],[(0,(.row 90 U5))],LD,104⟩
def aqj:Ok aDh:=oS (.cons xZ (.cons aaj .nil))
def axY:bp:=.cA 94 FP [] 3<|.cA 60 O1 [U1,U2,U3,U0] 2<|.j [U5]
def IQ:=Fo axY
def aCP:bw:=⟨251,[.c (.own 0)],[.row 95 U0],1,1,.v (.c (.own 1)),[(1,(.row 95 U1)),(0,(.row 95 U0))],IQ,105⟩
def akC:Ok aCP:=oS (.cons apT (.cons alv .nil))
def V':bp:=.op (.vw U0 U1 U2)<|.ln U4<|.loop [.i 0,U0] (.bI .lss U6 U5<|.ite U8 (.op (.ir U7 U1 U2 U6 1)<|.op (.rc U7 U9 0 (.int .u8))<|.cA 302 sd [bD,U3] 1<|.op (.ir U7 U1 U2 U6 1)<|.op (.set U7 bH 0 [((.int .u8),bF)])<|.bI .add U6 (.i 1)<|.j [bP,bL]) (.bq (.jump 1 [U7])))
def yw:=Fo V'
def aDa:bw:=⟨289,[.c (.sub 0 U1 U2),.c (.p (.int .u8) U3)],[.row 5 U0],4,1,.bM [],[(0,(.row 5 U4))],yw,367⟩
def aiC:Ok aDa:=oS (.cons On .nil)
def aqw:bp:=.join (.bI .sub U1 (.i 1)<|.loop [U2,.r0] (.bI .geq U3 (.i 0)<|.ite U5 (.bI .mul (.i 8) U3<|.op (.bi .shr .u64 U0 U6)<|.op (.conv .u8 U7)<|.op (.lit [[((.int .u8),U8)]])<|.op (.app U4 U9 1 1)<|.bI .sub U3 (.i 1)<|.j [bF,bD]) (.bq (.jump 1 [U4])))) (.j [U2])
def Kz:=Fo aqw
def alI:bw:=⟨312,[.c .nil,.c (.p (.int .u64) U0),ci 1],[],2,1,.v (.c (.own 0)),[(0,(.row 5 U2))],Kz,682⟩
def auf:Ok alI:=oS .nil
def auE:bp:=.cA 3005 MH [U8,U9] 1<|.j [bD]
def WR:=Fo auE
def asF:bw:=⟨354,[.agg (dL 0 8++[pi 8,pi 9])],[],10,1,.v (.c (.p .kM bD)),[],WR,683⟩
def ajh:Ok asF:=oS .nil
def anD:bp:=.ln U3<|.join (.bI .lss U0 (.i 0)<|.ite U5 (.j [.b true]) (.bI .geq U0 (.i 4)<|.ite U6 (.j [.b true]) (.cA 44 lB [.i 4096] 1<|.bI .add (.i 16) U7<|.bI .lss U1 U8<|.ite U9 (.j [.b true]) (.bI .gtr U1 (.i 262144)<|.ite bD (.j [.b true]) (.bI .lss U4 (.i 1)<|.ite bF (.j [.b true]) (.bI .gtr U4 (.i 8)<|.j [bH])))))) (.ite U5 (.j [.b false]) (.join (.loop [.i 0] (.bI .lss U6 U4<|.ite U7 (.rw U3 U6 14<|.op (.rc U3 U6 0 (.int .i64))<|.op (.rc U3 U6 1 (.int .i64))<|.op (.rc U3 U6 2 (.int .i64))<|.op (.rc U3 U6 3 (.int .i64))<|.op (.rc U3 U6 4 .sl)<|.op (.rc U3 U6 5 .sl)<|.op (.rc U3 U6 6 .sl)<|.op (.rc U3 U6 7 .sl)<|.op (.rc U3 U6 8 .sl)<|.op (.rc U3 U6 9 .sl)<|.op (.rc U3 U6 10 .sl)<|.op (.rc U3 U6 11 .sl)<|.op (.rc U3 U6 12 (.int .i64))<|.op (.rc U3 U6 13 (.int .i64))<|.join (.op (.call 80 s_ (w 9 14) 1 [])<|.no cn<|.ite ct (.j [.b true]) (.bI .eql bF (.i 1)<|.bI .sub U4 (.i 1)<|.bI .eql U6 ck<|.op (.bb .neq cH cK)<|.ite cS (.j [.b true]) (.bI .gtr U6 (.i 0)<|.ite dZ (.bI .sub U6 (.i 1)<|.rw U3 eJ 14<|.op (.rc U3 eJ 0 (.int .i64))<|.bI .leq U9 ee<|.ite ig (.j [.b true]) (.bI .mul (.i 2) U1<|.bI .gtr bH iH<|.j [ke])) (.bI .mul (.i 2) U1<|.bI .gtr bH eJ<|.j [e8])))) (.ite cn (.bq (.jump 2 [.b false])) (.bI .add U6 (.i 1)<|.j [ct]))) (.bq (.jump 1 [])))) (.bI .sub U4 (.i 1)<|.rw U3 U6 14<|.op (.rc U3 U6 0 (.int .i64))<|.op (.rc U3 U6 1 (.int .i64))<|.op (.rc U3 U6 2 (.int .i64))<|.op (.rc U3 U6 3 (.int .i64))<|.op (.rc U3 U6 4 .sl)<|.op (.rc U3 U6 5 .sl)<|.op (.rc U3 U6 6 .sl)<|.op (.rc U3 U6 7 .sl)<|.op (.rc U3 U6 8 .sl)<|.op (.rc U3 U6 9 .sl)<|.op (.rc U3 U6 10 .sl)<|.op (.rc U3 U6 11 .sl)<|.op (.rc U3 U6 12 (.int .i64))<|.op (.rc U3 U6 13 (.int .i64))<|.cA 44 lB [.i 0] 1<|.op (.call 98 D2 (w 12 10) 1 [])<|.bI .mul cm cn<|.bI .add bF ct<|.bI .mul (.i 2) U1<|.bI .leq cH ck<|.j [cK])))
def Kb:=Fo anD
def aCj:bw:=⟨51,[.agg [pi 0,pi 1,.p .bool U2,.own 0]],[.row 90 U3],4,1,.v (.c (.p .bool U4)),[(0,(.row 90 U3))],Kb,107⟩
def BJ:Ok aCj:=oS (.cons Wx (.cons Cq (.cons qm .nil)))
def aCD:bp:=.op (.call 374 rj (w 0 4) 2 [])<|.join (.join (.bI .eql U6 (.i 6)<|.ite U7 (.no U4<|.j [U8]) (.j [.b false])) (.ite U7 (.op (.call 373 rT (w 0 4) 2 [])<|.j [U8,.i 0]) (.join (.bI .eql U6 (.i 0)<|.ite U8 (.no U4<|.j [U9]) (.j [.b false])) (.ite U8 (.j [U5,.i 7]) (.j [U5,U6]))))) (.bI .neq U8 (.i 0)<|.ite U9 (.j [.i 0,U8,.i 0,.i 0,.r0]) (.cA 654 N4 [U0,U1,U2] 1<|.join (.bI .gtr U1 (.i 0)<|.ite bF (.bI .sub U1 (.i 1)<|.j [bH]) (.j [U1])) (.j [U7,.i 0,U0,bF,bD])))
def vC:=Fo aCD
def aCm:bw:=⟨208,[.agg [pi 0,pi 1,ps 2],.c (.p .str U3),.c (.p .bool U4)],[],5,5,.bM [.agg [pi 7,pi 8,.own 0],ci 5,ci 6],[(0,(.row 144 U9))],vC,684⟩
def Gy:Ok aCm:=oS (.cons HE (.cons E_ (.cons avj .nil)))
def aaq:bp:=.cA 321 Ar [U4] 1<|.no U5<|.ite U6 (.j [.i 1,.i 0,.i 0,.r0]) (.op (.call 684 vC (w 0 4++[.b true]) 5 [])<|.bI .neq U8 (.i 0)<|.ite bH (.j [U8,.i 0,.i 0,.r0]) (.rw bF U7 3<|.op (.rc bF U7 0 .str)<|.op (.rc bF U7 1 .sl)<|.op (.rc bF U7 2 .sl)<|.bI .add U7 (.i 1)<|.cA 2075 vc [bF,U7,bX] 1<|.cA 373 rT [U9,bD,bU,U4] 2<|.join (.ite cv (.rw bU cd 3<|.op (.set bU cd 0 [(.str,U4),(.sl,bQ),(.sl,bV)])<|.j [cm]) (.op (.lit [[(.str,U4),(.sl,bQ),(.sl,bV)]])<|.cA 2074 ve [bU,cd,cR] 1<|.j [cm])) (.j [.i 0,U9,bD,cR])))
def Pj:=Fo aaq
def R6:bw:=⟨206,[.agg [pi 0,pi 1,ps 2],.c (.p .str U3),.c (.p .str U4)],[],5,4,.bM [.agg [pi 6,pi 7,.own 0],ci 5],[(0,(.row 144 U8))],Pj,685⟩
def Mg:Ok R6:=oS (.cons Gy (.cons E_ (.cons IT (.cons SM (.cons QW .nil)))))
def Hf:List L->Option (List L):=Pj
def aeq:bw:=⟨206,[.agg [pi 0,pi 1,ps 2],.c (.p .str U3),.c (.p .str U4)],[],5,4,.bM [.agg [pi 6,pi 7,ps 8],ci 5],[],Pj,2062⟩
def VO:aeq.ok Tryz.prog:=nY (s:=R6) Mg rfl (x:=(.v 8)) (e:=144) rfl rfl 2062
def avk:bp:=.op (.call 656 JA (w 0 10) 8 [])<|.join (.op (.call 92 Bg (w 11 8++[U8,U9]) 1 [])<|.no cd<|.ite cv (.j [.b true]) (.bI .lss bD (.i 0)<|.ite cR (.j [.b true]) (.bI .sub (.i 1099511627776) U9<|.bI .gtr bD cm<|.j [cn]))) (.ite cd (.bq (.jump 0 (w 11 8++[U8,U9]))) (.op (.call 683 WR (w 11 8++[U8,U9]) 1 [])<|.cA 3005 MH [.i 0,bD] 1<|.cA 3007 aaQ [cv,cR] 1<|.op (.call 655 S0 (w 11 8++[U8,U9,cm]) 2 [])<|.bq (.jump 0 (w 11 8++[cn,ct]))))
def FZ:=Fo avk
def apu:bw:=⟨313,[.agg (dL 0 8++[pi 8,pi 9]),ci 10],[],11,10,.v (.agg (dL 11 8++[pi 19,pi 20])),[],FZ,686⟩
def Rc:Ok apu:=oS (.cons ajh (.cons Ol (.cons avN (.cons afE .nil))))
def ZG:bp:=.op (.vw U0 U3 U4)<|.ln U6<|.loop [.i 0,U0] (.bI .lss U8 U7<|.ite bD (.op (.ir U9 U3 U4 U8 1)<|.op (.rc U9 bF 0 (.int .u8))<|.op (.ir U9 U1 U2 U8 1)<|.op (.rc U9 bL 0 (.int .u8))<|.cA 302 sd [bH,U5] 1<|.op (.bi .xor .u8 bP bQ)<|.op (.ir U9 U1 U2 U8 1)<|.op (.set U9 bX 0 [((.int .u8),bV)])<|.bI .add U8 (.i 1)<|.j [cd,bU]) (.bq (.jump 1 [U9])))
def zd:=Fo ZG
def ajR:bw:=⟨290,[.c (.sub 0 U1 U2),.c (.sub 0 U3 U4),.c (.p (.int .u8) U5)],[.row 5 U0],6,1,.bM [],[(0,(.row 5 U6))],zd,380⟩
def aqb:Ok ajR:=oS (.cons On .nil)
def ZD:bp:=.loop [.i 0,U0] (.bI .lss U4 U3<|.ite U6 (.bI .add U1 U4<|.bI .add U2 U4<|.bI .add U2 U4<|.rw U5 U9 4<|.op (.rc U5 U9 0 (.int .u64))<|.op (.rc U5 U9 1 (.int .u32))<|.op (.rc U5 U9 2 (.int .i64))<|.op (.rc U5 U9 3 (.int .i64))<|.bI .add U1 U4<|.rw U5 bQ 4<|.op (.rc U5 bQ 0 (.int .u64))<|.op (.rc U5 bQ 1 (.int .u32))<|.op (.rc U5 bQ 2 (.int .i64))<|.op (.rc U5 bQ 3 (.int .i64))<|.rw U5 U7 4<|.op (.set U5 U7 0 [((.int .u64),bF),((.int .u32),bH),((.int .i64),bL),((.int .i64),bP)])<|.rw cm U8 4<|.op (.set cm U8 0 [((.int .u64),bX),((.int .u32),bU),((.int .i64),cd),((.int .i64),cv)])<|.bI .add U4 (.i 1)<|.j [cH,ct]) (.bq (.jump 1 [U5])))
def Ai:=Fo ZD
def ami:bw:=⟨397,[.c (.own 0),ci 1,ci 2,ci 3,.c (.fn 349 [])],[.row 164 U0],4,1,.bM [],[(0,(.row 164 U4))],Ai,506⟩
def adJ:Ok ami:=oS .nil
def auZ:bp:=.join (.cA 109 Aa [U0,U1,U2,U8] 4<|.bI .eql bD (.i 0)<|.ite bP (.j [bF,bH,bL]) (.j [U0,U1,U2])) (.cA 144 KO [bD,bF,bH,U8,U9] 4<|.cA 130 MZ [bP,bQ,bV,U8] 4<|.j [bU,cd,cv])
def r4:=Fo auZ
def adM:bw:=⟨100,[.c (.ptr 0 0),.c (.p .str U8),cs 9],[.box [pi 0,pi 1,ps 2,pi 3,pi 4,.p .bool U5,ps 6,.mp 1],.map U7],10,3,.bM [],[(0,(.box [pi 10,pi 11,.own 2,pi 3,pi 4,.p .bool U5,ps 6,.mp 1])),(1,(.map U7)),(2,(.row 141 bH))],r4,614⟩
def Bt:Ok adM:=oS (.cons arJ (.cons ahT (.cons amR .nil)))
def anJ:bp:=.cA 73 Ou [U3,U8,.i 0] 2<|.cA 56 pI [.i 1,U3,U8] 1<|.op (.call 614 r4 (w 0 8++[bF,bD]) 3 [])<|.j [bH,bL,bP]
def EK:=Fo anJ
def asT:bw:=⟨94,[.c (.ptr 0 0),ci 8],[.box [pi 0,pi 1,ps 2,pi 3,pi 4,.p .bool U5,ps 6,.mp 1],.map U7],9,3,.bM [],[(0,(.box [pi 9,pi 10,.own 2,pi 3,pi 4,.p .bool U5,ps 6,.mp 1])),(1,(.map U7)),(2,(.row 141 bF))],EK,607⟩
def ZX:Ok asT:=oS (.cons Bt (.cons aqI (.cons zc .nil)))
def Rk:bp:=.bI .sub U2 U1<|.bI .sub U3 U2<|.join (.loop [U4,U5,U0] (.bI .neq U6 U7<|.ite U9 (.bI .gtr U6 U7<|.ite bD (.bI .sub U2 U6<|.cA 506 Ai [U8,bF,U2,U7] 1<|.bI .sub U6 U7<|.j [bL,U7,bH]) (.bI .sub U2 U6<|.bI .add U2 U7<|.bI .sub bH U6<|.cA 506 Ai [U8,bF,bL,U6] 1<|.bI .sub U7 U6<|.j [U6,bQ,bP])) (.bq (.jump 1 [U6,U8])))) (.bI .sub U2 U6<|.cA 506 Ai [U7,U8,U2,U6] 1<|.j [U9])
def KC:=Fo Rk
def ahQ:bw:=⟨395,[.c (.own 0),ci 1,ci 2,ci 3,.c (.fn 349 [])],[.row 164 U0],4,1,.bM [],[(0,(.row 164 U4))],KC,508⟩
def yH:Ok ahQ:=oS (.cons adJ .nil)
def C8:List L->Option (List L):=λ_=>none
def ayu:bw:=⟨393,[.c (.own 0),ci 1,ci 2,ci 3,.c (.fn 349 [])],[.row 164 U0],4,1,.bM [],[(0,(.row 164 U4))],C8,1766⟩
def asV:ayu.ok Tryz.prog:=λ_ _ _ h=>by
 have h:(none:Option (List L))=some _:=h;cases h
def Wl:bp:=.op (.call 684 vC (w 0 4++[.b true]) 5 [])<|.bI .neq U5 (.i 0)<|.ite U9 (.j [U5,.i 0,.i 0,.r0]) (.rw U8 U4 3<|.op (.rc U8 U4 0 .str)<|.op (.rc U8 U4 1 .sl)<|.op (.rc U8 U4 2 .sl)<|.cA 362 G3 [bF,bH,bL] 1<|.op (.set U8 U4 1 [(.sl,bP)])<|.op (.set bQ U4 2 [(.sl,.r0)])<|.j [.i 0,U6,U7,bV])
def NJ:=Fo Wl
def Yq:bw:=⟨214,[.agg [pi 0,pi 1,ps 2],.c (.p .str U3)],[],4,4,.bM [.agg [pi 5,pi 6,.own 0],ci 4],[(0,(.row 144 U7))],NJ,694⟩
def Rx:Ok Yq:=oS (.cons Gy (.cons Sg .nil))
def OM:List L->Option (List L):=NJ
def afV:bw:=⟨214,[.agg [pi 0,pi 1,ps 2],.c (.p .str U3)],[],4,4,.bM [.agg [pi 5,pi 6,ps 7],ci 4],[],NJ,2061⟩
def aiR:afV.ok Tryz.prog:=nY (s:=Yq) Rx rfl (x:=(.v 7)) (e:=144) rfl rfl 2061
def WA:bp:=.op (.call 684 vC (w 0 4++[.b false]) 5 [])<|.bI .neq U5 (.i 0)<|.ite U9 (.j [U5,.i 0,.i 0,.r0]) (.ln U8<|.bI .geq bD (.i 256)<|.ite bF (.j [.i 9,.i 0,.i 0,.r0]) (.op (.lit [[(.str,U3),(.sl,.r0),(.sl,.r0)]])<|.cA 2074 ve [U8,U4,bH] 1<|.j [.i 0,U6,U7,bL]))
def LQ:=Fo WA
def R1:bw:=⟨212,[.agg [pi 0,pi 1,ps 2],.c (.p .str U3)],[],4,4,.bM [.agg [pi 5,pi 6,.own 0],ci 4],[(0,(.row 144 U7))],LQ,695⟩
def WO:Ok R1:=oS (.cons Gy (.cons SM .nil))
def Jm:List L->Option (List L):=LQ
def aCC:bw:=⟨212,[.agg [pi 0,pi 1,ps 2],.c (.p .str U3)],[],4,4,.bM [.agg [pi 5,pi 6,ps 7],ci 4],[],LQ,2059⟩
def aAz:aCC.ok Tryz.prog:=nY (s:=R1) WO rfl (x:=(.v 7)) (e:=144) rfl rfl 2059
def aav:bp:=.op (.call 684 vC (w 0 4++[.b true]) 5 [])<|.bI .neq U5 (.i 0)<|.ite U9 (.j [U5,.i 0,.i 0,.r0]) (.bI .add U4 (.i 1)<|.cA 2075 vc [U8,U4,bD] 1<|.j [.i 0,U6,U7,bF])
def Ky:=Fo aav
def WN:bw:=⟨132,[.agg [pi 0,pi 1,ps 2],.c (.p .str U3)],[],4,4,.bM [.agg [pi 5,pi 6,.own 0],ci 4],[(0,(.row 144 U7))],Ky,696⟩
def Di:Ok WN:=oS (.cons Gy (.cons QW .nil))
end
section
open Go.RowKit
open Classical
def awb(ev:cL->b8)(o:Oper){b args ts}(a:o.op=.call ⟨.builtin b,args,ts⟩):execOp ev o=builtin b ts o.type (args.map λ| .const _=>true|_=>false) (args.map ev):=by
 unfold execOp;rw[a];rfl
section
variable{X:Fx}{Q:Exit->bC->Prop}{st:bC}
def apX{id t2 ty:Nat}{p a2}(hQ:Q .normal (st.put (some t2) (.v (.c (.p .nl))))):
 Aw X (.region id #[{dst:=some t2,op:=.assign (.const (.slice none 0 0)),type:=ty,pos:=p,after:=a2,guard:=none}] false) Q st:=λa w ht=>by
 obtain⟨E,hR,hg⟩:=ht;refine wp_region ?_;rw[show(List.range (#[({dst:=some t2,op:=.assign (.const (.slice none 0 0)),type:=ty,pos:=p,after:=a2,guard:=none}:Oper)]).size)=[0]from rfl];simp only[wpOps,Region.wanted,qV,p8,if_true];refine .inl (jA (u:=.slice none 0 0) (w':=w) ?_ ?_)
 .simp only[execOp];rfl
 .exact⟨_,hQ,E,hR.put (some t2) (v:=.v (.c (.p .nl))) RP.nl,hg⟩
def aoR{id t2 t5 t6 t7 i T e:Nat}{n b p5 p6 p7 p2 a5 a6 a7 a2}(hi:st.tmps[i]?=some (.v (.c (.p (.sl [])))))(hne:i≠t5)(h56:t5≠t6)(h5:t5<st.tmps.length)(h6:t6<st.tmps.length)(h7:t7<st.tmps.length)
 (hT:f_ X.P T=some e) (aEy:jH X.P e=some (n,b)) {d} (wL:X.k0<=d) (PK:st.next<=d)
 (hQ:Q .normal (((((({st with next:=d+1}:bC).ez ⟨[(d,.row e [])],[]⟩).put (some t5) (.v (.c .dead))).put (some t6) (.v (.c .dead))).put (some t7) (.v (.c .dead))).put (some t2) (.v (.c (.p .nl))))):
 Aw X (.region id #[{dst:=some t5,op:=.buildSlice T 0 #[],type:=T,pos:=p5,after:=a5,guard:=none},{dst:=some t6,op:=.move (.tmp i),type:=T,pos:=p6,after:=a6,guard:=none},
  {dst:=some t7,op:=.call {callee:=.builtin .append,args:= #[.tmp t5,.tmp t6],argTypes:= #[T,T]},type:=T,pos:=p7,after:=a7,guard:=none},
  {dst:=some t2,op:=.assign (.tmp t7),type:=T,pos:=p2,after:=a2,guard:=none}] false) Q st:=λa w ht=>by
 obtain⟨E,hR,hg⟩:=ht;obtain⟨u,h1,h2⟩:=hR.tmps i _ hi;have aEz:t5<a.tmps.size:=by rw[hR.size];exact h5
 have aEA:t6<a.tmps.size:=by rw[hR.size];exact h6
 have aEB:t7<a.tmps.size:=by rw[hR.size];exact h7
 obtain⟨hu,hie⟩:=oH hT;obtain⟨ii,z,qR,hz,hzs,aEC,qQ,hib,zm⟩:=sS aEy;refine wp_region ?_;obtain⟨A,c,rfl⟩:∃A c,u=.slice A 0 c:=by
  cases h2 with
  |nil=>exact⟨_,_,rfl⟩
  |row h0=>exact absurd rfl h0
 have PL:Rel X E {st with next:=d+1} a w:={
  defers:=hR.defers
  bx:=hR.bx
  frame:=hR.frame
  jJ:=hR.jJ
  fj:=λn x hn=>by have:=hR.fj n x hn;show n<d+1;omega
  names:=hR.names
  inj:=hR.inj
  gl:=hR.gl
  kb:=by have:=hR.kb;show _<=d+1;omega
  lH:=λn hn=>by have:=hR.lH n hn;show n<d+1;omega
  size:=hR.size
  tmps:=hR.tmps
  heap:=hR.heap}
 have hf:=PL.qM (d:=d) (by
  cases hN:E.N d with
  |none=>rfl
  |some x=>have:=hR.fj d x hN;omega) wL (by show d<d+1;omega) (e:=e) aEC zm.symm (rows:=[]) (λr hr=>by cases hr) (cap:=0) (dz _) (fu _) (us:= #[]) ch (λi r j p k1 k2=>by simp at k1) (wd:=w) (.inl rfl)
 have e1:(a.put (some t5) (.slice (some ⟨w.heap.size,0,none⟩) 0 0)).eval (.tmp i)=.slice A 0 c:=by
  have:=Ne.symm hne;simp[Act.eval,Act.put,sB,h1,this]
 rw [show(List.range (#[({dst:=some t5,op:=.buildSlice T 0 #[],type:=T,pos:=p5,after:=a5,guard:=none}:Oper),{dst:=some t6,op:=.move (.tmp i),type:=T,pos:=p6,after:=a6,guard:=none},
  {dst:=some t7,op:=.call {callee:=.builtin .append,args:= #[.tmp t5,.tmp t6],argTypes:= #[T,T]},type:=T,pos:=p7,after:=a7,guard:=none},
  {dst:=some t2,op:=.assign (.tmp t7),type:=T,pos:=p2,after:=a2,guard:=none}]).size)=[0,1,2,3]from rfl]
 simp only[wpOps,Region.wanted,qV,p8,C4,if_true];refine .inl (jA (u:=.slice (some ⟨w.heap.size,0,none⟩) 0 0) (w':=w.alloc (.cells #[] e)) ?_ (.inl ?_))
 .simp only[execOp];simp[Instr.buildSlice,run_underlying hu,sizeOf,typeInfo,qR,qQ,Instr.fill,newRow];congr 2;exact CY ch
 refine jA (u:=.slice A 0 c) (w':=w.alloc (.cells #[] e)) ?_ (.inl ?_)
 .simp only[execOp,e1];rfl
 refine jA (u:=.slice (some ⟨w.heap.size,0,none⟩) 0 0) (w':=w.alloc (.cells #[] e)) ?_ (.inl ?_)
 .have e2:((a.put (some t5) (.slice (some ⟨w.heap.size,0,none⟩) 0 0)).put (some t6) (.slice A 0 c)).eval (.tmp t5)=.slice (some ⟨w.heap.size,0,none⟩) 0 0:=by
   simp[Act.eval,Act.put,sB,aEz,Ne.symm h56]
  have e3:((a.put (some t5) (.slice (some ⟨w.heap.size,0,none⟩) 0 0)).put (some t6) (.slice A 0 c)).eval (.tmp t6)=.slice A 0 c:=by
   simp[Act.eval,Act.put,sB,aEA]
  have hr:(Builtin.append_ #[T,T] T #[.slice (some ⟨w.heap.size,0,none⟩) 0 0,.slice A 0 c]).run X.P (w.alloc (.cells #[] e))=.ok (.slice (some ⟨w.heap.size,0,none⟩) 0 0) (w.alloc (.cells #[] e)):=by
   cases A with
   |none=>simp[Builtin.append_,run_underlying hu,sizeOf,typeInfo,qR,Builtin.lenOf,Builtin.firstCells,storeCells]
   |some B=>simp[Builtin.append_,run_underlying hu,sizeOf,typeInfo,qR,Builtin.lenOf,Builtin.firstCells,loadCells,loadCellsFrom,storeCells]
  rw[awb _ _ rfl];simp only[List.map_toArray,dE,iC,e2,e3];simp[builtin,hr]
 refine jA (u:=.slice (some ⟨w.heap.size,0,none⟩) 0 0) (w':=w.alloc (.cells #[] e)) ?_ ?_
 .have e4:(((a.put (some t5) (.slice (some ⟨w.heap.size,0,none⟩) 0 0)).put (some t6) (.slice A 0 c)).put (some t7) (.slice (some ⟨w.heap.size,0,none⟩) 0 0)).eval (.tmp t7)=.slice (some ⟨w.heap.size,0,none⟩) 0 0:=by
   simp[Act.eval,Act.put,sB,aEB]
  simp only[execOp,e4];rfl
 .exact⟨_,hQ,_,(((hf.1.put (some t5) (v:=.v (.c .dead)) trivial).put (some t6) (v:=.v (.c .dead)) trivial).put (some t7) (v:=.v (.c .dead)) trivial).put (some t2) (v:=.v (.c (.p .nl))) RP.nl,by simpa[bC.put,bC.ez]using hg⟩
end
def apB:eX Tryz.prog 122 [.c (.p (.sl []))] [] (.v (.c (.p .nl))) []:=by
 refine eX.intro Tryz.func122 kr rfl rfl rfl λX a c=>nK ?_
 refine eT ?_;refine lj (Sp:=λ_=>none) rfl rfl ?_;refine eT ?_;refine eT ?_;refine sX (rows:=[]) (e:=147) rfl (by show 3<8;decide) (by rw[a];exact Tryz.underlying142) ?_;intro b g;refine oI (t:=b) rfl (λh=>?_) (λh=>?_)
 .subst h;exact eT (apX (o7 ⟨_,λ_ _ h=>h,trivial,rfl,λn b h=>by cases h⟩))
 .subst h;refine rn ?_;have f:X.k0=0:=c;refine eT (aoR (T:=142) (e:=147) (n:=3) (b:=40) (d:=100000) rfl dc dc (by show 5<8;decide) (by show 6<8;decide) (by show 7<8;decide) (by rw[a];kernel_rfl) (by rw[a];kernel_rfl) om (by show _<=100000;decide) (o7 ⟨_,λ_ _ h=>h,trivial,rfl,λn b h=>by cases h⟩))
def Bv:List L->Option (List L):=λls=>match ls with
 |[.r []]=>some []
 |_=>none
def aoZ:bw:=⟨122,[.c (.p .sl U0)],[],1,0,.v (.c (.p .nl (.i 0))),[],Bv,2078⟩
def adP:aoZ.ok Tryz.prog:=by
 intro ls os c a b;have a:Bv ls=some os:=a;unfold Bv at a;split at a
 .cases a;exact apB
 .cases a
end
section
attribute [local irreducible] Fo
open Go.RowKit
def amc:bp:=.op (.call 110 qy (w 0 4) 2 [])<|.bI .neq U5 (.i 0)<|.ite U6 (.j [.i 0,U5]) (.rw U2 U4 3<|.cl U7 0 .str<|.cl U7 1 .sl<|.cl U7 2 .sl<|.cA 97 o_ [U8,U9,bD] 1<|.ln bF<|.j [bH,.i 0])
def qZ:=Fo amc
def awU:bw:=⟨36,[.agg [pi 0,pi 1,ps 2],.c (.p .str U3)],[],4,2,.bM [ci 4,ci 5],[],qZ,128⟩
def VT:Ok awU:=oS (.cons AZ (.cons yd .nil))
def ahF:bp:=.op (.call 128 qZ (w 0 4) 2 [])<|.bI .neq U5 (.i 0)<|.ite U6 (.j [.r0,U5]) (.op (.call 127 vf (w 0 4++[.i 0,U4]) 2 [])<|.j [U7,U8])
def uX:=Fo ahF
def aBf:bw:=⟨34,[.agg [pi 0,pi 1,ps 2],.c (.p .str U3)],[],4,2,.bM [cs 4,ci 5],[],uX,143⟩
def R5:Ok aBf:=oS (.cons VT (.cons axC .nil))
def acV:bp:=.join (.join (.op (.call 52 xk (w 0 10) 1 [])<|.ite bF (.bI .geq bD (.i 0)<|.ite bH (.bI .sub (.i 1099511627776) U9<|.bI .leq bD bL<|.j [bP]) (.j [.b false])) (.j [.b false])) (.ite bF (.bI .add U9 bD<|.j [bH]) (.j [U9]))) (.j [bF])
def KF:=Fo acV
def s78:bw:=⟨177,[.agg (dL 0 8++[pi 8,pi 9]),ci 10],[],11,1,.v (.agg (dL 0 8++[pi 8,pi 11])),[],KF,78⟩
def ahK:Ok s78:=oS (.cons HR .nil)
def atl:bp:=.join (.loop [.i 0] (.ln U0<|.bI .lss U2 U3<|.ite U4 (.rw U0 U2 4<|.cl U5 0 (.int .u64)<|.cl U5 1 (.int .u32)<|.cl U5 2 (.int .i64)<|.cl U5 3 (.int .i64)<|.op (.call 47 Ba (w 6 4) 1 [])<|.no bD<|.ite bF (.bq (.jump 2 [.i 0,.i 0,.r0,.r0,.r0,.r0,.r0,.r0,.r0,.r0])) (.bI .add U2 (.i 1)<|.j [bH])) (.bq (.jump 1 [])))) (.join (.bI .lss U1 (.i 0)<|.ite U2 (.j [.b true]) (.bI .gtr U1 (.i 1099511627776)<|.j [U3])) (.ite U2 (.j [.i 0,.i 0,.r0,.r0,.r0,.r0,.r0,.r0,.r0,.r0]) (.cA 46 yy [U0] 1<|.cA 674 O4 [U3] 1<|.join (.loop [.i 0,.r0,.r0,.r0,.r0,.r0,.r0,.r0,.r0] (.ln U3<|.bI .lss U5 bP<|.ite bQ (.join (.rw U3 U5 4<|.op (.rc U3 U5 0 (.int .u64))<|.cA 50 GP [bX] 1<|.bI .eql bU (.i 0)<|.ite cd (.rw U3 U5 4<|.op (.rc U3 U5 0 (.int .u64))<|.op (.rc U3 U5 1 (.int .u32))<|.op (.rc U3 U5 2 (.int .i64))<|.op (.rc U3 U5 3 (.int .i64))<|.op (.lit [[((.int .u64),cR),((.int .u32),cm),((.int .i64),cn),((.int .i64),ct)]])<|.op (.app U6 cH 4 32)<|.bq (.jump 0 ([ck]++w 7 7))) (.bI .eql bU (.i 1)<|.ite cv (.rw U3 U5 4<|.op (.rc U3 U5 0 (.int .u64))<|.op (.rc U3 U5 1 (.int .u32))<|.op (.rc U3 U5 2 (.int .i64))<|.op (.rc U3 U5 3 (.int .i64))<|.op (.lit [[((.int .u64),cm),((.int .u32),cn),((.int .i64),ct),((.int .i64),cH)]])<|.op (.app U7 ck 4 32)<|.bq (.jump 0 ([U6,cK]++w 8 6))) (.bI .eql bU (.i 2)<|.ite cR (.rw U3 U5 4<|.op (.rc U3 U5 0 (.int .u64))<|.op (.rc U3 U5 1 (.int .u32))<|.op (.rc U3 U5 2 (.int .i64))<|.op (.rc U3 U5 3 (.int .i64))<|.op (.lit [[((.int .u64),cn),((.int .u32),ct),((.int .i64),cH),((.int .i64),ck)]])<|.op (.app U8 cK 4 32)<|.bq (.jump 0 ([U6,U7,cS]++w 9 5))) (.bI .eql bU (.i 3)<|.ite cm (.rw U3 U5 4<|.op (.rc U3 U5 0 (.int .u64))<|.op (.rc U3 U5 1 (.int .u32))<|.op (.rc U3 U5 2 (.int .i64))<|.op (.rc U3 U5 3 (.int .i64))<|.op (.lit [[((.int .u64),ct),((.int .u32),cH),((.int .i64),ck),((.int .i64),cK)]])<|.op (.app U9 cS 4 32)<|.bq (.jump 0 ([U6,U7,U8,dZ]++w 10 4))) (.bI .eql bU (.i 4)<|.ite cn (.rw U3 U5 4<|.op (.rc U3 U5 0 (.int .u64))<|.op (.rc U3 U5 1 (.int .u32))<|.op (.rc U3 U5 2 (.int .i64))<|.op (.rc U3 U5 3 (.int .i64))<|.op (.lit [[((.int .u64),cH),((.int .u32),ck),((.int .i64),cK),((.int .i64),cS)]])<|.op (.app bD dZ 4 32)<|.bq (.jump 0 (w 6 4++[eJ,bF,bH,bL]))) (.bI .eql bU (.i 5)<|.ite ct (.rw U3 U5 4<|.op (.rc U3 U5 0 (.int .u64))<|.op (.rc U3 U5 1 (.int .u32))<|.op (.rc U3 U5 2 (.int .i64))<|.op (.rc U3 U5 3 (.int .i64))<|.op (.lit [[((.int .u64),ck),((.int .u32),cK),((.int .i64),cS),((.int .i64),dZ)]])<|.op (.app bF eJ 4 32)<|.bq (.jump 0 (w 6 5++[e8,bH,bL]))) (.bI .eql bU (.i 6)<|.ite cH (.rw U3 U5 4<|.op (.rc U3 U5 0 (.int .u64))<|.op (.rc U3 U5 1 (.int .u32))<|.op (.rc U3 U5 2 (.int .i64))<|.op (.rc U3 U5 3 (.int .i64))<|.op (.lit [[((.int .u64),cK),((.int .u32),cS),((.int .i64),dZ),((.int .i64),eJ)]])<|.op (.app bH e8 4 32)<|.bq (.jump 0 (w 6 6++[ee,bL]))) (.bI .eql bU (.i 7)<|.ite ck (.rw U3 U5 4<|.op (.rc U3 U5 0 (.int .u64))<|.op (.rc U3 U5 1 (.int .u32))<|.op (.rc U3 U5 2 (.int .i64))<|.op (.rc U3 U5 3 (.int .i64))<|.op (.lit [[((.int .u64),cS),((.int .u32),dZ),((.int .i64),eJ),((.int .i64),e8)]])<|.op (.app bL ee 4 32)<|.bq (.jump 0 (w 6 7++[ig]))) (.op (.dM (.i 0) 0)<|.j []))))))))) (.bI .add U5 (.i 1)<|.bq (.jump 0 ([ct]++w 16 8)))) (.bq (.jump 1 (w 6 8))))) (.bq (.jump 0 ([U4,U1]++w 5 8))))))
def Ec:=Fo atl
def s51:bw:=⟨241,[cs 0,ci 1],[],2,10,.v (.agg [.own 0,.own 1,.own 2,.own 3,.own 4,.own 5,.own 6,.own 7,pi 2,pi 3]),[(0,(.row 164 U4)),(1,(.row 164 U5)),(2,(.row 164 U6)),(3,(.row 164 U7)),(4,(.row 164 U8)),(5,(.row 164 U9)),(6,(.row 164 bD)),(7,(.row 164 bF))],Ec,51⟩
def Yb:Ok s51:=oS (.cons awx (.cons Q1 (.cons KZ (.cons Tb (.cons C_ .nil)))))
def axj:bp:=.op (.call 374 rj (w 0 4) 2 [])<|.bI .neq U7 (.i 0)<|.ite U8 (.j [U7,.r0]) (.rw U2 U6 3<|.cl U9 0 .str<|.cl U9 1 .sl<|.cl U9 2 .sl<|.cA 362 G3 [bD,bF,bH] 1<|.ln bL<|.join (.bI .lss U4 (.i 0)<|.ite bQ (.j [.b true]) (.bI .lss U5 (.i 0)<|.ite bV (.j [.b true]) (.bI .gtr U4 bP<|.ite bX (.j [.b true]) (.bI .sub bP U4<|.bI .gtr U5 bU<|.j [cd])))) (.ite bQ (.j [.i 2,.r0]) (.bI .add U4 U5<|.ln bL<|.op (.part bL U4 bV 1)<|.cA 2011 qp [bU] 0<|.j [.i 0,bU])))
def tC:=Fo axj
def adI:bw:=⟨198,[.agg [pi 0,pi 1,ps 2],.c (.p .str U3),ci 4,ci 5],[],6,2,.bM [.c (.own 0),ci 6],[(0,(.row 5 U7))],tC,376⟩
def aDt:Ok adI:=oS (.cons HE (.cons Sg (.cons wB .nil)))
def awK:bp:=.op (.call 100 Fy (w 0 14++[.i 2,.i 3]) 15 [])<|.bq (.jump 0 (w 14 15))
def Nv:=Fo awK
def ari:bw:=⟨175,[.agg (cM 0 4++dL 4 8++[pi 12,pi 13])],[],14,15,.bM [.agg (cM 15 4++dL 19 8++[pi 27,pi 28]),ci 14],[],Nv,101⟩
def ait:Ok ari:=oS (.cons aax .nil)
def akO:bp:=.join (.op (.call 103 tj (w 0 4) 1 [])<|.ite U4 (.ln U3<|.bI .sub U5 (.i 1)<|.rw U3 U6 14<|.cl U7 0 (.int .i64)<|.bI .lss U8 (.i 8)<|.j [U9]) (.j [.b false])) (.j [U4])
def IV:=Fo akO
def azv:bw:=⟨181,[.agg [pi 0,pi 1,.p .bool U2,ps 3]],[],4,1,.v (.c (.p .bool U4)),[],IV,119⟩
def azN:Ok azv:=oS (.cons BJ (.cons xZ .nil))
def aly:bp:=.op (.call 103 tj (w 0 4) 1 [])<|.no U4<|.ite U5 (.j [.i 1,.i 0,.i 0,.b false,.r0]) (.op (.call 119 IV (w 0 4) 1 [])<|.no U6<|.ite U7 (.j [.i 9,.i 0,.i 0,.b false,.r0]) (.ln U3<|.bI .sub U8 (.i 1)<|.rw U3 U9 14<|.cl bD 0 (.int .i64)<|.cl bD 1 (.int .i64)<|.cl bD 2 (.int .i64)<|.cl bD 3 (.int .i64)<|.cl bD 4 .sl<|.cl bD 5 .sl<|.cl bD 6 .sl<|.cl bD 7 .sl<|.cl bD 8 .sl<|.cl bD 9 .sl<|.cl bD 10 .sl<|.cl bD 11 .sl<|.cl bD 12 (.int .i64)<|.cl bD 13 (.int .i64)<|.op (.call 102 Nz (w 11 14) 15 [])<|.bI .add ck (.i 1)<|.cA 57 Hc [kE] 4<|.op (.lit [])<|.bI .sub U8 (.i 1)<|.ln U3<|.op (.part U3 (.i 0) vW 14)<|.op (.app ky iR 14 240)<|.op (.lit [[((.int .i64),ck),((.int .i64),cK),((.int .i64),cS),((.int .i64),dZ),(.sl,eJ),(.sl,e8),(.sl,ee),(.sl,ig),(.sl,iH),(.sl,ke),(.sl,jG),(.sl,km),((.int .i64),jn),((.int .i64),jO)],[((.int .i64),oB),((.int .i64),(.i 0)),((.int .i64),uy),((.int .i64),ql),(.sl,.r0),(.sl,.r0),(.sl,.r0),(.sl,.r0),(.sl,.r0),(.sl,.r0),(.sl,.r0),(.sl,.r0),((.int .i64),(.i 0)),((.int .i64),(.i 0))]])<|.op (.app nO vu 14 240)<|.j [.i 0,U0,U1,U2,qh]))
def G1:=Fo aly
def ahX:bw:=⟨101,[.agg [pi 0,pi 1,.p .bool U2,ps 3]],[],4,5,.bM [.agg [pi 5,pi 6,.p .bool U7,.own 0],ci 4],[(0,(.row 90 U8))],G1,120⟩
def afn:Ok ahX:=oS (.cons azN (.cons BJ (.cons xZ (.cons axV (.cons aaj .nil)))))
def aBL:bp:=.join (.op (.call 52 xk (w 0 10) 1 [])<|.no bP<|.ite bQ (.j [.b true]) (.op (.call 47 Ba (w 10 4) 1 [])<|.no bV<|.j [bX])) (.ite bP (.bq (.jump 0 (w 0 10))) (.join (.op (.call 99 vl (w 0 11) 5 [])<|.ite bQ (.cA 44 lB [cd] 1<|.j [cv]) (.j [.i 0])) (.bI .add U9 bQ<|.bI .gtr bV (.i 1099511627776)<|.ite bX (.bq (.jump 0 (w 0 10))) (.op (.call 79 rJ (w 0 10) 1 [])<|.op (.call 76 Kr ([bU]++w 10 4) 1 [0])<|.bI .add U9 bQ<|.op (.call 51 Ec [cd,cv] 10 [2,3,4,5,6,7,8,9])<|.bq (.jump 0 (w 23 8++[cR,cm]))))))
def K6:=Fo aBL
def afA:bw:=⟨179,[.agg (dL 0 8++[pi 8,pi 9]),.agg [.p (.int .u64) bD,.p (.int .u32) bF,pi 12,pi 13]],[],14,10,.v (.agg (dL 14 8++[pi 22,pi 23])),[],K6,111⟩
def ayc:Ok afA:=oS (.cons DV (.cons xg (.cons Yb (.cons HR (.cons aCr (.cons qm (.cons KZ .nil)))))))
def aja:bp:=.op (.call 103 tj (w 0 4) 1 [])<|.no U4<|.ite U5 (.j [.i 1,.i 0,.i 0,.i 0,.i 0,.r0,.r0,.r0,.r0,.r0,.r0,.r0,.r0,.i 0,.i 0]) (.ln U3<|.bI .sub U6 (.i 1)<|.rw U3 U7 14<|.cl U8 0 (.int .i64)<|.cl U8 1 (.int .i64)<|.cl U8 2 (.int .i64)<|.cl U8 3 (.int .i64)<|.cl U8 4 .sl<|.cl U8 5 .sl<|.cl U8 6 .sl<|.cl U8 7 .sl<|.cl U8 8 .sl<|.cl U8 9 .sl<|.cl U8 10 .sl<|.cl U8 11 .sl<|.cl U8 12 (.int .i64)<|.cl U8 13 (.int .i64)<|.bq (.jump 0 ([.i 0]++w 9 14)))
def GY:=Fo aja
def aCc:bw:=⟨96,[.agg [pi 0,pi 1,.p .bool U2,ps 3]],[],4,15,.bM [.agg (cM 5 4++dL 9 8++[pi 17,pi 18]),ci 4],[],GY,116⟩
def X5:Ok aCc:=oS (.cons BJ (.cons xZ .nil))
def aeC:bp:=.op (.call 103 tj (w 0 4) 1 [])<|.no bU<|.ite cd (.j [.i 1,.i 0,.i 0,.b false,.r0]) (.op (.lit [])<|.op (.app cv U3 14 240)<|.join (.loop [.b false,.i 0,cR] (.ln ct<|.bI .lss cn cH<|.ite ck (.join (.rw ct cn 14<|.op (.rc ct cn 0 (.int .i64))<|.bI .eql cS U4<|.ite dZ (.rw ct cn 14<|.op (.set ct cn 0 [((.int .i64),U4),((.int .i64),U5),((.int .i64),U6),((.int .i64),U7),(.sl,U8),(.sl,U9),(.sl,bD),(.sl,bF),(.sl,bH),(.sl,bL),(.sl,bP),(.sl,bQ),((.int .i64),bV),((.int .i64),bX)])<|.j [.b true,e8]) (.j [cm,ct])) (.bI .add cn (.i 1)<|.j [cK,dZ,cS])) (.bq (.jump 1 [cm,ct])))) (.no cm<|.ite ct (.j [.i 6,.i 0,.i 0,.b false,.r0]) (.cA 107 Kb [U0,U1,U2,cn] 1<|.no cH<|.ite ck (.j [.i 1,.i 0,.i 0,.b false,.r0]) (.j [.i 0,U0,U1,U2,cn]))))
def Ah:=Fo aeC
def adr:bw:=⟨98,[.agg [pi 0,pi 1,.p .bool U2,ps 3],.agg (cM 4 4++dL 8 8++[pi 16,pi 17])],[],18,5,.bM [.agg [pi 19,pi 20,.p .bool cR,.own 0],ci 18],[(0,(.row 90 cm))],Ah,118⟩
def Ps:Ok adr:=oS (.cons BJ (.cons xZ .nil))
def agz:bp:=.op (.call 99 vl (w 0 11) 5 [])<|.join (.no bF<|.ite bV (.j [.b true]) (.cA 44 lB [bQ] 1<|.bI .add U9 bX<|.bI .gtr bU (.i 1099511627776)<|.j [cd])) (.ite bV (.bq (.jump 0 (w 0 10))) (.op (.call 79 rJ (w 0 10) 1 [])<|.op (.call 77 NN [bX,bD] 1 [0])<|.cA 44 lB [bQ] 1<|.bI .add U9 cd<|.op (.call 51 Ec [bU,cv] 10 [2,3,4,5,6,7,8,9])<|.bq (.jump 0 (w 23 8++[cR,cm]))))
def FC:=Fo agz
def aqU:bw:=⟨178,[.agg (dL 0 8++[pi 8,pi 9]),.c (.p (.int .u64) bD)],[],11,10,.v (.agg (dL 11 8++[pi 19,pi 20])),[],FC,112⟩
def Vq:Ok aqU:=oS (.cons DV (.cons xg (.cons Yb (.cons awt (.cons qm .nil)))))
def acX:bp:=.op (.call 80 s_ (w 0 14) 1 [])<|.no bQ<|.ite bV (.j [.i 1,.i 0,.i 0,.i 0,.i 0,.r0,.r0,.r0,.r0,.r0,.r0,.r0,.r0,.i 0,.i 0]) (.bI .eql U2 (.i 1)<|.ite bX (.j [.i 12,.i 0,.i 0,.i 0,.i 0,.r0,.r0,.r0,.r0,.r0,.r0,.r0,.r0,.i 0,.i 0]) (.join (.loop ([.i 0]++w 4 10) (.ln bP<|.bI .lss bU dZ<|.ite eJ (.rw bP bU 1<|.cl e8 0 (.int .u64)<|.op (.call 112 FC (w 19 10++[ee]) 10 [])<|.bI .add bU (.i 1)<|.bq (.jump 0 ([uy]++w 33 10))) (.bq (.jump 1 (w 19 10))))) (.bq (.jump 0 ([.i 0]++w 0 4++w 18 10)))))
def NA:=Fo acX
def aqd:bw:=⟨146,[.agg (cM 0 4++dL 4 8++[pi 12,pi 13]),cs 14],[],15,15,.bM [.agg (cM 16 4++dL 20 8++[pi 28,pi 29]),ci 15],[],NA,113⟩
def aeF:Ok aqd:=oS (.cons Vq (.cons Cq .nil))
def adO:bp:=.join (.loop [.i 0,.r0] (.join (.bI .add U5 (.i 1)<|.ln U3<|.bI .lss U7 U8<|.ite U9 (.op (.call 103 tj (w 0 4) 1 [])<|.j [bD]) (.j [.b false])) (.ite U7 (.join (.rw U3 U5 14<|.cl U8 4 .sl<|.cl U8 5 .sl<|.cl U8 6 .sl<|.cl U8 7 .sl<|.cl U8 8 .sl<|.cl U8 9 .sl<|.cl U8 10 .sl<|.cl U8 11 .sl<|.cl U8 12 (.int .i64)<|.cl U8 13 (.int .i64)<|.op (.call 99 vl (w 9 10++[U4]) 5 [])<|.ite cd (.rw U3 U5 14<|.cl ct 0 (.int .i64)<|.op (.lit [[((.int .i64),cH)]])<|.op (.app U6 ck 1 8)<|.j [cK]) (.j [U6])) (.bI .add U5 (.i 1)<|.j [U9,U8])) (.bq (.jump 1 [U6]))))) (.j [U5])
def OZ:=Fo adO
def aiM:bw:=⟨145,[.agg [pi 0,pi 1,.p .bool U2,ps 3],.c (.p (.int .u64) U4)],[],5,1,.v (.c (.own 0)),[(0,(.row 3 U5))],OZ,117⟩
def amP:Ok aiM:=oS (.cons BJ (.cons xZ (.cons DV .nil)))
def agq:bp:=.cA 26 Kv [U0,.i 4] 1<|.no U1<|.ite U2 (.j [.r0,.i 1]) (.cA 105 IQ [U0] 1<|.ln U3<|.op (.cut U3 (.i 4) U4 1)<|.op (.vw U3 (.i 4) U5)<|.j [U6,.i 0])
def KD:=Fo agq
def aeL:bw:=⟨188,[.c (.own 0)],[.row 95 U0],1,2,.bM [cs 1,ci 2],[(0,(.row 95 U0))],KD,122⟩
def ana:Ok aeL:=oS (.cons akC (.cons aCs .nil))
def aoi:bp:=.join (.bI .sub U2 (.i 1)<|.loop [U3,U0] (.bI .geq U4 (.i 0)<|.ite U6 (.bI .mul (.i 8) U4<|.op (.bi .shr .u64 U1 U7)<|.op (.conv .u8 U8)<|.op (.lit [[((.int .u8),U9)]])<|.op (.app U5 bD 1 1)<|.bI .sub U4 (.i 1)<|.j [bH,bF]) (.bq (.jump 1 [U5])))) (.j [U3])
def Bi:=Fo aoi
def aqW:bw:=⟨312,[.c (.own 0),.c (.p (.int .u64) U1),ci 2],[.row 5 U0],3,1,.v (.c (.own 1)),[(1,(.row 5 U3))],Bi,687⟩
def arC:Ok aqW:=oS .nil
end
end
end Go.Proofs.YtiikkkhcolcebaaGreatDoor
