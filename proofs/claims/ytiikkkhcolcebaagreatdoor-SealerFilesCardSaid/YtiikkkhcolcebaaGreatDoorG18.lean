/- A part. -/
import Derived.Test.YtiikkkhcolcebaaGreatDoorG6
import Derived.Test.YtiikkkhcolcebaaGreatDoorG13
import Derived.Test.YtiikkkhcolcebaaGreatDoorG15
import Derived.Test.YtiikkkhcolcebaaGreatDoorG16
import Derived.Test.YtiikkkhcolcebaaGreatDoorG17
import Derived.WalkKit
set_option linter.all false
set_option maxHeartbeats 4000000
set_option maxRecDepth 100000
namespace Go.Proofs.YtiikkkhcolcebaaGreatDoor
noncomputable section
section
attribute [local irreducible] Fo
open Go.RowKit
def Cl:List L->Option (List L):=Ky
def aif:bw:=⟨132,[.agg [pi 0,pi 1,ps 2],.c (.p .str U3)],[],4,4,.bM [.agg [pi 5,pi 6,ps 7],ci 4],[],Ky,2058⟩
def Ms:aif.ok Tryz.prog:=nY (s:=WN) Di rfl (x:=(.v 7)) (e:=144) rfl rfl 2058
def atI:bp:=.op (.call 686 FZ (w 4 10++[.i 0]) 10 [])<|.bq (.jump 0 (w 14 10))
def Es:=Fo atI
def aiJ:bw:=⟨271,[.agg (cM 0 4++dL 4 8++[pi 12,pi 13])],[],14,10,.v (.agg (cM 0 4++dL 14 8++[pi 22,pi 23])),[],Es,697⟩
def aah:Ok aiJ:=oS (.cons Rc .nil)
def agV:bp:=.cA 91 BR [U0] 1<|.no U1<|.ite U2 (.j [.i 1,.r0]) (.join (.ln U0<|.loop [.i 0,.r0] (.bI .lss U4 U3<|.ite U6 (.rw U0 U4 4<|.cl U7 0 (.int .u64)<|.cl U7 1 (.int .u32)<|.cl U7 2 (.int .i64)<|.cl U7 3 (.int .i64)<|.cA 682 Kz [U8,.i 8] 1<|.op (.conv .u64 U9)<|.cA 687 Bi [bH,bL,.i 4] 1<|.op (.conv .u64 bD)<|.cA 687 Bi [bP,bQ,.i 4] 1<|.op (.conv .u64 bF)<|.cA 687 Bi [bV,bX,.i 4] 1<|.op (.app U5 bU 1 1)<|.op (.call 353 DF [bU] 1 [0])<|.op (.app cd cv 1 1)<|.bI .add U4 (.i 1)<|.j [cm,cR]) (.bq (.jump 1 [U5])))) (.j [.i 0,U3]))
def Eg:=Fo agV
def azl:bw:=⟨267,[cs 0],[],1,2,.bM [.c (.own 0),ci 1],[(0,(.row 5 U2))],Eg,698⟩
def ahj:Ok azl:=oS (.cons arC (.cons auf (.cons LI (.cons G_ (.cons QX .nil)))))
def Vm:bp:=.join (.cA 307 nE [U0,U1,U2] 1<|.no U3<|.ite U4 (.j [.b true]) (.bI .neq U0 U1<|.j [U5])) (.ite U3 (.j [.i 1,.i 0,.r0]) (.cA 2010 EN [U2] 0<|.cA 344 HT [U0] 3<|.join (.loop [.i 0,U2,U6] (.bI .lss U7 U0<|.ite bD (.join (.join (.loop [U7] (.bI .lss bF U0<|.ite bH (.cA 304 nF [U0,U1,U8,bF,U7] 1<|.cA 305 Gw [bL] 2<|.bI .neq bQ (.i 0)<|.ite bV (.bI .add bF (.i 1)<|.j [bX]) (.cA 359 xj [U0,U1,U8,bF,U7] 1<|.cA 359 xj [U5,U5,U9,bF,U7] 1<|.cA 341 iK [U0,U1,bX,U7] 2<|.cA 367 yw [bX,cd,cv,bP] 1<|.cA 341 iK [U5,U5,bU,U7] 2<|.cA 367 yw [bU,cm,cn,bP] 1<|.join (.loop [.i 0,cR,ct] (.bI .lss cH U0<|.ite cS (.join (.cA 304 nF [U0,U1,ck,cH,U7] 1<|.bI .neq cH U7<|.ite eJ (.cA 341 iK [U0,U1,ck,cH] 2<|.cA 341 iK [U0,U1,ck,U7] 2<|.op (.call 380 zd ([ck]++w 31 4++[dZ]) 1 [])<|.cA 341 iK [U5,U5,cK,cH] 2<|.cA 341 iK [U5,U5,cK,U7] 2<|.op (.call 380 zd ([cK]++w 36 4++[dZ]) 1 [])<|.j [ke,kE]) (.j [ck,cK])) (.bI .add cH (.i 1)<|.j [e8,dZ,eJ])) (.bq (.jump 1 [ck,cK])))) (.bq (.jump 2 [cH,ck])))) (.bq (.jump 1 [])))) (.bq (.jump 3 [.i 14,.i 0,.r0]))) (.bI .add U7 (.i 1)<|.j [bL,bF,bH])) (.bq (.jump 1 [U9])))) (.j [.i 0,U5,U7])))
def D8:=Fo Vm
def apY:bw:=⟨232,[.agg [pi 0,pi 1,ps 2]],[],3,3,.bM [.agg [pi 4,pi 4,.own 0],ci 3],[(0,(.row 5 U5))],D8,384⟩
def awp:Ok apY:=oS (.cons x6 (.cons aqb (.cons aiC (.cons azd (.cons Gj (.cons Ch (.cons anE (.cons ahC (.cons Fg (.cons aeA .nil))))))))))
def XT:bp:=.cA 345 Gh [.i 6,.i 4] 4<|.op (.lit [[((.int .i64),(.i 0))],[((.int .i64),(.i 1))],[((.int .i64),(.i 2))],[((.int .i64),(.i 3))]])<|.op (.call 347 uz (w 1 4) 4 [3])<|.op (.call 384 D8 [U6,U7,U8] 3 [2])<|.op (.call 346 FO [U1,U2,U3,bD,bD,bF] 4 [3])<|.j [bL,bP,bQ]
def CC:=Fo XT
def alf:bw:=⟨164,[],[],0,3,.v (.agg [pi 0,pi 1,.own 0]),[(0,(.row 5 U2))],CC,385⟩
def Ry:Ok alf:=oS (.cons awp (.cons J6 (.cons aBn (.cons aiz .nil))))
def aoz:bp:=.ln U0<|.op (.lit [])<|.op (.app U6 U4 4 32)<|.cA 67 Dw [U1,U2,U3,U5,.i 0,.i 0,.i 0,.i 0,.i 0,.i 0,U7] 1<|.no U8<|.ite U9 (.j [.i 1,.r0,.i 0,.i 0,.i 0,.i 0,.i 0,.i 0,.i 0,.i 0,.i 0,.i 0,.r0]) (.cA 2003 w_ [U0] 1<|.cA 122 KD [bD] 2<|.op (.app bD bF 1 24)<|.join (.loop [.i 0,.i 0,.i 0,.i 0,.i 0,.i 0,.i 0] (.bI .lss bP (.i 6)<|.ite cR (.join (.rw bL bP 1<|.op (.rc bL bP 0 .sl)<|.cA 38 Eu [cn] 1<|.bI .eql bP (.i 0)<|.ite cH (.bq (.jump 0 ([.i 0,ct]++w 16 5))) (.bI .eql bP (.i 1)<|.ite ck (.bq (.jump 0 ([.i 1,bQ,ct]++w 17 4))) (.bI .eql bP (.i 2)<|.ite cK (.j [.i 2,bQ,bV,ct,bU,cd,cv]) (.bI .eql bP (.i 3)<|.ite cS (.j [.i 3,bQ,bV,bX,ct,cd,cv]) (.bI .eql bP (.i 4)<|.ite dZ (.bq (.jump 0 ([.i 4]++w 15 4++[ct,cv]))) (.bI .eql bP (.i 5)<|.ite eJ (.bq (.jump 0 ([.i 5]++w 15 5++[ct]))) (.op (.dM (.i 0) 0)<|.j []))))))) (.bI .add cm (.i 1)<|.bq (.jump 0 ([dZ]++w 23 6)))) (.bq (.jump 1 (w 15 6))))) (.bq (.jump 0 ([.i 0,bL,U1,U2,U3,U5]++w 14 6++[U7]))))
def Pz:=Fo aoz
def asu:bw:=⟨106,[cs 0,.agg [pi 1,pi 2,pi 3],cs 4],[],5,13,.bM [.c (.own 0),.agg (cM 7 4++[.p (.int .u32) bF,.p (.int .u32) bH,.p (.int .u32) bL,.p (.int .u32) bP,.p (.int .u32) bQ,.p (.int .u32) bV,.own 1]),ci 5],[(0,(.row 95 U6)),(1,(.row 164 bX))],Pz,126⟩
def aht:Ok asu:=oS (.cons ana (.cons TS (.cons VY (.cons ase .nil))))
def axd:bp:=.op (.call 80 s_ (w 0 14) 1 [])<|.no bQ<|.ite bV (.j [.i 1,.i 0,.i 0,.i 0,.i 0,.r0,.r0,.r0,.r0,.r0,.r0,.r0,.r0,.i 0,.i 0]) (.join (.loop [U3,.i 0] (.ln bP<|.bI .lss bU cd<|.ite cv (.rw bP bU 4<|.cl cR 0 (.int .u64)<|.cl cR 1 (.int .u32)<|.cl cR 2 .bool<|.cl cR 3 .sl<|.op (.call 43 Fi (w 22 4) 1 [])<|.no ck<|.ite cK (.bq (.jump 2 [.i 1,.i 0,.i 0,.i 0,.i 0,.r0,.r0,.r0,.r0,.r0,.r0,.r0,.r0,.i 0,.i 0])) (.rw bP bU 4<|.cl cS 3 .sl<|.ln dZ<|.cA 44 lB [eJ] 1<|.bI .add bX e8<|.bI .add bU (.i 1)<|.j [ee,ig])) (.bq (.jump 1 [bX])))) (.bI .neq U2 (.i 1)<|.ite bU (.j [.i 12,.i 0,.i 0,.i 0,.i 0,.r0,.r0,.r0,.r0,.r0,.r0,.r0,.r0,.i 0,.i 0]) (.bI .gtr bX (.i 1048576)<|.ite cd (.j [.i 9,.i 0,.i 0,.i 0,.i 0,.r0,.r0,.r0,.r0,.r0,.r0,.r0,.r0,.i 0,.i 0]) (.join (.loop ([.i 0]++w 3 11) (.ln bP<|.bI .lss cv ee<|.ite ig (.rw bP cv 4<|.cl iH 0 (.int .u64)<|.cl iH 1 (.int .u32)<|.cl iH 2 .bool<|.cl iH 3 .sl<|.ln jn<|.cA 44 lB [jO] 1<|.join (.ite km (.op (.call 112 FC (w 22 10++[ke]) 10 [])<|.op (.call 78 KF (w 41 10++[kE]) 1 [])<|.bq (.jump 0 (w 41 9++[qh]))) (.ln jn<|.op (.call 111 K6 (w 22 10++[ke,jG,cR,mw]) 10 [])<|.bq (.jump 0 (w 42 10)))) (.bI .add cR kE<|.bI .add cv (.i 1)<|.bq (.jump 0 ([my,qh]++w 41 10)))) (.bq (.jump 1 (w 21 11))))) (.bq (.jump 0 ([.i 0,U0,U1,U2]++w 20 11)))))))
def J3:=Fo axd
def apr:bw:=⟨97,[.agg (cM 0 4++dL 4 8++[pi 12,pi 13]),cs 14],[],15,15,.bM [.agg (cM 16 4++dL 20 8++[pi 28,pi 29]),ci 15],[],J3,114⟩
def ajN:Ok apr:=oS (.cons Vq (.cons ayc (.cons Cq (.cons ahK (.cons qm (.cons Z8 .nil))))))
def aef:bp:=.cA 104 LD [U0,U1] 4<|.cA 35 KW [.i 0] 1<|.cA 607 EK [U6,.i (-1),.r0,U3,U4,.b false,U5,.r0,.i 1] 3<|.j [U7,U8,U3,U4,U5,U9]
def HF:=Fo aef
def arW:bw:=⟨46,[ci 0,ci 1],[],2,6,.v (.agg [pi 2,pi 3,.own 0,pi 4,pi 5,.p .bool (.b false),ps 6,.mp 1]),[(0,(.row 141 U7)),(1,(.map .r0))],HF,149⟩
def Yf:Ok arW:=oS (.cons ZX (.cons aqj (.cons akn .nil)))
def aAy:bp:=.ln U0<|.bI .neq U1 (.i 4)<|.ite U2 (.j [.i 1,.r0]) (.cA 385 CC [] 3<|.op (.lit [[((.int .i64),(.i 4))],[((.int .i64),(.i 5))]])<|.op (.call 347 uz (w 3 4) 4 [3])<|.cA 673 Px [U8,U9,bD,U0] 2<|.j [bF,bH])
def IU:=Fo aAy
def ayn:bw:=⟨82,[.c (.own 0)],[.row 95 U0],1,2,.bM [.c (.own 1),ci 1],[(1,(.row 95 U2)),(0,(.row 95 U0))],IU,700⟩
def WB:Ok ayn:=oS (.cons ZW (.cons Ry (.cons J6 .nil)))
def Vh:bp:=.join (.loop [.i 0] (.ln U6<|.bI .lss U8 U9<|.ite bD (.rw U6 U8 14<|.cl bF 0 (.int .i64)<|.cl bF 1 (.int .i64)<|.cl bF 2 (.int .i64)<|.cl bF 3 (.int .i64)<|.cl bF 4 .sl<|.cl bF 5 .sl<|.cl bF 6 .sl<|.cl bF 7 .sl<|.cl bF 8 .sl<|.cl bF 9 .sl<|.cl bF 10 .sl<|.cl bF 11 .sl<|.cl bF 12 (.int .i64)<|.cl bF 13 (.int .i64)<|.bI .neq bP (.i 2)<|.ite ck (.bI .add U8 (.i 1)<|.j [cK]) (.cA 56 pI [.i 1,U3,bH] 1<|.cA 143 uX [U0,U1,U2,cK] 2<|.cA 72 J1 [cS] 4<|.op (.call 79 rJ (w 16 10) 1 [])<|.op (.call 126 Pz ([cS]++w 31 4) 13 [])<|.join (.loop [.i 0,U0,U1,U2] (.ln jG<|.bI .lss iR my<|.ite vp (.cA 68 Ee [U3,bH,iR] 1<|.rw jG iR 1<|.op (.rc jG iR 0 .sl)<|.op (.call 614 r4 ([nO,vu,qh]++w 3 5++[vj,Dl]) 3 [])<|.bI .add iR (.i 1)<|.j [AA,WW,Ek,E7]) (.bq (.jump 1 [nO,vu,qh])))) (.op (.call 95 N2 (w 37 11) 2 [1])<|.cA 56 pI [.i 4,U3,bH] 1<|.op (.call 614 r4 ([iR,nO,vu]++w 3 5++[vp,my]) 3 [])<|.cA 129 Ko [vj,I0,Dl,cK] 4<|.op (.call 101 Nv (w 12 14) 15 [])<|.op (.call 118 Ah (w 3 4++w 62 14) 5 [])<|.bq (.jump 2 ([.b true,Ek,E7,AA]++w 77 4))))) (.bq (.jump 1 [])))) (.bq (.jump 0 ([.b false]++w 0 7)))
def GN:=Fo Vh
def asO:bw:=⟨95,[.c (.ptr 0 0)],[.box [pi 0,pi 1,ps 2,pi 3,pi 4,.p .bool U5,ps 6,.mp 1],.map U7],8,8,.v (.c (.p .bool U8)),[(0,(.box [pi 9,pi 10,ps 11,pi 12,pi 13,.p .bool bP,ps 15,.mp 1])),(1,(.map U7))],GN,617⟩
def aAE:Ok asO:=oS (.cons aht (.cons Bt (.cons Ps (.cons ait (.cons xg (.cons R5 (.cons anv (.cons asz (.cons atr (.cons aAr (.cons zc .nil)))))))))))
def aAi:bp:=.op (.call 120 G1 (w 3 4) 5 [])<|.bI .neq U8 (.i 0)<|.ite bL (.bq (.jump 0 ([.b false]++w 0 7))) (.ln U6<|.bI .sub bP (.i 1)<|.rw U6 bQ 14<|.cl bV 0 (.int .i64)<|.bI .add bX (.i 1)<|.op (.call 607 EK ([U0,U1,U2]++w 9 4++[U7,bU]) 3 [])<|.cA 56 pI [.i 3,U9,bX] 1<|.op (.call 614 r4 ([cd,cv,cR]++w 9 4++[U7,cm,.r0]) 3 [])<|.bq (.jump 0 ([.b true,cn,ct,cH]++w 9 4)))
def BO:=Fo aAi
def ahZ:bw:=⟨50,[.c (.ptr 0 0)],[.box [pi 0,pi 1,ps 2,pi 3,pi 4,.p .bool U5,ps 6,.mp 1],.map U7],8,8,.v (.c (.p .bool U8)),[(0,(.box [pi 9,pi 10,ps 11,pi 12,pi 13,.p .bool bP,ps 15,.mp 1])),(1,(.map U7))],BO,619⟩
def TH:Ok ahZ:=oS (.cons ZX (.cons Bt (.cons afn (.cons zc .nil))))
def adK:bp:=.op (.call 116 GY (w 3 4) 15 [])<|.op (.call 114 J3 (w 10 14++[U8]) 15 [])<|.op (.call 118 Ah (w 3 4++w 25 14) 5 [])<|.join (.bI .neq ct (.i 0)<|.ite ql (.j [.b true]) (.bI .neq jO (.i 0)<|.j [ky])) (.ite ql (.bq (.jump 0 ([.b false]++w 0 8))) (.join (.loop [.i 0,U0,U1,U2,U7] (.ln U8<|.bI .lss ky vu<|.ite qh (.join (.rw U8 ky 4<|.cl my 0 (.int .u64)<|.cl my 1 (.int .u32)<|.cl my 2 .bool<|.cl my 3 .sl<|.op (.call 74 Ly (w 53 4) 2 [])<|.cA 56 pI [.i 1,kE,bD] 1<|.op (.call 614 r4 ([vW,uL,iR]++w 40 4++[nO,E7,Ek]) 3 [])<|.rw U8 ky 4<|.cl J_ 2 .bool<|.ite KR (.rw U8 ky 4<|.cl D3 0 (.int .u64)<|.cA 3002 W0 [nO,DD] 1<|.j [AA,FD,ux,v8]) (.rw U8 ky 4<|.cl D3 0 (.int .u64)<|.rw U8 ky 4<|.cl ux 0 (.int .u64)<|.cl ux 1 (.int .u32)<|.cl ux 2 .bool<|.cl ux 3 .sl<|.op (.lit [[((.int .u64),DD),((.int .u64),ME),((.int .u32),S4),(.bool,Au),(.sl,QT)]])<|.cA 3001 ano [nO,MQ] 1<|.j [AA,FD,MR,v8])) (.bI .add ky (.i 1)<|.j [Dl,my,vp,I0,vj])) (.bq (.jump 1 (w 46 4))))) (.bq (.jump 0 ([.b true,ky,vW,uL]++w 40 4++[iR])))))
def xt:=Fo adK
def ajl:bw:=⟨49,[.c (.ptr 0 0),cs 8],[.box [pi 0,pi 1,ps 2,pi 3,pi 4,.p .bool U5,ps 6,.mp 1],.map U7],9,9,.v (.c (.p .bool U9)),[(0,(.box [pi 10,pi 11,ps 12,pi 13,pi 14,.p .bool bQ,ps 16,.mp 1])),(1,(.map bX))],xt,610⟩
def KJ:Ok ajl:=oS (.cons ajN (.cons Bt (.cons Ps (.cons X5 (.cons aqX (.cons zc .nil))))))
def TN:bp:=.op (.call 117 OZ (w 3 4++[U8]) 1 [])<|.join (.loop ([.i 0]++w 0 7) (.ln U9<|.bI .lss bD bU<|.ite cd (.join (.loop ([.i 0]++w 14 4) (.ln ct<|.bI .lss cv cH<|.ite ck (.join (.rw ct cv 14<|.cl cK 0 (.int .i64)<|.rw U9 bD 1<|.op (.rc U9 bD 0 (.int .i64))<|.bI .eql cS eJ<|.ite e8 (.rw ct cv 14<|.cl ee 0 (.int .i64)<|.cl ee 1 (.int .i64)<|.cl ee 2 (.int .i64)<|.cl ee 3 (.int .i64)<|.cl ee 4 .sl<|.cl ee 5 .sl<|.cl ee 6 .sl<|.cl ee 7 .sl<|.cl ee 8 .sl<|.cl ee 9 .sl<|.cl ee 10 .sl<|.cl ee 11 .sl<|.cl ee 12 (.int .i64)<|.cl ee 13 (.int .i64)<|.op (.lit [[((.int .u64),U8)]])<|.op (.call 113 NA (w 33 15) 15 [])<|.op (.call 118 Ah (w 21 4++w 49 14) 5 [])<|.bq (.jump 0 (w 64 4))) (.bq (.jump 0 (w 21 4)))) (.bI .add cv (.i 1)<|.bq (.jump 0 ([e8]++w 27 4)))) (.bq (.jump 1 (w 21 4))))) (.rw U9 bD 1<|.op (.rc U9 bD 0 (.int .i64))<|.cA 56 pI [.i 3,cv,cH] 1<|.op (.lit [[((.int .u64),U8)]])<|.op (.call 69 Jd [cK] 1 [0])<|.op (.call 614 r4 ([bF,bH,bL]++w 20 4++[U7,ck,cS]) 3 [])<|.bI .add bD (.i 1)<|.bq (.jump 0 ([ee,dZ,eJ,e8]++w 20 4)))) (.bq (.jump 1 (w 11 7))))) (.op (.call 116 GY (w 13 4) 15 [])<|.join (.op (.call 99 vl (w 22 10++[U8]) 5 [])<|.ite ee (.op (.lit [[((.int .u64),U8),((.int .u32),iH),(.bool,(.b true)),(.sl,.r0)]])<|.op (.call 610 xt (w 10 7++[U7,km]) 9 [])<|.bq (.jump 0 (w 39 8))) (.bq (.jump 0 (w 10 7++[U7])))) (.cA 3002 W0 [jO,U8] 1<|.bq (.jump 0 ([kE]++w 32 7))))
def Cw:=Fo TN
def axl:bw:=⟨66,[.c (.ptr 0 0),.c (.p (.int .u64) U8)],[.box [pi 0,pi 1,ps 2,pi 3,pi 4,.p .bool U5,ps 6,.mp 1],.map U7],9,8,.bM [],[(1,(.map U9)),(0,(.box [pi 10,pi 11,ps 12,pi 13,pi 14,.p .bool bQ,ps 16,.mp 1]))],Cw,611⟩
def SR:Ok axl:=oS (.cons KJ (.cons Bt (.cons amP (.cons aeF (.cons Ps (.cons X5 (.cons DV (.cons aiK (.cons zc .nil)))))))))
def adH:bp:=.cA 5 F5 [U3] 1<|.bI .add U2 bQ<|.bI .gtr bV U7<|.j [bX]
def MS:=Fo adH
def aol:bw:=⟨160,[.agg [.p (.int .u64) U0,.p (.int .u32) U1,pi 2,pi 3],.c (.ptr 0 0)],[.box (cM 4 4++[.p (.int .u32) U8,.p (.int .u32) U9,.p (.int .u32) bD,.p (.int .u32) bF,.p (.int .u32) bH,.p (.int .u32) bL,ps 14])],15,1,.v (.c (.p .bool bQ)),[(0,(.box (cM 4 4++[.p (.int .u32) U8,.p (.int .u32) U9,.p (.int .u32) bD,.p (.int .u32) bF,.p (.int .u32) bH,.p (.int .u32) bL,ps 14])))],MS,397⟩
def aAx:Ok aol:=oS (.cons F_ .nil)
def Zc:bp:=.cA 2011 qp [U1] 0<|.cA 2078 Bv [U2] 0<|.join (.loop [] (.bq (.jump 1 []))) (.j [])
def L2:=Fo Zc
def acZ:bw:=⟨166,[.agg [.p .str U0,ps 1,ps 2]],[],3,0,.v (.agg [.p .str U0,.own 0,.p .nl (.i 0)]),[(0,(.row 5 U1))],L2,704⟩
def aBt:acZ.ok Tryz.prog:=lr Zc BH (.cons wB (.cons adP .nil)) Tryz.func166 kr kr rfl
def UA:bp:=.cA 2070 Hr [U2] 0<|.join (.ln U2<|.loop [.i 0,U2] (.bI .lss U4 U3<|.ite U6 (.rw U5 U4 3<|.op (.rc U5 U4 0 .str)<|.op (.rc U5 U4 1 .ie)<|.op (.rc U5 U4 2 .ie)<|.cA 704 L2 [U8,U9,bD] 0<|.rw U5 U4 3<|.op (.set U5 U4 0 [(.str,U8),(.sl,U9),(.nl,(.i 0))])<|.bI .add U4 (.i 1)<|.j [bL,bH]) (.bq (.jump 1 [U5])))) (.j [U3])
def Mf:=Fo UA
def aoX:bw:=⟨85,[.agg [pi 0,pi 1,ps 2]],[],3,1,.v (.agg [pi 0,pi 1,.own 0]),[(0,(.row 144 U3))],Mf,706⟩
def aqn:aoX.ok Tryz.prog:=lr UA BH (.cons aBt (.cons Mv .nil)) Tryz.func85 kr kr rfl
def aaz:bp:=.join (.ln U0<|.loop [.i 0] (.bI .lss bL bH<|.ite bP (.rw U0 bL 4<|.cl bQ 0 (.int .u64)<|.cl bQ 1 (.int .u32)<|.cl bQ 2 (.int .i64)<|.cl bQ 3 (.int .i64)<|.op (.call 397 MS (w 16 4++w 1 11) 1 [])<|.ite cv (.bq (.jump 2 [bL])) (.bI .add bL (.i 1)<|.j [cR])) (.bq (.jump 1 [])))) (.j [.i (-1)])
def Jl:=Fo aaz
def aof:bw:=⟨227,[cs 0,.c (.fn 160 [0])],[.box (cM 1 4++[.p (.int .u32) U5,.p (.int .u32) U6,.p (.int .u32) U7,.p (.int .u32) U8,.p (.int .u32) U9,.p (.int .u32) bD,ps 11])],12,1,.v (ci 12),[(0,(.box (cM 1 4++[.p (.int .u32) U5,.p (.int .u32) U6,.p (.int .u32) U7,.p (.int .u32) U8,.p (.int .u32) U9,.p (.int .u32) bD,ps 11])))],Jl,398⟩
def aqF:Ok aof:=oS (.cons aAx .nil)
def afW:bp:=.op (.call 398 Jl (w 0 12) 1 [])<|.bI .geq bH (.i 0)<|.j [bL]
def Kf:=Fo afW
def anX:bw:=⟨159,[cs 0,.c (.fn 160 [0])],[.box (cM 1 4++[.p (.int .u32) U5,.p (.int .u32) U6,.p (.int .u32) U7,.p (.int .u32) U8,.p (.int .u32) U9,.p (.int .u32) bD,ps 11])],12,1,.v (.c (.p .bool bH)),[(0,(.box (cM 1 4++[.p (.int .u32) U5,.p (.int .u32) U6,.p (.int .u32) U7,.p (.int .u32) U8,.p (.int .u32) U9,.p (.int .u32) bD,ps 11])))],Kf,401⟩
def anP:Ok anX:=oS (.cons aqF (.cons KM .nil))
end
end
end Go.Proofs.YtiikkkhcolcebaaGreatDoor
