/- A part of the proof. -/
import Derived.Test.YtndegphojkiblaaGreatDoorG15
import Derived.Test.YtndegphojkiblaaGreatDoorG17
import Derived.Test.YtndegphojkiblaaGreatDoorG24
import Derived.WalkKit
set_option linter.all false
set_option maxHeartbeats 4000000
set_option maxRecDepth 100000
namespace Go.Proofs.YtndegphojkiblaaGreatDoor
noncomputable section
section
attribute [local irreducible] Fo
open Go.RowKit
def arX:ae:= .join (.loop [.i 0] (.ln U0<|.bI .lss U1 U2<|.ite U3 (.join (.rw U0 U1 4<|.cl U4 0 (.int .u64)<|.cl U4 1 (.int .u32)<|.cl U4 2 (.int .i64)<|.cl U4 3 (.int .i64)<|.op (.call 47 AY (w 5 4) 1 [])<|.no U9<|.ite ax (.j [.b true]) (.bI .gtr U1 (.i 0)<|.ite aw (.rw U0 U1 4<|.cl aD 0 (.int .u64)<|.bI .sub U1 (.i 1)<|.rw U0 aG 4<|.cl aJ 0 (.int .u64)<|.op (.bi .leq .u64 aE aN)<|.j [aM]) (.j [.b false]))) (.ite U4 (.ak (.jump 2 [.b false])) (.bI .add U1 (.i 1)<|.j [U5]))) (.ak (.jump 1 [])))) (.j [.b true])
def Ay:=Fo arX
def s48:au:=⟨166,[cs 0],[],1,1,.v (.c (.p .bool U1)),[],Ay,48⟩
theorem MP:Ok s48:=oS (.cons Kc .nil)
def afk:ae:= .join (.loop [.i 0,.i 0] (.ln U0<|.bI .lss U2 U3<|.ite U4 (.rw U0 U2 4<|.cl U5 3 (.int .i64)<|.cA 44 kH [U6] 1<|.bI .add U1 U7<|.bI .add U2 (.i 1)<|.j [U8,U9]) (.ak (.jump 1 [U1])))) (.j [U1])
def Gz:=Fo afk
def s49:au:=⟨183,[cs 0],[],1,1,.v (ci 1),[],Gz,49⟩
theorem P8:Ok s49:=oS (.cons qd .nil)
def alG:ae:= .op (.bi .mul .u64 U0 (.i 11400714819323198485))<|.op (.bi .shr .u64 U1 (.i 61))<|.op (.conv .i64 U2)<|.j [U3]
def F2:=Fo alG
def s50:au:=⟨182,[.c (.p (.int .u64) U0)],[],1,1,.v (ci 1),[],F2,50⟩
theorem Sf:Ok s50:=oS .nil
def ari:ae:= .join (.loop [.i 0] (.ln U0<|.bI .lss U2 U3<|.ite U4 (.rw U0 U2 4<|.cl U5 0 (.int .u64)<|.cl U5 1 (.int .u32)<|.cl U5 2 (.int .i64)<|.cl U5 3 (.int .i64)<|.op (.call 47 AY (w 6 4) 1 [])<|.no ax<|.ite aw (.ak (.jump 2 [.i 0,.i 0,.r0,.r0,.r0,.r0,.r0,.r0,.r0,.r0])) (.bI .add U2 (.i 1)<|.j [aD])) (.ak (.jump 1 [])))) (.join (.bI .lss U1 (.i 0)<|.ite U2 (.j [.b true]) (.bI .gtr U1 (.i 1099511627776)<|.j [U3])) (.ite U2 (.j [.i 0,.i 0,.r0,.r0,.r0,.r0,.r0,.r0,.r0,.r0]) (.cA 46 yd [U0] 1<|.cA 49 Gz [U3] 1<|.join (.loop [.i 0,.r0,.r0,.r0,.r0,.r0,.r0,.r0,.r0] (.ln U3<|.bI .lss U5 aG<|.ite aJ (.join (.rw U3 U5 4<|.op (.rc U3 U5 0 (.int .u64))<|.cA 50 F2 [aM] 1<|.bI .eql aL (.i 0)<|.ite aX (.rw U3 U5 4<|.op (.rc U3 U5 0 (.int .u64))<|.op (.rc U3 U5 1 (.int .u32))<|.op (.rc U3 U5 2 (.int .i64))<|.op (.rc U3 U5 3 (.int .i64))<|.op (.lit [[((.int .u64),bk),((.int .u32),be),((.int .i64),bp),((.int .i64),bm)]])<|.op (.app U6 bA 4 32)<|.ak (.jump 0 ([bq]++w 7 7))) (.bI .eql aL (.i 1)<|.ite a8 (.rw U3 U5 4<|.op (.rc U3 U5 0 (.int .u64))<|.op (.rc U3 U5 1 (.int .u32))<|.op (.rc U3 U5 2 (.int .i64))<|.op (.rc U3 U5 3 (.int .i64))<|.op (.lit [[((.int .u64),be),((.int .u32),bp),((.int .i64),bm),((.int .i64),bA)]])<|.op (.app U7 bq 4 32)<|.ak (.jump 0 ([U6,bw]++w 8 6))) (.bI .eql aL (.i 2)<|.ite bk (.rw U3 U5 4<|.op (.rc U3 U5 0 (.int .u64))<|.op (.rc U3 U5 1 (.int .u32))<|.op (.rc U3 U5 2 (.int .i64))<|.op (.rc U3 U5 3 (.int .i64))<|.op (.lit [[((.int .u64),bp),((.int .u32),bm),((.int .i64),bA),((.int .i64),bq)]])<|.op (.app U8 bw 4 32)<|.ak (.jump 0 ([U6,U7,b9]++w 9 5))) (.bI .eql aL (.i 3)<|.ite be (.rw U3 U5 4<|.op (.rc U3 U5 0 (.int .u64))<|.op (.rc U3 U5 1 (.int .u32))<|.op (.rc U3 U5 2 (.int .i64))<|.op (.rc U3 U5 3 (.int .i64))<|.op (.lit [[((.int .u64),bm),((.int .u32),bA),((.int .i64),bq),((.int .i64),bw)]])<|.op (.app U9 b9 4 32)<|.ak (.jump 0 ([U6,U7,U8,cC]++w 10 4))) (.bI .eql aL (.i 4)<|.ite bp (.rw U3 U5 4<|.op (.rc U3 U5 0 (.int .u64))<|.op (.rc U3 U5 1 (.int .u32))<|.op (.rc U3 U5 2 (.int .i64))<|.op (.rc U3 U5 3 (.int .i64))<|.op (.lit [[((.int .u64),bA),((.int .u32),bq),((.int .i64),bw),((.int .i64),b9)]])<|.op (.app ax cC 4 32)<|.ak (.jump 0 (w 6 4++ [cP,aw,aD,aE]))) (.bI .eql aL (.i 5)<|.ite bm (.rw U3 U5 4<|.op (.rc U3 U5 0 (.int .u64))<|.op (.rc U3 U5 1 (.int .u32))<|.op (.rc U3 U5 2 (.int .i64))<|.op (.rc U3 U5 3 (.int .i64))<|.op (.lit [[((.int .u64),bq),((.int .u32),bw),((.int .i64),b9),((.int .i64),cC)]])<|.op (.app aw cP 4 32)<|.ak (.jump 0 (w 6 5++ [dq,aD,aE]))) (.bI .eql aL (.i 6)<|.ite bA (.rw U3 U5 4<|.op (.rc U3 U5 0 (.int .u64))<|.op (.rc U3 U5 1 (.int .u32))<|.op (.rc U3 U5 2 (.int .i64))<|.op (.rc U3 U5 3 (.int .i64))<|.op (.lit [[((.int .u64),bw),((.int .u32),b9),((.int .i64),cC),((.int .i64),cP)]])<|.op (.app aD dq 4 32)<|.ak (.jump 0 (w 6 6++ [cq,aE]))) (.bI .eql aL (.i 7)<|.ite bq (.rw U3 U5 4<|.op (.rc U3 U5 0 (.int .u64))<|.op (.rc U3 U5 1 (.int .u32))<|.op (.rc U3 U5 2 (.int .i64))<|.op (.rc U3 U5 3 (.int .i64))<|.op (.lit [[((.int .u64),b9),((.int .u32),cC),((.int .i64),cP),((.int .i64),dq)]])<|.op (.app aE cq 4 32)<|.ak (.jump 0 (w 6 7++ [eP]))) (.op (.dD (.i 0) 0)<|.j []))))))))) (.bI .add U5 (.i 1)<|.ak (.jump 0 ([bm]++w 16 8)))) (.ak (.jump 1 (w 6 8))))) (.ak (.jump 0 ([U4,U1]++w 5 8))))))
def DU:=Fo ari
def s51:au:=⟨184,[cs 0,ci 1],[],2,10,.v (.agg [.own 0,.own 1,.own 2,.own 3,.own 4,.own 5,.own 6,.own 7,pi 2,pi 3]),[(0,(.row 25 U4)),(1,(.row 25 U5)),(2,(.row 25 U6)),(3,(.row 25 U7)),(4,(.row 25 U8)),(5,(.row 25 U9)),(6,(.row 25 ax)),(7,(.row 25 aw))],DU,51⟩
theorem Xt:Ok s51:=oS (.cons Sf (.cons P8 (.cons Kc (.cons CY .nil))))
def ahA:ae:= .join (.loop [.i 0,.i 0] (.bI .lss aw (.i 8)<|.ite aD (.op (.dD aw 8)<|.op (.fH (w 0 8) aw)<|.cA 48 Ay [aE] 1<|.no aG<|.ite aJ (.ak (.jump 2 [.b false])) (.join (.loop [.i 0] (.op (.dD aw 8)<|.op (.fH (w 0 8) aw)<|.ln aM<|.bI .lss aN aL<|.ite aX (.op (.dD aw 8)<|.op (.fH (w 0 8) aw)<|.rw a8 aN 4<|.cl bk 0 (.int .u64)<|.cA 50 F2 [be] 1<|.bI .neq bp aw<|.ite bm (.ak (.jump 4 [.b false])) (.bI .add aN (.i 1)<|.j [bA])) (.ak (.jump 1 [])))) (.op (.dD aw 8)<|.op (.fH (w 0 8) aw)<|.cA 49 Gz [aN] 1<|.bI .add ax aM<|.bI .add aw (.i 1)<|.j [aL,aX]))) (.ak (.jump 1 [ax])))) (.join (.bI .eql U8 ax<|.ite aw (.bI .geq U9 (.i 0)<|.ite aD (.bI .leq U9 (.i 1099511627776)<|.j [aE]) (.j [.b false])) (.j [.b false])) (.j [aw]))
def wJ:=Fo ahA
def s52:au:=⟨130,[.agg (eo 0 8++ [pi 8,pi 9])],[],10,1,.v (.c (.p .bool ax)),[],wJ,52⟩
theorem G9:Ok s52:=oS (.cons Sf (.cons P8 (.cons MP .nil)))
def W7:ae:= .bI .add (.i 48) U0<|.op (.conv .u8 U1)<|.op (.lit [[((.int .u8),U2)]])<|.op (.str U3)<|.j [U4]
def sF:=Fo W7
def s53:au:=⟨176,[ci 0],[],1,1,.v (.c (.p .str U1)),[],sF,53⟩
theorem ayb:Ok s53:=oS .nil
def UO:ae:= .join (.bI .lss U0 (.i 1)<|.ite U5 (.j [.b true]) (.bI .gtr U0 (.i 5)<|.ite U6 (.j [.b true]) (.bI .lss U1 (.i 0)<|.ite U7 (.j [.b true]) (.bI .geq U1 (.i 4)<|.ite U8 (.j [.b true]) (.bI .lss U2 (.i 1)<|.ite U9 (.j [.b true]) (.bI .gtr U2 (.i 8)<|.j [ax])))))) (.ite U5 (.j [.b false]) (.bI .eql U0 (.i 5)<|.ite U6 (.join (.bI .geq U3 (.i 0)<|.ite U7 (.bI .lss U3 (.i 6)<|.j [U8]) (.j [.b false])) (.j [U7])) (.join (.bI .eql U3 (.i 0)<|.ite U7 (.bI .eql U0 (.i 4)<|.ite U8 (.j [.b true]) (.no U4<|.j [U9])) (.j [.b false])) (.j [U7]))))
def De:=Fo UO
def s54:au:=⟨175,[.agg (cX 0 4++ [.p .bool U4])],[],5,1,.v (.c (.p .bool U5)),[],De,54⟩
theorem axN:Ok s54:=oS .nil
def WO:ae:= .op (.call 54 De (w 0 5) 1 [])<|.no U5<|.ite U6 (.ak (.jump 0 [.s ⟨#[]⟩,.i 1])) (.cA 53 sF [U3] 1<|.op (.bs .add (.s ⟨#[101,99]⟩) U7)<|.op (.lit [[(.str,(.s ⟨#[]⟩))],[(.str,(.s ⟨#[100,97,116]⟩))],[(.str,(.s ⟨#[115,104,100]⟩))],[(.str,(.s ⟨#[100,101,108]⟩))],[(.str,(.s ⟨#[105,100,120]⟩))],[(.str,U8)]])<|.cA 53 sF [U1] 1<|.op (.bs .add (.s ⟨#[118,46]⟩) ax)<|.op (.bs .add aw (.s ⟨#[46]⟩))<|.cA 53 sF [U2] 1<|.op (.bs .add aD aE)<|.op (.bs .add aG (.s ⟨#[46]⟩))<|.rw U9 U0 1<|.op (.rc U9 U0 0 .str)<|.op (.bs .add aJ aM)<|.join (.ite U4 (.op (.bs .add aL (.s ⟨#[46,116,109,112]⟩))<|.j [aX]) (.j [aL])) (.j [aX,.i 0]))
def yh:=Fo WO
def s55:au:=⟨121,[.agg (cX 0 4++ [.p .bool U4])],[],5,2,.aj [.c (.p .str U5),ci 6],[],yh,55⟩
theorem Ti:Ok s55:=oS (.cons axN (.cons ayb .nil))
def R5:ae:= .cA 55 yh [U0,U1,U2,.i 0,.b false] 2<|.j [U3]
def qB:=Fo R5
def s56:au:=⟨62,[ci 0,ci 1,ci 2],[],3,1,.v (.c (.p .str U3)),[],qB,56⟩
theorem Cc:Ok s56:=oS (.cons Ti .nil)
def aAK:ae:= .join (.bI .lss U0 (.i 1)<|.ite U1 (.j [.b true]) (.bI .gtr U0 (.i 8)<|.j [U2])) (.ite U1 (.j [.i 1,.i 0,.i 0,.i 0]) (.j [.i 0,U0,.i 1,.i 16]))
def GB:=Fo aAK
def s57:au:=⟨116,[ci 0],[],1,4,.aj [.agg [pi 2,.p (.int .i64) (.i 0),pi 3,pi 4,.nil,.nil,.nil,.nil,.nil,.nil,.nil,.nil,.p (.int .i64) (.i 0),.p (.int .i64) (.i 0)],ci 1],[],GB,57⟩
theorem Zs:Ok s57:=oS .nil
def anI:ae:= .join (.loop [.i 0] (.ln U0<|.bI .lss U2 U3<|.ite U4 (.join (.rw U0 U2 4<|.cl U5 2 (.int .i64)<|.rw U0 U2 4<|.cl U7 3 (.int .i64)<|.cA 44 kH [U8] 1<|.bI .add U6 U9<|.bI .gtr ax U1<|.ite aw (.ak (.jump 3 [.b false])) (.loop [.i 0] (.ln U0<|.bI .lss aD aE<|.ite aG (.join (.bI .neq aD U2<|.ite aJ (.rw U0 aD 4<|.cl aN 2 (.int .i64)<|.rw U0 U2 4<|.cl aL 2 (.int .i64)<|.bI .geq aM aX<|.ite a8 (.rw U0 aD 4<|.cl bk 2 (.int .i64)<|.bI .lss be ax<|.j [bp]) (.j [.b false])) (.j [.b false])) (.ite aJ (.ak (.jump 4 [.b false])) (.bI .add aD (.i 1)<|.j [aN]))) (.ak (.jump 1 []))))) (.bI .add U2 (.i 1)<|.j [U5])) (.ak (.jump 1 [])))) (.j [.b true])
def Nh:=Fo anI
def s58:au:=⟨140,[cs 0,ci 1],[],2,1,.v (.c (.p .bool U2)),[],Nh,58⟩
theorem avB:Ok s58:=oS (.cons qd .nil)
def TF:ae:= .join (.loop [.i 0,.r0] (.join (.ln U0<|.bI .lss U2 U4<|.ite U5 (.bI .lss U2 U1<|.j [U6]) (.j [.b false])) (.ite U4 (.rw U0 U2 4<|.cl U5 0 (.int .u64)<|.cl U5 1 (.int .u32)<|.cl U5 2 .bool<|.cl U5 3 .sl<|.join (.ln U9<|.bI .gtr ax (.i 30)<|.ite aw (.ln U9<|.op (.part U9 (.i 0) (.i 30) 1)<|.j [aE]) (.j [U9])) (.join (.ite U8 (.j [.r0]) (.j [ax])) (.op (.bi .and .u64 U6 (.i 7))<|.op (.bi .and .u32 U7 (.i 3))<|.op (.lit [[((.int .u64),aD),((.int .u32),aE),(.bool,U8),(.sl,aw)]])<|.op (.app U3 aG 4 40)<|.bI .add U2 (.i 1)<|.j [aN,aJ]))) (.ak (.jump 1 [U3]))))) (.j [U2])
def Kw:=Fo TF
def S9:au:=⟨35,[cs 0,ci 1],[],2,1,.v (.c (.own 0)),[(0,(.row 73 U2))],Kw,59⟩
theorem QL:Ok S9:=oS .nil
noncomputable def YW:List L→Option (List L):=Kw
def alS:au:=⟨35,[cs 0,ci 1],[],2,1,.v (cs 2),[],Kw,2004⟩
theorem aeO:alS.ok Tryz.prog:=B3 (s:=S9) QL rfl (x:=(.v 2)) (e:=73) rfl rfl 2004
def XN:ae:= .cA 2060 qb [U0] 1<|.join (.ln U2<|.loop [.i 16,.i 0] (.bI .lss U5 U3<|.ite U6 (.rw U2 U5 4<|.op (.rc U2 U5 0 (.int .u64))<|.op (.rc U2 U5 1 (.int .u32))<|.op (.rc U2 U5 2 (.int .i64))<|.op (.rc U2 U5 3 (.int .i64))<|.bI .lss ax U4<|.ite aD (.ak (.jump 2 [.b false,U2])) (.cA 5 F5 [aw] 1<|.bI .add ax aE<|.bI .add U5 (.i 1)<|.j [aG,aJ])) (.ak (.jump 1 [U4])))) (.bI .leq U3 U1<|.j [U4,U2])
def ud:=Fo XN
def akw:au:=⟨142,[.c (.own 0),ci 1],[.row 25 U0],2,2,.v (.c (.p .bool U2)),[(0,(.row 25 U3))],ud,186⟩
theorem RM:Ok akw:=oS (.cons sj (.cons art .nil))
def axJ:ae:= .join (.cA 24 mO [U0,U1,U2] 1<|.no U4<|.ite U5 (.j [.b true]) (.ln U3<|.bI .neq U6 U1<|.j [U7])) (.ite U4 (.j [.i 1,.r0]) (.join (.loop [.i 0] (.ln U3<|.bI .lss U5 U6<|.ite U7 (.rw U3 U5 1<|.op (.rc U3 U5 0 .sl)<|.ln U9<|.rw U3 (.i 0) 1<|.op (.rc U3 (.i 0) 0 .sl)<|.ln aD<|.bI .neq ax aE<|.ite aG (.ak (.jump 2 [.i 1,.r0])) (.bI .add U5 (.i 1)<|.j [aJ])) (.ak (.jump 1 [])))) (.join (.loop [.i 0,.r0] (.bI .lss U5 U0<|.ite U7 (.rw U3 (.i 0) 1<|.op (.rc U3 (.i 0) 0 .sl)<|.ln U9<|.op (.ix ax [((.int .u8),(.i 0))] 1)<|.join (.loop [.i 0,aw] (.bI .lss aD U1<|.ite aG (.rw U3 aD 1<|.op (.rc U3 aD 0 .sl)<|.bI .mul U5 U1<|.bI .add aM aD<|.rw U2 aL 1<|.cl aX 0 (.int .u8)<|.op (.call 21 LN [aE,aN,a8] 2 [1])<|.bI .add aD (.i 1)<|.j [bp,be]) (.ak (.jump 1 [aE])))) (.op (.lit [[(.sl,aD)]])<|.op (.app U6 aE 1 24)<|.bI .add U5 (.i 1)<|.j [aJ,aG])) (.ak (.jump 1 [U6])))) (.j [.i 0,U5]))))
def Ng:=Fo axJ
def s60:au:=⟨221,[.agg [pi 0,pi 1,ps 2],.c (.own 0)],[.row 71 U3],4,2,.aj [.c (.own 1),ci 4],[(1,(.row 71 U5)),(0,(.row 71 U3))],Ng,60⟩
theorem ajL:Ok s60:=oS (.cons DY (.cons afs .nil))
def QJ:ae:= .join (.ln U0<|.loop [.i 0] (.bI .lss U2 U1<|.ite U3 (.rw U0 U2 4<|.op (.rc U0 U2 0 (.int .u64))<|.op (.rc U0 U2 1 (.int .u32))<|.op (.rc U0 U2 2 (.int .i64))<|.op (.rc U0 U2 3 (.int .i64))<|.join (.bI .gtr U2 (.i 0)<|.ite U9 (.bI .sub U2 (.i 1)<|.rw U0 ax 4<|.op (.rc U0 ax 0 (.int .u64))<|.op (.bi .leq .u64 U5 aD)<|.j [aE]) (.j [.b false])) (.ite U9 (.ak (.jump 2 [.b false])) (.bI .add U2 (.i 1)<|.j [ax]))) (.ak (.jump 1 [])))) (.j [.b true])
def xL:=Fo QJ
def s62:au:=⟨205,[.c (.own 0)],[.row 25 U0],1,1,.v (.c (.p .bool U1)),[(0,(.row 25 U0))],xL,62⟩
theorem NW:Ok s62:=oS .nil
def NL:ae:= .join (.bI .lss U0 (.i 0)<|.ite U1 (.op (.dD (.i 0) 0)<|.op (.dD (.i 0) 0)<|.j []) (.j [])) (.join (.bI .sub U0 (.i 0)<|.bI .gtr U1 (.i 0)<|.ite U2 (.op (.cut .r0 (.i 0) (.i 0) 4)<|.op (.ix U1 [((.int .u64),(.i 0)),((.int .u32),(.i 0)),((.int .i64),(.i 0)),((.int .i64),(.i 0))] 32)<|.rw U4 (.i 0) 4<|.op (.app .r0 U4 4 32)<|.ln U6<|.op (.cut U6 (.i 0) (.i 0) 4)<|.j [U6]) (.j [.r0])) (.j [U1]))
def KQ:=Fo NL
def vn:au:=⟨230,[.c .nil,ci 0],[],1,1,.v (.c (.sub 0 (.i 0) (.i 0))),[(0,(.row 25 U1))],KQ,63⟩
theorem Wn:Ok vn:=oS .nil
noncomputable def xK:List L→Option (List L):=fun ls=>match vn.F ls with|some os=>if os.length=vn.iF then some []else none|none=>none
def aym:au:=⟨230,[.c .nil,ci 0],[],1,0,.v (.c (.own 0)),[(0,.row 25 .r0)],xK,2001⟩
theorem aeq:aym.ok Tryz.prog:=aoT (s:=vn) Wn rfl rfl (x:=(.v 1)) rfl 2001
def auP:ae:= .bI .mul U3 U1<|.bI .add U3 (.i 1)<|.bI .mul U5 U1<|.ln U2<|.op (.part U2 U4 U6 1)<|.j [U8]
def V6:=Fo auP
def afu:au:=⟨317,[.agg [pi 0,pi 1,ps 2],ci 3],[],4,1,.v (cs 4),[],V6,340⟩
theorem x8:Ok afu:=oS .nil
def aed:ae:= .bI .mul U3 U1<|.bI .add U3 (.i 1)<|.bI .mul U5 U1<|.ln U2<|.op (.cut U2 U4 U6 1)<|.j [U4,U8]
def mK:=Fo aed
def apD:au:=⟨317,[.agg [pi 0,pi 1,.own 0],ci 3],[.row 5 U2],4,2,.v (.c (.sub 0 U4 U5)),[(0,(.row 5 U2))],mK,341⟩
theorem xC:Ok apD:=oS .nil
def ahT:ae:= .bI .rem U0 (.i 255)<|.bI .add U1 (.i 255)<|.bI .rem U2 (.i 255)<|.j [U3]
def P5:=Fo ahT
def anY:au:=⟨336,[ci 0],[],1,1,.v (ci 1),[],P5,342⟩
theorem amF:Ok anY:=oS .nil
def apn:ae:= .bI .eql U1 (.i 0)<|.ite U2 (.j [.i 1]) (.op (.bi .eql .u8 U0 (.i 0))<|.ite U3 (.j [.i 0]) (.cA 300 B4 [] 0<|.op (.dD U0 256)<|.op (.fH E4 U0)<|.cA 342 P5 [U1] 1<|.bI .mul U4 U5<|.bI .rem U6 (.i 255)<|.op (.dD U7 510)<|.op (.fH Jf U7)<|.j [U8]))
def U_:=Fo apn
def ayW:au:=⟨332,[.c (.p (.int .u8) U0),ci 1],[],2,1,.v (.c (.p (.int .u8) U2)),[],U_,343⟩
theorem asj:Ok ayW:=oS (.cons amF (.cons LQ .nil))
def aoU:ae:= .cA 306 vk [U0] 1<|.no U1<|.ite U2 (.j [.i 1,.i 0,.r0]) (.cA 303 G0 [U0,U0] 1<|.join (.loop [.i 0,U3] (.bI .lss U4 U0<|.ite U6 (.cA 341 mK [U0,U0,U5,U4] 2<|.op (.jS U5 U7 U8 U4 1)<|.op (.set U5 U9 0 [((.int .u8),(.i 1))])<|.bI .add U4 (.i 1)<|.j [aw,ax]) (.ak (.jump 1 [U5])))) (.j [.i 0,U0,U4]))
def ZZ:=Fo aoU
def auH:au:=⟨318,[ci 0],[],1,3,.aj [.agg [pi 2,pi 2,.own 0],ci 1],[(0,(.row 5 U3))],ZZ,344⟩
theorem alV:Ok auH:=oS (.cons xC (.cons x8 (.cons DS (.cons LG .nil))))
def amf:ae:= .ln U0<|.op (.part U0 (.i 4) (.i 6) 1)<|.cA 335 sK [U2] 1<|.ln U0<|.op (.part U0 (.i 6) (.i 8) 1)<|.cA 335 sK [U5] 1<|.ln U0<|.op (.part U0 (.i 8) (.i 12) 1)<|.cA 335 sK [U8] 1<|.ln U0<|.op (.part U0 (.i 12) (.i 20) 1)<|.cA 335 sK [aw] 1<|.join (.loop [.i 0,.i 0,.i 0,.i 0,.i 0,.i 0,.i 0] (.bI .lss aE (.i 6)<|.ite a8 (.join (.bI .mul (.i 4) aE<|.bI .add (.i 20) bk<|.bI .add be (.i 4)<|.ln U0<|.op (.part U0 be bp 1)<|.cA 335 sK [bA] 1<|.op (.conv .u32 bq)<|.bI .eql aE (.i 0)<|.ite b9 (.j [.i 0,bw,aJ,aN,aM,aL,aX]) (.bI .eql aE (.i 1)<|.ite cC (.j [.i 1,aG,bw,aN,aM,aL,aX]) (.bI .eql aE (.i 2)<|.ite cP (.j [.i 2,aG,aJ,bw,aM,aL,aX]) (.bI .eql aE (.i 3)<|.ite dq (.j [.i 3,aG,aJ,aN,bw,aL,aX]) (.bI .eql aE (.i 4)<|.ite cq (.j [.i 4,aG,aJ,aN,aM,bw,aX]) (.bI .eql aE (.i 5)<|.ite eP (.j [.i 5,aG,aJ,aN,aM,aL,bw]) (.op (.dD (.i 0) 0)<|.j []))))))) (.bI .add bk (.i 1)<|.j [b9,be,bp,bm,bA,bq,bw])) (.ak (.jump 1 [aG,aJ,aN,aM,aL,aX])))) (.j [U3,U6,U9,aD,aE,aG,aJ,aN,aM,aL])
def L9:=Fo amf
def arz:au:=⟨99,[cs 0],[],1,10,.v (.agg (cX 1 4++ [.p (.int .u32) U5,.p (.int .u32) U6,.p (.int .u32) U7,.p (.int .u32) U8,.p (.int .u32) U9,.p (.int .u32) ax,.nil])),[],L9,356⟩
theorem arU:Ok arz:=oS (.cons Zj .nil)
def Sn:ae:= .join (.ln U0<|.loop [.i 0,.i 0] (.bI .lss U3 U1<|.ite U4 (.join (.rw U0 U3 1<|.cl U5 0 .sl<|.ln U6<|.bI .add U2 U7<|.bI .lss U8 (.i 0)<|.ite U9 (.op (.dD (.i 0) 0)<|.op (.dD (.i 0) 0)<|.j [U8]) (.j [U8])) (.bI .add U3 (.i 1)<|.j [U5,U6])) (.ak (.jump 1 [U2])))) (.cA 2001 xK [U1] 0<|.join (.ln U0<|.loop [.i 0,.r0] (.bI .lss U3 U2<|.ite U5 (.rw U0 U3 1<|.cl U6 0 .sl<|.op (.app U4 U7 4 32)<|.bI .add U3 (.i 1)<|.j [U9,U8]) (.ak (.jump 1 [U4])))) (.j [U2]))
def ur:=Fo Sn
def s64:au:=⟨193,[cs 0],[],1,1,.v (.c (.own 0)),[(0,(.row 25 U1))],ur,64⟩
theorem UM:Ok s64:=oS (.cons aeq (.cons Wn .nil))
def Uu:ae:= .cA 22 mQ [U0,U0] 1<|.no U1<|.ite U2 (.j [.i 1,.i 0,.r0]) (.bI .mul U0 U0<|.op (.ix U3 [((.int .u8),(.i 0))] 1)<|.join (.loop [.i 0,U4] (.bI .lss U5 U0<|.ite U7 (.bI .mul U5 U0<|.bI .add U8 U5<|.rw U6 U9 1<|.op (.set U6 U9 0 [((.int .u8),(.i 1))])<|.bI .add U5 (.i 1)<|.j [aD,aw]) (.ak (.jump 1 [U6])))) (.j [.i 0,U0,U5]))
def Db:=Fo Uu
def s65:au:=⟨286,[ci 0],[],1,3,.aj [.agg [pi 2,pi 2,.own 0],ci 1],[(0,(.row 5 U3))],Db,65⟩
theorem ank:Ok s65:=oS (.cons ET .nil)
def TX:ae:= .join (.cA 24 mO [U0,U1,U2] 1<|.no U6<|.ite U7 (.j [.b true]) (.cA 24 mO [U3,U4,U5] 1<|.no U8<|.ite U9 (.j [.b true]) (.bI .neq U1 U3<|.j [ax]))) (.ite U6 (.j [.i 1,.i 0,.i 0,.r0]) (.join (.loop [.i 0,.r0] (.bI .lss U7 U0<|.ite U9 (.join (.loop [.i 0,U8] (.bI .lss ax U4<|.ite aD (.join (.loop [.i 0,.i 0] (.bI .lss aG U1<|.ite aJ (.bI .mul U7 U1<|.bI .add aN aG<|.rw U2 aM 1<|.cl aL 0 (.int .u8)<|.bI .mul aG U4<|.bI .add a8 ax<|.rw U5 bk 1<|.cl be 0 (.int .u8)<|.cA 19 nO [aX,bp] 1<|.op (.bi .xor .u8 aE bm)<|.bI .add aG (.i 1)<|.j [bA,bq]) (.ak (.jump 1 [aE])))) (.op (.lit [[((.int .u8),aE)]])<|.op (.app aw aG 1 1)<|.bI .add ax (.i 1)<|.j [aN,aJ])) (.ak (.jump 1 [aw])))) (.bI .add U7 (.i 1)<|.j [aw,ax])) (.ak (.jump 1 [U8])))) (.j [.i 0,U0,U4,U7])))
def Fk:=Fo TX
def s66:au:=⟨255,[.agg [pi 0,pi 1,ps 2],.agg [pi 3,pi 4,ps 5]],[],6,4,.aj [.agg [pi 7,pi 8,.own 0],ci 6],[(0,(.row 5 U9))],Fk,66⟩
theorem ajc:Ok s66:=oS (.cons DY (.cons B0 .nil))
def acq:ae:= .join (.cA 39 Aj [U0,U1,U2] 1<|.no aw<|.ite aD (.j [.b true]) (.bI .lss U3 (.i 16)<|.ite aE (.j [.b true]) (.bI .gtr U3 (.i 524288)<|.ite aG (.j [.b true]) (.cA 48 Ay [ax] 1<|.no aJ<|.j [aN])))) (.ite aw (.j [.b false]) (.join (.loop [.i 0] (.ln ax<|.bI .lss aD aE<|.ite aG (.rw ax aD 4<|.cl aJ 2 (.int .i64)<|.rw ax aD 4<|.cl aM 3 (.int .i64)<|.cA 44 kH [aL] 1<|.bI .add aN aX<|.bI .gtr a8 U3<|.ite bk (.ak (.jump 2 [.b false])) (.bI .add aD (.i 1)<|.j [be])) (.ak (.jump 1 [])))) (.j [.b true])))
def Dd:=Fo acq
def s67:au:=⟨110,[.agg (cX 0 4++ [.p (.int .u32) U4,.p (.int .u32) U5,.p (.int .u32) U6,.p (.int .u32) U7,.p (.int .u32) U8,.p (.int .u32) U9,ps 10])],[],11,1,.v (.c (.p .bool aw)),[],Dd,67⟩
theorem S3:Ok s67:=oS (.cons MP (.cons qd (.cons JH .nil)))
def Y5:ae:= .cA 55 yh [.i 5,U0,U1,U2,.b false] 2<|.j [U3]
def DX:=Fo Y5
def s68:au:=⟨67,[ci 0,ci 1,ci 2],[],3,1,.v (.c (.p .str U3)),[],DX,68⟩
theorem axZ:Ok s68:=oS (.cons Ti .nil)
def aum:ae:= .join (.loop [.i 0,.r0] (.ln U0<|.bI .lss U1 U3<|.ite U4 (.rw U0 U1 1<|.cl U5 0 (.int .u64)<|.cA 42 iQ [U6,.i 8] 1<|.op (.app U2 U7 1 1)<|.op (.call 41 sE [U7] 1 [0])<|.op (.app U8 U9 1 1)<|.bI .add U1 (.i 1)<|.j [aw,ax]) (.ak (.jump 1 [U2])))) (.j [U1])
def Iz:=Fo aum
def s69:au:=⟨75,[cs 0],[],1,1,.v (.c (.own 0)),[(0,(.row 5 U1))],Iz,69⟩
theorem ahs:Ok s69:=oS (.cons A4 (.cons wS .nil))
end
section
open Go.RowKit
open Classical
def ayG (b:Bool):af:=⟨[.v (.c (.p .sl (.v 0))),.aj [],.v (.c .nil),.v (.c (.p .sl (.v 0))),.v (.c (.p .bool (.b b))),.aj [],.aj [],.aj []],[],[],8,1⟩
def azt:Code:=
 (Code.region 3
   #[{dst:=some 5,op:=Op.buildSlice 71 0 #[],type:=71,pos:= "slices.go:362",after:= #[],guard:=none},
    {dst:=some 6,op:=Op.move (Operand.tmp 0),type:=71,pos:= "slices.go:362",after:= #[],guard:=none},
    {dst:=some 7,
     op :=
      Op.call
       {callee:=Callee.builtin Builtin.append,args:= #[Operand.tmp 5,Operand.tmp 6],
        argTypes:= #[71,71]},
     type:=71,pos:= "slices.go:362",
     after:= #[{on:=0,ground:=Ground.data},{on:=1,ground:=Ground.data}],guard:=none},
    {dst:=some 2,op:=Op.assign (Operand.tmp 7),type:=71,pos:= "slices.go:362",
     after:=
      #[{on:=2,ground:=Ground.data},{on:=2,ground:=Ground.chain},
       {on:=0,ground:=Ground.phase},{on:=1,ground:=Ground.phase},
       {on:=2,ground:=Ground.phase}],guard:=none}]
   false).seq
  Code.ret
def IL:ae:= .op (.lit []) (.op (.app (.v 1) (.v 0) 1 1) (.ak (.jump 0 [(.v 2)])))
theorem afO:Az TT [] azt 0 [.tmp 2] (ayG false)=some ⟨IL,(.v (.c (.own 0))),[(0,(.row 5 (.v 1)))],1⟩:=kr
theorem arI (rows) (hR:bu 1 rows=true) (hb:rows.length*1≤140737488355328):
   eJ Tryz.prog 196 [.c (.p (.sl rows))] [] (.v (.c (.own 0))) [(0,.row 5 rows)]:=by
 refine eJ.intro Tryz.func196 kr rfl rfl rfl fun X hP bK=>uC ?_
 refine fJ ?_;refine uj (Sp:=fun _=>none) rfl rfl ?_;refine fJ ?_;refine fJ ?_;refine Jw (rows:=rows) (e:=5) rfl (by show 3<8;decide) (by rw[hP];exact Tryz.underlying71) ?_;intro b gH;refine u9 (t:=b) rfl (fun h=> ?_) (fun h=> ?_)
 · subst h;cases gH rfl;refine fJ (uj (Sp:=fun _=>none) rfl rfl (tN ?_));refine⟨⟨[.v (.c .dead),.v (.c .dead),.v (.c (.own 0)),.v (.c .dead),.v (.c .dead),.v (.c .dead),.v (.c .dead),.v (.c .dead)],[(0,.row 5 [])],[],16⟩,nJ.le (ι:=[]) (Z:=[0]) rfl ?_,trivial,rfl,fun n b h=>h⟩;have CD:X.k0=0:=bK;rw[CD,hP];exact{
     ar:=rfl,old:=by simp[Ren.old],new:=by simp[Ren.new],zs:=fun n hn=>by
      simp at hn;subst hn;exact⟨by simp[Ren.new],fm _,by simp,5,rfl,dG kr⟩
     lt:=fun x hx=>by simp at hx
     k0:=fm _
     tmps:=by
      refine⟨trivial,trivial,?_,trivial,trivial,trivial,trivial,trivial,trivial⟩;exact tn.2 rfl
     heap:=fun n b h=> .inl (by
      simp only[gW,oq]at h;split at h
      · rename_i hn;simp at hn;subst hn;simp
      · cases h)}
 · subst h;refine Dz ?_;have hd:kz (IL.aa [.r rows])=some [.r rows]:=by
    simp[IL,ae.aa,Nd.ev,At.ev,L.az,kz];rw[ay ⟨om,om,rfl,hR⟩];rfl
   refine lN (Mi fO .nil BH rfl afO (ls:=[.r rows]) (os:=[.r rows]) rfl hd hP bK) fun e st h=> ⟨st,fun _ _ h=>h,h⟩
def xw:List L→Option (List L):=fun ls=>match ls with
 |[.r rows]=>if bu 1 rows=true∧rows.length*1≤140737488355328 then some []else none
 |_=>none
def akJ:au:=⟨196,[.c (.p .sl U0)],[],1,0,.v (.c (.own 0)),[(0,.row 5 U0)],xw,2010⟩
theorem Qo:akJ.ok Tryz.prog:=by
 intro ls os hl hF cg;have hF:xw ls=some os:=hF;unfold xw at hF;split at hF
 · split at hF
   · rename_i hc;cases hF;exact arI _ hc.1 hc.2
   · cases hF
 · cases hF
def arv (b:Bool):af:=⟨[.v (.c (.p .sl (.v 0))),.aj [],.v (.c .nil),.v (.c (.p .sl (.v 0))),.v (.c (.p .bool (.b b))),.aj [],.aj [],.aj []],[],[],8,1⟩
def aeF:Code:=
 (Code.region 3
   #[{dst:=some 5,op:=Op.buildSlice 71 0 #[],type:=71,pos:= "bytes.go:1395",after:= #[],guard:=none},
    {dst:=some 6,op:=Op.move (Operand.tmp 0),type:=71,pos:= "bytes.go:1395",after:= #[],guard:=none},
    {dst:=some 7,
     op :=
      Op.call
       {callee:=Callee.builtin Builtin.append,args:= #[Operand.tmp 5,Operand.tmp 6],
        argTypes:= #[71,71]},
     type:=71,pos:= "bytes.go:1395",
     after:= #[{on:=0,ground:=Ground.data},{on:=1,ground:=Ground.data}],guard:=none},
    {dst:=some 2,op:=Op.assign (Operand.tmp 7),type:=71,pos:= "bytes.go:1395",
     after:=
      #[{on:=2,ground:=Ground.data},{on:=2,ground:=Ground.chain},
       {on:=0,ground:=Ground.phase},{on:=1,ground:=Ground.phase},
       {on:=2,ground:=Ground.phase}],guard:=none}]
   false).seq
  Code.ret
def II:ae:= .op (.lit []) (.op (.app (.v 1) (.v 0) 1 1) (.ak (.jump 0 [(.v 2)])))
theorem aye:Az TT [] aeF 0 [.tmp 2] (arv false)=some ⟨II,(.v (.c (.own 0))),[(0,(.row 5 (.v 1)))],1⟩:=kr
theorem apY (rows) (hR:bu 1 rows=true) (hb:rows.length*1≤140737488355328):
   eJ Tryz.prog 150 [.c (.p (.sl rows))] [] (.v (.c (.own 0))) [(0,.row 5 rows)]:=by
 refine eJ.intro Tryz.func150 kr rfl rfl rfl fun X hP bK=>uC ?_
 refine fJ ?_;refine uj (Sp:=fun _=>none) rfl rfl ?_;refine fJ ?_;refine fJ ?_;refine Jw (rows:=rows) (e:=5) rfl (by show 3<8;decide) (by rw[hP];exact Tryz.underlying71) ?_;intro b gH;refine u9 (t:=b) rfl (fun h=> ?_) (fun h=> ?_)
 · subst h;cases gH rfl;refine fJ (uj (Sp:=fun _=>none) rfl rfl (tN ?_));refine⟨⟨[.v (.c .dead),.v (.c .dead),.v (.c (.own 0)),.v (.c .dead),.v (.c .dead),.v (.c .dead),.v (.c .dead),.v (.c .dead)],[(0,.row 5 [])],[],16⟩,nJ.le (ι:=[]) (Z:=[0]) rfl ?_,trivial,rfl,fun n b h=>h⟩;have CD:X.k0=0:=bK;rw[CD,hP];exact{
     ar:=rfl,old:=by simp[Ren.old],new:=by simp[Ren.new],zs:=fun n hn=>by
      simp at hn;subst hn;exact⟨by simp[Ren.new],fm _,by simp,5,rfl,dG kr⟩
     lt:=fun x hx=>by simp at hx
     k0:=fm _
     tmps:=by
      refine⟨trivial,trivial,?_,trivial,trivial,trivial,trivial,trivial,trivial⟩;exact tn.2 rfl
     heap:=fun n b h=> .inl (by
      simp only[gW,oq]at h;split at h
      · rename_i hn;simp at hn;subst hn;simp
      · cases h)}
 · subst h;refine Dz ?_;have hd:kz (II.aa [.r rows])=some [.r rows]:=by
    simp[II,ae.aa,Nd.ev,At.ev,L.az,kz];rw[ay ⟨om,om,rfl,hR⟩];rfl
   refine lN (Mi fO .nil BH rfl aye (ls:=[.r rows]) (os:=[.r rows]) rfl hd hP bK) fun e st h=> ⟨st,fun _ _ h=>h,h⟩
def xv:List L→Option (List L):=fun ls=>match ls with
 |[.r rows]=>if bu 1 rows=true∧rows.length*1≤140737488355328 then some []else none
 |_=>none
def aAo:au:=⟨150,[.c (.p .sl U0)],[],1,0,.v (.c (.own 0)),[(0,.row 5 U0)],xv,2011⟩
theorem Zi:aAo.ok Tryz.prog:=by
 intro ls os hl hF cg;have hF:xv ls=some os:=hF;unfold xv at hF;split at hF
 · split at hF
   · rename_i hc;cases hF;exact apY _ hc.1 hc.2
   · cases hF
 · cases hF
end
section
attribute [local irreducible] Fo
open Go.RowKit
def auQ:ae:= .join (.cA 306 vk [U0] 1<|.no U2<|.ite U3 (.j [.b true]) (.cA 306 vk [U1] 1<|.no U4<|.j [U5])) (.ite U2 (.j [.i 1,.i 0,.i 0,.r0]) (.cA 303 G0 [U0,U1] 1<|.join (.loop [.i 0,U3] (.bI .lss U4 U0<|.ite U6 (.join (.loop [.i 0,U5] (.bI .lss U7 U1<|.ite U9 (.cA 341 mK [U0,U1,U8,U4] 2<|.op (.conv .u8 U4)<|.cA 343 U_ [aD,U7] 1<|.op (.jS U8 ax aw U7 1)<|.op (.set U8 aG 0 [((.int .u8),aE)])<|.bI .add U7 (.i 1)<|.j [aN,aJ]) (.ak (.jump 1 [U8])))) (.bI .add U4 (.i 1)<|.j [U8,U7])) (.ak (.jump 1 [U5])))) (.j [.i 0,U0,U1,U4])))
def Wf:=Fo auQ
def aes:au:=⟨314,[ci 0,ci 1],[],2,4,.aj [.agg [pi 3,pi 4,.own 0],ci 2],[(0,(.row 5 U5))],Wf,345⟩
theorem ahl:Ok aes:=oS (.cons asj (.cons xC (.cons x8 (.cons DS (.cons LG .nil)))))
def ald:ae:= .join (.cA 307 w7 [U0,U1,U2] 1<|.no U6<|.ite U7 (.j [.b true]) (.cA 307 w7 [U3,U4,U5] 1<|.no U8<|.ite U9 (.j [.b true]) (.bI .neq U1 U3<|.j [ax]))) (.ite U6 (.j [.i 1,.i 0,.i 0,.r0]) (.cA 303 G0 [U0,U4] 1<|.join (.loop [.i 0,U7] (.bI .lss U8 U0<|.ite ax (.join (.loop [.i 0,U9] (.bI .lss aw U4<|.ite aE (.join (.loop [.i 0,aD] (.bI .lss aG U1<|.ite aN (.cA 341 mK [U0,U4,aJ,U8] 2<|.op (.jS aJ aM aL aw 1)<|.op (.rc aJ aX 0 (.int .u8))<|.cA 304 xG [U0,U1,U2,U8,aG] 1<|.cA 304 xG [U3,U4,U5,aG,aw] 1<|.cA 302 GC [bk,be] 1<|.op (.bi .xor .u8 a8 bp)<|.op (.jS aJ aM aL aw 1)<|.op (.set aJ bA 0 [((.int .u8),bm)])<|.bI .add aG (.i 1)<|.j [bw,bq]) (.ak (.jump 1 [aJ])))) (.bI .add aw (.i 1)<|.j [aJ,aG])) (.ak (.jump 1 [aD])))) (.bI .add U8 (.i 1)<|.j [aD,aw])) (.ak (.jump 1 [U9])))) (.j [.i 0,U0,U4,U8])))
def Lp:=Fo ald
def akk:au:=⟨307,[.agg [pi 0,pi 1,ps 2],.agg [pi 3,pi 4,ps 5]],[],6,4,.aj [.agg [pi 7,pi 8,.own 0],ci 6],[(0,(.row 5 U9))],Lp,346⟩
theorem Y7:Ok akk:=oS (.cons xC (.cons x8 (.cons GG (.cons KY (.cons LG (.cons MQ .nil))))))
def aec:ae:= .join (.cA 307 w7 [U0,U1,U2] 1<|.no U4<|.ite U5 (.j [.b true]) (.ln U3<|.cA 306 vk [U6] 1<|.no U7<|.j [U8])) (.ite U4 (.j [.i 1,.i 0,.i 0,.r0]) (.ln U3<|.join (.ln U3<|.loop [.i 0,.r0] (.bI .lss U7 U6<|.ite U9 (.rw U3 U7 1<|.cl ax 0 (.int .i64)<|.join (.bI .lss aw (.i 0)<|.ite aD (.j [.b true]) (.bI .geq aw U0<|.j [aE])) (.ite aD (.ak (.jump 2 [.i 1,.i 0,.i 0,.r0])) (.cA 340 V6 [U0,U1,U2,aw] 1<|.op (.app U8 aE 1 1)<|.bI .add U7 (.i 1)<|.j [aJ,aG]))) (.ak (.jump 1 [U8])))) (.j [.i 0,U5,U1,U6])))
def Iu:=Fo aec
def asT:au:=⟨305,[.agg [pi 0,pi 1,ps 2],cs 3],[],4,4,.aj [.agg [pi 5,pi 6,.own 0],ci 4],[(0,(.row 5 U7))],Iu,347⟩
theorem RH:Ok asT:=oS (.cons xC (.cons x8 (.cons GG (.cons DS .nil))))
def afW:ae:= .ln U1<|.bI .gtr U3 (.i 1048576)<|.ite U4 (.j [.b false]) (.join (.ln U2<|.loop [U3,.i 0] (.bI .lss U7 U5<|.ite U8 (.rw U2 U7 3<|.cl U9 0 (.int .i64)<|.cl U9 1 .sl<|.cl U9 2 .bool<|.join (.bI .lss ax (.i 0)<|.ite aE (.j [.b true]) (.bI .gtr ax (.i 1048576)<|.ite aG (.j [.b true]) (.ite aD (.ln aw<|.bI .gtr aJ (.i 0)<|.j [aN]) (.j [.b false])))) (.ite aE (.ak (.jump 2 [.b false])) (.cA 320 zD [ax,aw,aD,U6] 1<|.bI .gtr aG (.i 1048576)<|.ite aJ (.ak (.jump 2 [.b false])) (.bI .add U7 (.i 1)<|.j [aG,aN])))) (.ak (.jump 1 [])))) (.j [.b true]))
def EV:=Fo afW
def azU:au:=⟨201,[.agg [.p .str U0,ps 1,ps 2]],[],3,1,.v (.c (.p .bool U3)),[],EV,350⟩
theorem VZ:Ok azU:=oS (.cons IE .nil)
def aqj:ae:= .join (.bI .lss U0 (.i 0)<|.ite U3 (.j [.b true]) (.bI .lss U1 (.i (-1))<|.ite U4 (.j [.b true]) (.ln U2<|.bI .gtr U5 (.i 256)<|.j [U6]))) (.ite U3 (.j [.b false]) (.join (.ln U2<|.loop [.i 0] (.bI .lss U5 U4<|.ite U6 (.rw U2 U5 3<|.cl U7 0 .str<|.cl U7 1 .sl<|.cl U7 2 .sl<|.join (.cA 321 DR [U8] 1<|.no aw<|.ite aD (.j [.b true]) (.cA 350 EV [U8,U9,ax] 1<|.no aE<|.ite aG (.j [.b true]) (.bI .gtr U5 (.i 0)<|.ite aJ (.bI .sub U5 (.i 1)<|.rw U2 aN 3<|.cl aM 0 .str<|.op (.bs .leq U8 aL)<|.j [aX]) (.j [.b false])))) (.ite aw (.ak (.jump 2 [.b false])) (.bI .add U5 (.i 1)<|.j [aD]))) (.ak (.jump 1 [])))) (.j [.b true])))
def L7:=Fo aqj
def asm:au:=⟨197,[.agg [pi 0,pi 1,ps 2]],[],3,1,.v (.c (.p .bool U3)),[],L7,351⟩
theorem avz:Ok asm:=oS (.cons VZ (.cons P2 .nil))
def alh:ae:= .cA 327 BB [U0] 1<|.op (.conv .u8 U1)<|.op (.bi .shr .u32 U1 (.i 8))<|.op (.conv .u8 U3)<|.op (.bi .shr .u32 U1 (.i 16))<|.op (.conv .u8 U5)<|.op (.bi .shr .u32 U1 (.i 24))<|.op (.conv .u8 U7)<|.op (.lit [[((.int .u8),U2)],[((.int .u8),U4)],[((.int .u8),U6)],[((.int .u8),U8)]])<|.j [U9]
def IH:=Fo alh
def ayj:au:=⟨152,[cs 0],[],1,1,.v (.c (.own 0)),[(0,(.row 5 U1))],IH,353⟩
theorem acG:Ok ayj:=oS (.cons JZ .nil)
def ahZ:ae:= .cA 46 yd [U0] 1<|.join (.loop [.b false,.i 0,.r0] (.ln U5<|.bI .lss U7 U9<|.ite ax (.join (.join (.join (.no U6<|.ite aw (.rw U5 U7 4<|.op (.rc U5 U7 0 (.int .u64))<|.op (.bi .geq .u64 aE U1)<|.j [aG]) (.j [.b false])) (.ite aw (.op (.lit [[((.int .u64),U1),((.int .u32),U2),((.int .i64),U3),((.int .i64),U4)]])<|.op (.app U8 aD 4 32)<|.j [.b true,aE]) (.j [U6,U8]))) (.rw U5 U7 4<|.op (.rc U5 U7 0 (.int .u64))<|.op (.bi .neq .u64 aG U1)<|.ite aJ (.rw U5 U7 4<|.op (.rc U5 U7 0 (.int .u64))<|.op (.rc U5 U7 1 (.int .u32))<|.op (.rc U5 U7 2 (.int .i64))<|.op (.rc U5 U7 3 (.int .i64))<|.op (.lit [[((.int .u64),aM),((.int .u32),aL),((.int .i64),aX),((.int .i64),a8)]])<|.op (.app aD bk 4 32)<|.j [aw,be]) (.j [aw,aD]))) (.bI .add U7 (.i 1)<|.j [aw,aE,aD])) (.ak (.jump 1 [U6,U8])))) (.join (.no U6<|.ite U8 (.op (.lit [[((.int .u64),U1),((.int .u32),U2),((.int .i64),U3),((.int .i64),U4)]])<|.op (.app U7 U9 4 32)<|.j [ax]) (.j [U7])) (.j [U8]))
def JL:=Fo ahZ
def s76:au:=⟨187,[cs 0,.agg [.p (.int .u64) U1,.p (.int .u32) U2,pi 3,pi 4]],[],5,1,.v (.c (.own 0)),[(0,(.row 25 U5))],JL,76⟩
theorem azS:Ok s76:=oS (.cons CY .nil)
def aiH:ae:= .cA 46 yd [U0] 1<|.join (.loop [.i 0,.r0] (.ln U2<|.bI .lss U3 U5<|.ite U6 (.join (.rw U2 U3 4<|.op (.rc U2 U3 0 (.int .u64))<|.op (.bi .neq .u64 U8 U1)<|.ite U9 (.rw U2 U3 4<|.op (.rc U2 U3 0 (.int .u64))<|.op (.rc U2 U3 1 (.int .u32))<|.op (.rc U2 U3 2 (.int .i64))<|.op (.rc U2 U3 3 (.int .i64))<|.op (.lit [[((.int .u64),aw),((.int .u32),aD),((.int .i64),aE),((.int .i64),aG)]])<|.op (.app U4 aJ 4 32)<|.j [aN]) (.j [U4])) (.bI .add U3 (.i 1)<|.j [U8,U7])) (.ak (.jump 1 [U4])))) (.j [U3])
def Mk:=Fo aiH
def s77:au:=⟨185,[cs 0,.c (.p (.int .u64) U1)],[],2,1,.v (.c (.own 0)),[(0,(.row 25 U2))],Mk,77⟩
theorem auh:Ok s77:=oS (.cons CY .nil)
def acg:ae:= .join (.join (.op (.call 52 wJ (w 0 10) 1 [])<|.ite aw (.bI .geq ax (.i 0)<|.ite aD (.bI .sub (.i 1099511627776) U9<|.bI .leq ax aE<|.j [aG]) (.j [.b false])) (.j [.b false])) (.ite aw (.bI .add U9 ax<|.j [aD]) (.j [U9]))) (.j [aw])
def JY:=Fo acg
def s78:au:=⟨138,[.agg (eo 0 8++ [pi 8,pi 9]),ci 10],[],11,1,.v (.agg (eo 0 8++ [pi 8,pi 11])),[],JY,78⟩
theorem agu:Ok s78:=oS (.cons G9 .nil)
def aiR:ae:= .join (.loop [.i 0,.r0] (.join (.bI .lss ax (.i 8)<|.ite aD (.op (.call 52 wJ (w 0 10) 1 [])<|.j [aE]) (.j [.b false])) (.ite aD (.op (.dD ax 8)<|.op (.fH (w 0 8) ax)<|.op (.app aw aE 4 32)<|.bI .add ax (.i 1)<|.j [aJ,aG]) (.ak (.jump 1 [aw]))))) (.op (.call 46 yd [ax] 1 [0])<|.j [aw])
def qc:=Fo aiR
def s79:au:=⟨66,[.agg (eo 0 8++ [pi 8,pi 9])],[],10,1,.v (.c (.own 0)),[(0,(.row 25 ax))],qc,79⟩
theorem wG:Ok s79:=oS (.cons G9 (.cons CY .nil))
def api:ae:= .join (.bI .lss U0 (.i 1)<|.ite aG (.j [.b true]) (.bI .gtr U0 (.i 8)<|.ite aJ (.j [.b true]) (.bI .lss U1 (.i 0)<|.ite aN (.j [.b true]) (.bI .geq U1 (.i 4294967296)<|.ite aM (.j [.b true]) (.bI .lss U2 (.i 1)<|.ite aL (.j [.b true]) (.bI .gtr U2 (.i 3)<|.j [aX])))))) (.ite aG (.j [.b false]) (.join (.bI .lss U3 (.i 16)<|.ite aJ (.j [.b true]) (.bI .gtr U3 (.i 1048576)<|.ite aN (.j [.b true]) (.bI .rem U3 (.i 8)<|.bI .neq aM (.i 0)<|.ite aL (.j [.b true]) (.op (.call 52 wJ (w 4 10) 1 [])<|.no aX<|.ite a8 (.j [.b true]) (.op (.call 79 qc (w 4 10) 1 [])<|.cA 58 Nh [bk,U3] 1<|.no be<|.j [bp]))))) (.ite aJ (.j [.b false]) (.bI .sub U3 (.i 16)<|.bI .sub aN aD<|.bI .eql aM aE<|.j [aL]))))
def rU:=Fo api
def s80:au:=⟨80,[.agg (cX 0 4++eo 4 8++ [pi 12,pi 13])],[],14,1,.v (.c (.p .bool aG)),[],rU,80⟩
theorem B7:Ok s80:=oS (.cons wG (.cons avB (.cons G9 .nil)))
def Sy:ae:= .loop [.i 0,U0] (.bI .lss U5 U1<|.ite U7 (.bI .mul U2 U1<|.bI .add U8 U5<|.rw U6 U9 1<|.op (.rc U6 U9 0 (.int .u8))<|.bI .mul U3 U1<|.bI .add aD U5<|.rw U6 aE 1<|.op (.rc U6 aE 0 (.int .u8))<|.cA 19 nO [U4,aJ] 1<|.op (.bi .xor .u8 aw aN)<|.rw U6 U9 1<|.op (.set U6 U9 0 [((.int .u8),aM)])<|.bI .add U5 (.i 1)<|.j [a8,aX]) (.ak (.jump 1 [U6])))
def lr:=Fo Sy
def s81:au:=⟨287,[.c (.own 0),ci 1,ci 2,ci 3,.c (.p (.int .u8) U4)],[.row 5 U0],5,1,.aj [],[(0,(.row 5 U5))],lr,81⟩
theorem aor:Ok s81:=oS (.cons B0 .nil)
def aoj:ae:= .loop [.i 0,.r0] (.bI .lss U2 U1<|.ite U4 (.bI .mul (.i 8) U2<|.op (.bi .shr .u64 U0 U5)<|.op (.conv .u8 U6)<|.op (.lit [[((.int .u8),U7)]])<|.op (.app U3 U8 1 1)<|.bI .add U2 (.i 1)<|.j [ax,U9]) (.ak (.jump 1 [U3])))
def LF:=Fo aoj
def ape:au:=⟨195,[.c (.ptr 0 0),.c (.p (.int .u64) U0),ci 1],[.box [.nil]],2,1,.aj [],[(0,(.box [.own 1])),(1,(.row 5 U2))],LF,357⟩
theorem aiz:Ok ape:=oS .nil
def aqB:ae:= .ite U2 (.ln U3<|.op (.mx U0 (.i 0))<|.op (.mn U4 U5)<|.ln U3<|.op (.cut U3 (.i 0) U6 1)<|.op (.tk U3 U8)<|.j [U9]) (.join (.ln U3<|.cA 320 zD [U0,U1,U2,U4] 1<|.ln U3<|.bI .gtr U5 U6<|.ite U7 (.ln U3<|.bI .sub U5 U8<|.op (.ix U9 [((.int .u8),(.i 0))] 1)<|.rw ax (.i 0) 1<|.op (.app U3 ax 1 1)<|.j [aD]) (.j [U3])) (.ln U4<|.op (.cut U4 U0 U5 1)<|.op (.uJ U4 U0 U6 U1 1)<|.j [U7]))
def JN:=Fo aqB
def azG:au:=⟨202,[.agg [pi 0,ps 1,.p .bool U2],.c (.own 0)],[.row 5 U3],4,1,.v (.c (.own 1)),[(1,(.row 5 U4))],JN,358⟩
theorem awv:Ok azG:=oS (.cons IE .nil)
def aqK:ae:= .cA 341 mK [U0,U1,U2,U3] 2<|.cA 341 mK [U0,U1,U2,U4] 2<|.op (.vw U2 U5 U6)<|.ln U9<|.loop [.i 0,U2] (.bI .lss aw ax<|.ite aE (.op (.jS aD U7 U8 aw 1)<|.op (.rc aD aG 0 (.int .u8))<|.op (.jS aD U5 U6 aw 1)<|.op (.rc aD aN 0 (.int .u8))<|.op (.jS aD U5 U6 aw 1)<|.op (.set aD aL 0 [((.int .u8),aJ)])<|.op (.jS aX U7 U8 aw 1)<|.op (.set aX a8 0 [((.int .u8),aM)])<|.bI .add aw (.i 1)<|.j [be,bk]) (.ak (.jump 1 [aD])))
def IC:=Fo aqK
def amX:au:=⟨321,[.agg [pi 0,pi 1,.own 0],ci 3,ci 4],[.row 5 U2],5,1,.aj [],[(0,(.row 5 U5))],IC,359⟩
theorem awL:Ok amX:=oS (.cons xC (.cons x8 .nil))
def ade:ae:= .bI .eql U0 aG<|.j [bk]
def Lu:=Fo ade
def awX:au:=⟨87,[.agg (cX 0 4++eo 4 8++ [pi 12,pi 13]),.c (.ptr 0 0)],[.box [pi 14,pi 15,pi 16,.p (.int .u64) aM,.p (.int .u32) aL,pi 19,pi 20]],21,1,.v (.c (.p .bool bk)),[(0,(.box [pi 14,pi 15,pi 16,.p (.int .u64) aM,.p (.int .u32) aL,pi 19,pi 20]))],Lu,360⟩
theorem azR:Ok awX:=oS .nil
def Z4:ae:= .rw U1 U0 4<|.cl U3 0 (.int .u64)<|.op (.bi .geq .u64 U4 U2)<|.j [U5]
def Bd:=Fo Z4
def s83:au:=⟨251,[ci 0,.c (.ptr 0 0),.c (.ptr 1 0)],[.box [ps 1],.box [.p (.int .u64) U2]],3,1,.v (.c (.p .bool U3)),[(0,(.box [ps 1])),(1,(.box [.p (.int .u64) U2]))],Bd,83⟩
theorem axb:Ok s83:=oS .nil
def KT:ae:= .join (.ln U0<|.loop [.i 0] (.bI .lss U2 U1<|.ite U3 (.rw U0 U2 4<|.cl U4 0 (.int .u64)<|.cl U4 1 (.int .u32)<|.cl U4 2 (.int .i64)<|.cl U4 3 (.int .i64)<|.cA 8 F8 [U5,U6,U7,U8] 1<|.ite U9 (.ak (.jump 2 [U2])) (.bI .add U2 (.i 1)<|.j [ax])) (.ak (.jump 1 [])))) (.j [.i (-1)])
def yG:=Fo KT
def s84:au:=⟨208,[cs 0,.c (.fn 206 [])],[],1,1,.v (ci 1),[],yG,84⟩
theorem J3:Ok s84:=oS (.cons ok8 .nil)
def IX:ae:= .bI .add U1 (.i 1)<|.loop [U3,U0] (.bI .lss U4 U2<|.ite U6 (.join (.loop [U4,U5] (.join (.bI .gtr U7 U1<|.ite U9 (.rw U8 U7 4<|.op (.rc U8 U7 0 (.int .u64))<|.op (.rc U8 U7 1 (.int .u32))<|.op (.rc U8 U7 2 (.int .i64))<|.op (.rc U8 U7 3 (.int .i64))<|.bI .sub U7 (.i 1)<|.rw U8 aJ 4<|.op (.rc U8 aJ 0 (.int .u64))<|.op (.rc U8 aJ 1 (.int .u32))<|.op (.rc U8 aJ 2 (.int .i64))<|.op (.rc U8 aJ 3 (.int .i64))<|.cA 6 F6 [aw,aD,aE,aG,aM,aL,aX,a8] 1<|.bI .lss bk (.i 0)<|.j [be]) (.j [.b false])) (.ite U9 (.bI .sub U7 (.i 1)<|.bI .sub U7 (.i 1)<|.rw U8 aw 4<|.op (.rc U8 aw 0 (.int .u64))<|.op (.rc U8 aw 1 (.int .u32))<|.op (.rc U8 aw 2 (.int .i64))<|.op (.rc U8 aw 3 (.int .i64))<|.rw U8 U7 4<|.op (.rc U8 U7 0 (.int .u64))<|.op (.rc U8 U7 1 (.int .u32))<|.op (.rc U8 U7 2 (.int .i64))<|.op (.rc U8 U7 3 (.int .i64))<|.rw U8 U7 4<|.op (.set U8 U7 0 [((.int .u64),aE),((.int .u32),aG),((.int .i64),aJ),((.int .i64),aN)])<|.rw bp ax 4<|.op (.set bp ax 0 [((.int .u64),aL),((.int .u32),aX),((.int .i64),a8),((.int .i64),bk)])<|.bI .sub U7 (.i 1)<|.j [bq,bA]) (.ak (.jump 1 [U8]))))) (.bI .add U4 (.i 1)<|.j [U8,U7])) (.ak (.jump 1 [U5])))
def tM:=Fo IX
def s85:au:=⟨256,[.c (.own 0),ci 1,ci 2,.c (.fn 248 [])],[.row 25 U0],3,1,.aj [],[(0,(.row 25 U3))],tM,85⟩
theorem auE:Ok s85:=oS (.cons uN .nil)
def Rj:ae:= .cA 84 yG [U0] 1<|.bI .geq U1 (.i 0)<|.j [U2]
def zZ:=Fo Rj
def s87:au:=⟨156,[cs 0,.c (.fn 206 [])],[],1,1,.v (.c (.p .bool U1)),[],zZ,87⟩
theorem L_:Ok s87:=oS (.cons J3 .nil)
def Km:ae:= .join (.loop [.i 0,U0] (.bI .lss U3 U4<|.ite U5 (.bI .add U3 U4<|.op (.conv .u64 U6)<|.op (.bi .shr .u64 U7 (.i 1))<|.op (.conv .i64 U8)<|.cA 83 Bd [U9,U1,U2] 1<|.no ax<|.ite aw (.bI .add U9 (.i 1)<|.j [aD,U4]) (.j [U3,U9])) (.ak (.jump 1 [U3])))) (.j [U3])
def zr:=Fo Km
def s88:au:=⟨250,[ci 0,.c (.fn 251 [0,1])],[.box [ps 1],.box [.p (.int .u64) U2]],3,1,.v (ci 3),[(0,(.box [ps 1])),(1,(.box [.p (.int .u64) U2]))],zr,88⟩
theorem aAj:Ok s88:=oS (.cons axb .nil)
def arE:ae:= .join (.ln U0<|.loop [.i 0] (.bI .lss U9 U8<|.ite ax (.rw U0 U9 14<|.cl aw 0 (.int .i64)<|.cl aw 1 (.int .i64)<|.cl aw 2 (.int .i64)<|.cl aw 3 (.int .i64)<|.cl aw 4 .sl<|.cl aw 5 .sl<|.cl aw 6 .sl<|.cl aw 7 .sl<|.cl aw 8 .sl<|.cl aw 9 .sl<|.cl aw 10 .sl<|.cl aw 11 .sl<|.cl aw 12 (.int .i64)<|.cl aw 13 (.int .i64)<|.cA 360 Lu [aD,aE,aG,aJ,aN,aM,aL,aX,a8,bk,be,bp,bm,bA,U1,U2,U3,U4,U5,U6,U7] 1<|.ite bq (.ak (.jump 2 [U9])) (.bI .add U9 (.i 1)<|.j [bw])) (.ak (.jump 1 [])))) (.j [.i (-1)])
def Ln:=Fo arE
def ayp:au:=⟨86,[cs 0,.c (.fn 87 [0])],[.box [pi 1,pi 2,pi 3,.p (.int .u64) U4,.p (.int .u32) U5,pi 6,pi 7]],8,1,.v (ci 8),[(0,(.box [pi 1,pi 2,pi 3,.p (.int .u64) U4,.p (.int .u32) U5,pi 6,pi 7]))],Ln,361⟩
theorem asp:Ok ayp:=oS (.cons azR .nil)
def aAB:ae:= .cA 350 EV [U0,U1,U2] 1<|.no U3<|.ite U4 (.j [.r0]) (.cA 2011 xv [U1] 0<|.join (.ln U2<|.loop [.i 0,U1] (.bI .lss U6 U5<|.ite U8 (.rw U2 U6 3<|.cl U9 0 (.int .i64)<|.cl U9 1 .sl<|.cl U9 2 .bool<|.cA 358 JN [ax,aw,aD,U7] 1<|.bI .add U6 (.i 1)<|.j [aG,aE]) (.ak (.jump 1 [U7])))) (.cA 319 LB [U5] 1<|.j [U6]))
def ME:=Fo aAB
def adA:au:=⟨149,[.agg [.p .str U0,ps 1,ps 2]],[],3,1,.v (cs 3),[],ME,362⟩
theorem afL:Ok adA:=oS (.cons awv (.cons VZ (.cons azL (.cons Zi .nil))))
def agV:ae:= .ln U0<|.bI .lss U1 (.i 20)<|.ite U2 (.j [.i 0,.i 4,.i 0,.i 0,.b false,.r0]) (.ln U0<|.op (.part U0 (.i 16) (.i 20) 1)<|.cA 322 Bg [U4] 1<|.join (.rw U0 (.i 0) 1<|.cl U6 0 (.int .u8)<|.op (.bi .neq .u8 U7 (.i 78))<|.ite U8 (.j [.b true]) (.rw U0 (.i 1) 1<|.cl U9 0 (.int .u8)<|.op (.bi .neq .u8 ax (.i 165))<|.ite aw (.j [.b true]) (.rw U0 (.i 2) 1<|.cl aD 0 (.int .u8)<|.op (.bi .gtr .u8 aE (.i 1))<|.ite aG (.j [.b true]) (.rw U0 (.i 3) 1<|.cl aJ 0 (.int .u8)<|.op (.bi .neq .u8 aN (.i 0))<|.ite aM (.j [.b true]) (.op (.bi .gtr .u64 U5 (.i 4096))<|.ite aL (.j [.b true]) (.rw U0 (.i 2) 1<|.cl aX 0 (.int .u8)<|.op (.bi .eql .u8 a8 (.i 1))<|.ite bk (.op (.bi .gtr .u64 U5 (.i 0))<|.j [be]) (.j [.b false]))))))) (.ite U6 (.j [.i 0,.i 3,.i 0,.i 0,.b false,.r0]) (.op (.conv .i64 U5)<|.cA 5 F5 [U7] 1<|.op (.conv .i64 U5)<|.bI .add (.i 20) U9<|.ln U0<|.bI .lss aw U8<|.ite aD (.j [.i 0,.i 4,.i 0,.i 0,.b false,.r0]) (.ln U0<|.op (.part U0 (.i 0) ax 1)<|.cA 327 BB [aG] 1<|.op (.conv .u64 aJ)<|.cA 357 LF [aN,.i 4] 1<|.bI .add ax (.i 4)<|.ln U0<|.op (.part U0 ax aL 1)<|.cA 334 B6 [aM,a8] 1<|.no bk<|.ite be (.j [.i 0,.i 5,.i 0,.i 0,.b false,.r0]) (.join (.bI .add ax (.i 4)<|.ln U0<|.op (.part U0 bp U8 1)<|.ln bA<|.loop [.i 0] (.bI .lss bw bq<|.ite b9 (.rw bA bw 1<|.cl cC 0 (.int .u8)<|.op (.bi .neq .u8 cP (.i 0))<|.ite dq (.ak (.jump 2 [.i 0,.i 3,.i 0,.i 0,.b false,.r0])) (.bI .add bw (.i 1)<|.j [cq])) (.ak (.jump 1 [])))) (.ln U0<|.op (.part U0 (.i 8) (.i 16) 1)<|.cA 322 Bg [bm] 1<|.ln U0<|.op (.part U0 (.i 4) (.i 8) 1)<|.cA 322 Bg [bw] 1<|.op (.conv .u32 b9)<|.rw U0 (.i 2) 1<|.cl cP 0 (.int .u8)<|.op (.bi .eql .u8 dq (.i 1))<|.ln U0<|.op (.part U0 (.i 20) ax 1)<|.cA 2010 xw [eT] 0<|.j [U8,.i 0,bA,cC,cq,eT]))))))
def Fy:=Fo agV
def ake:au:=⟨144,[cs 0],[],1,6,.aj [.agg [.p (.int .u64) U3,.p (.int .u32) U4,.p .bool U5,.own 0],ci 1,ci 2],[(0,(.row 5 U6))],Fy,363⟩
theorem Um:Ok ake:=oS (.cons aiz (.cons sj (.cons Lk (.cons JZ (.cons ayB (.cons Qo .nil))))))
def J':ae:= .ln U0<|.cA 88 zr [U2,U0,U1] 1<|.join (.ln U0<|.bI .lss U3 U4<|.ite U5 (.rw U0 U3 4<|.cl U6 0 (.int .u64)<|.op (.bi .eql .u64 U7 U1)<|.j [U8]) (.j [.b false])) (.j [U3,U4])
def AH:=Fo J'
def s90:au:=⟨219,[cs 0,.c (.p (.int .u64) U1)],[],2,2,.aj [ci 2,.c (.p .bool U3)],[],AH,90⟩
theorem akU:Ok s90:=oS (.cons aAj .nil)
def TQ:ae:= .join (.cA 9 F9 [U0] 1<|.ite U1 (.cA 87 zZ [U0] 1<|.no U2<|.j [U3]) (.j [.b false])) (.j [U1])
def yj:=Fo TQ
def s91:au:=⟨154,[cs 0],[],1,1,.v (.c (.p .bool U1)),[],yj,91⟩
theorem MX:Ok s91:=oS (.cons L_ (.cons NW (.cons JK .nil)))
def UN:ae:= .join (.loop [.i 0,.i 0] (.bI .lss aw (.i 8)<|.ite aD (.join (.op (.dD aw 8)<|.op (.fH [U0,U1,U2,U3,U4,U5,U6,U7] aw)<|.cA 91 yj [aE] 1<|.no aG<|.ite aJ (.ak (.jump 3 [.b false])) (.ln aE<|.loop [ax,.i 0] (.bI .lss aL aN<|.ite aX (.rw aE aL 4<|.cl a8 0 (.int .u64)<|.cl a8 1 (.int .u32)<|.cl a8 2 (.int .i64)<|.cl a8 3 (.int .i64)<|.cA 12 ua [bk] 1<|.bI .neq bA aw<|.ite bq (.ak (.jump 4 [.b false])) (.cA 11 AV [bk,be,bp,bm] 1<|.bI .add aM bw<|.bI .add aL (.i 1)<|.j [b9,cC])) (.ak (.jump 1 [aM]))))) (.bI .add aw (.i 1)<|.j [aE,aG])) (.ak (.jump 1 [ax])))) (.join (.bI .eql U8 ax<|.ite aw (.bI .geq U9 (.i 0)<|.ite aD (.bI .leq U9 (.i 1099511627776)<|.j [aE]) (.j [.b false])) (.j [.b false])) (.j [aw]))
def lP:=Fo UN
def s92:au:=⟨141,[.agg (eo 0 8++ [pi 8,pi 9])],[],10,1,.v (.c (.p .bool ax)),[],lP,92⟩
theorem BR:Ok s92:=oS (.cons MX (.cons Rh (.cons aAl .nil)))
def aeg:ae:= .join (.cA 34 C8 [U0] 1<|.no U3<|.ite U4 (.j [.b true]) (.ln U1<|.bI .gtr U5 (.i 1048576)<|.j [U6])) (.ite U3 (.j [.b false]) (.join (.loop [U1,.i 0] (.ln U2<|.bI .lss U5 U6<|.ite U7 (.rw U2 U5 3<|.cl U8 0 (.int .i64)<|.cl U8 1 .sl<|.cl U8 2 .bool<|.join (.bI .lss U9 (.i 0)<|.ite aD (.j [.b true]) (.bI .gtr U9 (.i 1048576)<|.ite aE (.j [.b true]) (.ite aw (.ln ax<|.bI .gtr aG (.i 0)<|.ite aJ (.j [.b true]) (.ln ax<|.bI .gtr aN (.i 1048576)<|.j [aM])) (.ln ax<|.bI .gtr aG (.i 1048576)<|.j [aJ])))) (.ite aD (.ak (.jump 2 [.b false])) (.cA 33 Fg [U4,U9,ax,aw] 1<|.ln aE<|.bI .gtr aG (.i 1048576)<|.ite aJ (.ak (.jump 2 [.b false])) (.bI .add U5 (.i 1)<|.j [aE,aN])))) (.ak (.jump 1 [])))) (.j [.b true])))
def EK:=Fo aeg
def s70:au:=⟨91,[.agg [.p .str U0,ps 1,ps 2]],[],3,1,.v (.c (.p .bool U3)),[],EK,70⟩
theorem Yf:Ok s70:=oS (.cons T3 (.cons Vs .nil))
def amG:ae:= .join (.bI .lss U0 (.i 0)<|.ite U3 (.j [.b true]) (.bI .lss U1 (.i (-1))<|.ite U4 (.j [.b true]) (.ln U2<|.bI .gtr U5 (.i 256)<|.j [U6]))) (.ite U3 (.j [.b false]) (.join (.loop [.i 0] (.ln U2<|.bI .lss U4 U5<|.ite U6 (.join (.rw U2 U4 3<|.cl U7 0 .str<|.cl U7 1 .sl<|.cl U7 2 .sl<|.cA 70 EK [U8,U9,ax] 1<|.no aw<|.ite aD (.j [.b true]) (.bI .gtr U4 (.i 0)<|.ite aE (.rw U2 U4 3<|.cl aG 0 .str<|.bI .sub U4 (.i 1)<|.rw U2 aN 3<|.cl aM 0 .str<|.op (.bs .leq aJ aL)<|.j [aX]) (.j [.b false]))) (.ite U7 (.ak (.jump 2 [.b false])) (.bI .add U4 (.i 1)<|.j [U8]))) (.ak (.jump 1 [])))) (.j [.b true])))
def IS:=Fo amG
def s71:au:=⟨45,[.agg [pi 0,pi 1,ps 2]],[],3,1,.v (.c (.p .bool U3)),[],IS,71⟩
theorem ayL:Ok s71:=oS (.cons Yf .nil)
def aqN:ae:= .ln U0<|.bI .lss U1 (.i 16)<|.ite U2 (.j [.i 4,.i 0,.i 0,.i 0]) (.ln U0<|.op (.part U0 (.i 0) (.i 4) 1)<|.op (.str U4)<|.op (.bs .neq U5 (.s ⟨#[78,86,79,76]⟩))<|.ite U6 (.j [.i 3,.i 0,.i 0,.i 0]) (.ln U0<|.op (.part U0 (.i 0) (.i 12) 1)<|.cA 41 sE [U8] 1<|.op (.str U9)<|.ln U0<|.op (.part U0 (.i 12) (.i 16) 1)<|.op (.str aD)<|.op (.bs .neq ax aE)<|.ite aG (.j [.i 5,.i 0,.i 0,.i 0]) (.ln U0<|.op (.part U0 (.i 4) (.i 6) 1)<|.cA 40 F40 [aN] 1<|.op (.conv .i64 aM)<|.ln U0<|.op (.part U0 (.i 6) (.i 8) 1)<|.cA 40 F40 [a8] 1<|.op (.conv .i64 bk)<|.ln U0<|.op (.part U0 (.i 8) (.i 12) 1)<|.cA 40 F40 [bm] 1<|.op (.conv .i64 bA)<|.cA 39 Aj [aL,be,bq] 1<|.no bw<|.ite b9 (.j [.i 3,.i 0,.i 0,.i 0]) (.j [.i 0,aL,be,bq]))))
def Jm:=Fo aqN
def s72:au:=⟨64,[cs 0],[],1,4,.aj [.agg [pi 2,pi 3,pi 4],ci 1],[],Jm,72⟩
theorem arp:Ok s72:=oS (.cons wS (.cons aiD (.cons JH .nil)))
def aAb:ae:= .cA 39 Aj [U0,U1,U2] 1<|.no U3<|.ite U4 (.j [.i 1,.r0]) (.op (.lit [[((.int .u8),(.i 78))],[((.int .u8),(.i 86))],[((.int .u8),(.i 79))],[((.int .u8),(.i 76))]])<|.rw U5 (.i 0) 1<|.op (.conv .u64 U0)<|.cA 42 iQ [U7,.i 2] 1<|.op (.app U5 U8 1 1)<|.op (.conv .u64 U1)<|.cA 42 iQ [ax,.i 2] 1<|.op (.app U9 aw 1 1)<|.op (.conv .u64 U2)<|.cA 42 iQ [aE,.i 4] 1<|.op (.app aD aG 1 1)<|.op (.call 41 sE [aJ] 1 [0])<|.op (.app aJ aN 1 1)<|.j [.i 0,aM])
def MT:=Fo aAb
def s73:au:=⟨117,[.agg [pi 0,pi 1,pi 2]],[],3,2,.aj [.c (.own 0),ci 3],[(0,(.row 5 U4))],MT,73⟩
theorem aoK:Ok s73:=oS (.cons A4 (.cons wS (.cons JH .nil)))
def apB:ae:= .ln U3<|.bI .gtr U4 (.i 4096)<|.ite U5 (.j [.i 8,.r0]) (.op (.call 43 EM (w 0 4) 1 [])<|.no U6<|.ite U7 (.j [.i 1,.r0]) (.op (.lit [[((.int .u8),(.i 78))],[((.int .u8),(.i 165))],[((.int .u8),(.i 0))],[((.int .u8),(.i 0))]])<|.join (.ite U2 (.rw U8 (.i 2) 1<|.op (.set U8 (.i 2) 0 [((.int .u8),(.i 1))])<|.j [ax]) (.j [U8])) (.op (.conv .u64 U1)<|.cA 42 iQ [ax,.i 4] 1<|.op (.app U9 aw 1 1)<|.cA 42 iQ [U0,.i 8] 1<|.op (.app aD aE 1 1)<|.ln U3<|.op (.conv .u64 aJ)<|.cA 42 iQ [aN,.i 4] 1<|.op (.app aG aM 1 1)<|.op (.app aL U3 1 1)<|.op (.call 41 sE [aX] 1 [0])<|.op (.app aX a8 1 1)<|.join (.loop [bk] (.ln be<|.ln U3<|.cA 44 kH [bm] 1<|.bI .lss bp bA<|.ite bq (.op (.lit [[((.int .u8),(.i 0))]])<|.op (.app be bw 1 1)<|.j [b9]) (.ak (.jump 1 [be])))) (.j [.i 0,be]))))
def KC:=Fo apB
def s74:au:=⟨78,[.agg [.p (.int .u64) U0,.p (.int .u32) U1,.p .bool U2,ps 3]],[],4,2,.aj [.c (.own 0),ci 4],[(0,(.row 5 U5))],KC,74⟩
theorem aoY:Ok s74:=oS (.cons qd (.cons Zb (.cons A4 (.cons wS .nil))))
def ahb:ae:= .cA 48 Ay [U0] 1<|.no U1<|.ite U2 (.j [.i 1,.r0]) (.join (.loop [.i 0,.r0] (.ln U0<|.bI .lss U3 U5<|.ite U6 (.rw U0 U3 4<|.cl U7 0 (.int .u64)<|.cA 42 iQ [U8,.i 8] 1<|.rw U0 U3 4<|.cl ax 1 (.int .u32)<|.op (.conv .u64 aw)<|.cA 42 iQ [aD,.i 4] 1<|.op (.app U9 aE 1 1)<|.rw U0 U3 4<|.cl aJ 2 (.int .i64)<|.op (.conv .u64 aN)<|.cA 42 iQ [aM,.i 4] 1<|.op (.app aG aL 1 1)<|.rw U0 U3 4<|.cl a8 3 (.int .i64)<|.op (.conv .u64 bk)<|.cA 42 iQ [be,.i 4] 1<|.op (.app aX bp 1 1)<|.op (.app U4 bm 1 1)<|.op (.call 41 sE [bm] 1 [0])<|.op (.app bA bq 1 1)<|.bI .add U3 (.i 1)<|.j [b9,bw]) (.ak (.jump 1 [U4])))) (.j [.i 0,U3]))
def Ms:=Fo ahb
def s75:au:=⟨133,[cs 0],[],1,2,.aj [.c (.own 0),ci 1],[(0,(.row 5 U2))],Ms,75⟩
theorem alw:Ok s75:=oS (.cons MP (.cons A4 (.cons wS .nil)))
def XL:ae:= .join (.cA 24 mO [U0,U1,U2] 1<|.no U3<|.ite U4 (.j [.b true]) (.bI .neq U0 U1<|.j [U5])) (.ite U3 (.j [.i 1,.i 0,.r0]) (.op (.lit [])<|.op (.app U4 U2 1 1)<|.cA 65 Db [U0] 3<|.join (.loop [.i 0,U5,U8] (.bI .lss U9 U0<|.ite aD (.join (.join (.bI .mul U9 U0<|.bI .add aE U9<|.rw ax aG 1<|.op (.rc ax aG 0 (.int .u8))<|.op (.bi .eql .u8 aN (.i 0))<|.ite aM (.bI .add U9 (.i 1)<|.join (.loop [aL] (.join (.bI .lss aX U0<|.ite a8 (.bI .mul aX U0<|.bI .add bk U9<|.rw ax be 1<|.op (.rc ax be 0 (.int .u8))<|.op (.bi .eql .u8 bm (.i 0))<|.j [bA]) (.j [.b false])) (.ite a8 (.bI .add aX (.i 1)<|.j [bk]) (.ak (.jump 1 [aX]))))) (.bI .eql aX U0<|.ite a8 (.ak (.jump 4 [.i 14,.i 0,.r0])) (.cA 81 lr [ax,U0,U9,aX,.i 1] 1<|.cA 81 lr [aw,U0,U9,aX,.i 1] 1<|.j [bk,be]))) (.j [ax,aw])) (.bI .mul U9 U0<|.bI .add aJ U9<|.rw aE aN 1<|.op (.rc aE aN 0 (.int .u8))<|.cA 20 Bm [aL] 2<|.op (.bi .xor .u8 aX (.i 1))<|.cA 81 lr [aG,U0,U9,U9,bk] 1<|.op (.bi .xor .u8 aX (.i 1))<|.cA 81 lr [aE,U0,U9,U9,bp] 1<|.loop [.i 0,bm,be] (.bI .lss bA U0<|.ite b9 (.join (.bI .mul bA U0<|.bI .add cC U9<|.rw bq cP 1<|.op (.rc bq cP 0 (.int .u8))<|.join (.bI .neq bA U9<|.ite eP (.op (.bi .neq .u8 cq (.i 0))<|.j [eT]) (.j [.b false])) (.ite eP (.cA 81 lr [bw,U0,bA,U9,cq] 1<|.cA 81 lr [bq,U0,bA,U9,cq] 1<|.j [fT,eT]) (.j [bq,bw]))) (.bI .add bA (.i 1)<|.j [dq,cC,cP])) (.ak (.jump 1 [bq,bw]))))) (.bI .add U9 (.i 1)<|.j [aJ,aE,aG])) (.ak (.jump 1 [aw])))) (.j [.i 0,U7,U9])))
def Ft:=Fo XL
def s93:au:=⟨245,[.agg [pi 0,pi 1,ps 2]],[],3,3,.aj [.agg [pi 4,pi 4,.own 0],ci 3],[(0,(.row 5 U5))],Ft,93⟩
theorem akh:Ok s93:=oS (.cons aor (.cons ank (.cons DY (.cons agP .nil))))
def Wd:ae:= .cA 23 E7 [.i 6,.i 4] 4<|.op (.lit [[((.int .i64),(.i 0))],[((.int .i64),(.i 1))],[((.int .i64),(.i 2))],[((.int .i64),(.i 3))]])<|.op (.call 25 FM (w 1 4) 4 [3])<|.op (.call 93 Ft [U6,U7,U8] 3 [2])<|.op (.call 66 Fk [U1,U2,U3,ax,ax,aw] 4 [3])<|.j [aE,aG,aJ]
def E8:=Fo Wd
def s94:au:=⟨222,[],[],0,3,.v (.agg [pi 0,pi 1,.own 0]),[(0,(.row 5 U2))],E8,94⟩
theorem anV:Ok s94:=oS (.cons akh (.cons ajc (.cons amo (.cons aul .nil))))
def akQ:ae:= .op (.call 67 Dd (w 0 11) 1 [])<|.no aw<|.ite aD (.j [.i 1,.r0]) (.op (.lit [[((.int .u8),(.i 78))],[((.int .u8),(.i 73))],[((.int .u8),(.i 68))],[((.int .u8),(.i 88))]])<|.rw aE (.i 0) 1<|.op (.conv .u64 U0)<|.cA 42 iQ [aJ,.i 2] 1<|.op (.app aE aN 1 1)<|.op (.conv .u64 U1)<|.cA 42 iQ [aL,.i 2] 1<|.op (.app aM aX 1 1)<|.op (.conv .u64 U2)<|.cA 42 iQ [bk,.i 4] 1<|.op (.app a8 be 1 1)<|.op (.conv .u64 U3)<|.cA 42 iQ [bm,.i 8] 1<|.op (.app bp bA 1 1)<|.join (.loop [.i 0,bq] (.bI .lss bw (.i 6)<|.ite cC (.op (.dD bw 6)<|.op (.fH (w 4 6) bw)<|.op (.conv .u64 cP)<|.cA 42 iQ [dq,.i 4] 1<|.op (.app b9 cq 1 1)<|.bI .add bw (.i 1)<|.j [eT,eP]) (.ak (.jump 1 [b9])))) (.cA 75 Ms [ax] 2<|.ln ax<|.op (.conv .u64 cP)<|.cA 42 iQ [dq,.i 4] 1<|.op (.app bw cq 1 1)<|.op (.app eP cC 1 1)<|.op (.call 41 sE [eT] 1 [0])<|.op (.app eT fT 1 1)<|.j [.i 0,gI]))
def My:=Fo akQ
def s95:au:=⟨68,[.agg (cX 0 4++ [.p (.int .u32) U4,.p (.int .u32) U5,.p (.int .u32) U6,.p (.int .u32) U7,.p (.int .u32) U8,.p (.int .u32) U9,ps 10])],[],11,2,.aj [.c (.own 0),ci 11],[(0,(.row 5 aD))],My,95⟩
theorem alI:Ok s95:=oS (.cons alw (.cons S3 (.cons A4 (.cons wS .nil))))
def Rr:ae:= .join (.cA 71 IS [U0,U1,U2] 1<|.no U4<|.ite U5 (.j [.b true]) (.cA 34 C8 [U3] 1<|.no U6<|.j [U7])) (.ite U4 (.j [.i 1]) (.bI .eql U1 (.i 0)<|.ite U5 (.j [.i 13]) (.j [.i 0])))
def G8:=Fo Rr
def s96:au:=⟨92,[.agg [pi 0,pi 1,ps 2],.c (.p .str U3)],[],4,1,.v (ci 4),[],G8,96⟩
theorem Uo:Ok s96:=oS (.cons ayL (.cons T3 .nil))
def adL:ae:= .op (.call 70 EK [.s ⟨#[120]⟩,U1,U2] 1 [])<|.no U3<|.ite U4 (.j [.r0]) (.join (.loop [U1,.i 0] (.ln U2<|.bI .lss U6 U7<|.ite U8 (.rw U2 U6 3<|.cl U9 0 (.int .i64)<|.cl U9 1 .sl<|.cl U9 2 .bool<|.cA 33 Fg [U5,ax,aw,aD] 1<|.bI .add U6 (.i 1)<|.j [aE,aG]) (.ak (.jump 1 [U5])))) (.op (.lit [])<|.op (.app U6 U5 1 1)<|.j [U7]))
def mz:=Fo adL
def s97:au:=⟨174,[.agg [.p .str U0,ps 1,ps 2]],[],3,1,.v (.c (.own 0)),[(0,(.row 5 U3))],mz,97⟩
theorem uk:Ok s97:=oS (.cons Yf (.cons Vs .nil))
def avt:ae:= .op (.call 79 qc (w 0 10) 1 [])<|.ln ax<|.j [aw]
def DM:=Fo avt
def s98:au:=⟨81,[.agg (eo 0 8++ [pi 8,pi 9])],[],10,1,.v (ci 10),[],DM,98⟩
theorem VA:Ok s98:=oS (.cons wG .nil)
def apm:ae:= .op (.call 79 qc (w 0 10) 1 [])<|.cA 45 MW [aw,ax] 5<|.ak (.jump 0 (w 12 5))
def uo:=Fo apm
def s99:au:=⟨39,[.agg (eo 0 8++ [pi 8,pi 9]),.c (.p (.int .u64) ax)],[],11,5,.aj [.agg [.p (.int .u64) aD,.p (.int .u32) aE,pi 14,pi 15],.c (.p .bool aw)],[],uo,99⟩
theorem DG:Ok s99:=oS (.cons wG (.cons apV .nil))
end
end
end Go.Proofs.YtndegphojkiblaaGreatDoor
