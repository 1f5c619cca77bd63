/- A part of the proof. -/
import Derived.Test.YtndegphojkiblaaGreatDoorG15
import Derived.Test.YtndegphojkiblaaGreatDoorG17
import Derived.Test.YtndegphojkiblaaGreatDoorG24
import Derived.Test.YtndegphojkiblaaGreatDoorG25
import Derived.WalkKit
set_option linter.all false
set_option maxHeartbeats 4000000
set_option maxRecDepth 100000
namespace Go.Proofs.YtndegphojkiblaaGreatDoor
noncomputable section
section
attribute [local irreducible] Fo
open Go.RowKit
def aeU:ae:= .op (.call 80 rU (w 0 14) 1 [])<|.no aN<|.ite aM (.j [.i 1,.i 0,.i 0,.i 0,.i 0,.r0,.r0,.r0,.r0,.r0,.r0,.r0,.r0,.i 0,.i 0]) (.bI .neq U2 aG<|.ite aL (.j [.i 12,.i 0,.i 0,.i 0,.i 0,.r0,.r0,.r0,.r0,.r0,.r0,.r0,.r0,.i 0,.i 0]) (.ak (.jump 0 ([.i 0,U0,U1,aJ]++w 3 11))))
def EW:=Fo aeU
def aft:au:=⟨134,[.agg (cX 0 4++eo 4 8++ [pi 12,pi 13]),ci 14,ci 15],[],16,15,.aj [.agg (cX 17 4++eo 21 8++ [pi 29,pi 30]),ci 16],[],EW,100⟩
theorem ZG:Ok aft:=oS (.cons B7 .nil)
def auw:ae:= .op (.call 100 EW (w 0 14++ [.i 2,.i 3]) 15 [])<|.ak (.jump 0 (w 14 15))
def L8:=Fo auw
def apk:au:=⟨69,[.agg (cX 0 4++eo 4 8++ [pi 12,pi 13])],[],14,15,.aj [.agg (cX 15 4++eo 19 8++ [pi 27,pi 28]),ci 14],[],L8,101⟩
theorem ahd:Ok apk:=oS (.cons ZG .nil)
def aqR:ae:= .op (.call 100 EW (w 0 14++ [.i 1,.i 2]) 15 [])<|.ak (.jump 0 (w 14 15))
def Ma:=Fo aqR
def avW:au:=⟨115,[.agg (cX 0 4++eo 4 8++ [pi 12,pi 13])],[],14,15,.aj [.agg (cX 15 4++eo 19 8++ [pi 27,pi 28]),ci 14],[],Ma,102⟩
theorem avL:Ok avW:=oS (.cons ZG .nil)
def aqd:ae:= .ln U3<|.join (.bI .lss U0 (.i 0)<|.ite U5 (.j [.b true]) (.bI .geq U0 (.i 4)<|.ite U6 (.j [.b true]) (.cA 44 kH [.i 4096] 1<|.bI .add (.i 16) U7<|.bI .lss U1 U8<|.ite U9 (.j [.b true]) (.bI .gtr U1 (.i 262144)<|.ite ax (.j [.b true]) (.bI .lss U4 (.i 1)<|.ite aw (.j [.b true]) (.bI .gtr U4 (.i 8)<|.j [aD])))))) (.ite U5 (.j [.b false]) (.join (.loop [.i 0] (.bI .lss U6 U4<|.ite U7 (.rw U3 U6 14<|.cl U8 0 (.int .i64)<|.cl U8 1 (.int .i64)<|.cl U8 2 (.int .i64)<|.cl U8 3 (.int .i64)<|.cl U8 4 .sl<|.cl U8 5 .sl<|.cl U8 6 .sl<|.cl U8 7 .sl<|.cl U8 8 .sl<|.cl U8 9 .sl<|.cl U8 10 .sl<|.cl U8 11 .sl<|.cl U8 12 (.int .i64)<|.cl U8 13 (.int .i64)<|.join (.op (.call 80 rU (w 9 14) 1 [])<|.no bp<|.ite bm (.j [.b true]) (.bI .eql aw (.i 1)<|.bI .sub U4 (.i 1)<|.bI .eql U6 bq<|.op (.bb .neq bA bw)<|.ite b9 (.j [.b true]) (.bI .gtr U6 (.i 0)<|.ite cC (.bI .sub U6 (.i 1)<|.rw U3 cP 14<|.cl dq 0 (.int .i64)<|.bI .leq U9 cq<|.ite eP (.j [.b true]) (.bI .mul (.i 2) U1<|.bI .gtr aD eT<|.j [fT])) (.bI .mul (.i 2) U1<|.bI .gtr aD cP<|.j [dq])))) (.ite bp (.ak (.jump 2 [.b false])) (.bI .add U6 (.i 1)<|.j [bm]))) (.ak (.jump 1 [])))) (.bI .sub U4 (.i 1)<|.rw U3 U6 14<|.cl U7 0 (.int .i64)<|.cl U7 1 (.int .i64)<|.cl U7 2 (.int .i64)<|.cl U7 3 (.int .i64)<|.cl U7 4 .sl<|.cl U7 5 .sl<|.cl U7 6 .sl<|.cl U7 7 .sl<|.cl U7 8 .sl<|.cl U7 9 .sl<|.cl U7 10 .sl<|.cl U7 11 .sl<|.cl U7 12 (.int .i64)<|.cl U7 13 (.int .i64)<|.cA 44 kH [.i 0] 1<|.op (.call 98 DM (w 12 10) 1 [])<|.bI .mul be bp<|.bI .add aw bm<|.bI .mul (.i 2) U1<|.bI .leq bA bq<|.j [bw])))
def r_:=Fo aqd
def azO:au:=⟨38,[.agg [pi 0,pi 1,.p .bool U2,ps 3]],[],4,1,.v (.c (.p .bool U4)),[],r_,103⟩
theorem xz:Ok azO:=oS (.cons VA (.cons B7 (.cons qd .nil)))
def aeV:ae:= .cA 57 GB [.i 1] 4<|.op (.lit [[((.int .i64),U3),((.int .i64),(.i 0)),((.int .i64),U4),((.int .i64),U5),(.sl,.r0),(.sl,.r0),(.sl,.r0),(.sl,.r0),(.sl,.r0),(.sl,.r0),(.sl,.r0),(.sl,.r0),((.int .i64),(.i 0)),((.int .i64),(.i 0))]])<|.cA 103 r_ [U0,U1,.b false,U6] 1<|.no U7<|.ite U8 (.j [.i 1,.i 0,.i 0,.r0]) (.j [.i 0,U0,U1,U6])
def KJ:=Fo aeV
def aAF:au:=⟨72,[ci 0,ci 1],[],2,4,.aj [.agg [pi 3,pi 4,.p .bool (.b false),.own 0],ci 2],[(0,(.row 94 U5))],KJ,104⟩
theorem aok:Ok aAF:=oS (.cons xz (.cons Zs .nil))
def avN:ae:= .cA 94 E8 [] 3<|.cA 60 Ng [U1,U2,U3,U0] 2<|.j [U5]
def F105:=Fo avN
def aAm:au:=⟨180,[.c (.own 0)],[.row 71 U0],1,1,.v (.c (.own 1)),[(1,(.row 71 U1)),(0,(.row 71 U0))],F105,105⟩
theorem aje:Ok aAm:=oS (.cons anV (.cons ajL .nil))
def anN:ae:= .op (.vw U0 U1 U2)<|.ln U4<|.loop [.i 0,U0] (.bI .lss U6 U5<|.ite U8 (.op (.jS U7 U1 U2 U6 1)<|.op (.rc U7 U9 0 (.int .u8))<|.cA 302 GC [ax,U3] 1<|.op (.jS U7 U1 U2 U6 1)<|.op (.set U7 aD 0 [((.int .u8),aw)])<|.bI .add U6 (.i 1)<|.j [aG,aE]) (.ak (.jump 1 [U7])))
def Mc:=Fo anN
def aAA:au:=⟨322,[.c (.sub 0 U1 U2),.c (.p (.int .u8) U3)],[.row 5 U0],4,1,.aj [],[(0,(.row 5 U4))],Mc,367⟩
theorem ahn:Ok aAA:=oS (.cons MQ .nil)
def adH:ae:= .cA 316 Rq [U0,U1,U2] 0<|.cA 312 NC [U0,U3] 1<|.j [U4]
def GK:=Fo adH
def agI:au:=⟨275,[.agg [.p .str U0,ps 1,ps 2],.c (.p .str U3),.c (.ptr 0 0)],[.box [.fn 233 []]],4,1,.v (ci 4),[(0,(.box [.fn 233 []]))],GK,368⟩
theorem afe:Ok agI:=oS (.cons afy (.cons agj .nil))
def amY:ae:= .cA 84 yG [U0] 1<|.bI .geq U1 (.i 0)<|.j [U2]
def Ks:=Fo amY
def aol:au:=⟨156,[.c (.own 0),.c (.fn 206 [])],[.row 25 U0],1,1,.v (.c (.p .bool U1)),[(0,(.row 25 U0))],Ks,369⟩
theorem Qy:Ok aol:=oS (.cons J3 .nil)
def aet:ae:= .join (.cA 62 xL [U0] 1<|.ite U1 (.cA 369 Ks [U0] 1<|.no U2<|.j [U3]) (.j [.b false])) (.j [U1])
def Nu:=Fo aet
def aew:au:=⟨154,[.c (.own 0)],[.row 25 U0],1,1,.v (.c (.p .bool U1)),[(0,(.row 25 U0))],Nu,370⟩
theorem Ua:Ok aew:=oS (.cons Qy (.cons L_ (.cons NW (.cons JK .nil))))
def Zz:ae:= .ln U0<|.join (.loop [.i 0,U2] (.bI .lss U3 U4<|.ite U5 (.bI .add U3 U4<|.op (.conv .u64 U6)<|.op (.bi .shr .u64 U7 (.i 1))<|.op (.conv .i64 U8)<|.rw U0 U9 3<|.cl ax 0 .str<|.cl ax 1 .sl<|.cl ax 2 .sl<|.cA 368 GK [aw,aD,aE,U1] 1<|.bI .lss aG (.i 0)<|.ite aJ (.bI .add U9 (.i 1)<|.j [aN,U4]) (.j [U3,U9])) (.ak (.jump 1 [U3])))) (.join (.bI .lss U3 U2<|.ite U4 (.rw U0 U3 3<|.cl U5 0 .str<|.cl U5 1 .sl<|.cl U5 2 .sl<|.cA 368 GK [U6,U7,U8,U1] 1<|.bI .eql U9 (.i 0)<|.j [ax]) (.j [.b false])) (.j [U3,U4]))
def yB:=Fo Zz
def acK:au:=⟨274,[cs 0,.c (.p .str U1),.c (.fn 275 [0])],[.box [.fn 233 []]],2,2,.aj [ci 2,.c (.p .bool U3)],[(0,(.box [.fn 233 []]))],yB,371⟩
theorem akS:Ok acK:=oS (.cons afe .nil)
def alU:ae:= .ln U3<|.join (.bI .lss U0 (.i 0)<|.ite U5 (.j [.b true]) (.bI .geq U0 (.i 4)<|.ite U6 (.j [.b true]) (.cA 44 kH [.i 4096] 1<|.bI .add (.i 16) U7<|.bI .lss U1 U8<|.ite U9 (.j [.b true]) (.bI .gtr U1 (.i 262144)<|.ite ax (.j [.b true]) (.bI .lss U4 (.i 1)<|.ite aw (.j [.b true]) (.bI .gtr U4 (.i 8)<|.j [aD])))))) (.ite U5 (.j [.b false]) (.join (.loop [.i 0] (.bI .lss U6 U4<|.ite U7 (.rw U3 U6 14<|.op (.rc U3 U6 0 (.int .i64))<|.op (.rc U3 U6 1 (.int .i64))<|.op (.rc U3 U6 2 (.int .i64))<|.op (.rc U3 U6 3 (.int .i64))<|.op (.rc U3 U6 4 .sl)<|.op (.rc U3 U6 5 .sl)<|.op (.rc U3 U6 6 .sl)<|.op (.rc U3 U6 7 .sl)<|.op (.rc U3 U6 8 .sl)<|.op (.rc U3 U6 9 .sl)<|.op (.rc U3 U6 10 .sl)<|.op (.rc U3 U6 11 .sl)<|.op (.rc U3 U6 12 (.int .i64))<|.op (.rc U3 U6 13 (.int .i64))<|.join (.op (.call 80 rU (w 9 14) 1 [])<|.no bp<|.ite bm (.j [.b true]) (.bI .eql aw (.i 1)<|.bI .sub U4 (.i 1)<|.bI .eql U6 bq<|.op (.bb .neq bA bw)<|.ite b9 (.j [.b true]) (.bI .gtr U6 (.i 0)<|.ite cC (.bI .sub U6 (.i 1)<|.rw U3 cP 14<|.op (.rc U3 cP 0 (.int .i64))<|.bI .leq U9 cq<|.ite eP (.j [.b true]) (.bI .mul (.i 2) U1<|.bI .gtr aD eT<|.j [fT])) (.bI .mul (.i 2) U1<|.bI .gtr aD cP<|.j [dq])))) (.ite bp (.ak (.jump 2 [.b false])) (.bI .add U6 (.i 1)<|.j [bm]))) (.ak (.jump 1 [])))) (.bI .sub U4 (.i 1)<|.rw U3 U6 14<|.op (.rc U3 U6 0 (.int .i64))<|.op (.rc U3 U6 1 (.int .i64))<|.op (.rc U3 U6 2 (.int .i64))<|.op (.rc U3 U6 3 (.int .i64))<|.op (.rc U3 U6 4 .sl)<|.op (.rc U3 U6 5 .sl)<|.op (.rc U3 U6 6 .sl)<|.op (.rc U3 U6 7 .sl)<|.op (.rc U3 U6 8 .sl)<|.op (.rc U3 U6 9 .sl)<|.op (.rc U3 U6 10 .sl)<|.op (.rc U3 U6 11 .sl)<|.op (.rc U3 U6 12 (.int .i64))<|.op (.rc U3 U6 13 (.int .i64))<|.cA 44 kH [.i 0] 1<|.op (.call 98 DM (w 12 10) 1 [])<|.bI .mul be bp<|.bI .add aw bm<|.bI .mul (.i 2) U1<|.bI .leq bA bq<|.j [bw])))
def F107:=Fo alU
def azJ:au:=⟨38,[.agg [pi 0,pi 1,.p .bool U2,.own 0]],[.row 94 U3],4,1,.v (.c (.p .bool U4)),[(0,(.row 94 U3))],F107,107⟩
theorem Bu:Ok azJ:=oS (.cons VA (.cons B7 (.cons qd .nil)))
def aqe:ae:= .cA 371 yB [U0,U1] 2<|.j [U2,U3]
def Na:=Fo aqe
def alv:au:=⟨232,[cs 0,.c (.p .str U1),.c (.fn 233 [])],[],2,2,.aj [ci 2,.c (.p .bool U3)],[],Na,372⟩
theorem ayf:Ok alv:=oS (.cons akS .nil)
def asn:ae:= .cA 372 Na [U2,U3] 2<|.j [U4,U5]
def AX:=Fo asn
def aqX:au:=⟨199,[.agg [pi 0,pi 1,ps 2],.c (.p .str U3)],[],4,2,.aj [ci 4,.c (.p .bool U5)],[],AX,373⟩
theorem amg:Ok aqX:=oS (.cons ayf .nil)
def P_:ae:= .join (.cA 351 L7 [U0,U1,U2] 1<|.no U4<|.ite U5 (.j [.b true]) (.cA 321 DR [U3] 1<|.no U6<|.j [U7])) (.ite U4 (.j [.i 0,.i 1]) (.bI .eql U1 (.i 0)<|.ite U5 (.j [.i 0,.i 13]) (.cA 373 AX [U0,U1,U2,U3] 2<|.no U7<|.ite U8 (.j [.i 0,.i 6]) (.j [U6,.i 0]))))
def zG:=Fo P_
def ale:au:=⟨147,[.agg [pi 0,pi 1,ps 2],.c (.p .str U3)],[],4,2,.aj [ci 4,ci 5],[],zG,374⟩
theorem ZF:Ok ale:=oS (.cons amg (.cons avz (.cons P2 .nil)))
def ayn:ae:= .join (.loop [U0,.r0] (.ln U1<|.bI .gtr U3 (.i 0)<|.ite U4 (.ln U1<|.bI .lss U5 (.i 24)<|.ite U6 (.ak (.jump 2 [.i 4,.r0])) (.ln U1<|.op (.part U1 (.i 0) (.i 20) 1)<|.cA 353 IH [U8] 1<|.ln U1<|.op (.part U1 (.i 20) (.i 24) 1)<|.cA 334 B6 [U9,aw] 1<|.no aD<|.ite aE (.ak (.jump 2 [.i 5,.r0])) (.ln U1<|.op (.part U1 (.i 0) (.i 8) 1)<|.cA 326 xn [aJ] 1<|.ln U1<|.op (.part U1 (.i 8) (.i 12) 1)<|.cA 326 xn [aL] 1<|.op (.conv .u32 aX)<|.ln U1<|.op (.part U1 (.i 12) (.i 16) 1)<|.cA 326 xn [be] 1<|.op (.conv .i64 bp)<|.ln U1<|.op (.part U1 (.i 16) (.i 20) 1)<|.cA 326 xn [bq] 1<|.op (.conv .i64 bw)<|.op (.lit [[((.int .u64),aN),((.int .u32),a8),((.int .i64),bm),((.int .i64),b9)]])<|.op (.app U2 cC 4 32)<|.ln U1<|.op (.part U1 (.i 24) dq 1)<|.j [cq,cP]))) (.ak (.jump 1 [U2])))) (.cA 370 Nu [U1] 1<|.no U2<|.ite U3 (.j [.i 3,.r0]) (.j [.i 0,U1]))
def LS:=Fo ayn
def adB:au:=⟨98,[cs 0],[],1,2,.aj [.c (.own 0),ci 1],[(0,(.row 25 U2))],LS,375⟩
theorem aqD:Ok adB:=oS (.cons Ua (.cons MX (.cons acG (.cons Lk (.cons akG .nil)))))
def auZ:ae:= .cA 374 zG [U0,U1,U2,U3] 2<|.bI .neq U7 (.i 0)<|.ite U8 (.j [U7,.r0]) (.rw U2 U6 3<|.cl U9 0 .str<|.cl U9 1 .sl<|.cl U9 2 .sl<|.cA 362 ME [ax,aw,aD] 1<|.ln aE<|.join (.bI .lss U4 (.i 0)<|.ite aJ (.j [.b true]) (.bI .lss U5 (.i 0)<|.ite aN (.j [.b true]) (.bI .gtr U4 aG<|.ite aM (.j [.b true]) (.bI .sub aG U4<|.bI .gtr U5 aL<|.j [aX])))) (.ite aJ (.j [.i 2,.r0]) (.bI .add U4 U5<|.ln aE<|.op (.part aE U4 aN 1)<|.cA 2011 xv [aL] 0<|.j [.i 0,aL])))
def qw:=Fo auZ
def acO:au:=⟨94,[.agg [pi 0,pi 1,ps 2],.c (.p .str U3),ci 4,ci 5],[],6,2,.aj [.c (.own 0),ci 6],[(0,(.row 5 U7))],qw,376⟩
theorem ZX:Ok acO:=oS (.cons ZF (.cons afL (.cons Zi .nil)))
def awM:ae:= .cA 374 zG [U0,U1,U2,U3] 2<|.bI .neq U5 (.i 0)<|.ite U6 (.j [.i 0,U5]) (.rw U2 U4 3<|.cl U7 0 .str<|.cl U7 1 .sl<|.cl U7 2 .sl<|.cA 328 IK [U8,U9,ax] 1<|.j [aw,.i 0])
def GN:=Fo awM
def ajY:au:=⟨93,[.agg [pi 0,pi 1,ps 2],.c (.p .str U3)],[],4,2,.aj [ci 4,ci 5],[],GN,377⟩
theorem apN:Ok ajY:=oS (.cons ZF (.cons afQ .nil))
def axs:ae:= .cA 337 A9 [.i 1,U3,U4] 1<|.cA 5 F5 [U8] 1<|.cA 376 qw [U0,U1,U2,U9,U7,ax] 2<|.op (.call 363 Fy [aD] 6 [5])<|.join (.bI .eql aG (.i 0)<|.ite aX (.no aM<|.ite a8 (.op (.bi .eql .u64 aJ U5)<|.ite bk (.op (.bi .eql .u32 aN U6)<|.ite be (.ln aL<|.bI .eql bp U8<|.j [bm]) (.j [.b false])) (.j [.b false])) (.j [.b false])) (.j [.b false])) (.j [aX,aJ,aN,aM,aL])
def MA:=Fo axs
def akj:au:=⟨88,[.agg [pi 0,pi 1,ps 2],ci 3,ci 4,.agg [.p (.int .u64) U5,.p (.int .u32) U6,pi 7,pi 8]],[],9,5,.aj [.agg [.p (.int .u64) ax,.p (.int .u32) aw,.p .bool aD,.own 0],.c (.p .bool U9)],[(0,(.row 5 aE))],MA,378⟩
theorem aoH:Ok akj:=oS (.cons ZX (.cons Um (.cons sj (.cons Qx .nil))))
def aqn:ae:= .cA 377 GN [U0,U1,U2,U3] 2<|.bI .neq U5 (.i 0)<|.ite U6 (.j [.b false,.r0]) (.cA 376 qw [U0,U1,U2,U3,.i 0,U4] 2<|.bI .eql U7 (.i 0)<|.j [U9,U8])
def wX:=Fo aqn
def agW:au:=⟨50,[.agg [pi 0,pi 1,ps 2],.c (.p .str U3)],[],4,2,.aj [.c (.own 0),.c (.p .bool U4)],[(0,(.row 5 U5))],wX,379⟩
theorem adv:Ok agW:=oS (.cons apN (.cons ZX .nil))
def apG:ae:= .join (.loop [.i 0,.i 0] (.ln U2<|.bI .lss U4 U5<|.ite U6 (.rw U2 U4 3<|.cl U7 0 .str<|.cl U7 1 .sl<|.cl U7 2 .sl<|.cA 97 mz [U8,U9,ax] 1<|.ln aw<|.bI .add U3 aD<|.bI .add U4 (.i 1)<|.j [aE,aG]) (.ak (.jump 1 [U3])))) (.j [U3])
def F108:=Fo apG
def aAL:au:=⟨220,[.agg [pi 0,pi 1,ps 2]],[],3,1,.v (ci 3),[],F108,108⟩
theorem aiN:Ok aAL:=oS (.cons uk .nil)
def apb:ae:= .op (.call 96 G8 (w 0 4) 1 [])<|.bI .neq U4 (.i 0)<|.ite U5 (.j [U4,.i 0,.i 0,.r0]) (.op (.call 32 En (w 0 4) 1 [])<|.bI .geq U6 (.i 0)<|.ite U7 (.j [.i 7,.i 0,.i 0,.r0]) (.ln U2<|.bI .eql U8 (.i 256)<|.ite U9 (.j [.i 9,.i 0,.i 0,.r0]) (.cA 31 xH [U0,U1,U2] 2<|.cA 30 K2 [U0,ax,aw,U3,.r0,.r0] 1<|.j [.i 0,U0,ax,aD])))
def wL:=Fo apb
def aiJ:au:=⟨118,[.agg [pi 0,pi 1,ps 2],.c (.p .str U3)],[],4,4,.aj [.agg [pi 5,pi 6,.own 0],ci 4],[(0,(.row 109 U7))],wL,109⟩
theorem T4:Ok aiJ:=oS (.cons Uo (.cons Za (.cons FJ (.cons apQ .nil))))
def ahz:ae:= .cA 96 G8 [U0,U1,U2,U3] 1<|.bI .neq U4 (.i 0)<|.ite U5 (.j [.i (-1),U4]) (.cA 32 En [U0,U1,U2,U3] 1<|.bI .lss U6 (.i 0)<|.ite U7 (.j [.i (-1),.i 6]) (.j [U6,.i 0]))
def o5:=Fo ahz
def aiI:au:=⟨48,[.agg [pi 0,pi 1,ps 2],.c (.p .str U3)],[],4,2,.aj [ci 4,ci 5],[],o5,110⟩
theorem xJ:Ok aiI:=oS (.cons Uo (.cons Za .nil))
def azp:ae:= .join (.op (.call 52 wJ (w 0 10) 1 [])<|.no aG<|.ite aJ (.j [.b true]) (.op (.call 47 AY (w 10 4) 1 [])<|.no aN<|.j [aM])) (.ite aG (.ak (.jump 0 (w 0 10))) (.join (.op (.call 99 uo (w 0 11) 5 [])<|.ite aJ (.cA 44 kH [aX] 1<|.j [a8]) (.j [.i 0])) (.bI .add U9 aJ<|.bI .gtr aN (.i 1099511627776)<|.ite aM (.ak (.jump 0 (w 0 10))) (.op (.call 79 qc (w 0 10) 1 [])<|.op (.call 76 JL ([aL]++w 10 4) 1 [0])<|.bI .add U9 aJ<|.op (.call 51 DU [aX,a8] 10 [2,3,4,5,6,7,8,9])<|.ak (.jump 0 (w 23 8++ [bk,be]))))))
def Kj:=Fo azp
def aeD:au:=⟨139,[.agg (eo 0 8++ [pi 8,pi 9]),.agg [.p (.int .u64) ax,.p (.int .u32) aw,pi 12,pi 13]],[],14,10,.v (.agg (eo 14 8++ [pi 22,pi 23])),[],Kj,111⟩
theorem avQ:Ok aeD:=oS (.cons DG (.cons wG (.cons azS (.cons G9 (.cons Xt (.cons Kc (.cons qd .nil)))))))
def afm:ae:= .op (.call 99 uo (w 0 11) 5 [])<|.join (.no aw<|.ite aN (.j [.b true]) (.cA 44 kH [aJ] 1<|.bI .add U9 aM<|.bI .gtr aL (.i 1099511627776)<|.j [aX])) (.ite aN (.ak (.jump 0 (w 0 10))) (.op (.call 79 qc (w 0 10) 1 [])<|.op (.call 77 Mk [aM,ax] 1 [0])<|.cA 44 kH [aJ] 1<|.bI .add U9 aX<|.op (.call 51 DU [aL,a8] 10 [2,3,4,5,6,7,8,9])<|.ak (.jump 0 (w 23 8++ [bk,be]))))
def F112:=Fo afm
def aoW:au:=⟨136,[.agg (eo 0 8++ [pi 8,pi 9]),.c (.p (.int .u64) ax)],[],11,10,.v (.agg (eo 11 8++ [pi 19,pi 20])),[],F112,112⟩
theorem Uq:Ok aoW:=oS (.cons DG (.cons wG (.cons auh (.cons Xt (.cons qd .nil)))))
def aci:ae:= .op (.call 80 rU (w 0 14) 1 [])<|.no aJ<|.ite aN (.j [.i 1,.i 0,.i 0,.i 0,.i 0,.r0,.r0,.r0,.r0,.r0,.r0,.r0,.r0,.i 0,.i 0]) (.bI .eql U2 (.i 1)<|.ite aM (.j [.i 12,.i 0,.i 0,.i 0,.i 0,.r0,.r0,.r0,.r0,.r0,.r0,.r0,.r0,.i 0,.i 0]) (.join (.loop ([.i 0]++w 4 10) (.ln aG<|.bI .lss aL cC<|.ite cP (.rw aG aL 1<|.cl dq 0 (.int .u64)<|.op (.call 112 F112 (w 19 10++ [cq]) 10 [])<|.bI .add aL (.i 1)<|.ak (.jump 0 ([pU]++w 33 10))) (.ak (.jump 1 (w 19 10))))) (.ak (.jump 0 ([.i 0]++w 0 4++w 18 10)))))
def F113:=Fo aci
def aoe:au:=⟨74,[.agg (cX 0 4++eo 4 8++ [pi 12,pi 13]),cs 14],[],15,15,.aj [.agg (cX 16 4++eo 20 8++ [pi 28,pi 29]),ci 15],[],F113,113⟩
theorem adN:Ok aoe:=oS (.cons Uq (.cons B7 .nil))
def auT:ae:= .op (.call 80 rU (w 0 14) 1 [])<|.no aJ<|.ite aN (.j [.i 1,.i 0,.i 0,.i 0,.i 0,.r0,.r0,.r0,.r0,.r0,.r0,.r0,.r0,.i 0,.i 0]) (.join (.loop [U3,.i 0] (.ln aG<|.bI .lss aL aX<|.ite a8 (.rw aG aL 4<|.cl bk 0 (.int .u64)<|.cl bk 1 (.int .u32)<|.cl bk 2 .bool<|.cl bk 3 .sl<|.op (.call 43 EM (w 22 4) 1 [])<|.no bq<|.ite bw (.ak (.jump 2 [.i 1,.i 0,.i 0,.i 0,.i 0,.r0,.r0,.r0,.r0,.r0,.r0,.r0,.r0,.i 0,.i 0])) (.rw aG aL 4<|.cl b9 3 .sl<|.ln cC<|.cA 44 kH [cP] 1<|.bI .add aM dq<|.bI .add aL (.i 1)<|.j [cq,eP])) (.ak (.jump 1 [aM])))) (.bI .neq U2 (.i 1)<|.ite aL (.j [.i 12,.i 0,.i 0,.i 0,.i 0,.r0,.r0,.r0,.r0,.r0,.r0,.r0,.r0,.i 0,.i 0]) (.bI .gtr aM (.i 1048576)<|.ite aX (.j [.i 9,.i 0,.i 0,.i 0,.i 0,.r0,.r0,.r0,.r0,.r0,.r0,.r0,.r0,.i 0,.i 0]) (.join (.loop ([.i 0]++w 3 11) (.ln aG<|.bI .lss a8 cq<|.ite eP (.rw aG a8 4<|.cl eT 0 (.int .u64)<|.cl eT 1 (.int .u32)<|.cl eT 2 .bool<|.cl eT 3 .sl<|.ln j_<|.cA 44 kH [kE] 1<|.join (.ite iZ (.op (.call 112 F112 (w 22 10++ [fT]) 10 [])<|.op (.call 78 JY (w 41 10++ [gq]) 1 [])<|.ak (.jump 0 (w 41 9++ [tR]))) (.ln j_<|.op (.call 111 Kj (w 22 10++ [fT,gI,bk,my]) 10 [])<|.ak (.jump 0 (w 42 10)))) (.bI .add bk gq<|.bI .add a8 (.i 1)<|.ak (.jump 0 ([pY,tR]++w 41 10)))) (.ak (.jump 1 (w 21 11))))) (.ak (.jump 0 ([.i 0,U0,U1,U2]++w 20 11)))))))
def Jo:=Fo auT
def anB:au:=⟨77,[.agg (cX 0 4++eo 4 8++ [pi 12,pi 13]),cs 14],[],15,15,.aj [.agg (cX 16 4++eo 20 8++ [pi 28,pi 29]),ci 15],[],Jo,114⟩
theorem aiw:Ok anB:=oS (.cons Uq (.cons avQ (.cons B7 (.cons agu (.cons qd (.cons Zb .nil))))))
def ahG:ae:= .op (.call 103 r_ (w 0 4) 1 [])<|.no U4<|.ite U5 (.j [.i 1,.i 0,.i 0,.i 0,.i 0,.r0,.r0,.r0,.r0,.r0,.r0,.r0,.r0,.i 0,.i 0]) (.ln U3<|.bI .sub U6 (.i 1)<|.rw U3 U7 14<|.cl U8 0 (.int .i64)<|.cl U8 1 (.int .i64)<|.cl U8 2 (.int .i64)<|.cl U8 3 (.int .i64)<|.cl U8 4 .sl<|.cl U8 5 .sl<|.cl U8 6 .sl<|.cl U8 7 .sl<|.cl U8 8 .sl<|.cl U8 9 .sl<|.cl U8 10 .sl<|.cl U8 11 .sl<|.cl U8 12 (.int .i64)<|.cl U8 13 (.int .i64)<|.ak (.jump 0 ([.i 0]++w 9 14)))
def Gh:=Fo ahG
def azC:au:=⟨76,[.agg [pi 0,pi 1,.p .bool U2,ps 3]],[],4,15,.aj [.agg (cX 5 4++eo 9 8++ [pi 17,pi 18]),ci 4],[],Gh,116⟩
theorem Xk:Ok azC:=oS (.cons Bu (.cons xz .nil))
def acS:ae:= .join (.loop [.i 0,.r0] (.join (.bI .add U5 (.i 1)<|.ln U3<|.bI .lss U7 U8<|.ite U9 (.op (.call 103 r_ (w 0 4) 1 [])<|.j [ax]) (.j [.b false])) (.ite U7 (.join (.rw U3 U5 14<|.cl U8 4 .sl<|.cl U8 5 .sl<|.cl U8 6 .sl<|.cl U8 7 .sl<|.cl U8 8 .sl<|.cl U8 9 .sl<|.cl U8 10 .sl<|.cl U8 11 .sl<|.cl U8 12 (.int .i64)<|.cl U8 13 (.int .i64)<|.op (.call 99 uo (w 9 10++ [U4]) 5 [])<|.ite aX (.rw U3 U5 14<|.cl bm 0 (.int .i64)<|.op (.lit [[((.int .i64),bA)]])<|.op (.app U6 bq 1 8)<|.j [bw]) (.j [U6])) (.bI .add U5 (.i 1)<|.j [U9,U8])) (.ak (.jump 1 [U6]))))) (.j [U5])
def Nf:=Fo acS
def ahu:au:=⟨73,[.agg [pi 0,pi 1,.p .bool U2,ps 3],.c (.p (.int .u64) U4)],[],5,1,.v (.c (.own 0)),[(0,(.row 3 U5))],Nf,117⟩
theorem alf:Ok ahu:=oS (.cons Bu (.cons xz (.cons DG .nil)))
def adJ:ae:= .op (.call 103 r_ (w 0 4) 1 [])<|.no aL<|.ite aX (.j [.i 1,.i 0,.i 0,.b false,.r0]) (.op (.lit [])<|.op (.app a8 U3 14 240)<|.join (.loop [.b false,.i 0,bk] (.ln bm<|.bI .lss bp bA<|.ite bq (.join (.rw bm bp 14<|.op (.rc bm bp 0 (.int .i64))<|.bI .eql b9 U4<|.ite cC (.rw bm bp 14<|.op (.set bm bp 0 [((.int .i64),U4),((.int .i64),U5),((.int .i64),U6),((.int .i64),U7),(.sl,U8),(.sl,U9),(.sl,ax),(.sl,aw),(.sl,aD),(.sl,aE),(.sl,aG),(.sl,aJ),((.int .i64),aN),((.int .i64),aM)])<|.j [.b true,dq]) (.j [be,bm])) (.bI .add bp (.i 1)<|.j [bw,cC,b9])) (.ak (.jump 1 [be,bm])))) (.no be<|.ite bm (.j [.i 6,.i 0,.i 0,.b false,.r0]) (.cA 107 F107 [U0,U1,U2,bp] 1<|.no bA<|.ite bq (.j [.i 1,.i 0,.i 0,.b false,.r0]) (.j [.i 0,U0,U1,U2,bp]))))
def zS:=Fo adJ
def acy:au:=⟨70,[.agg [pi 0,pi 1,.p .bool U2,ps 3],.agg (cX 4 4++eo 8 8++ [pi 16,pi 17])],[],18,5,.aj [.agg [pi 19,pi 20,.p .bool bk,.own 0],ci 18],[(0,(.row 94 be))],zS,118⟩
theorem NK:Ok acy:=oS (.cons Bu (.cons xz .nil))
def ajm:ae:= .join (.op (.call 103 r_ (w 0 4) 1 [])<|.ite U4 (.ln U3<|.bI .sub U5 (.i 1)<|.rw U3 U6 14<|.cl U7 0 (.int .i64)<|.bI .lss U8 (.i 8)<|.j [U9]) (.j [.b false])) (.j [U4])
def Ij:=Fo ajm
def axe:au:=⟨114,[.agg [pi 0,pi 1,.p .bool U2,ps 3]],[],4,1,.v (.c (.p .bool U4)),[],Ij,119⟩
theorem axv:Ok axe:=oS (.cons Bu (.cons xz .nil))
def ajQ:ae:= .op (.call 103 r_ (w 0 4) 1 [])<|.no U4<|.ite U5 (.j [.i 1,.i 0,.i 0,.b false,.r0]) (.op (.call 119 Ij (w 0 4) 1 [])<|.no U6<|.ite U7 (.j [.i 9,.i 0,.i 0,.b false,.r0]) (.ln U3<|.bI .sub U8 (.i 1)<|.rw U3 U9 14<|.cl ax 0 (.int .i64)<|.cl ax 1 (.int .i64)<|.cl ax 2 (.int .i64)<|.cl ax 3 (.int .i64)<|.cl ax 4 .sl<|.cl ax 5 .sl<|.cl ax 6 .sl<|.cl ax 7 .sl<|.cl ax 8 .sl<|.cl ax 9 .sl<|.cl ax 10 .sl<|.cl ax 11 .sl<|.cl ax 12 (.int .i64)<|.cl ax 13 (.int .i64)<|.op (.call 102 Ma (w 11 14) 15 [])<|.bI .add bq (.i 1)<|.cA 57 GB [gq] 4<|.op (.lit [])<|.bI .sub U8 (.i 1)<|.ln U3<|.op (.part U3 (.i 0) sy 14)<|.op (.app ku mD 14 240)<|.op (.lit [[((.int .i64),bq),((.int .i64),bw),((.int .i64),b9),((.int .i64),cC),(.sl,cP),(.sl,dq),(.sl,cq),(.sl,eP),(.sl,eT),(.sl,fT),(.sl,gI),(.sl,iZ),((.int .i64),j_),((.int .i64),kE)],[((.int .i64),sq),((.int .i64),(.i 0)),((.int .i64),pU),((.int .i64),tW),(.sl,.r0),(.sl,.r0),(.sl,.r0),(.sl,.r0),(.sl,.r0),(.sl,.r0),(.sl,.r0),(.sl,.r0),((.int .i64),(.i 0)),((.int .i64),(.i 0))]])<|.op (.app pf xT 14 240)<|.j [.i 0,U0,U1,U2,tR]))
def Gj:=Fo ajQ
def agF:au:=⟨59,[.agg [pi 0,pi 1,.p .bool U2,ps 3]],[],4,5,.aj [.agg [pi 5,pi 6,.p .bool U7,.own 0],ci 4],[(0,(.row 94 U8))],Gj,120⟩
theorem aeu:Ok agF:=oS (.cons axv (.cons Bu (.cons xz (.cons avL (.cons Zs .nil)))))
def aff:ae:= .cA 26 JP [U0,.i 4] 1<|.no U1<|.ite U2 (.j [.r0,.i 1]) (.cA 105 F105 [U0] 1<|.ln U3<|.op (.cut U3 (.i 4) U4 1)<|.op (.vw U3 (.i 4) U5)<|.j [U6,.i 0])
def JW:=Fo aff
def adV:au:=⟨128,[.c (.own 0)],[.row 71 U0],1,2,.aj [cs 1,ci 2],[(0,(.row 71 U0))],JW,122⟩
theorem alp:Ok adV:=oS (.cons aje (.cons azT .nil))
def axB:ae:= .op (.vw U0 U3 U4)<|.ln U6<|.loop [.i 0,U0] (.bI .lss U8 U7<|.ite ax (.op (.jS U9 U3 U4 U8 1)<|.op (.rc U9 aw 0 (.int .u8))<|.op (.jS U9 U1 U2 U8 1)<|.op (.rc U9 aE 0 (.int .u8))<|.cA 302 GC [aD,U5] 1<|.op (.bi .xor .u8 aG aJ)<|.op (.jS U9 U1 U2 U8 1)<|.op (.set U9 aM 0 [((.int .u8),aN)])<|.bI .add U8 (.i 1)<|.j [aX,aL]) (.ak (.jump 1 [U9])))
def NQ:=Fo axB
def aiB:au:=⟨323,[.c (.sub 0 U1 U2),.c (.sub 0 U3 U4),.c (.p (.int .u8) U5)],[.row 5 U0],6,1,.aj [],[(0,(.row 5 U6))],NQ,380⟩
theorem aod:Ok aiB:=oS (.cons MQ .nil)
def amq:ae:= .join (.cA 307 w7 [U0,U1,U2] 1<|.no U3<|.ite U4 (.j [.b true]) (.bI .neq U0 U1<|.j [U5])) (.ite U3 (.j [.i 1,.i 0,.r0]) (.cA 2010 xw [U2] 0<|.cA 344 ZZ [U0] 3<|.join (.loop [.i 0,U2,U6] (.bI .lss U7 U0<|.ite ax (.join (.join (.loop [U7] (.bI .lss aw U0<|.ite aD (.cA 304 xG [U0,U1,U8,aw,U7] 1<|.cA 305 Xc [aE] 2<|.bI .neq aJ (.i 0)<|.ite aN (.bI .add aw (.i 1)<|.j [aM]) (.cA 359 IC [U0,U1,U8,aw,U7] 1<|.cA 359 IC [U5,U5,U9,aw,U7] 1<|.cA 341 mK [U0,U1,aM,U7] 2<|.cA 367 Mc [aM,aX,a8,aG] 1<|.cA 341 mK [U5,U5,aL,U7] 2<|.cA 367 Mc [aL,be,bp,aG] 1<|.join (.loop [.i 0,bk,bm] (.bI .lss bA U0<|.ite b9 (.join (.cA 304 xG [U0,U1,bq,bA,U7] 1<|.bI .neq bA U7<|.ite cP (.cA 341 mK [U0,U1,bq,bA] 2<|.cA 341 mK [U0,U1,bq,U7] 2<|.cA 380 NQ [bq,dq,cq,eP,eT,cC] 1<|.cA 341 mK [U5,U5,bw,bA] 2<|.cA 341 mK [U5,U5,bw,U7] 2<|.cA 380 NQ [bw,gI,iZ,j_,kE,cC] 1<|.j [fT,gq]) (.j [bq,bw])) (.bI .add bA (.i 1)<|.j [dq,cC,cP])) (.ak (.jump 1 [bq,bw])))) (.ak (.jump 2 [bA,bq])))) (.ak (.jump 1 [])))) (.ak (.jump 3 [.i 14,.i 0,.r0]))) (.bI .add U7 (.i 1)<|.j [aE,aw,aD])) (.ak (.jump 1 [U9])))) (.j [.i 0,U5,U7])))
def Jv:=Fo amq
def aoa:au:=⟨306,[.agg [pi 0,pi 1,ps 2]],[],3,3,.aj [.agg [pi 4,pi 4,.own 0],ci 3],[(0,(.row 5 U5))],Jv,384⟩
theorem XV:Ok aoa:=oS (.cons aod (.cons ahn (.cons awL (.cons alV (.cons xC (.cons x8 (.cons GG (.cons agm (.cons KY (.cons Qo .nil))))))))))
def asd:ae:= .cA 345 Wf [.i 6,.i 4] 4<|.op (.lit [[((.int .i64),(.i 0))],[((.int .i64),(.i 1))],[((.int .i64),(.i 2))],[((.int .i64),(.i 3))]])<|.op (.call 347 Iu [U1,U2,U3,U4] 4 [3])<|.op (.call 384 Jv [U6,U7,U8] 3 [2])<|.op (.call 346 Lp [U1,U2,U3,ax,ax,aw] 4 [3])<|.j [aE,aG,aJ]
def Z8:=Fo asd
def ajz:au:=⟨304,[],[],0,3,.v (.agg [pi 0,pi 1,.own 0]),[(0,(.row 5 U2))],Z8,385⟩
theorem ael:Ok ajz:=oS (.cons XV (.cons RH (.cons Y7 (.cons ahl .nil))))
def amW:ae:= .join (.loop [.i 0,.r0,.r0] (.bI .lss U7 (.i 6)<|.ite ax (.join (.op (.dD U7 6)<|.op (.fH [U1,U2,U3,U4,U5,U6] U7)<|.join (.ite aw (.ln U8<|.bI .lss aD (.i 4)<|.j [aE]) (.j [.b false])) (.ite aD (.op (.lit [[((.int .i64),U7)]])<|.op (.app U8 aE 1 8)<|.rw U0 U7 1<|.cl aJ 0 .sl<|.op (.lit [[(.sl,aN)]])<|.op (.app U9 aM 1 24)<|.j [aG,aL]) (.j [U8,U9]))) (.bI .add U7 (.i 1)<|.j [aE,aw,aD])) (.ak (.jump 1 [U8,U9])))) (.cA 385 Z8 [] 3<|.op (.call 347 Iu [U9,ax,aw,U7] 4 [3])<|.op (.call 384 Jv [aE,aG,aJ] 3 [2])<|.op (.call 346 Lp [U9,ax,aw,aM,aM,aL] 4 [3])<|.cA 308 Wg [a8,bk,be,U8] 2<|.j [bm])
def SN:=Fo amW
def alP:au:=⟨284,[cs 0,.agg [.p .bool U1,.p .bool U2,.p .bool U3,.p .bool U4,.p .bool U5,.p .bool U6]],[],7,1,.v (.c (.own 0)),[(0,(.row 71 U7))],SN,386⟩
theorem avX:Ok alP:=oS (.cons ael (.cons XV (.cons RH (.cons Y7 (.cons awV .nil)))))
def akB:ae:= .join (.ln U0<|.bI .neq U2 (.i 6)<|.ite U3 (.j [.b true]) (.ln U1<|.bI .neq U4 (.i 6)<|.j [U5])) (.ite U2 (.j [.i 1,.r0]) (.op (.part U1 (.i 0) (.i 6) 1)<|.op (.rc U3 (.i 0) 0 .bool)<|.op (.rc U3 (.i 1) 0 .bool)<|.op (.rc U3 (.i 2) 0 .bool)<|.op (.rc U3 (.i 3) 0 .bool)<|.op (.rc U3 (.i 4) 0 .bool)<|.op (.rc U3 (.i 5) 0 .bool)<|.op (.lit [[(.bool,U4),(.bool,U5),(.bool,U6),(.bool,U7),(.bool,U8),(.bool,U9)]])<|.rw ax (.i 0) 6<|.cl aw 0 .bool<|.cl aw 1 .bool<|.cl aw 2 .bool<|.cl aw 3 .bool<|.cl aw 4 .bool<|.cl aw 5 .bool<|.join (.loop [.i (-1),.i 0,.i 0] (.bI .lss a8 (.i 6)<|.ite bk (.join (.op (.dD a8 6)<|.op (.fH [aD,aE,aG,aJ,aN,aM] a8)<|.no be<|.ite bp (.j [aL,aX]) (.join (.bI .lss aL (.i 0)<|.ite bm (.j [a8]) (.j [aL])) (.rw U0 a8 1<|.cl bA 0 .sl<|.ln bq<|.rw U0 bm 1<|.cl b9 0 .sl<|.ln cC<|.bI .neq bw cP<|.ite dq (.ak (.jump 3 [.i 1,.r0])) (.bI .add aX (.i 1)<|.j [bm,cq])))) (.bI .add a8 (.i 1)<|.j [be,bp,bm])) (.ak (.jump 1 [aX])))) (.bI .lss aL (.i 4)<|.ite aX (.j [.i 11,.r0]) (.cA 386 SN [U0,aD,aE,aG,aJ,aN,aM] 1<|.j [.i 0,a8]))))
def Wp:=Fo akB
def azH:au:=⟨243,[cs 0,cs 1],[],2,2,.aj [.c (.own 0),ci 2],[(0,(.row 71 U3))],Wp,387⟩
theorem awZ:Ok azH:=oS (.cons avX .nil)
def azk:ae:= .op (.ix (.i 6) [(.sl,.r0)] 24)<|.join (.ln U0<|.loop [.i 0,U5] (.bI .lss U7 U6<|.ite U9 (.join (.rw U0 U7 1<|.cl ax 0 .sl<|.rw U1 U7 1<|.cl aD 0 .bool<|.ite aE (.bI .add U3 U4<|.ln aw<|.op (.part aw U3 aG 1)<|.rw U8 U7 1<|.op (.set U8 U7 0 [(.sl,aN)])<|.j [aL]) (.j [U8])) (.bI .add U7 (.i 1)<|.j [aw,ax])) (.ak (.jump 1 [U8])))) (.cA 387 Wp [U6,U1] 2<|.rw U8 U2 1<|.op (.rc U8 U2 0 .sl)<|.j [ax])
def Vh:=Fo azk
def adi:au:=⟨214,[cs 0,cs 1,.agg [pi 2,pi 3,pi 4]],[],5,1,.v (cs 5),[],Vh,389⟩
theorem apE:Ok adi:=oS (.cons awZ .nil)
def amL:ae:= .ln U0<|.op (.lit [])<|.op (.app U6 U4 4 32)<|.cA 67 Dd [U1,U2,U3,U5,.i 0,.i 0,.i 0,.i 0,.i 0,.i 0,U7] 1<|.no U8<|.ite U9 (.j [.i 1,.r0,.i 0,.i 0,.i 0,.i 0,.i 0,.i 0,.i 0,.i 0,.i 0,.i 0,.r0]) (.cA 2003 wz [U0] 1<|.cA 122 JW [ax] 2<|.op (.app ax aw 1 24)<|.join (.loop [.i 0,.i 0,.i 0,.i 0,.i 0,.i 0,.i 0] (.bI .lss aG (.i 6)<|.ite bk (.join (.rw aE aG 1<|.op (.rc aE aG 0 .sl)<|.cA 38 D' [bp] 1<|.bI .eql aG (.i 0)<|.ite bA (.ak (.jump 0 ([.i 0,bm]++w 16 5))) (.bI .eql aG (.i 1)<|.ite bq (.ak (.jump 0 ([.i 1,aJ,bm]++w 17 4))) (.bI .eql aG (.i 2)<|.ite bw (.j [.i 2,aJ,aN,bm,aL,aX,a8]) (.bI .eql aG (.i 3)<|.ite b9 (.j [.i 3,aJ,aN,aM,bm,aX,a8]) (.bI .eql aG (.i 4)<|.ite cC (.ak (.jump 0 ([.i 4]++w 15 4++ [bm,a8]))) (.bI .eql aG (.i 5)<|.ite cP (.ak (.jump 0 ([.i 5]++w 15 5++ [bm]))) (.op (.dD (.i 0) 0)<|.j []))))))) (.bI .add be (.i 1)<|.ak (.jump 0 ([cC]++w 23 6)))) (.ak (.jump 1 (w 15 6))))) (.ak (.jump 0 ([.i 0,aE,U1,U2,U3,U5]++w 14 6++ [U7]))))
def NV:=Fo amL
def aqs:au:=⟨65,[cs 0,.agg [pi 1,pi 2,pi 3],cs 4],[],5,13,.aj [.c (.own 0),.agg (cX 7 4++ [.p (.int .u32) aw,.p (.int .u32) aD,.p (.int .u32) aE,.p (.int .u32) aG,.p (.int .u32) aJ,.p (.int .u32) aN,.own 1]),ci 5],[(0,(.row 71 U6)),(1,(.row 25 aM))],NV,126⟩
theorem agf:Ok aqs:=oS (.cons alp (.cons S3 (.cons UQ (.cons aqf .nil))))
def aya:ae:= .op (.call 110 o5 (w 0 4) 2 [])<|.bI .neq U7 (.i 0)<|.ite U8 (.j [.r0,U7]) (.rw U2 U6 3<|.cl U9 0 .str<|.cl U9 1 .sl<|.cl U9 2 .sl<|.cA 97 mz [ax,aw,aD] 1<|.join (.bI .lss U4 (.i 0)<|.ite aG (.j [.b true]) (.bI .lss U5 (.i 0)<|.ite aJ (.j [.b true]) (.ln aE<|.bI .gtr U4 aN<|.ite aM (.j [.b true]) (.ln aE<|.bI .sub aL U4<|.bI .gtr U5 aX<|.j [a8])))) (.ite aG (.j [.r0,.i 2]) (.bI .add U4 U5<|.ln aE<|.op (.cut aE U4 aJ 1)<|.op (.vw aE U4 aM)<|.j [aL,.i 0])))
def ug:=Fo aya
def apP:au:=⟨123,[.agg [pi 0,pi 1,ps 2],.c (.p .str U3),ci 4,ci 5],[],6,2,.aj [cs 6,ci 7],[],ug,127⟩
theorem avs:Ok apP:=oS (.cons xJ (.cons uk .nil))
def akt:ae:= .op (.call 110 o5 (w 0 4) 2 [])<|.bI .neq U5 (.i 0)<|.ite U6 (.j [.i 0,U5]) (.rw U2 U4 3<|.cl U7 0 .str<|.cl U7 1 .sl<|.cl U7 2 .sl<|.cA 97 mz [U8,U9,ax] 1<|.ln aw<|.j [aD,.i 0])
def C3:=Fo akt
def auI:au:=⟨122,[.agg [pi 0,pi 1,ps 2],.c (.p .str U3)],[],4,2,.aj [ci 4,ci 5],[],C3,128⟩
theorem anp:Ok auI:=oS (.cons xJ (.cons uk .nil))
def aAX:ae:= .op (.call 110 o5 (w 0 4) 2 [])<|.bI .neq U5 (.i 0)<|.ite U6 (.j [U5,.i 0,.i 0,.r0]) (.cA 31 xH [U0,U1,U2] 2<|.op (.lit [])<|.ln U8<|.op (.cut U8 (.i 0) U4 3)<|.op (.vw U8 (.i 0) aw)<|.op (.app U9 aD 3 64)<|.bI .add U4 (.i 1)<|.ln U8<|.op (.cut U8 aG aJ 3)<|.op (.vw U8 aG aN)<|.op (.app aE aM 3 64)<|.j [.i 0,U0,U7,aL])
def JI:=Fo aAX
def aww:au:=⟨25,[.agg [pi 0,pi 1,ps 2],.c (.p .str U3)],[],4,4,.aj [.agg [pi 5,pi 6,.own 0],ci 4],[(0,(.row 109 U7))],JI,129⟩
theorem aqz:Ok aww:=oS (.cons xJ (.cons FJ .nil))
def aof:ae:= .cA 110 o5 [U0,U1,U2,U3] 2<|.bI .neq U5 (.i 0)<|.ite U6 (.j [U5,.i 0,.i 0,.r0]) (.cA 31 xH [U0,U1,U2] 2<|.rw U8 U4 3<|.op (.rc U8 U4 0 .str)<|.op (.rc U8 U4 1 .sl)<|.op (.rc U8 U4 2 .sl)<|.cA 97 mz [ax,aw,aD] 1<|.rw U8 U4 3<|.op (.set U8 U4 0 [(.str,U3),(.sl,aE),(.sl,.r0)])<|.j [.i 0,U0,U7,aJ])
def Fp:=Fo aof
def aki:au:=⟨120,[.agg [pi 0,pi 1,ps 2],.c (.p .str U3)],[],4,4,.aj [.agg [pi 5,pi 6,.own 0],ci 4],[(0,(.row 109 U7))],Fp,130⟩
theorem RN:Ok aki:=oS (.cons xJ (.cons uk (.cons FJ .nil)))
def adb:ae:= .rw U2 U3 3<|.cl U7 0 .str<|.cl U7 1 .sl<|.cl U7 2 .sl<|.cA 97 mz [U8,U9,ax] 1<|.ln aw<|.ln U5<|.bI .add U4 aE<|.bI .gtr aG (.i 1048576)<|.ite aJ (.j [.i 9,.i 0,.i 0,.r0]) (.op (.lit [])<|.op (.app aN U5 1 1)<|.op (.lit [])<|.op (.app aL ax 3 40)<|.op (.lit [[((.int .i64),U4),(.sl,aM),(.bool,U6)]])<|.op (.app aX a8 3 40)<|.op (.call 97 mz [U8,U9,bk] 1 [0])<|.ln be<|.bI .sub bp aD<|.join (.bI .gtr U0 (.i 0)<|.ite bA (.bI .gtr bm (.i 0)<|.ite bq (.cA 108 F108 [U0,U1,U2] 1<|.bI .add bw bm<|.bI .gtr b9 U0<|.j [cC]) (.j [.b false])) (.j [.b false])) (.ite bA (.j [.i 9,.i 0,.i 0,.r0]) (.cA 31 xH [U0,U1,U2] 2<|.rw bw U3 3<|.op (.set bw U3 0 [(.str,U8),(.sl,U9),(.sl,bk)])<|.j [.i 0,U0,bq,cC])))
def Fv:=Fo adb
def aea:au:=⟨173,[.agg [pi 0,pi 1,ps 2],ci 3,.agg [pi 4,ps 5,.p .bool U6]],[],7,4,.aj [.agg [pi 8,pi 9,.own 0],ci 7],[(0,(.row 109 ax))],Fv,131⟩
theorem Wv:Ok aea:=oS (.cons aiN (.cons uk (.cons FJ .nil)))
def YK:ae:= .loop [.i 0,U0] (.bI .lss U4 U3<|.ite U6 (.bI .add U1 U4<|.bI .add U2 U4<|.bI .add U2 U4<|.rw U5 U9 4<|.op (.rc U5 U9 0 (.int .u64))<|.op (.rc U5 U9 1 (.int .u32))<|.op (.rc U5 U9 2 (.int .i64))<|.op (.rc U5 U9 3 (.int .i64))<|.bI .add U1 U4<|.rw U5 aJ 4<|.op (.rc U5 aJ 0 (.int .u64))<|.op (.rc U5 aJ 1 (.int .u32))<|.op (.rc U5 aJ 2 (.int .i64))<|.op (.rc U5 aJ 3 (.int .i64))<|.rw U5 U7 4<|.op (.set U5 U7 0 [((.int .u64),aw),((.int .u32),aD),((.int .i64),aE),((.int .i64),aG)])<|.rw be U8 4<|.op (.set be U8 0 [((.int .u64),aM),((.int .u32),aL),((.int .i64),aX),((.int .i64),a8)])<|.bI .add U4 (.i 1)<|.j [bA,bm]) (.ak (.jump 1 [U5])))
def zT:=Fo YK
def aky:au:=⟨334,[.c (.own 0),ci 1,ci 2,ci 3,.c (.fn 248 [])],[.row 25 U0],4,1,.aj [],[(0,(.row 25 U4))],zT,506⟩
theorem acP:Ok aky:=oS .nil
def agB:ae:= .cA 110 o5 [U0,U1,U2,U3] 2<|.bI .neq U6 (.i 0)<|.ite U7 (.j [U6,.i 0,.i 0,.r0]) (.rw U2 U5 3<|.cl U8 0 .str<|.cl U8 1 .sl<|.cl U8 2 .sl<|.cA 97 mz [U9,ax,aw] 1<|.ln aD<|.cA 131 Fv [U0,U1,U2,U5,aE,U4,.b false] 4<|.j [aG,aJ,aN,aM])
def Mq:=Fo agB
def aoA:au:=⟨119,[.agg [pi 0,pi 1,ps 2],.c (.p .str U3),.c (.own 0)],[.row 5 U4],5,4,.aj [.agg [pi 6,pi 7,.own 1],ci 5],[(1,(.row 109 U8))],Mq,135⟩
theorem Qn:Ok aoA:=oS (.cons Wv (.cons xJ (.cons uk .nil)))
def Qv:ae:= .bI .sub U2 U1<|.bI .sub U3 U2<|.join (.loop [U4,U5,U0] (.bI .neq U6 U7<|.ite U9 (.bI .gtr U6 U7<|.ite ax (.bI .sub U2 U6<|.cA 506 zT [U8,aw,U2,U7] 1<|.bI .sub U6 U7<|.j [aE,U7,aD]) (.bI .sub U2 U6<|.bI .add U2 U7<|.bI .sub aD U6<|.cA 506 zT [U8,aw,aE,U6] 1<|.bI .sub U7 U6<|.j [U6,aJ,aG])) (.ak (.jump 1 [U6,U8])))) (.bI .sub U2 U6<|.cA 506 zT [U7,U8,U2,U6] 1<|.j [U9])
def JV:=Fo Qv
def agy:au:=⟨327,[.c (.own 0),ci 1,ci 2,ci 3,.c (.fn 248 [])],[.row 25 U0],4,1,.aj [],[(0,(.row 25 U4))],JV,508⟩
theorem yn:Ok agy:=oS (.cons acP .nil)
def apc:ae:= .join (.cA 109 wL [U0,U1,U2,U8] 4<|.bI .eql ax (.i 0)<|.ite aG (.j [aw,aD,aE]) (.j [U0,U1,U2])) (.cA 135 Mq [ax,aw,aD,U8,U9] 4<|.cA 130 Fp [aG,aJ,aN,U8] 4<|.j [aL,aX,a8])
def BM:=Fo apc
def aAP:au:=⟨61,[.c (.ptr 0 0),.c (.p .str U8),.c (.own 2)],[.box [pi 0,pi 1,ps 2,pi 3,pi 4,.p .bool U5,ps 6,.mp 1],.map U7,.row 5 U9],10,3,.aj [],[(0,(.box [pi 10,pi 11,.own 3,pi 3,pi 4,.p .bool U5,ps 6,.mp 1])),(1,(.map U7)),(3,(.row 109 aD))],BM,604⟩
theorem AP:Ok aAP:=oS (.cons Qn (.cons RN (.cons T4 .nil)))
def alZ:ae:= .cA 73 MT [U3,U8,.i 0] 2<|.cA 56 qB [.i 1,U3,U8] 1<|.cA 604 BM [U0,U1,U2,U3,U4,U5,U6,U7,aw,ax] 3<|.j [aD,aE,aG]
def Ep:=Fo alZ
def aqP:au:=⟨60,[.c (.ptr 0 0),ci 8],[.box [pi 0,pi 1,ps 2,pi 3,pi 4,.p .bool U5,ps 6,.mp 1],.map U7],9,3,.aj [],[(0,(.box [pi 9,pi 10,.own 2,pi 3,pi 4,.p .bool U5,ps 6,.mp 1])),(1,(.map U7)),(2,(.row 109 aw))],Ep,607⟩
theorem Y3:Ok aqP:=oS (.cons AP (.cons aoK (.cons Cc .nil)))
def GM:List L→Option (List L):=fun _=>none
def aij:au:=⟨309,[.c (.own 0),ci 1,ci 2,ci 3,.c (.fn 248 [])],[.row 25 U0],4,1,.aj [],[(0,(.row 25 U4))],GM,1740⟩
theorem anj:aij.ok Tryz.prog:=fun _ _ _ h=>by
 have h:(none:Option (List L))=some _:=h;cases h
def agp:ae:= .op (.call 128 C3 (w 0 4) 2 [])<|.bI .neq U5 (.i 0)<|.ite U6 (.j [.r0,U5]) (.op (.call 127 ug (w 0 4++ [.i 0,U4]) 2 [])<|.j [U7,U8])
def Ap:=Fo agp
def ayQ:au:=⟨63,[.agg [pi 0,pi 1,ps 2],.c (.p .str U3)],[],4,2,.aj [cs 4,ci 5],[],Ap,143⟩
theorem afw:Ok ayQ:=oS (.cons anp (.cons avs .nil))
def afI:ae:= .op (.call 110 o5 (w 0 4) 2 [])<|.bI .neq U6 (.i 0)<|.ite U7 (.j [U6,.i 0,.i 0,.r0]) (.rw U2 U5 3<|.cl U8 0 .str<|.cl U8 1 .sl<|.cl U8 2 .sl<|.cA 97 mz [U9,ax,aw] 1<|.ln aD<|.cA 131 Fv [U0,U1,U2,U5,aE,U4,.b false] 4<|.ak (.jump 0 (w 14 4)))
def J8:=Fo afI
def atm:au:=⟨119,[.agg [pi 0,pi 1,ps 2],.c (.p .str U3),cs 4],[],5,4,.aj [.agg [pi 6,pi 7,.own 0],ci 5],[(0,(.row 109 U8))],J8,144⟩
theorem apO:Ok atm:=oS (.cons Wv (.cons xJ (.cons uk .nil)))
def adn:ae:= .cA 104 KJ [U0,U1] 4<|.cA 35 xq [.i 0] 1<|.cA 607 Ep [U6,.i (-1),.r0,U3,U4,.b false,U5,.r0,.i 1] 3<|.j [U7,U8,U3,U4,U5,U9]
def Ny:=Fo adn
def aqb:au:=⟨34,[ci 0,ci 1],[],2,6,.v (.agg [pi 2,pi 3,.own 0,pi 4,pi 5,.p .bool (.b false),ps 6,.mp 1]),[(0,(.row 109 U7)),(1,(.map .r0))],Ny,149⟩
theorem atc:Ok aqb:=oS (.cons Y3 (.cons aok (.cons SZ .nil)))
def acQ:ae:= .cA 116 Gh [U3,U4,U5,U6] 15<|.cA 114 Jo [ax,aw,aD,aE,aG,aJ,aN,aM,aL,aX,a8,bk,be,bp,U8] 15<|.cA 118 zS [U3,U4,U5,U6,bA,bq,bw,b9,cC,cP,dq,cq,eP,eT,fT,gI,iZ,j_] 5<|.join (.bI .neq bm (.i 0)<|.ite tW (.j [.b true]) (.bI .neq kE (.i 0)<|.j [ku])) (.ite tW (.j [.b false,U0,U1,U2,U3,U4,U5,U6,U7]) (.join (.loop [.i 0,U0,U1,U2,U7] (.ln U8<|.bI .lss ku xT<|.ite tR (.join (.rw U8 ku 4<|.cl pY 0 (.int .u64)<|.cl pY 1 (.int .u32)<|.cl pY 2 .bool<|.cl pY 3 .sl<|.cA 74 KC [AW,AR,C5,zx] 2<|.cA 56 qB [.i 1,gq,ax] 1<|.cA 604 BM [sy,wY,mD,gq,my,sq,pU,pf,EH,D2] 3<|.rw U8 ku 4<|.cl R2 2 .bool<|.ite J_ (.rw U8 ku 4<|.cl DO 0 (.int .u64)<|.cA 3002 VV [pf,Dl] 1<|.j [Ah,Ld,tz,Gd]) (.rw U8 ku 4<|.cl DO 0 (.int .u64)<|.rw U8 ku 4<|.cl tz 0 (.int .u64)<|.cl tz 1 (.int .u32)<|.cl tz 2 .bool<|.cl tz 3 .sl<|.op (.lit [[((.int .u64),Dl),((.int .u64),VJ),((.int .u32),R7),(.bool,Sc),(.sl,PX)]])<|.cA 3001 alB [pf,V0] 1<|.j [Ah,Ld,V3,Gd])) (.bI .add ku (.i 1)<|.j [zx,pY,AW,C5,AR])) (.ak (.jump 1 [sy,wY,mD,pf])))) (.j [.b true,ku,sy,wY,gq,my,sq,pU,mD])))
def zQ:=Fo acQ
def ahR:au:=⟨37,[.c (.ptr 0 0),cs 8],[.box [pi 0,pi 1,ps 2,pi 3,pi 4,.p .bool U5,ps 6,.mp 1],.map U7],9,9,.v (.c (.p .bool U9)),[(0,(.box [pi 10,pi 11,ps 12,pi 13,pi 14,.p .bool aJ,ps 16,.mp 1])),(1,(.map aM))],zQ,610⟩
theorem SU:Ok ahR:=oS (.cons AP (.cons NK (.cons Xk (.cons aiw (.cons aoY (.cons Cc .nil))))))
def SX:ae:= .cA 117 Nf [U3,U4,U5,U6,U8] 1<|.join (.loop [.i 0,U0,U1,U2,U3,U4,U5,U6] (.ln U9<|.bI .lss ax aL<|.ite aX (.join (.loop [.i 0,aG,aJ,aN,aM] (.ln bm<|.bI .lss a8 bA<|.ite bq (.join (.rw bm a8 14<|.cl bw 0 (.int .i64)<|.rw U9 ax 1<|.op (.rc U9 ax 0 (.int .i64))<|.bI .eql b9 cP<|.ite dq (.rw bm a8 14<|.cl cq 0 (.int .i64)<|.cl cq 1 (.int .i64)<|.cl cq 2 (.int .i64)<|.cl cq 3 (.int .i64)<|.cl cq 4 .sl<|.cl cq 5 .sl<|.cl cq 6 .sl<|.cl cq 7 .sl<|.cl cq 8 .sl<|.cl cq 9 .sl<|.cl cq 10 .sl<|.cl cq 11 .sl<|.cl cq 12 (.int .i64)<|.cl cq 13 (.int .i64)<|.op (.lit [[((.int .u64),U8)]])<|.cA 113 F113 [eP,eT,fT,gI,iZ,j_,kE,gq,my,sq,pU,tW,ku,sy,wY] 15<|.cA 118 zS [bk,be,bp,bm,pf,xT,tR,pY,AW,AR,C5,zx,VR,D2,EH,Ah,Ld,Gd] 5<|.j [J_,DO,Dl,tz]) (.j [bk,be,bp,bm])) (.bI .add a8 (.i 1)<|.j [dq,bw,b9,cC,cP])) (.ak (.jump 1 [bk,be,bp,bm])))) (.rw U9 ax 1<|.op (.rc U9 ax 0 (.int .i64))<|.cA 56 qB [.i 3,a8,bA] 1<|.op (.lit [[((.int .u64),U8)]])<|.op (.call 69 Iz [bw] 1 [0])<|.cA 604 BM [aw,aD,aE,a8,bk,be,bp,U7,bq,b9] 3<|.bI .add ax (.i 1)<|.j [cq,cC,cP,dq,a8,bk,be,bp])) (.ak (.jump 1 [aw,aD,aE,aG,aJ,aN,aM])))) (.cA 116 Gh [aE,aG,aJ,aN] 15<|.join (.cA 99 uo [be,bp,bm,bA,bq,bw,b9,cC,cP,dq,U8] 5<|.ite cq (.op (.lit [[((.int .u64),U8),((.int .u32),eT),(.bool,(.b true)),(.sl,.r0)]])<|.cA 610 zQ [ax,aw,aD,aE,aG,aJ,aN,U7,iZ] 9<|.j [kE,gq,my,sq,pU,tW,ku,sy]) (.j [ax,aw,aD,aE,aG,aJ,aN,U7])) (.cA 3002 VV [kE,U8] 1<|.j [gq,cq,eP,eT,fT,gI,iZ,j_]))
def G4:=Fo SX
def ava:au:=⟨36,[.c (.ptr 0 0),.c (.p (.int .u64) U8)],[.box [pi 0,pi 1,ps 2,pi 3,pi 4,.p .bool U5,ps 6,.mp 1],.map U7],9,8,.aj [],[(1,(.map U9)),(0,(.box [pi 10,pi 11,ps 12,pi 13,pi 14,.p .bool aJ,ps 16,.mp 1]))],G4,611⟩
theorem agK:Ok ava:=oS (.cons SU (.cons AP (.cons NK (.cons alf (.cons Xk (.cons adN (.cons DG (.cons ahs (.cons Cc .nil)))))))))
def acN:ae:= .cA 5 F5 [U3] 1<|.bI .add U2 aJ<|.bI .gtr aN U7<|.j [aM]
def LI:=Fo acN
def amy:au:=⟨157,[.agg [.p (.int .u64) U0,.p (.int .u32) U1,pi 2,pi 3],.c (.ptr 0 0)],[.box (cX 4 4++ [.p (.int .u32) U8,.p (.int .u32) U9,.p (.int .u32) ax,.p (.int .u32) aw,.p (.int .u32) aD,.p (.int .u32) aE,ps 14])],15,1,.v (.c (.p .bool aJ)),[(0,(.box (cX 4 4++ [.p (.int .u32) U8,.p (.int .u32) U9,.p (.int .u32) ax,.p (.int .u32) aw,.p (.int .u32) aD,.p (.int .u32) aE,ps 14])))],LI,397⟩
theorem ayd:Ok amy:=oS (.cons sj .nil)
def ZK:ae:= .join (.ln U0<|.loop [.i 0] (.bI .lss aE aD<|.ite aG (.rw U0 aE 4<|.cl aJ 0 (.int .u64)<|.cl aJ 1 (.int .u32)<|.cl aJ 2 (.int .i64)<|.cl aJ 3 (.int .i64)<|.cA 397 LI [aN,aM,aL,aX,U1,U2,U3,U4,U5,U6,U7,U8,U9,ax,aw] 1<|.ite a8 (.ak (.jump 2 [aE])) (.bI .add aE (.i 1)<|.j [bk])) (.ak (.jump 1 [])))) (.j [.i (-1)])
def IG:=Fo ZK
def amu:au:=⟨208,[cs 0,.c (.fn 157 [0])],[.box (cX 1 4++ [.p (.int .u32) U5,.p (.int .u32) U6,.p (.int .u32) U7,.p (.int .u32) U8,.p (.int .u32) U9,.p (.int .u32) ax,ps 11])],12,1,.v (ci 12),[(0,(.box (cX 1 4++ [.p (.int .u32) U5,.p (.int .u32) U6,.p (.int .u32) U7,.p (.int .u32) U8,.p (.int .u32) U9,.p (.int .u32) ax,ps 11])))],IG,398⟩
theorem aoE:Ok amu:=oS (.cons ayd .nil)
def aeS:ae:= .cA 398 IG [U0,U1,U2,U3,U4,U5,U6,U7,U8,U9,ax,aw] 1<|.bI .geq aD (.i 0)<|.j [aE]
def Jy:=Fo aeS
def amk:au:=⟨156,[cs 0,.c (.fn 157 [0])],[.box (cX 1 4++ [.p (.int .u32) U5,.p (.int .u32) U6,.p (.int .u32) U7,.p (.int .u32) U8,.p (.int .u32) U9,.p (.int .u32) ax,ps 11])],12,1,.v (.c (.p .bool aD)),[(0,(.box (cX 1 4++ [.p (.int .u32) U5,.p (.int .u32) U6,.p (.int .u32) U7,.p (.int .u32) U8,.p (.int .u32) U9,.p (.int .u32) ax,ps 11])))],Jy,401⟩
theorem ame:Ok amk:=oS (.cons aoE (.cons J3 .nil))
def asU:ae:= .join (.cA 109 wL [U0,U1,U2,U8] 4<|.bI .eql ax (.i 0)<|.ite aG (.j [aw,aD,aE]) (.j [U0,U1,U2])) (.cA 144 J8 [ax,aw,aD,U8,U9] 4<|.cA 130 Fp [aG,aJ,aN,U8] 4<|.j [aL,aX,a8])
def Bi:=Fo asU
def acR:au:=⟨61,[.c (.ptr 0 0),.c (.p .str U8),cs 9],[.box [pi 0,pi 1,ps 2,pi 3,pi 4,.p .bool U5,ps 6,.mp 1],.map U7],10,3,.aj [],[(0,(.box [pi 10,pi 11,.own 2,pi 3,pi 4,.p .bool U5,ps 6,.mp 1])),(1,(.map U7)),(2,(.row 109 aD))],Bi,614⟩
theorem Wo:Ok acR:=oS (.cons apO (.cons Qn (.cons RN (.cons T4 .nil))))
def kJ (t:Nat) (g:List L→Option (List L)):ae:=
 .op (.bi .sub .i64 (.v 2) (.v 1))<|
 .op (.bi .eql .i64 (.v 4) (.i 1))<|
 .ite (.v 5)
  (.join
   (.loop [(.v 2),(.v 3)]
    (.op (.bi .lss .i64 (.v 6) (.v 7))<|
    .ite (.v 8)
     (.op (.bi .add .i64 (.v 6) (.v 7))<|
     .op (.conv .u64 (.v 9))<|
     .op (.bi .shr .u64 (.v 10) (.i 1))<|
     .op (.conv .i64 (.v 11))<|
     .op (.row (.v 0) (.v 12) 4)<|
     .op (.rc (.v 0) (.v 12) 0 (.int .u64))<|
     .op (.rc (.v 0) (.v 12) 1 (.int .u32))<|
     .op (.rc (.v 0) (.v 12) 2 (.int .i64))<|
     .op (.rc (.v 0) (.v 12) 3 (.int .i64))<|
     .op (.row (.v 0) (.v 1) 4)<|
     .op (.rc (.v 0) (.v 1) 0 (.int .u64))<|
     .op (.rc (.v 0) (.v 1) 1 (.int .u32))<|
     .op (.rc (.v 0) (.v 1) 2 (.int .i64))<|
     .op (.rc (.v 0) (.v 1) 3 (.int .i64))<|
     .op (.call 6 F6 [(.v 14),(.v 15),(.v 16),(.v 17),(.v 19),(.v 20),(.v 21),(.v 22)] 1 [])<|
     .op (.bi .lss .i64 (.v 23) (.i 0))<|
     .ite (.v 24)
      (.op (.bi .add .i64 (.v 12) (.i 1))<|
      .ak (.jump 0 [(.v 25),(.v 7)]))
      (.ak (.jump 0 [(.v 6),(.v 12)])))
     (.ak (.jump 1 [(.v 6)]))))
   (.join
    (.loop [(.v 1),(.v 0)]
     (.op (.bi .sub .i64 (.v 6) (.i 1))<|
     .op (.bi .lss .i64 (.v 7) (.v 9))<|
     .ite (.v 10)
      (.op (.bi .add .i64 (.v 7) (.i 1))<|
      .op (.bi .add .i64 (.v 7) (.i 1))<|
      .op (.row (.v 8) (.v 12) 4)<|
      .op (.rc (.v 8) (.v 12) 0 (.int .u64))<|
      .op (.rc (.v 8) (.v 12) 1 (.int .u32))<|
      .op (.rc (.v 8) (.v 12) 2 (.int .i64))<|
      .op (.rc (.v 8) (.v 12) 3 (.int .i64))<|
      .op (.row (.v 8) (.v 7) 4)<|
      .op (.rc (.v 8) (.v 7) 0 (.int .u64))<|
      .op (.rc (.v 8) (.v 7) 1 (.int .u32))<|
      .op (.rc (.v 8) (.v 7) 2 (.int .i64))<|
      .op (.rc (.v 8) (.v 7) 3 (.int .i64))<|
      .op (.row (.v 8) (.v 7) 4)<|
      .op (.set (.v 8) (.v 7) 0 [((.int .u64),(.v 14)),((.int .u32),(.v 15)),((.int .i64),(.v 16)),((.int .i64),(.v 17))])<|
      .op (.row (.v 24) (.v 11) 4)<|
      .op (.set (.v 24) (.v 11) 0 [((.int .u64),(.v 19)),((.int .u32),(.v 20)),((.int .i64),(.v 21)),((.int .i64),(.v 22))])<|
      .op (.bi .add .i64 (.v 7) (.i 1))<|
      .ak (.jump 0 [(.v 27),(.v 26)]))
      (.ak (.jump 1 [(.v 8)]))))
    (.ak (.jump 0 [(.v 7)]))))
  (.op (.bi .sub .i64 (.v 3) (.v 2))<|
  .op (.bi .eql .i64 (.v 6) (.i 1))<|
  .ite (.v 7)
   (.join
    (.loop [(.v 1),(.v 2)]
     (.op (.bi .lss .i64 (.v 8) (.v 9))<|
     .ite (.v 10)
      (.op (.bi .add .i64 (.v 8) (.v 9))<|
      .op (.conv .u64 (.v 11))<|
      .op (.bi .shr .u64 (.v 12) (.i 1))<|
      .op (.conv .i64 (.v 13))<|
      .op (.row (.v 0) (.v 2) 4)<|
      .op (.rc (.v 0) (.v 2) 0 (.int .u64))<|
      .op (.rc (.v 0) (.v 2) 1 (.int .u32))<|
      .op (.rc (.v 0) (.v 2) 2 (.int .i64))<|
      .op (.rc (.v 0) (.v 2) 3 (.int .i64))<|
      .op (.row (.v 0) (.v 14) 4)<|
      .op (.rc (.v 0) (.v 14) 0 (.int .u64))<|
      .op (.rc (.v 0) (.v 14) 1 (.int .u32))<|
      .op (.rc (.v 0) (.v 14) 2 (.int .i64))<|
      .op (.rc (.v 0) (.v 14) 3 (.int .i64))<|
      .op (.call 6 F6 [(.v 16),(.v 17),(.v 18),(.v 19),(.v 21),(.v 22),(.v 23),(.v 24)] 1 [])<|
      .op (.bi .lss .i64 (.v 25) (.i 0))<|
      .op (.not (.v 26))<|
      .ite (.v 27)
       (.op (.bi .add .i64 (.v 14) (.i 1))<|
       .ak (.jump 0 [(.v 28),(.v 9)]))
       (.ak (.jump 0 [(.v 8),(.v 14)])))
      (.ak (.jump 1 [(.v 8)]))))
    (.join
     (.loop [(.v 2),(.v 0)]
      (.op (.bi .gtr .i64 (.v 9) (.v 8))<|
      .ite (.v 11)
       (.op (.bi .sub .i64 (.v 9) (.i 1))<|
       .op (.bi .sub .i64 (.v 9) (.i 1))<|
       .op (.row (.v 10) (.v 13) 4)<|
       .op (.rc (.v 10) (.v 13) 0 (.int .u64))<|
       .op (.rc (.v 10) (.v 13) 1 (.int .u32))<|
       .op (.rc (.v 10) (.v 13) 2 (.int .i64))<|
       .op (.rc (.v 10) (.v 13) 3 (.int .i64))<|
       .op (.row (.v 10) (.v 9) 4)<|
       .op (.rc (.v 10) (.v 9) 0 (.int .u64))<|
       .op (.rc (.v 10) (.v 9) 1 (.int .u32))<|
       .op (.rc (.v 10) (.v 9) 2 (.int .i64))<|
       .op (.rc (.v 10) (.v 9) 3 (.int .i64))<|
       .op (.row (.v 10) (.v 9) 4)<|
       .op (.set (.v 10) (.v 9) 0 [((.int .u64),(.v 15)),((.int .u32),(.v 16)),((.int .i64),(.v 17)),((.int .i64),(.v 18))])<|
       .op (.row (.v 25) (.v 12) 4)<|
       .op (.set (.v 25) (.v 12) 0 [((.int .u64),(.v 20)),((.int .u32),(.v 21)),((.int .i64),(.v 22)),((.int .i64),(.v 23))])<|
       .op (.bi .sub .i64 (.v 9) (.i 1))<|
       .ak (.jump 0 [(.v 28),(.v 27)]))
       (.ak (.jump 1 [(.v 10)]))))
     (.ak (.jump 0 [(.v 9)]))))
   (.op (.bi .add .i64 (.v 1) (.v 3))<|
   .op (.conv .u64 (.v 8))<|
   .op (.bi .shr .u64 (.v 9) (.i 1))<|
   .op (.conv .i64 (.v 10))<|
   .op (.bi .add .i64 (.v 11) (.v 2))<|
   .join
    (.op (.bi .gtr .i64 (.v 2) (.v 11))<|
    .ite (.v 13)
     (.op (.bi .sub .i64 (.v 12) (.v 3))<|
     .ak (.jump 0 [(.v 14),(.v 11)]))
     (.ak (.jump 0 [(.v 1),(.v 2)])))
    (.op (.bi .sub .i64 (.v 12) (.i 1))<|
    .join
     (.loop [(.v 13),(.v 14)]
      (.op (.bi .lss .i64 (.v 16) (.v 17))<|
      .ite (.v 18)
       (.op (.bi .add .i64 (.v 16) (.v 17))<|
       .op (.conv .u64 (.v 19))<|
       .op (.bi .shr .u64 (.v 20) (.i 1))<|
       .op (.conv .i64 (.v 21))<|
       .op (.bi .sub .i64 (.v 15) (.v 22))<|
       .op (.row (.v 0) (.v 23) 4)<|
       .op (.rc (.v 0) (.v 23) 0 (.int .u64))<|
       .op (.rc (.v 0) (.v 23) 1 (.int .u32))<|
       .op (.rc (.v 0) (.v 23) 2 (.int .i64))<|
       .op (.rc (.v 0) (.v 23) 3 (.int .i64))<|
       .op (.row (.v 0) (.v 22) 4)<|
       .op (.rc (.v 0) (.v 22) 0 (.int .u64))<|
       .op (.rc (.v 0) (.v 22) 1 (.int .u32))<|
       .op (.rc (.v 0) (.v 22) 2 (.int .i64))<|
       .op (.rc (.v 0) (.v 22) 3 (.int .i64))<|
       .op (.call 6 F6 [(.v 25),(.v 26),(.v 27),(.v 28),(.v 30),(.v 31),(.v 32),(.v 33)] 1 [])<|
       .op (.bi .lss .i64 (.v 34) (.i 0))<|
       .op (.not (.v 35))<|
       .ite (.v 36)
        (.op (.bi .add .i64 (.v 22) (.i 1))<|
        .ak (.jump 0 [(.v 37),(.v 17)]))
        (.ak (.jump 0 [(.v 16),(.v 22)])))
       (.ak (.jump 1 [(.v 16)]))))
     (.op (.bi .sub .i64 (.v 12) (.v 16))<|
     .join
      (.join
       (.op (.bi .lss .i64 (.v 16) (.v 2))<|
       .ite (.v 18)
        (.op (.bi .lss .i64 (.v 2) (.v 17))<|
        .ak (.jump 0 [(.v 19)]))
        (.ak (.jump 0 [(.b false)])))
       (.ite (.v 18)
        (.op (.call 508 JV [(.v 0),(.v 16),(.v 2),(.v 17)] 1 [])<|
        .ak (.jump 0 [(.v 19)]))
        (.ak (.jump 0 [(.v 0)]))))
      (.join
       (.join
        (.op (.bi .lss .i64 (.v 1) (.v 16))<|
        .ite (.v 19)
         (.op (.bi .lss .i64 (.v 16) (.v 11))<|
         .ak (.jump 0 [(.v 20)]))
         (.ak (.jump 0 [(.b false)])))
        (.ite (.v 19)
         (.op (.call t g [(.v 18),(.v 1),(.v 16),(.v 11)] 1 [])<|
         .ak (.jump 0 [(.v 20)]))
         (.ak (.jump 0 [(.v 18)]))))
       (.join
        (.op (.bi .lss .i64 (.v 11) (.v 17))<|
        .ite (.v 20)
         (.op (.bi .lss .i64 (.v 17) (.v 3))<|
         .ak (.jump 0 [(.v 21)]))
         (.ak (.jump 0 [(.b false)])))
        (.ite (.v 20)
         (.op (.call t g [(.v 19),(.v 11),(.v 17),(.v 3)] 1 [])<|
         .ak (.jump 0 [(.v 21)]))
         (.ak (.jump 0 [(.v 19)])))))))))
def KH:=Fo (kJ 1740 GM)
def akA:au:=⟨309,[.c (.own 0),ci 1,ci 2,ci 3,.c (.fn 248 [])],[.row 25 U0],4,1,.aj [],[(0,(.row 25 U4))],KH,2071⟩
theorem arW:akA.ok Tryz.prog:=qt (kJ 1740 GM) fO (.cons anj (.cons yn (.cons uN .nil))) Tryz.func309 kr kr rfl
def Jl:=Fo (kJ 2071 KH)
def adw:au:=⟨309,[.c (.own 0),ci 1,ci 2,ci 3,.c (.fn 248 [])],[.row 25 U0],4,1,.aj [],[(0,(.row 25 U4))],Jl,2072⟩
theorem aAq:adw.ok Tryz.prog:=qt (kJ 2071 KH) fO (.cons arW (.cons yn (.cons uN .nil))) Tryz.func309 kr kr rfl
def I0:=Fo (kJ 2072 Jl)
def awB:au:=⟨309,[.c (.own 0),ci 1,ci 2,ci 3,.c (.fn 248 [])],[.row 25 U0],4,1,.aj [],[(0,(.row 25 U4))],I0,2073⟩
theorem aoS:awB.ok Tryz.prog:=qt (kJ 2072 Jl) fO (.cons aAq (.cons yn (.cons uN .nil))) Tryz.func309 kr kr rfl
def Ky:=Fo (kJ 2073 I0)
def awn:au:=⟨309,[.c (.own 0),ci 1,ci 2,ci 3,.c (.fn 248 [])],[.row 25 U0],4,1,.aj [],[(0,(.row 25 U4))],Ky,2074⟩
theorem agG:awn.ok Tryz.prog:=qt (kJ 2073 I0) fO (.cons aoS (.cons yn (.cons uN .nil))) Tryz.func309 kr kr rfl
def Kq:=Fo (kJ 2074 Ky)
def awz:au:=⟨309,[.c (.own 0),ci 1,ci 2,ci 3,.c (.fn 248 [])],[.row 25 U0],4,1,.aj [],[(0,(.row 25 U4))],Kq,2075⟩
theorem acA:awz.ok Tryz.prog:=qt (kJ 2074 Ky) fO (.cons agG (.cons yn (.cons uN .nil))) Tryz.func309 kr kr rfl
def xd:=Fo (kJ 2075 Kq)
def alc:au:=⟨309,[.c (.own 0),ci 1,ci 2,ci 3,.c (.fn 248 [])],[.row 25 U0],4,1,.aj [],[(0,(.row 25 U4))],xd,513⟩
theorem aov:alc.ok Tryz.prog:=qt (kJ 2075 Kq) fO (.cons acA (.cons yn (.cons uN .nil))) Tryz.func309 kr kr rfl
def KE:ae:= .join (.loop [.i 0,.i 20,U0] (.bI .leq U3 U1<|.ite U5 (.cA 85 tM [U4,U2,U3] 1<|.bI .add U3 (.i 20)<|.j [U3,U7,U6]) (.ak (.jump 1 [U2,U4])))) (.cA 85 tM [U3,U2,U1] 1<|.loop [.i 20,U4] (.bI .lss U5 U1<|.ite U7 (.bI .mul (.i 2) U5<|.join (.loop [.i 0,U8,U6] (.bI .leq ax U1<|.ite aD (.bI .add U9 U5<|.cA 513 xd [aw,U9,aE,ax] 1<|.bI .mul (.i 2) U5<|.bI .add ax aJ<|.j [ax,aN,aG]) (.ak (.jump 1 [U9,aw])))) (.join (.bI .add U9 U5<|.bI .lss aw U1<|.ite aD (.cA 513 xd [ax,U9,aw,U1] 1<|.j [aE]) (.j [ax])) (.bI .mul U5 (.i 2)<|.j [aD,aw]))) (.ak (.jump 1 [U6]))))
def F106:=Fo KE
def atk:au:=⟨289,[.c (.own 0),ci 1,.c (.fn 248 [])],[.row 25 U0],2,1,.aj [],[(0,(.row 25 U2))],F106,106⟩
theorem adh:Ok atk:=oS (.cons aov (.cons auE .nil))
def akT:ae:= .join (.cA 325 LC [U0,U1,U2] 1<|.no aw<|.ite aD (.j [.b true]) (.bI .lss U3 (.i 16)<|.ite aE (.j [.b true]) (.bI .gtr U3 (.i 524288)<|.ite aG (.j [.b true]) (.cA 91 yj [ax] 1<|.no aJ<|.j [aN])))) (.ite aw (.j [.b false]) (.cA 401 Jy [ax,U0,U1,U2,U3,U4,U5,U6,U7,U8,U9,ax] 1<|.no aD<|.j [aE]))
def FR:=Fo akT
def agt:au:=⟨100,[.agg (cX 0 4++ [.p (.int .u32) U4,.p (.int .u32) U5,.p (.int .u32) U6,.p (.int .u32) U7,.p (.int .u32) U8,.p (.int .u32) U9,ps 10])],[],11,1,.v (.c (.p .bool aw)),[],FR,402⟩
theorem Qc:Ok agt:=oS (.cons ame (.cons Ua (.cons Qy (.cons MX (.cons L_ (.cons asK .nil))))))
def awK:ae:= .ln U0<|.bI .lss U1 (.i 52)<|.ite U2 (.j [.i 4,.i 0,.i 0,.i 0,.i 0,.i 0,.i 0,.i 0,.i 0,.i 0,.i 0,.r0]) (.ln U0<|.op (.part U0 (.i 0) (.i 4) 1)<|.op (.str U4)<|.op (.bs .neq U5 (.s ⟨#[78,73,68,88]⟩))<|.ite U6 (.j [.i 3,.i 0,.i 0,.i 0,.i 0,.i 0,.i 0,.i 0,.i 0,.i 0,.i 0,.r0]) (.ln U0<|.op (.part U0 (.i 44) (.i 48) 1)<|.cA 335 sK [U8] 1<|.bI .mul (.i 24) U9<|.bI .add (.i 52) ax<|.ln U0<|.bI .sub aD (.i 4)<|.ln U0<|.bI .lss aG aw<|.ite aJ (.j [.i 4,.i 0,.i 0,.i 0,.i 0,.i 0,.i 0,.i 0,.i 0,.i 0,.i 0,.r0]) (.ln U0<|.bI .gtr aN aw<|.ite aM (.j [.i 3,.i 0,.i 0,.i 0,.i 0,.i 0,.i 0,.i 0,.i 0,.i 0,.i 0,.r0]) (.ln U0<|.op (.part U0 (.i 0) aE 1)<|.cA 333 K_ [aX] 1<|.ln U0<|.op (.part U0 aE bk 1)<|.cA 334 B6 [a8,be] 1<|.no bp<|.ite bm (.j [.i 5,.i 0,.i 0,.i 0,.i 0,.i 0,.i 0,.i 0,.i 0,.i 0,.i 0,.r0]) (.ln U0<|.op (.part U0 (.i 48) aE 1)<|.cA 375 LS [bq] 2<|.bI .neq bw (.i 0)<|.ite cC (.j [bw,.i 0,.i 0,.i 0,.i 0,.i 0,.i 0,.i 0,.i 0,.i 0,.i 0,.r0]) (.cA 356 L9 [U0] 10<|.cA 402 FR [cP,dq,cq,eP,eT,fT,gI,iZ,j_,kE,b9] 1<|.no gq<|.ite my (.j [.i 3,.i 0,.i 0,.i 0,.i 0,.i 0,.i 0,.i 0,.i 0,.i 0,.i 0,.r0]) (.j [.i 0,cP,dq,cq,eP,eT,fT,gI,iZ,j_,kE,b9])))))))
def Lq:=Fo awK
def arT:au:=⟨52,[cs 0],[],1,12,.aj [.agg (cX 2 4++ [.p (.int .u32) U6,.p (.int .u32) U7,.p (.int .u32) U8,.p (.int .u32) U9,.p (.int .u32) ax,.p (.int .u32) aw,.own 0]),ci 1],[(0,(.row 25 aD))],Lq,405⟩
theorem aAQ:Ok arT:=oS (.cons Qc (.cons aqD (.cons arU (.cons Zj (.cons Lk (.cons afX .nil))))))
def SE:ae:= .ln U0<|.cA 106 F106 [U0,U1] 1<|.j [U2]
def AG:=Fo SE
def ayX:au:=⟨247,[.c (.own 0),.c (.fn 248 [])],[.row 25 U0],1,1,.aj [],[(0,(.row 25 U1))],AG,121⟩
theorem akK:Ok ayX:=oS (.cons adh .nil)
def Uh:ae:= .join (.loop [.i 0] (.ln U6<|.bI .lss U8 U9<|.ite ax (.rw U6 U8 14<|.cl aw 0 (.int .i64)<|.cl aw 1 (.int .i64)<|.cl aw 2 (.int .i64)<|.cl aw 3 (.int .i64)<|.cl aw 4 .sl<|.cl aw 5 .sl<|.cl aw 6 .sl<|.cl aw 7 .sl<|.cl aw 8 .sl<|.cl aw 9 .sl<|.cl aw 10 .sl<|.cl aw 11 .sl<|.cl aw 12 (.int .i64)<|.cl aw 13 (.int .i64)<|.bI .neq aG (.i 2)<|.ite bq (.bI .add U8 (.i 1)<|.j [bw]) (.cA 56 qB [.i 1,U3,aD] 1<|.cA 143 Ap [U0,U1,U2,bw] 2<|.cA 72 Jm [b9] 4<|.cA 79 qc [aN,aM,aL,aX,a8,bk,be,bp,bm,bA] 1<|.cA 126 NV [b9,dq,cq,eP,eT] 13<|.join (.loop [.i 0,U0,U1,U2] (.ln gI<|.bI .lss mD pY<|.ite AW (.cA 68 DX [U3,aD,mD] 1<|.rw gI mD 1<|.op (.rc gI mD 0 .sl)<|.cA 614 Bi [pf,xT,tR,U3,U4,U5,U6,U7,AR,zx] 3<|.bI .add mD (.i 1)<|.j [Ah,VR,D2,EH]) (.ak (.jump 1 [pf,xT,tR])))) (.op (.call 95 My [iZ,j_,kE,gq,my,sq,pU,tW,ku,sy,wY] 2 [1])<|.cA 56 qB [.i 4,U3,aD] 1<|.cA 614 Bi [mD,pf,xT,U3,U4,U5,U6,U7,AW,pY] 3<|.cA 129 JI [AR,C5,zx,bw] 4<|.cA 101 L8 [aD,aE,aG,aJ,aN,aM,aL,aX,a8,bk,be,bp,bm,bA] 15<|.cA 118 zS [U3,U4,U5,U6,Gd,R2,J_,DO,Dl,tz,VJ,R7,Sc,PX,V0,V3,U74,U75] 5<|.ak (.jump 2 [.b true,D2,EH,Ah,U77,U78,U79,.v 80])))) (.ak (.jump 1 [])))) (.j [.b false,U0,U1,U2,U3,U4,U5,U6])
def FX:=Fo Uh
def aqL:au:=⟨31,[.c (.ptr 0 0)],[.box [pi 0,pi 1,ps 2,pi 3,pi 4,.p .bool U5,ps 6,.mp 1],.map U7],8,8,.v (.c (.p .bool U8)),[(0,(.box [pi 9,pi 10,ps 11,pi 12,pi 13,.p .bool aG,ps 15,.mp 1])),(1,(.map U7))],FX,617⟩
theorem ayk:Ok aqL:=oS (.cons Wo (.cons afw (.cons AP (.cons aqz (.cons agf (.cons NK (.cons ahd (.cons alI (.cons wG (.cons arp (.cons axZ (.cons Cc .nil))))))))))))
def axO:ae:= .cA 120 Gj [U3,U4,U5,U6] 5<|.bI .neq U8 (.i 0)<|.ite aE (.j [.b false,U0,U1,U2,U3,U4,U5,U6]) (.ln U6<|.bI .sub aG (.i 1)<|.rw U6 aJ 14<|.cl aN 0 (.int .i64)<|.bI .add aM (.i 1)<|.cA 607 Ep [U0,U1,U2,U9,ax,aw,aD,U7,aL] 3<|.cA 56 qB [.i 3,U9,aM] 1<|.cA 614 Bi [aX,a8,bk,U9,ax,aw,aD,U7,be,.r0] 3<|.j [.b true,bp,bm,bA,U9,ax,aw,aD])
def F_:=Fo axO
def agJ:au:=⟨30,[.c (.ptr 0 0)],[.box [pi 0,pi 1,ps 2,pi 3,pi 4,.p .bool U5,ps 6,.mp 1],.map U7],8,8,.v (.c (.p .bool U8)),[(0,(.box [pi 9,pi 10,ps 11,pi 12,pi 13,.p .bool aG,ps 15,.mp 1])),(1,(.map U7))],F_,619⟩
theorem aiE:Ok agJ:=oS (.cons Wo (.cons Y3 (.cons AP (.cons aeu (.cons Cc .nil)))))
end
end
end Go.Proofs.YtndegphojkiblaaGreatDoor
