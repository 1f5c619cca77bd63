/- Towards the last file's theorem: part 23. -/
import Derived.Test.YtndegphojkiblaaGreatDoorG15
import Derived.Test.YtndegphojkiblaaGreatDoorG16
import Derived.Test.YtndegphojkiblaaGreatDoorG21
import Derived.Test.YtndegphojkiblaaGreatDoorG22
import Derived.WalkKit
set_option linter.all false
set_option maxHeartbeats 4000000
set_option maxRecDepth 100000
namespace Go.Proofs.YtndegphojkiblaaGreatDoor
noncomputable section
section
open Go.RowKit
attribute [local irreducible] Fo
def FL:=mS [OI,Jf,I1,DG,Mv,YW,P9] 11 [cs 0,ci 1] [] 2 7 (.v (.agg [pi 2,pi 3,ps 4,pi 5,pi 6,.p .bool U7,ps 8,.mp 0])) [(0,.map)] 156
def G2:=FL.F
theorem arC:Ok FL:=oS (.cons atV (.cons aBU (.cons aFI (.cons TW (.cons ajn (.cons aFb (.cons Yg .nil)))))))
def V2:List L→Option (List L):=fun _=>none
def acW:az:=⟨262,[.c (.own 0),ci 1,ci 2,ci 3,.c (.fn 190 [])],[.row 25 U0],4,0,.v (.c (.p (.int .i64) (.i 0))),[(0,(.row 25 U0))],V2,1170⟩
theorem awn:acW.ok Tryz.prog:=fun _ _ _ h=>by
 have h:(none:Option (List L))=some _:=h;cases h
def aaD:ad:= .join (.cA 409 tA [U0,U1,U2,U3,U4,U5,U6,U7,U8,U9,aA,aF,aN] 1<|.no bq<|.ite aZ (.j [.b true]) (.bI .lss aS (.i 0)<|.ite bB (.j [.b true]) (.bI .lss aT (.i 0)<|.ite bD (.j [.b true]) (.bI .gtr aS U3<|.ite bJ (.j [.b true]) (.bI .sub U3 aS<|.bI .gtr aT cf<|.j [bZ]))))) (.ite bq (.j [.b false,.r0]) (.cA 2031 aay [U0,U1,U2,U3,U4,U5,U6,U7,U8,U9,aA,aF,aN,aK] 2<|.cA 2030 yc [aS,aT] 2<|.join (.ln bD<|.loop [.i 0,.r0] (.bI .lss bZ cf<|.ite dm (.join (.rw bD bZ 3<|.op (.rc bD bZ 0 (.int .i64))<|.op (.rc bD bZ 1 (.int .i64))<|.op (.rc bD bZ 2 (.int .i64))<|.rw bB cC 1<|.cl cY 0 .bool<|.ite ed (.rw aF cC 1<|.cl eU 0 .sl<|.bI .add cL dE<|.ln eb<|.op (.part eb cL dU 1)<|.op (.app da mX 1 1)<|.j [pg]) (.bI .geq aZ (.i 4)<|.ite eU (.cA 389 MP [aF,bB,cC,cL,dE] 1<|.op (.app da eb 1 1)<|.j [dU]) (.ar (.jump 3 [.b false,.r0])))) (.bI .add bZ (.i 1)<|.j [cC,cF])) (.ar (.jump 1 [da])))) (.j [.b true,cf])))
def QY:=Fo aaD
def awk:az:=⟨164,[.agg (cK 0 4++ [.p (.int .u32) U4,.p (.int .u32) U5,.p (.int .u32) U6,.p (.int .u32) U7,.p (.int .u32) U8,.p (.int .u32) U9,ps 10]),cs 11,cs 12,cs 13,ci 14,ci 15],[],16,2,.aj [.c (.own 0),.c (.p .bool bq)],[(0,(.row 5 aZ))],QY,414⟩
theorem awE:Ok awk:=oS (.cons adI (.cons aqD (.cons avm (.cons aeZ (.cons anz .nil)))))
def Wt:ad:= .cA 5 F5 [aZ] 1<|.cA 414 QY [U0,U1,U2,U3,U4,U5,U6,U7,U8,U9,aA,aF,aN,aK,bq,bB] 2<|.join (.no bD<|.ite cf (.j [.b true]) (.bI .eql bB (.i 0)<|.j [bZ])) (.ite cf (.j [.b false,.i 0,.i 0,.b false,.r0]) (.op (.call 363 Ji [bJ] 6 [5])<|.join (.bI .neq da (.i 0)<|.ite dE (.j [.b true]) (.bI .neq bZ bB<|.ite cY (.j [.b true]) (.ite cC (.j [.b true]) (.op (.bi .neq .u64 dm aS)<|.ite ed (.j [.b true]) (.op (.bi .neq .u32 cF aT)<|.ite eU (.j [.b true]) (.ln cL<|.bI .neq eb aZ<|.j [dU])))))) (.ite dE (.j [.b false,.i 0,.i 0,.b false,.r0]) (.j [.b true,dm,cF,cC,cL]))))
def lr:=Fo Wt
def ayz:az:=⟨108,[.agg (cK 0 4++ [.p (.int .u32) U4,.p (.int .u32) U5,.p (.int .u32) U6,.p (.int .u32) U7,.p (.int .u32) U8,.p (.int .u32) U9,ps 10]),cs 11,cs 12,cs 13,.agg [.p (.int .u64) aS,.p (.int .u32) aT,pi 16,pi 17]],[],18,5,.aj [.agg [.p (.int .u64) bD,.p (.int .u32) bJ,.p .bool cf,.own 0],.c (.p .bool bB)],[(0,(.row 5 bZ))],lr,415⟩
theorem ake:Ok ayz:=oS (.cons awE (.cons aeQ (.cons r6 .nil)))
noncomputable def AL:List L→Option (List L):=xd tA vK wM lr
def aFH:az:=DY tA vK wM lr 2040
theorem alp:aFH.ok Tryz.prog:=aqx (F105:=tA) (t105:=409) (F106:=vK) (t106:=330) (F107:=wM) (t107:=329) (F108:=lr) (t108:=415) adI asE aBN ake 2040
end
end
end Go.Proofs.YtndegphojkiblaaGreatDoor
