/- A part. -/
import Derived.Test.YtndegphojkiblaaGreatDoorG27
set_option linter.all false
set_option maxHeartbeats 4000000
set_option maxRecDepth 100000
namespace Go.Proofs.YtndegphojkiblaaGreatDoor
noncomputable section
section
open Go.RowKit AI
def iJ:List Nat:=[1,0,0,0,0,1,0,0,0,0,1,0,0,0,0,1,27,28,18,20,28,27,20,18]
def Xd:List (List Nat×List Nat):=[([0,1,2,3],[1,0,0,0,0,1,0,0,0,0,1,0,0,0,0,1,27,28,18,20,28,27,20,18]),
 ([0,1,2,4],[1,0,0,0,0,1,0,0,0,0,1,0,200,82,123,224,0,0,0,1,141,246,1,123]),
 ([0,1,2,5],[1,0,0,0,0,1,0,0,0,0,1,0,245,143,187,192,3,2,187,187,0,0,0,1]),
 ([0,1,3,4],[1,0,0,0,0,1,0,0,143,245,187,192,0,0,1,0,0,0,0,1,2,3,187,187]),
 ([0,1,3,5],[1,0,0,0,0,1,0,0,82,200,123,224,0,0,1,0,246,141,1,123,0,0,0,1]),
 ([0,1,4,5],[1,0,0,0,0,1,0,0,141,246,123,1,246,141,1,123,0,0,1,0,0,0,0,1]),
 ([0,2,3,4],[1,0,0,0,70,143,104,160,0,1,0,0,0,0,1,0,0,0,0,1,200,140,3,70]),
 ([0,2,3,5],[1,0,0,0,166,210,245,128,0,1,0,0,0,0,1,0,82,2,247,166,0,0,0,1]),
 ([0,2,4,5],[1,0,0,0,143,211,142,211,0,1,0,0,179,143,201,244,0,0,1,0,0,0,0,1]),
 ([0,3,4,5],[1,0,0,0,245,105,105,244,41,245,142,83,0,1,0,0,0,0,1,0,0,0,0,1]),
 ([1,2,3,4],[166,245,210,128,1,0,0,0,0,1,0,0,0,0,1,0,0,0,0,1,82,247,2,166]),
 ([1,2,3,5],[70,104,143,160,1,0,0,0,0,1,0,0,0,0,1,0,200,3,140,70,0,0,0,1]),
 ([1,2,4,5],[245,105,244,105,1,0,0,0,0,1,0,0,41,245,83,142,0,0,1,0,0,0,0,1]),
 ([1,3,4,5],[143,211,211,142,1,0,0,0,179,143,244,201,0,1,0,0,0,0,1,0,0,0,0,1]),
 ([2,3,4,5],[208,107,104,210,107,208,210,104,1,0,0,0,0,1,0,0,0,0,1,0,0,0,0,1])]
def kn:List (List Nat):=Xd.map (·.1)
def FI:List (List Nat):=[[0,1,2,3],[0,1,2,4],[0,1,3,4],[0,2,3,4],[1,2,3,4],[0,1,2,3,4],[0,1,2,5],[0,1,3,5],[0,2,3,5],[1,2,3,5],[0,1,2,3,5],[0,1,4,5],[0,2,4,5],[1,2,4,5],[0,1,2,4,5],[0,3,4,5],[1,3,4,5],[0,1,3,4,5],[2,3,4,5],[0,2,3,4,5],[1,2,3,4,5],[0,1,2,3,4,5]]
def vL:List Nat:=[0,1,2,3,18,20,27,28,41,70,82,83,104,105,107,123,128,140,141,142,143,160,166,179,187,192,200,201,208,210,211,224,244,245,246,247]
def jC(q:List Nat):List Nat:=(Xd.lookup q).getD []
def gK(q:List Nat):List Nat:=(jC q).take 16
def partOf(q:List Nat):List Nat:=q.flatMap λi=>(iJ.drop (4*i)).take 4
def g19:List L->Option (List L)
 |[.i (.ofNat a),.i (.ofNat b)]=>cond (Nat.blt a 256&&Nat.blt b 256) (some [.i (.ofNat (gm a b))]) none
 |_=>none
theorem yZ{a:Nat}(h:Nat.blt a 256=true):a<256:=G6 h
theorem aws:Gk g19 pW:=λls o h=>by
 unfold g19 at h;split at h
 .rename_i a b
  cases c:Nat.blt a 256&&Nat.blt b 256 with
  |false=>rw[c]at h;cases h
  |true=>
   rw[c]at h;rw[cd]at c;exact(I0 (yZ c.1) (yZ c.2)).trans h
 .cases h
def LW:Gz:=⟨19,g19,_,aws⟩
def g20:List L->Option (List L)
 |[.i (.ofNat a)]=>cond (Nat.blt a 256) (some (Sd (wh a 255 1))) none
 |_=>none
theorem aqm:Gk g20 D7:=λls o h=>by
 unfold g20 at h;split at h
 .rename_i a
  cases b:Nat.blt a 256 with
  |false=>rw[b]at h;cases h
  |true=>
   rw[b]at h;exact(afX (yZ b)).trans h
 .cases h
def G20:Gz:=⟨20,g20,_,aqm⟩
def JY:List L->Option (List L)
 |[.i (.ofNat a),.i (.ofNat b)]=>cond (Nat.blt a 256&&Nat.blt b 256) (some [.i (.ofNat (pm 9 b 0 a))]) none
 |_=>none
theorem afg:Gk JY vT:=λls o h=>by
 unfold JY at h;split at h
 .rename_i a b
  cases c:Nat.blt a 256&&Nat.blt b 256 with
  |false=>rw[c]at h;cases h
  |true=>
   rw[c]at h;rw[cd]at c;exact(aoS (yZ c.1) (yZ c.2)).trans h
 .cases h
def OV:Gz:=⟨302,JY,_,afg⟩
def QE:List L->Option (List L):=qH
theorem atc:Gk QE qH:=λ_ _ h=>h
def amS:Gz:=⟨2010,QE,_,atc⟩
noncomputable section
def wJ:=rz 306 TI []
def HL:=rz 303 Sa []
def zd:=rz 341 abc []
def abZ:=rz 300 V5 []
def auF:=rz 342 Yh []
def ajT:=rz 343 S7 [abZ,auF]
def aki:=rz 345 UH [wJ,HL,zd,ajT]
def HM:=rz 307 Rl [wJ]
def apd:=rz 340 UP []
def N7:=rz 347 WI [HM,wJ,apd]
def akT:=rz 344 Zp [wJ,HL,zd]
def Wl:=rz 304 Yl []
def adY:=rz 305 Xt [abZ]
def atQ:=rz 359 aaW [zd]
def auX:=rz 367 X3 [OV]
def aqk:=rz 380 Sz [OV]
def KC:=rz 384 QO [HM,amS,akT,Wl,adY,atQ,zd,auX,aqk]
def Hy:=rz 346 Zf [HM,HL,zd,Wl,OV]
def ajU:=rz 385 aaC [aki,N7,KC,Hy]
def tq:=rz 22 Jj []
def G23:=rz 23 aaY [tq,LW]
def EI:=rz 24 MN [tq]
def G25:=rz 25 TK [EI,tq]
def G65:=rz 65 S3 [tq]
def G81:=rz 81 Sv [LW]
def HS:=rz 93 Vb [EI,G65,G81,G20]
def G66:=rz 66 W8 [EI,LW]
def G94:=rz 94 aah [G23,G25,HS,G66]
def Sf:=rz 366 Wg [EI,tq]
end
theorem aji:Ju []=some [.i 6,.i 4,.r (iJ.map b1)]:=ajU.h _ _ (mH kr)
theorem IA:vB []=some [.i 6,.i 4,.r (iJ.map b1)]:=G94.h _ _ (mH kr)
theorem aiU:kn.all (λq=>lW (N7.g [.i 6,.i 4,.r (iJ.map b1),.r (q.map kR)]) [.i 0,.i 4,.i 4,.r ((partOf q).map b1)])=true:=kr
theorem avc:FI.all (λp=>lW (Sf.g [.i 6,.i 4,.r (iJ.map b1),.r (p.map kR),.i 0,.i 4]) [.i 0,.i 4,.i 4,.r ((partOf (p.take 4)).map b1)])=true:=kr
def mP(q:List Nat):Bool:=lW (KC.g [.i 4,.i 4,.r ((partOf q).map b1)]) [.i 0,.i 4,.r ((gK q).map b1)]
def mM(q:List Nat):Bool:=lW (Hy.g [.i 6,.i 4,.r (iJ.map b1),.i 4,.i 4,.r ((gK q).map b1)]) [.i 0,.i 6,.i 4,.r ((jC q).map b1)]
def mR(q:List Nat):Bool:=lW (HS.g [.i 4,.i 4,.r ((partOf q).map b1)]) [.i 0,.i 4,.r ((gK q).map b1)]
end
end
end Go.Proofs.YtndegphojkiblaaGreatDoor
