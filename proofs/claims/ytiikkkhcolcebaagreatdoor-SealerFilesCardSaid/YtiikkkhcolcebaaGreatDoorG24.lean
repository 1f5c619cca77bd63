/- A part. -/
import Derived.Test.YtiikkkhcolcebaaGreatDoorG13
import Derived.Test.YtiikkkhcolcebaaGreatDoorG15
import Derived.Test.YtiikkkhcolcebaaGreatDoorG16
import Derived.Test.YtiikkkhcolcebaaGreatDoorG18
import Derived.Test.YtiikkkhcolcebaaGreatDoorG23
set_option linter.all false
set_option maxHeartbeats 4000000
set_option maxRecDepth 100000
namespace Go.Proofs.YtiikkkhcolcebaaGreatDoor
noncomputable section
section
open Go.RowKit AI
def yQ:List Nat:=[1,0,0,0,0,1,0,0,0,0,1,0,0,0,0,1,27,28,18,20,28,27,20,18]
def g19:List L->Option (List L)
 |[.i (.ofNat a),.i (.ofNat b)]=>cond (Nat.blt a 256&&Nat.blt b 256) (some [.i (.ofNat (gm a b))]) none
 |_=>none
def xY{a:Nat}(h:Nat.blt a 256=true):a<256:=acK h
def KK:Gk g19 pE:=λls o h=>by
 unfold g19 at h;split at h
 .rename_i a b
  cases c:Nat.blt a 256&&Nat.blt b 256 with
  |false=>rw[c]at h;cases h
  |true=>
   rw[c]at h;rw[cF]at c;exact(JZ (xY c.1) (xY c.2)).trans h
 .cases h
def g20:List L->Option (List L)
 |[.i (.ofNat a)]=>cond (Nat.blt a 256) (some (aaA (x7 a 255 1))) none
 |_=>none
def ajz:Gk g20 BB:=λls o h=>by
 unfold g20 at h;split at h
 .rename_i a
  cases b:Nat.blt a 256 with
  |false=>rw[b]at h;cases h
  |true=>
   rw[b]at h;exact(aiH (xY b)).trans h
 .cases h
def Cz:List L->Option (List L)
 |[.i (.ofNat a),.i (.ofNat b)]=>cond (Nat.blt a 256&&Nat.blt b 256) (some [.i (.ofNat (pm 9 b 0 a))]) none
 |_=>none
def PA:Gk Cz sd:=λls o h=>by
 unfold Cz at h;split at h
 .rename_i a b
  cases c:Nat.blt a 256&&Nat.blt b 256 with
  |false=>rw[c]at h;cases h
  |true=>
   rw[c]at h;rw[cF]at c;exact(aDC (xY c.1) (xY c.2)).trans h
 .cases h
def ZJ:List L->Option (List L):=EN
def anj:Gk ZJ EN:=λ_ _ h=>h
noncomputable section
def BF:=rG ZC []
def zj:Gk BF nf:=rK [] trivial
def Fz:=rG To []
def J':Gk Fz t_:=rK [] trivial
def xy:=rG Rr []
def o3:Gk xy iK:=rK [] trivial
def Nu:=rG YK []
def Xh:Gk Nu sg:=rK [] trivial
def Ud:=rG Tm []
def asl:Gk Ud De:=rK [] trivial
def aas:=rG WL [(300,Nu),(342,Ud)]
def aiE:Gk aas FI:=rK [(300,sg),(342,De)] ⟨cP rfl Xh,cP rfl asl,trivial⟩
def Xu:=rG YQ [(306,BF),(303,Fz),(341,xy),(343,aas)]
def aoI:Gk Xu Gh:=rK [(306,nf),(306,nf),(303,t_),(341,iK),(343,FI)] ⟨cP rfl zj,cP rfl zj,cP rfl J',cP rfl o3,cP rfl aiE,trivial⟩
def FJ:=rG Z3 [(306,BF)]
def BG:Gk FJ nE:=rK [(306,nf),(306,nf)] ⟨cP rfl zj,cP rfl zj,trivial⟩
def Vz:=rG YR []
def awG:Gk Vz Gd:=rK [] trivial
def YJ:=rG Rq [(307,FJ),(306,BF),(340,Vz)]
def VB:Gk YJ uz:=rK [(307,nE),(306,nf),(340,Gd)] ⟨cP rfl BG,cP rfl zj,cP rfl awG,trivial⟩
def Vb:=rG WC [(306,BF),(303,Fz),(341,xy)]
def arp:Gk Vb HT:=rK [(306,nf),(303,t_),(341,iK)] ⟨cP rfl zj,cP rfl J',cP rfl o3,trivial⟩
def Mn:=rG Y1 []
def E5:Gk Mn nF:=rK [] trivial
def Zq:=rG YV [(300,Nu)]
def axF:Gk Zq Gw:=rK [(300,sg)] ⟨cP rfl Xh,trivial⟩
def Sr:=rG Xr [(341,xy)]
def aaP:Gk Sr xj:=rK [(341,iK),(341,iK)] ⟨cP rfl o3,cP rfl o3,trivial⟩
def Us:=rG V' [(302,Cz)]
def Wg:Gk Us yw:=rK [(302,sd)] ⟨cP rfl PA,trivial⟩
def WJ:=rG ZG [(302,Cz)]
def QZ:Gk WJ zd:=rK [(302,sd)] ⟨cP rfl PA,trivial⟩
def RR:=rG Vm [(307,FJ),(2010,ZJ),(344,Vb),(304,Mn),(305,Zq),(359,Sr),(341,xy),(367,Us),(380,WJ)]
def ajT:Gk RR D8:=rK [(307,nE),(2010,EN),(344,HT),(304,nF),(305,Gw),(359,xj),(359,xj),(341,iK),(367,yw),(341,iK),(367,yw),(304,nF),(341,iK),(341,iK),(380,zd),(341,iK),(341,iK),(380,zd)] ⟨cP rfl BG,cP rfl anj,cP rfl arp,cP rfl E5,cP rfl axF,cP rfl aaP,cP rfl aaP,cP rfl o3,cP rfl Wg,cP rfl o3,cP rfl Wg,cP rfl E5,cP rfl o3,cP rfl o3,cP rfl QZ,cP rfl o3,cP rfl o3,cP rfl QZ,trivial⟩
def Vc:=rG UQ [(307,FJ),(303,Fz),(341,xy),(304,Mn),(302,Cz)]
def azq:Gk Vc FO:=rK [(307,nE),(307,nE),(303,t_),(341,iK),(304,nF),(304,nF),(302,sd)] ⟨cP rfl BG,cP rfl BG,cP rfl J',cP rfl o3,cP rfl E5,cP rfl E5,cP rfl PA,trivial⟩
def awq:=rG XT [(345,Xu),(347,YJ),(384,RR),(346,Vc)]
def ahL:Gk awq CC:=rK [(345,Gh),(347,uz),(384,D8),(346,FO)] ⟨cP rfl aoI,cP rfl VB,cP rfl ajT,cP rfl azq,trivial⟩
def g22:=rG YI []
def xf:Gk g22 mX:=rK [] trivial
def g23:=rG aak [(22,g22),(19,g19)]
def ads:Gk g23 FN:=rK [(22,mX),(19,pE)] ⟨cP rfl xf,cP rfl KK,trivial⟩
def g24:=rG VP [(22,g22)]
def IZ:Gk g24 qD:=rK [(22,mX)] ⟨cP rfl xf,trivial⟩
def aao:=rG Va [(22,g22)]
def aCv:Gk aao Eh:=rK [(22,mX)] ⟨cP rfl xf,trivial⟩
def ZB:=rG aaT [(677,aao),(22,g22)]
def asN:Gk ZB G9:=rK [(677,Eh),(22,mX)] ⟨cP rfl aCv,cP rfl xf,trivial⟩
def Ux:=rG Vw [(22,g22)]
def ahB:Gk Ux Dr:=rK [(22,mX)] ⟨cP rfl xf,trivial⟩
def XU:=rG Ts [(19,g19)]
def xm:Gk XU ng:=rK [(19,pE)] ⟨cP rfl KK,trivial⟩
def Sy:=rG Yr [(24,g24),(65,Ux),(81,XU),(20,g20)]
def anx:Gk Sy Gi:=rK [(24,qD),(65,Dr),(81,ng),(81,ng),(20,BB),(81,ng),(81,ng),(81,ng),(81,ng)] ⟨cP rfl IZ,cP rfl ahB,cP rfl xm,cP rfl xm,cP rfl ajz,cP rfl xm,cP rfl xm,cP rfl xm,cP rfl xm,trivial⟩
def SU:=rG UJ [(24,g24),(19,g19)]
def avO:Gk SU Gb:=rK [(24,qD),(24,qD),(19,pE)] ⟨cP rfl IZ,cP rfl IZ,cP rfl KK,trivial⟩
def g94:=rG Xl [(23,g23),(678,ZB),(93,Sy),(66,SU)]
def afO:Gk g94 FP:=rK [(23,FN),(678,G9),(93,Gi),(66,Gb)] ⟨cP rfl ads,cP rfl asN,cP rfl anx,cP rfl avO,trivial⟩
end
def Q_:CC []=some [.i 6,.i 4,.r (yQ.map b1)]:=ahL _ _ (tF kr)
def als:FP []=some [.i 6,.i 4,.r (yQ.map b1)]:=afO _ _ (tF kr)
end
end
end Go.Proofs.YtiikkkhcolcebaaGreatDoor
