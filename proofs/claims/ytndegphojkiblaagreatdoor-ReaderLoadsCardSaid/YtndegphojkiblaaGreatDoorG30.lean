/- Towards the last file's theorem: part 30. -/
import Derived.Test.YtndegphojkiblaaGreatDoorG29
set_option linter.all false
set_option maxHeartbeats 4000000
set_option maxRecDepth 100000
namespace Go.Proofs.YtndegphojkiblaaGreatDoor
noncomputable section
section
open Go.RowKit AI
def iE:List Nat:=[1,0,0,0,0,1,0,0,0,0,1,0,0,0,0,1,27,28,18,20,28,27,20,18]
def afJ:List (List Nat×List Nat):=[([0,1,2,3],[1,0,0,0,0,1,0,0,0,0,1,0,0,0,0,1,27,28,18,20,28,27,20,18]),
 ([0,1,2,4],[1,0,0,0,0,1,0,0,0,0,1,0,200,82,123,224,0,0,0,1,141,246,1,123]),
 ([0,1,2,5],[1,0,0,0,0,1,0,0,0,0,1,0,245,143,187,192,3,2,187,187,0,0,0,1]),
 ([0,1,3,4],[1,0,0,0,0,1,0,0,143,245,187,192,0,0,1,0,0,0,0,1,2,3,187,187]),
 ([0,1,3,5],[1,0,0,0,0,1,0,0,82,200,123,224,0,0,1,0,246,141,1,123,0,0,0,1]),
 ([0,1,4,5],[1,0,0,0,0,1,0,0,141,246,123,1,246,141,1,123,0,0,1,0,0,0,0,1]),
 ([0,2,3,4],[1,0,0,0,70,143,104,160,0,1,0,0,0,0,1,0,0,0,0,1,200,140,3,70]),
 ([0,2,3,5],[1,0,0,0,166,210,245,128,0,1,0,0,0,0,1,0,82,2,247,166,0,0,0,1]),
 ([0,2,4,5],[1,0,0,0,143,211,142,211,0,1,0,0,179,143,201,244,0,0,1,0,0,0,0,1]),
 ([0,3,4,5],[1,0,0,0,245,105,105,244,41,245,142,83,0,1,0,0,0,0,1,0,0,0,0,1]),
 ([1,2,3,4],[166,245,210,128,1,0,0,0,0,1,0,0,0,0,1,0,0,0,0,1,82,247,2,166]),
 ([1,2,3,5],[70,104,143,160,1,0,0,0,0,1,0,0,0,0,1,0,200,3,140,70,0,0,0,1]),
 ([1,2,4,5],[245,105,244,105,1,0,0,0,0,1,0,0,41,245,83,142,0,0,1,0,0,0,0,1]),
 ([1,3,4,5],[143,211,211,142,1,0,0,0,179,143,244,201,0,1,0,0,0,0,1,0,0,0,0,1]),
 ([2,3,4,5],[208,107,104,210,107,208,210,104,1,0,0,0,0,1,0,0,0,0,1,0,0,0,0,1])]
def kv:List (List Nat):=afJ.map (·.1)
def HT:List (List Nat):=[[0,1,2,3],[0,1,2,4],[0,1,3,4],[0,2,3,4],[1,2,3,4],[0,1,2,3,4],[0,1,2,5],[0,1,3,5],[0,2,3,5],[1,2,3,5],[0,1,2,3,5],[0,1,4,5],[0,2,4,5],[1,2,4,5],[0,1,2,4,5],[0,3,4,5],[1,3,4,5],[0,1,3,4,5],[2,3,4,5],[0,2,3,4,5],[1,2,3,4,5],[0,1,2,3,4,5]]
def xq:List Nat:=[0,1,2,3,18,20,27,28,41,70,82,83,104,105,107,123,128,140,141,142,143,160,166,179,187,192,200,201,208,210,211,224,244,245,246,247]
def jn (q:List Nat):List Nat:=(afJ.lookup q).getD []
def gl (q:List Nat):List Nat:=(jn q).take 16
def partOf (q:List Nat):List Nat:=q.flatMap fun i=> (iE.drop (4*i)).take 4
def g19:List L→Option (List L)
 |[.i (.ofNat a),.i (.ofNat b)]=>cond (Nat.blt a 256&&Nat.blt b 256) (some [.i (.ofNat (gm a b))]) none
 |_=>none
theorem AT {a:Nat} (h:Nat.blt a 256=true):a<256:=IZ h
theorem Q0:Gk g19 my:=fun ls o h=>by
 unfold g19 at h;split at h
 · rename_i a b
   cases hc:Nat.blt a 256&&Nat.blt b 256 with
   |false=>rw[hc]at h;cases h
   |true=>
    rw[hc]at h;rw[bt]at hc;exact(Rg (AT hc.1) (AT hc.2)).trans h
 · cases h
def g20:List L→Option (List L)
 |[.i (.ofNat a)]=>cond (Nat.blt a 256) (some (P0 (xC a 255 1))) none
 |_=>none
theorem aoO:Gk g20 BR:=fun ls o h=>by
 unfold g20 at h;split at h
 · rename_i a
   cases hc:Nat.blt a 256 with
   |false=>rw[hc]at h;cases h
   |true=>
    rw[hc]at h;exact(aou (AT hc)).trans h
 · cases h
def Cb:List L→Option (List L)
 |[.i (.ofNat a),.i (.ofNat b)]=>cond (Nat.blt a 256&&Nat.blt b 256) (some [.i (.ofNat (pm 9 b 0 a))]) none
 |_=>none
theorem Ma:Gk Cb qI:=fun ls o h=>by
 unfold Cb at h;split at h
 · rename_i a b
   cases hc:Nat.blt a 256&&Nat.blt b 256 with
   |false=>rw[hc]at h;cases h
   |true=>
    rw[hc]at h;rw[bt]at hc;exact(aqI (AT hc.1) (AT hc.2)).trans h
 · cases h
def W8:List L→Option (List L):=qT
theorem aqf:Gk W8 qT:=fun _ _ h=>h
noncomputable section
def Ac:=rG V9 []
theorem sF:Gk Ac jW:=rK [] trivial
def G9:=rG abE []
theorem JA:Gk G9 tG:=rK [] trivial
def xm:=rG TB []
theorem oy:Gk xm fQ:=rK [] trivial
def NF:=rG Zu []
theorem abp:Gk NF qi:=rK [] trivial
def acK:=rG VG []
theorem aox:Gk acK D4:=rK [] trivial
def Wa:=rG XD [(300,NF),(342,acK)]
theorem aCr:Gk Wa EP:=rK [(300,qi),(342,D4)] ⟨aG rfl abp,aG rfl aox,trivial⟩
def aaS:=rG aaz [(306,Ac),(303,G9),(341,xm),(343,Wa)]
theorem azZ:Gk aaS EX:=rK [(306,jW),(306,jW),(303,tG),(341,fQ),(343,EP)] ⟨aG rfl sF,aG rfl sF,aG rfl JA,aG rfl oy,aG rfl aCr,trivial⟩
def HI:=rG L3 [(306,Ac)]
theorem Hs:Gk HI nu:=rK [(306,jW),(306,jW)] ⟨aG rfl sF,aG rfl sF,trivial⟩
def afY:=rG Y6 []
theorem aos:Gk afY Hu:=rK [] trivial
def Jp:=rG WQ [(307,HI),(306,Ac),(340,afY)]
theorem Wk:Gk Jp wV:=rK [(307,nu),(306,jW),(340,Hu)] ⟨aG rfl Hs,aG rfl sF,aG rfl aos,trivial⟩
def XX:=rG Vd [(306,Ac),(303,G9),(341,xm)]
theorem amm:Gk XX Hw:=rK [(306,jW),(303,tG),(341,fQ)] ⟨aG rfl sF,aG rfl JA,aG rfl oy,trivial⟩
def OC:=rG NA []
theorem Hx:Gk OC nE:=rK [] trivial
def aeT:=rG Xh [(300,NF)]
theorem amL:Gk aeT FD:=rK [(300,qi)] ⟨aG rfl abp,trivial⟩
def adW:=rG abH [(341,xm)]
theorem agI:Gk adW xH:=rK [(341,fQ),(341,fQ)] ⟨aG rfl oy,aG rfl oy,trivial⟩
def acv:=rG aeP [(302,Cb)]
theorem acS:Gk acv xx:=rK [(302,qI)] ⟨aG rfl Ma,trivial⟩
def afT:=rG Vr [(302,Cb)]
theorem T3:Gk afT ya:=rK [(302,qI)] ⟨aG rfl Ma,trivial⟩
def Oy:=rG aal [(307,HI),(2010,W8),(344,XX),(304,OC),(305,aeT),(359,adW),(341,xm),(367,acv),(380,afT)]
theorem aeB:Gk Oy xJ:=rK [(307,nu),(2010,qT),(344,Hw),(304,nE),(305,FD),(359,xH),(359,xH),(341,fQ),(367,xx),(341,fQ),(367,xx),(304,nE),(341,fQ),(341,fQ),(380,ya),(341,fQ),(341,fQ),(380,ya)] ⟨aG rfl Hs,aG rfl aqf,aG rfl amm,aG rfl Hx,aG rfl amL,aG rfl agI,aG rfl agI,aG rfl oy,aG rfl acS,aG rfl oy,aG rfl acS,aG rfl Hx,aG rfl oy,aG rfl oy,aG rfl T3,aG rfl oy,aG rfl oy,aG rfl T3,trivial⟩
def N9:=rG afZ [(307,HI),(303,G9),(341,xm),(304,OC),(302,Cb)]
theorem Zq:Gk N9 yp:=rK [(307,nu),(307,nu),(303,tG),(341,fQ),(304,nE),(304,nE),(302,qI)] ⟨aG rfl Hs,aG rfl Hs,aG rfl JA,aG rfl oy,aG rfl Hx,aG rfl Hx,aG rfl Ma,trivial⟩
def aBp:=rG aeA [(345,aaS),(347,Jp),(384,Oy),(346,N9)]
theorem anX:Gk aBp E7:=rK [(345,EX),(347,wV),(384,xJ),(346,yp)] ⟨aG rfl azZ,aG rfl Wk,aG rfl aeB,aG rfl Zq,trivial⟩
def g22:=rG Lg []
theorem uu:Gk g22 js:=rK [] trivial
def g23:=rG abK [(22,g22),(19,g19)]
theorem aqX:Gk g23 Fp:=rK [(22,js),(19,my)] ⟨aG rfl uu,aG rfl Q0,trivial⟩
def g24:=rG GU [(22,g22)]
theorem Ch:Gk g24 jw:=rK [(22,js)] ⟨aG rfl uu,trivial⟩
def UU:=rG aaY [(24,g24),(22,g22)]
theorem amX:Gk UU HN:=rK [(24,jw),(22,js)] ⟨aG rfl Ch,aG rfl uu,trivial⟩
def g65:=rG Zd [(22,g22)]
theorem aGd:Gk g65 EA:=rK [(22,js)] ⟨aG rfl uu,trivial⟩
def YZ:=rG UL [(19,g19)]
theorem xT:Gk YZ kX:=rK [(19,my)] ⟨aG rfl Q0,trivial⟩
def Ld:=rG aaR [(24,g24),(65,g65),(81,YZ),(20,g20)]
theorem aco:Gk Ld xR:=rK [(24,jw),(65,EA),(81,kX),(81,kX),(20,BR),(81,kX),(81,kX),(81,kX),(81,kX)] ⟨aG rfl Ch,aG rfl aGd,aG rfl xT,aG rfl xT,aG rfl aoO,aG rfl xT,aG rfl xT,aG rfl xT,aG rfl xT,trivial⟩
def g66:=rG U' [(24,g24),(19,g19)]
theorem ana:Gk g66 ET:=rK [(24,jw),(24,jw),(19,my)] ⟨aG rfl Ch,aG rfl Ch,aG rfl Q0,trivial⟩
def g94:=rG ZI [(23,g23),(25,UU),(93,Ld),(66,g66)]
theorem aoY:Gk g94 vW:=rK [(23,Fp),(25,HN),(93,xR),(66,ET)] ⟨aG rfl aqX,aG rfl amX,aG rfl aco,aG rfl ana,trivial⟩
def adm:=rG adL [(24,g24),(22,g22)]
theorem aEc:Gk adm G7:=rK [(24,jw),(22,js)] ⟨aG rfl Ch,aG rfl uu,trivial⟩
end
theorem aqw:E7 []=some [.i 6,.i 4,.r (iE.map b1)]:=anX _ _ (nC kr)
theorem KT:vW []=some [.i 6,.i 4,.r (iE.map b1)]:=aoY _ _ (nC kr)
theorem asV:kv.all (fun q=>mz (Jp [.i 6,.i 4,.r (iE.map b1),.r (q.map kR)]) [.i 0,.i 4,.i 4,.r ((partOf q).map b1)])=true:=kr
theorem anw:HT.all (fun p=>mz (adm [.i 6,.i 4,.r (iE.map b1),.r (p.map kR),.i 0,.i 4]) [.i 0,.i 4,.i 4,.r ((partOf (p.take 4)).map b1)])=true:=kr
noncomputable def mP (q:List Nat):Bool:=mz (Oy [.i 4,.i 4,.r ((partOf q).map b1)]) [.i 0,.i 4,.r ((gl q).map b1)]
noncomputable def mM (q:List Nat):Bool:=mz (N9 [.i 6,.i 4,.r (iE.map b1),.i 4,.i 4,.r ((gl q).map b1)]) [.i 0,.i 6,.i 4,.r ((jn q).map b1)]
noncomputable def mR (q:List Nat):Bool:=mz (Ld [.i 4,.i 4,.r ((partOf q).map b1)]) [.i 0,.i 4,.r ((gl q).map b1)]
end
end
end Go.Proofs.YtndegphojkiblaaGreatDoor
