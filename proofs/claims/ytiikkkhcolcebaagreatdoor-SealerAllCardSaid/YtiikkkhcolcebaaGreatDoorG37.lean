/- A part. -/
import Derived.Test.YtiikkkhcolcebaaGreatDoorG36
set_option linter.all false
set_option maxHeartbeats 4000000
set_option maxRecDepth 100000
namespace Go.Proofs.YtiikkkhcolcebaaGreatDoor
noncomputable section
section
open Go.RowKit AI
def xp:List Nat:=[1,0,0,0,0,1,0,0,0,0,1,0,0,0,0,1,27,28,18,20,28,27,20,18]
def g19:List L->Option (List L)
 |[.i (.ofNat a),.i (.ofNat b)]=>cond (Nat.blt a 256&&Nat.blt b 256) (some [.i (.ofNat (gm a b))]) none
 |_=>none
theorem wo{a:Nat}(h:Nat.blt a 256=true):a<256:=ZW h
theorem IT:Gk g19 oE:=λls o h=>by
 unfold g19 at h;split at h
 .rename_i a b
  cases c:Nat.blt a 256&&Nat.blt b 256 with
  |false=>rw[c]at h;cases h
  |true=>
   rw[c]at h;rw[cu]at c;exact(H5 (wo c.1) (wo c.2)).trans h
 .cases h
def g20:List L->Option (List L)
 |[.i (.ofNat a)]=>cond (Nat.blt a 256) (some (Yp (wx a 255 1))) none
 |_=>none
theorem agA:Gk g20 zT:=λls o h=>by
 unfold g20 at h;split at h
 .rename_i a
  cases b:Nat.blt a 256 with
  |false=>rw[b]at h;cases h
  |true=>
   rw[b]at h;exact(afF (wo b)).trans h
 .cases h
def AV:List L->Option (List L)
 |[.i (.ofNat a),.i (.ofNat b)]=>cond (Nat.blt a 256&&Nat.blt b 256) (some [.i (.ofNat (pm 9 b 0 a))]) none
 |_=>none
theorem Nu:Gk AV qO:=λls o h=>by
 unfold AV at h;split at h
 .rename_i a b
  cases c:Nat.blt a 256&&Nat.blt b 256 with
  |false=>rw[c]at h;cases h
  |true=>
   rw[c]at h;rw[cu]at c;exact(aAa (wo c.1) (wo c.2)).trans h
 .cases h
def Xx:List L->Option (List L):=C2
theorem akf:Gk Xx C2:=λ_ _ h=>h
noncomputable section
def zV:=rG Xq []
theorem xK:Gk zV l7:=rK [] trivial
def DA:=rG QY []
theorem Ig:Gk DA sD:=rK [] trivial
def vO:=rG Pp []
theorem nT:Gk vO gQ:=rK [] trivial
def Ll:=rG Wx []
theorem UQ:Gk Ll qR:=rK [] trivial
def RU:=rG QW []
theorem aoY:Gk RU Bz:=rK [] trivial
def Yf:=rG Ur [(300,Ll),(342,RU)]
theorem afC:Gk Yf DI:=rK [(300,qR),(342,Bz)] ⟨cH rfl UQ,cH rfl aoY,trivial⟩
def Vc:=rG WC [(306,zV),(303,DA),(341,vO),(343,Yf)]
theorem alC:Gk Vc D9:=rK [(306,l7),(306,l7),(303,sD),(341,gQ),(343,DI)] ⟨cH rfl xK,cH rfl xK,cH rfl Ig,cH rfl nT,cH rfl afC,trivial⟩
def DJ:=rG XS [(306,zV)]
theorem zW:Gk DJ mX:=rK [(306,l7),(306,l7)] ⟨cH rfl xK,cH rfl xK,trivial⟩
def Tk:=rG WD []
theorem ati:Gk Tk D6:=rK [] trivial
def Ww:=rG Po [(307,DJ),(306,zV),(340,Tk)]
theorem Tm:Gk Ww vp:=rK [(307,mX),(306,l7),(340,D6)] ⟨cH rfl zW,cH rfl xK,cH rfl ati,trivial⟩
def SU:=rG Uj [(306,zV),(303,DA),(341,vO)]
theorem aoh:Gk SU FK:=rK [(306,l7),(303,sD),(341,gQ)] ⟨cH rfl xK,cH rfl Ig,cH rfl nT,trivial⟩
def Ko:=rG WN []
theorem Dh:Gk Ko mZ:=rK [] trivial
def Xe:=rG WG [(300,Ll)]
theorem aui:Gk Xe Ej:=rK [(300,qR)] ⟨cH rfl UQ,trivial⟩
def Qb:=rG U' [(341,vO)]
theorem YC:Gk Qb vA:=rK [(341,gQ),(341,gQ)] ⟨cH rfl nT,cH rfl nT,trivial⟩
def R_:=rG TW [(302,AV)]
theorem T3:Gk R_ w2:=rK [(302,qO)] ⟨cH rfl Nu,trivial⟩
def Up:=rG Xu [(302,AV)]
theorem OX:Gk Up xE:=rK [(302,qO)] ⟨cH rfl Nu,trivial⟩
def PJ:=rG S8 [(307,DJ),(2010,Xx),(344,SU),(304,Ko),(305,Xe),(359,Qb),(341,vO),(367,R_),(380,Up)]
theorem agX:Gk PJ Cp:=rK [(307,mX),(2010,C2),(344,FK),(304,mZ),(305,Ej),(359,vA),(359,vA),(341,gQ),(367,w2),(341,gQ),(367,w2),(304,mZ),(341,gQ),(341,gQ),(380,xE),(341,gQ),(341,gQ),(380,xE)] ⟨cH rfl zW,cH rfl akf,cH rfl aoh,cH rfl Dh,cH rfl aui,cH rfl YC,cH rfl YC,cH rfl nT,cH rfl T3,cH rfl nT,cH rfl T3,cH rfl Dh,cH rfl nT,cH rfl nT,cH rfl OX,cH rfl nT,cH rfl nT,cH rfl OX,trivial⟩
def SX:=rG SG [(307,DJ),(303,DA),(341,vO),(304,Ko),(302,AV)]
theorem avT:Gk SX DN:=rK [(307,mX),(307,mX),(303,sD),(341,gQ),(304,mZ),(304,mZ),(302,qO)] ⟨cH rfl zW,cH rfl zW,cH rfl Ig,cH rfl nT,cH rfl Dh,cH rfl Dh,cH rfl Nu,trivial⟩
def asU:=rG VC [(345,Vc),(347,Ww),(384,PJ),(346,SX)]
theorem aeK:Gk asU FP:=rK [(345,D9),(347,vp),(384,Cp),(346,DN)] ⟨cH rfl alC,cH rfl Tm,cH rfl agX,cH rfl avT,trivial⟩
def g22:=rG Wv []
theorem vu:Gk g22 lR:=rK [] trivial
def g23:=rG X_ [(22,g22),(19,g19)]
theorem aan:Gk g23 DM:=rK [(22,lR),(19,oE)] ⟨cH rfl vu,cH rfl IT,trivial⟩
def g24:=rG TA [(22,g22)]
theorem GZ:Gk g24 pB:=rK [(22,lR)] ⟨cH rfl vu,trivial⟩
def Yc:=rG SS [(22,g22)]
theorem ayW:Gk Yc CB:=rK [(22,lR)] ⟨cH rfl vu,trivial⟩
def Xp:=rG YG [(677,Yc),(22,g22)]
theorem apx:Gk Xp EU:=rK [(677,CB),(22,lR)] ⟨cH rfl ayW,cH rfl vu,trivial⟩
def Sf:=rG Th [(22,g22)]
theorem aez:Gk Sf BK:=rK [(22,lR)] ⟨cH rfl vu,trivial⟩
def VD:=rG Q4 [(19,g19)]
theorem vD:Gk VD l8:=rK [(19,oE)] ⟨cH rfl IT,trivial⟩
def Qh:=rG Wc [(24,g24),(65,Sf),(81,VD),(20,g20)]
theorem aku:Gk Qh D_:=rK [(24,pB),(65,BK),(81,l8),(81,l8),(20,zT),(81,l8),(81,l8),(81,l8),(81,l8)] ⟨cH rfl GZ,cH rfl aez,cH rfl vD,cH rfl vD,cH rfl agA,cH rfl vD,cH rfl vD,cH rfl vD,cH rfl vD,trivial⟩
def Qy:=rG Sv [(24,g24),(19,g19)]
theorem asq:Gk Qy D4:=rK [(24,pB),(24,pB),(19,oE)] ⟨cH rfl GZ,cH rfl GZ,cH rfl IT,trivial⟩
def g94:=rG UU [(23,g23),(678,Xp),(93,Qh),(66,Qy)]
theorem acI:Gk g94 DO:=rK [(23,DM),(678,EU),(93,D_),(66,D4)] ⟨cH rfl aan,cH rfl apx,cH rfl aku,cH rfl asq,trivial⟩
end
theorem abg:FP []=some [.i 6,.i 4,.r (xp.map b1)]:=aeK _ _ (sb kr)
theorem ait:DO []=some [.i 6,.i 4,.r (xp.map b1)]:=acI _ _ (sb kr)
end
end
end Go.Proofs.YtiikkkhcolcebaaGreatDoor
