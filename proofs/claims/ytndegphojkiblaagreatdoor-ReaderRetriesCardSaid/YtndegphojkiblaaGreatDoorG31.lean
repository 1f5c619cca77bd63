/- A part of the proof. -/
import Derived.Test.YtndegphojkiblaaGreatDoorG30
set_option linter.all false
set_option maxHeartbeats 4000000
set_option maxRecDepth 100000
namespace Go.Proofs.YtndegphojkiblaaGreatDoor
noncomputable section
section
open Go.RowKit AI
def GF:List Nat:=[1,0,0,0,0,1,0,0,0,0,1,0,0,0,0,1,27,28,18,20,28,27,20,18]
def g19:List L→Option (List L)
 |[.i (.ofNat a),.i (.ofNat b)]=>cond (Nat.blt a 256&&Nat.blt b 256) (some [.i (.ofNat (gm a b))]) none
 |_=>none
theorem Kp {a:Nat} (h:Nat.blt a 256=true):a<256:=Nat.le_of_ble_eq_true h
theorem J2:Gk g19 nO:=fun ls o h=>by
 unfold g19 at h;split at h
 · rename_i a b
   cases hc:Nat.blt a 256&&Nat.blt b 256 with
   |false=>rw[hc]at h;cases h
   |true=>
    rw[hc]at h;rw[bt]at hc;exact(Jj (Kp hc.1) (Kp hc.2)).trans h
 · cases h
def g20:List L→Option (List L)
 |[.i (.ofNat a)]=>cond (Nat.blt a 256) (some (ZL (xD a 255 1))) none
 |_=>none
theorem aih:Gk g20 Bm:=fun ls o h=>by
 unfold g20 at h;split at h
 · rename_i a
   cases hc:Nat.blt a 256 with
   |false=>rw[hc]at h;cases h
   |true=>
    rw[hc]at h;exact(ahq (Kp hc)).trans h
 · cases h
noncomputable section
def g22:=rG X4 []
theorem zA:Gk g22 mQ:=rK [] trivial
def g23:=rG Zt [(22,g22),(19,g19)]
theorem acz:Gk g23 E7:=rK [(22,mQ),(19,nO)] ⟨aZ rfl zA,aZ rfl J2,trivial⟩
def g24:=rG UK [(22,g22)]
theorem C4:Gk g24 mO:=rK [(22,mQ)] ⟨aZ rfl zA,trivial⟩
def YP:=rG Yz [(24,g24),(22,g22)]
theorem azX:Gk YP FM:=rK [(24,mO),(22,mQ)] ⟨aZ rfl C4,aZ rfl zA,trivial⟩
def TK:=rG Uu [(22,g22)]
theorem agl:Gk TK Db:=rK [(22,mQ)] ⟨aZ rfl zA,trivial⟩
def WW:=rG Sy [(19,g19)]
theorem wO:Gk WW lr:=rK [(19,nO)] ⟨aZ rfl J2,trivial⟩
def Rw:=rG XL [(24,g24),(65,TK),(81,WW),(20,g20)]
theorem alL:Gk Rw Ft:=rK [(24,mO),(65,Db),(81,lr),(81,lr),(20,Bm),(81,lr),(81,lr),(81,lr),(81,lr)] ⟨aZ rfl C4,aZ rfl agl,aZ rfl wO,aZ rfl wO,aZ rfl aih,aZ rfl wO,aZ rfl wO,aZ rfl wO,aZ rfl wO,trivial⟩
def R3:=rG TX [(24,g24),(19,g19)]
theorem atF:Gk R3 Fk:=rK [(24,mO),(24,mO),(19,nO)] ⟨aZ rfl C4,aZ rfl C4,aZ rfl J2,trivial⟩
def g94:=rG Wd [(23,g23),(25,YP),(93,Rw),(66,R3)]
theorem aeM:Gk g94 E8:=rK [(23,E7),(25,FM),(93,Ft),(66,Fk)] ⟨aZ rfl acz,aZ rfl azX,aZ rfl alL,aZ rfl atF,trivial⟩
end
theorem ajJ:E8 []=some [.i 6,.i 4,.r (GF.map b1)]:=aeM _ _ (Bs kr)
end
end
end Go.Proofs.YtndegphojkiblaaGreatDoor
