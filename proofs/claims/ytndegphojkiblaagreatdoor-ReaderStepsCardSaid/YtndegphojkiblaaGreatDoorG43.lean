/- A part. -/
import Derived.Test.YtndegphojkiblaaGreatDoorG22
import Derived.Test.YtndegphojkiblaaGreatDoorG28
set_option linter.all false
set_option maxHeartbeats 4000000
set_option maxRecDepth 100000
namespace Go.Proofs.YtndegphojkiblaaGreatDoor
noncomputable section
section
open Go.RowKit
def IC(iI F113:List L->Option (List L))(t113:Nat)(ρ:List L)(acc:List (List PV))(k:Nat)(r:List PV):Option (List (List PV)):=
 match AM r with
 |some cs=>match(r_ F113 t113).run (Ad [(t113,iI)]) 10 (ρ++[.r acc,.i k]++cs)with
  |some (.jump 0 [a],ρ')=>some (a.ev ρ').bm
  |_=>none
 |none=>none
def FT(iI F113:List L->Option (List L))(t113:Nat)(ρ:List L)(gens:List (List PV)):Nat->Option (List (List PV))
 |0=>some []
 |k+1=>match FT iI F113 t113 ρ gens k,gens[gens.length-1-k]? with
  |some acc,some g=>IC iI F113 t113 ρ acc (gens.length-1-k) g
  |_,_=>none
def J3(uA uF iI F113:List L->Option (List L))(t113:Nat):List L->Option (List L):=λls=>match ls with
 |[n,r,m,.r gens,key]=>match uA [n,r,m,.r gens]with
  |some [ok]=>if ok.ck=true then
   (if gens.length<=4611686018427387904 then match uF [.r gens]with
    |some []=>(FT iI F113 t113 [n,r,m,.r gens,key,ok,.b (!ok.ck)] gens gens.length).map λacc=>[.r acc]
    |_=>none
   else none)else some [.r []]
  |_=>none
 |_=>none
section
variable{uA uF iI F40 F112 F113:List L->Option (List L)}{t113:Nat}(Pu:∀ls o,uA ls=some o->F40 ls=some o)(Pv:∀ls o,uF ls=some o->F112 ls=some o)(A_:∀ls o,iI ls=some o->F113 ls=some o)
include A_
theorem aww{ρ:List L}{acc:List (List PV)}{k:Nat}{r:List PV}{x:List (List PV)}(h:IC iI F113 t113 ρ acc k r=some x):tx F113 t113 ρ acc k r=some x:=by
 unfold IC at h;unfold tx;split at h
 .rename_i cs b;split at h
  .rename_i a ρ' d;have f:ny (Ad [(t113,iI)]) (r_ F113 t113):=X_ (cs:=[(t113,F113)]) rfl ⟨λg c=>by
    have e:Ad [(t113,iI)] t113=some iI:=by
     show cond (Nat.beq t113 t113) (some iI) none=some iI;rw[Nat.beq_refl];rfl
    rw[e]at c;cases c;exact A_,trivial⟩
   have i:(r_ F113 t113).a6 (ρ++[.r acc,.i k]++cs)=some (.jump 0 [a],ρ'):=a8.mE f d;simp only[b];rw[i];exact h
  .cases h
 .cases h
theorem VT{ρ:List L}{gens:List (List PV)}:∀{n:Nat}{x:List (List PV)},FT iI F113 t113 ρ gens n=some x->ku F113 t113 ρ gens n=some x
 |0,x,h=>h
 |n+1,x,h=>by
  rw[FT]at h;split at h
  .rename_i acc g a b;rw[ku,VT a,b];exact aww A_ h
  .cases h
include Pu Pv
theorem atF:∀ls o,J3 uA uF iI F113 t113 ls=some o->sO F40 F112 F113 t113 ls=some o:=λls o h=>by
 unfold J3 at h;split at h
 .rename_i n r m gens key;split at h
  .rename_i ok a;unfold sO;simp only[Pu _ _ a];by_cases c:ok.ck=true
   .rw [bF c]at h⊢;by_cases d:gens.length<=4611686018427387904
    .rw[bF d]at h⊢;split at h
     .rename_i b;rw[Pv _ _ b];simp only[bY]at h⊢;obtain⟨acc,e,f⟩:=h;exact⟨acc,VT A_ e,f⟩
     .cases h
    .rw[bO d]at h;cases h
   .rw[bO c]at h⊢;exact h
  .cases h
 .cases h
end
def jXc(C:dt)(s:bB):a8:=xF TT C ((Tryz.prog.funcs[s.f]?).getD default) s.fF s.params s.H
def J10:=rz 10 (jXc [] y8) []
def J9:=rz 9 ZZ []
def J7:=rz 7 (jXc [] s7) []
def J8:=rz 8 YM [J7]
def J84:=rz 84 L6 [J8]
def J87:=rz 87 T6 [J84]
def J91:=rz 91 Vz [J9,J87]
def YE:=rz 12 (jXc [] Ds) []
def J5:=rz 5 Rv []
def J11:=rz 11 YP [J5]
def zP:=rz 92 V_ [J91,YE,J11]
def XT:=rz 63 Lp []
def MP:List L->Option (List L):=λls=>match XT.g ls with|some os=>if os.length=pA.il then some []else none|none=>none
theorem agN:Gk MP zA:=λls o h=>by
 unfold MP at h;split at h
 .rename_i os a;show(match Hs ls with|some os=>if os.length=pA.il then some []else none|none=>none)=some o;rw[show Hs ls=_ from XT.h _ _ a];exact h
 .cases h
def aet:Gz:=⟨2001,MP,_,agN⟩
def XU:=rz 64 Xy [aet]
def ZW:List L->Option (List L):=qC
theorem anP:Gk ZW qC:=λ_ _ h=>h
def aha:Gz:=⟨2000,ZW,_,anP⟩
def J62:=rz 62 QS []
def J0:=rz 0 Xw []
def J1:=rz 1 NJ [J0]
def J6:=rz 6 aaN [J1]
def J85:=rz 85 If [J6]
def alu:=rz 106 Nx [J85]
def aeQ:=rz 121 UU [alu]
def Tq:=rz 123 Lz [aha,J62,aeQ]
def awO:=rz 157 (jXc [] He) []
def atI:=rz 160 (jXc [He] OK) [awO]
def aaO:=rz 161 (jXc [OK] Ft) [atI]
def asU:=rz 162 Tm [aaO]
def avY:=rz 163 OG [asU,aaO]
def Va:=rz 166 W7 [Tq,avY]
def ajX:=rz 167 (jXc [Hu,vA,Lm] Al) [zP,XU,Va]
def WG:List L->Option (List L):=qx
theorem ajs:Gk WG qx:=λ_ _ h=>h
def aoo:Gz:=⟨2060,WG,_,ajs⟩
def Xk:=rz 186 Zr [aoo,J5]
def apr:=rz 188 (jXc [Al,vA,LC] yB) [zP,ajX,Xk]
def aoU:=rz 189 (jXc [yB,y8] L7) [J10,apr]
def VQ:=rz 168 ZV [zP,XU,Va]
def RJ:=rz 187 abq [zP,VQ,Xk]
def YX:=rz 171 WC [VQ]
def adR:=rz 418 (jXc [Oa,LB,yB,s5] CM) [J5,RJ,YX]
def W_:=rz 191 (jXc [CM,Gl,L7] AJ) [aoU,adR]
def Wf:List L->Option (List L):=W_.g
theorem arG:Gk Wf alC:=W_.h
def amT:Gz:=⟨2050,Wf,_,arG⟩
def J35:=rz 35 (jXc [] Ee) []
def Tk:=rz 18 XP []
def Yo:List L->Option (List L):=Tk.g
theorem avb:Gk Yo Kf:=Tk.h
def aoM:Gz:=⟨2051,Yo,_,avb⟩
def J14:=rz 14 abi []
def MW:=rz 190 Uc [J5,RJ,YX]
def J4:=rz 4 Xp []
def J83:=rz 83 SR []
def J88:=rz 88 Nc [J83]
def J90:=rz 90 K9 [J88]
def aij:=rz 124 WZ [Tq,J90]
def aba:=rz 125 Ua [zP,YE,aij]
def Z_:List L->Option (List L):=J3 MW.g J4.g aba.g oh 125
theorem asH:Gk Z_ CD:=atF MW.h J4.h aba.h
def aov:Gz:=⟨2002,Z_,_,asH⟩
def asD:=rz 192 Yw [aov]
def adr:=rz 419 T2 [asD]
def afT:=rz 420 Oq [MW,adr]
def ajj:=rz 195 (jXc [OA,Kc,AJ,Ee,Gd,Ai,IZ] OY) [amT,J35,aoM,J14,afT]
theorem asJ{o:Option (List L)}(h:(match o with|some [.b true]=>true|_=>false)=true):o=some [.b true]:=by
 split at h
 .rfl
 .cases h
theorem abr:NT []=some [.b true]:=ajj.h _ _ (asJ kr)
end
end
end Go.Proofs.YtndegphojkiblaaGreatDoor
