/- A part of the proof. -/
import Derived.Test.YtndegphojkiblaaGreatDoorG24
import Derived.Test.YtndegphojkiblaaGreatDoorG31
set_option linter.all false
set_option maxHeartbeats 4000000
set_option maxRecDepth 100000
namespace Go.Proofs.YtndegphojkiblaaGreatDoor
noncomputable section
section
open Go.RowKit
def L1 (iT F113:List L→Option (List L)) (t113:Nat) (ρ:List L) (acc:List (List PV)) (k:Nat) (r:List PV):Option (List (List PV)):=
 match BE r with
 |some cs=>match(sB F113 t113).run (zK [(t113,iT)]) 10 (ρ++ [.r acc,.i k]++cs)with
  |some (.jump 0 [a],ρ')=>some (a.ev ρ').az
  |_=>none
 |none=>none
def FN (iT F113:List L→Option (List L)) (t113:Nat) (ρ:List L) (gens:List (List PV)):Nat→Option (List (List PV))
 |0=>some []
 |k+1=>match FN iT F113 t113 ρ gens k,gens[gens.length-1-k]? with
  |some acc,some g=>L1 iT F113 t113 ρ acc (gens.length-1-k) g
  |_,_=>none
def Jz (tY ue iT F113:List L→Option (List L)) (t113:Nat):List L→Option (List L):=fun ls=>match ls with
 | [n,r,m,.r gens,key]=>match tY [n,r,m,.r gens]with
  | some [ok]=>if ok.bx=true then
   (if gens.length≤4611686018427387904 then match ue [.r gens]with
    |some []=> (FN iT F113 t113 [n,r,m,.r gens,key,ok,.b (!ok.bx)] gens gens.length).map fun acc=> [.r acc]
    |_=>none
   else none)else some [.r []]
  |_=>none
 |_=>none
section
variable {tY ue iT F40 F112 F113:List L→Option (List L)} {t113:Nat} (vR:∀ls o,tY ls=some o→F40 ls=some o) (OZ:∀ls o,ue ls=some o→F112 ls=some o) (CM:∀ls o,iT ls=some o→F113 ls=some o)
include CM
theorem amx {ρ:List L} {acc:List (List PV)} {k:Nat} {r:List PV} {x:List (List PV)} (h:L1 iT F113 t113 ρ acc k r=some x):uA F113 t113 ρ acc k r=some x:=by
 unfold L1 at h;unfold uA;split at h
 · rename_i cs hcs;split at h
   · rename_i a ρ' hr;have hc:nK (zK [(t113,iT)]) (sB F113 t113):=XQ (cs:=[(t113,F113)]) rfl ⟨fun g hg=>by
      have e:zK [(t113,iT)] t113=some iT:=by
       show cond (Nat.beq t113 t113) (some iT) none=some iT;rw[Nat.beq_refl];rfl
      rw[e]at hg;cases hg;exact CM,trivial⟩
     have hd:(sB F113 t113).aa (ρ++ [.r acc,.i k]++cs)=some (.jump 0 [a],ρ'):=ae.mP hc hr;simp only[hcs];rw[hd];exact h
   · cases h
 · cases h
theorem RA {ρ:List L} {gens:List (List PV)}:∀{n:Nat} {x:List (List PV)},FN iT F113 t113 ρ gens n=some x→kx F113 t113 ρ gens n=some x
 |0,x,h=>h
 |n+1,x,h=>by
  rw[FN]at h;split at h
  · rename_i acc g h1 h2;rw[kx,RA h1,h2];exact amx CM h
  · cases h
include vR OZ
theorem acw:∀ls o,Jz tY ue iT F113 t113 ls=some o→vd F40 F112 F113 t113 ls=some o:=fun ls o h=>by
 unfold Jz at h;split at h
 · rename_i n r m gens key;split at h
   · rename_i ok aO;unfold vd;simp only[vR _ _ aO];by_cases hb:ok.bx=true
     · rw [ay hb]at h⊢;by_cases hl:gens.length≤4611686018427387904
       · rw[ay hl]at h⊢;split at h
         · rename_i h12;rw[OZ _ _ h12];simp only[aT]at h⊢;obtain⟨acc,h3,h4⟩:=h;exact⟨acc,RA CM h3,h4⟩
         · cases h
       · rw[aC hl]at h;cases h
     · rw[aC hb]at h⊢;exact h
   · cases h
 · cases h
end
def X3:=rG W8 []
theorem aAc:Gk X3 EU:=rK [] trivial
def Vu:=rG Tp []
theorem jk9:Gk Vu F9:=rK [] trivial
def Xw:=rG Qm []
theorem jk7:Gk Xw F7:=rK [] trivial
def SD:=rG P1 [(7,Xw)]
theorem jk8:Gk SD F8:=rK [(7,F7)] ⟨aZ rfl jk7,trivial⟩
def Xq:=rG KT [(8,SD)]
theorem ajw:Gk Xq yG:=rK [(8,F8)] ⟨aZ rfl jk8,trivial⟩
def Tl:=rG Rj [(84,Xq)]
theorem adx:Gk Tl zZ:=rK [(84,yG)] ⟨aZ rfl ajw,trivial⟩
def RG:=rG TQ [(9,Vu),(87,Tl)]
theorem aAz:Gk RG yj:=rK [(9,F9),(87,zZ)] ⟨aZ rfl jk9,aZ rfl adx,trivial⟩
def Nw:=rG Qd []
theorem UJ:Gk Nw ua:=rK [] trivial
def B1:=rG YC []
theorem wC:Gk B1 F5:=rK [] trivial
def Q2:=rG SP [(5,B1)]
theorem aze:Gk Q2 AV:=rK [(5,F5)] ⟨aZ rfl wC,trivial⟩
def yw:=rG UN [(91,RG),(12,Nw),(11,Q2)]
theorem Ac:Gk yw lP:=rK [(91,yj),(12,ua),(11,AV)] ⟨aZ rfl aAz,aZ rfl UJ,aZ rfl aze,trivial⟩
def Xh:=rG NL []
theorem auv:Gk Xh KQ:=rK [] trivial
def Mj:List L→Option (List L):=fun ls=>match Xh ls with|some os=>if os.length=vn.iF then some []else none|none=>none
theorem ary:Gk Mj xK:=fun ls o h=>by
 unfold Mj at h;split at h
 · rename_i os lB;show(match KQ ls with|some os=>if os.length=vn.iF then some []else none|none=>none)=some o;rw[auv _ _ lB];exact h
 · cases h
def Lc:=rG Sn [(2001,Mj)]
theorem X8:Gk Lc ur:=rK [(2001,xK)] ⟨aZ rfl ary,trivial⟩
def Rm:List L→Option (List L):=qE
theorem awP:Gk Rm qE:=fun _ _ h=>h
def Qs:=rG QJ []
theorem alD:Gk Qs xL:=rK [] trivial
def YE:=rG P4 []
theorem X9:Gk YE F0:=rK [] trivial
def XI:=rG L2 [(0,YE)]
theorem jk1:Gk XI F1:=rK [(0,F0),(0,F0)] ⟨aZ rfl X9,aZ rfl X9,trivial⟩
def Zp:=rG SI [(1,XI)]
theorem jk6:Gk Zp F6:=rK [(1,F1)] ⟨aZ rfl jk1,trivial⟩
def Y':=rG IX [(6,Zp)]
theorem Un:Gk Y' tM:=rK [(6,F6)] ⟨aZ rfl jk6,trivial⟩
def ZR:=rG KE [(85,Y')]
theorem ajS:Gk ZR F106:=rK [(85,tM),(85,tM),(513,xd),(513,xd)] ⟨aZ rfl Un,aZ rfl Un,J7 rfl,J7 rfl,trivial⟩
def Qr:=rG SE [(106,ZR)]
theorem axP:Gk Qr AG:=rK [(106,F106)] ⟨aZ rfl ajS,trivial⟩
def Nk:=rG J6 [(2000,Rm),(62,Qs),(121,Qr)]
theorem D6:Gk Nk nF:=rK [(2000,qE),(62,xL),(121,AG)] ⟨aZ rfl awP,aZ rfl alD,aZ rfl axP,trivial⟩
def UY:=rG WU []
theorem arF:Gk UY Em:=rK [] trivial
def Tq:=rG Vc [(157,UY)]
theorem aza:Gk Tq Ea:=rK [(157,Em)] ⟨aZ rfl arF,trivial⟩
def Ls:=rG Zy [(160,Tq)]
theorem Wk:Gk Ls wM:=rK [(160,Ea)] ⟨aZ rfl aza,trivial⟩
def RR:=rG Ry [(161,Ls)]
theorem atK:Gk RR zO:=rK [(161,wM)] ⟨aZ rfl Wk,trivial⟩
def ZD:=rG KU [(162,RR),(161,Ls)]
theorem aiS:Gk ZD BT:=rK [(162,zO),(161,wM)] ⟨aZ rfl atK,aZ rfl Wk,trivial⟩
def K1:=rG XA [(123,Nk),(163,ZD)]
theorem XC:Gk K1 vu:=rK [(123,nF),(163,BT),(123,nF),(123,nF)] ⟨aZ rfl D6,aZ rfl aiS,aZ rfl D6,aZ rfl D6,trivial⟩
def Xe:=rG QH [(92,yw),(64,Lc),(166,K1)]
theorem acW:Gk Xe EC:=rK [(92,lP),(64,ur),(166,vu)] ⟨aZ rfl Ac,aZ rfl X8,aZ rfl XC,trivial⟩
def ZY:List L→Option (List L):=qb
theorem asl:Gk ZY qb:=fun _ _ h=>h
def I_:=rG XN [(2060,ZY),(5,B1)]
theorem S6:Gk I_ ud:=rK [(2060,qb),(5,F5)] ⟨aZ rfl asl,aZ rfl wC,trivial⟩
def Xx:=rG Yx [(92,yw),(167,Xe),(186,I_)]
theorem alx:Gk Xx C9:=rK [(92,lP),(167,EC),(186,ud)] ⟨aZ rfl Ac,aZ rfl acW,aZ rfl S6,trivial⟩
def X6:=rG Ql [(10,X3),(188,Xx)]
theorem aml:Gk X6 Ed:=rK [(10,EU),(188,C9)] ⟨aZ rfl aAc,aZ rfl alx,trivial⟩
def Nx:=rG QO [(92,yw),(64,Lc),(166,K1)]
theorem VK:Gk Nx vh:=rK [(92,lP),(64,ur),(166,vu)] ⟨aZ rfl Ac,aZ rfl X8,aZ rfl XC,trivial⟩
def Jh:=rG WI [(92,yw),(168,Nx),(186,I_)]
theorem XJ:Gk Jh vA:=rK [(92,lP),(168,vh),(186,ud)] ⟨aZ rfl Ac,aZ rfl VK,aZ rfl S6,trivial⟩
def Jg:=rG Sr [(168,Nx)]
theorem PY:Gk Jg uK:=rK [(168,vh)] ⟨aZ rfl VK,trivial⟩
def Sa:=rG QS [(5,B1),(187,Jh),(171,Jg)]
theorem aqG:Gk Sa Dv:=rK [(5,F5),(187,vA),(171,uK),(5,F5)] ⟨aZ rfl wC,aZ rfl XJ,aZ rfl PY,aZ rfl wC,trivial⟩
def Qk:=rG UD [(189,X6),(418,Sa)]
theorem ano:Gk Qk DF:=rK [(189,Ed),(418,Dv)] ⟨aZ rfl aml,aZ rfl aqG,trivial⟩
def Su:List L→Option (List L):=Qk
theorem agH:Gk Su N2:=ano
def Q9:=rG Vi []
theorem agA:Gk Q9 xq:=rK [] trivial
def Y1:=rG R8 []
theorem apd:Gk Y1 FQ:=rK [] trivial
def QE:List L→Option (List L):=Y1
theorem anx:Gk QE BU:=apd
def Rf:=rG Sb []
theorem auX:Gk Rf xR:=rK [] trivial
def Kl:=rG ZJ [(5,B1),(187,Jh),(171,Jg)]
theorem VT:Gk Kl qg:=rK [(5,F5),(187,vA),(171,uK),(5,F5)] ⟨aZ rfl wC,aZ rfl XJ,aZ rfl PY,aZ rfl wC,trivial⟩
def R6:=rG Ra []
theorem jk4:Gk R6 F4:=rK [] trivial
def QU:=rG Z4 []
theorem ait:Gk QU Bd:=rK [] trivial
def ZA:=rG Km [(83,QU)]
theorem atI:Gk ZA zr:=rK [(83,Bd)] ⟨aZ rfl ait,trivial⟩
def ZC:=rG J' [(88,ZA)]
theorem azg:Gk ZC AH:=rK [(88,zr)] ⟨aZ rfl atI,trivial⟩
def T1:=rG Tm [(123,Nk),(90,ZC)]
theorem awR:Gk T1 Ci:=rK [(123,nF),(90,AH)] ⟨aZ rfl D6,aZ rfl azg,trivial⟩
def VC:=rG Sj [(92,yw),(12,Nw),(124,T1)]
theorem amJ:Gk VC nN:=rK [(92,lP),(12,ua),(124,Ci)] ⟨aZ rfl Ac,aZ rfl UJ,aZ rfl awR,trivial⟩
def Ws:List L→Option (List L):=Jz Kl R6 VC nN 125
theorem asV:Gk Ws z8:=acw VT jk4 amJ
def XU:=rG V_ [(2002,Ws)]
theorem ahc:Gk XU yF:=rK [(2002,z8)] ⟨aZ rfl asV,trivial⟩
def Sd:=rG S7 [(192,XU)]
theorem ajy:Gk Sd uQ:=rK [(192,yF)] ⟨aZ rfl ahc,trivial⟩
def TH:=rG Zk [(190,Kl),(419,Sd)]
theorem WA:Gk TH qi:=rK [(190,qg),(419,uQ),(1200,Ad)] ⟨aZ rfl VT,aZ rfl ajy,J7 rfl,trivial⟩
def agn:=rG R' [(2050,Su),(35,Q9),(2051,QE),(14,Rf),(420,TH)]
theorem akl:Gk agn Ez:=rK [(2050,N2),(35,xq),(2051,BU),(14,xR),(420,qi),(420,qi)] ⟨aZ rfl agH,aZ rfl agA,aZ rfl anx,aZ rfl auX,aZ rfl WA,aZ rfl WA,trivial⟩
theorem arl {o:Option (List L)} (h:(match o with|some [.b true]=>true|_=>false)=true):o=some [.b true]:=by
 split at h
 · rfl
 · cases h
theorem acJ:Ez []=some [.b true]:=akl _ _ (arl kr)
end
end
end Go.Proofs.YtndegphojkiblaaGreatDoor
