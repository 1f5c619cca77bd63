/- A part. -/
import Derived.Test.YtndegphojkiblaaGreatDoorG12
import Derived.Test.YtndegphojkiblaaGreatDoorG13
import Derived.Test.YtndegphojkiblaaGreatDoorG14
import Derived.Test.YtndegphojkiblaaGreatDoorG15
import Derived.Test.YtndegphojkiblaaGreatDoorG18
import Derived.Test.YtndegphojkiblaaGreatDoorG19
import Derived.Test.YtndegphojkiblaaGreatDoorG20
import Derived.Test.YtndegphojkiblaaGreatDoorG21
import Derived.WalkKit
import Derived.Shelf.SlSortCmp.NoneTotal
import Derived.Shelf.SlicesG.Cmp
import Derived.Test.YtndegphojkiblaaGreatDoorProg
set_option linter.all false
set_option maxHeartbeats 4000000
set_option maxRecDepth 100000
namespace Go.Proofs.YtndegphojkiblaaGreatDoor
noncomputable section
section
open Go.RowKit
open Classical
theorem avt(i)(h:i<255):iZ i=true:=by
 have e:i=15*(i/15)+i%15:=om;have d:i/15<17:=om;have c:i%15∈List.range 15:=jZ.2 om;rw[e];generalize i%15=b at c;generalize i/15=a at d
 match a,d with
 |0,_=>exact cj.1 ari b c
 |1,_=>exact cj.1 amG b c
 |2,_=>exact cj.1 ajo b c
 |3,_=>exact cj.1 atL b c
 |4,_=>exact cj.1 asz b c
 |5,_=>exact cj.1 akW b c
 |6,_=>exact cj.1 aql b c
 |7,_=>exact cj.1 amw b c
 |8,_=>exact cj.1 afR b c
 |9,_=>exact cj.1 akr b c
 |10,_=>exact cj.1 apC b c
 |11,_=>exact cj.1 aul b c
 |12,_=>exact cj.1 agW b c
 |13,_=>exact cj.1 alT b c
 |14,_=>exact cj.1 aot b c
 |15,_=>exact cj.1 aeY b c
 |16,_=>exact cj.1 adM b c
 |a+17,h=>omega
theorem Zw{e c S S'}(h:Fm e c S S'=true)(l:S.bt=[])(m:S.nv=0){X}(b:X.P=Tryz.prog)(d:X.k0=0):
 Aw X c (λf st=>f=(if e then .exit 0 else .normal)/\st=S'.a6 []) (S.a6 []):=by
 unfold Fm at h;split at h
 .rename_i n g;simp only[cd,o_,adk]at h;obtain⟨⟨i,a⟩,j⟩:=h;refine uw (lB (piece (C:=[]) .nil g l (ρ:=[]) m.symm rfl b d).2.2 ?_);rintro f st ⟨rfl,rfl⟩;exact⟨_,(yD (D:=[]) (ρ:=[]) (ys:=[]) gf rfl (λz k=>by cases k) j a).2.2 X b d,by rw[i];rfl,rfl⟩
 .rename_i n g;simp only[cd,adk]at h;obtain⟨⟨i,a⟩,j⟩:=h;refine uw (lB (piece (C:=[]) .nil g l (ρ:=[]) m.symm rfl b d).2.2 ?_);rintro f st ⟨rfl,rfl⟩;exact⟨_,(yD (D:=[]) (ρ:=[]) (ys:=[]) gf rfl (λz k=>by cases k) j a).2.2 X b d,by rw[i];rfl,rfl⟩
 .cases h
theorem apn:Fm true Di (nA 255) (nA 255)=true:=kr
theorem aaT{X}(a:X.P=Tryz.prog)(b:X.k0=0){Q}(c:Q (.exit 0) ((nA 255).a6 [])):∀k i,i+k=255->rj X Di (k+1) Q ((nA i).a6 [])
 |0,i,h=>by
  obtain rfl:i=255:=om;refine lB (Zw apn rfl rfl a b) ?_;rintro e st ⟨rfl,rfl⟩;exact c
 |k+1,i,h=>by
  refine lB (Zw (avt i om) rfl rfl a b) ?_;rintro e st ⟨rfl,rfl⟩;exact aaT a b c k (i+1) om
def K6:bp:=rF 29 0 [] []
def Ew:bp:=nx false (er TT [] (jI 0) false K6)
def DG:bp:=nx false (er TT [] (jI 1) false Ew)
def WX:bp:=nx false (er TT [] (jI 2) false DG)
def JB:bp:=nx false (er TT [] (jI 11) true (nA 255))
theorem agQ:er TT [] (jI 0) false K6=some (.br (.st .normal Ew)):=kr
theorem ajF:er TT [] (jI 1) false Ew=some (.br (.st .normal DG)):=kr
theorem ajw:er TT [] (jI 2) false DG=some (.br (.st .normal WX)):=kr
theorem alN:er TT [] (jI 11) true (nA 255)=some (.br (.st .normal JB)):=kr
theorem afF:uy [] TT 0 WX (nA 0) 0 [] [(0,0),(8,1)] []=true:=kr
def Na:SV:=.bq [.agg (Dl 255++Dl 255),.agg (WE 255)]
theorem aky{X}(a:X.P=Tryz.prog)(c:X.k0=0){r}(d:rQ Tryz.prog [.cell 0 436,.cell 1 437] (JB.a6 [])=some r):Aw X YU (LS Tryz.prog [.cell 0 436,.cell 1 437] r []) (nk 29 [] []):=by
 refine gg (lB (piece (C:=[]) .nil (k0:=0) (n:=0) (r:=0) (ex:=[]) (show exec TT _ 0 (.region 0 (jI 0) false) 0 [] 0 K6=_ from agQ) kr (ρ:=[]) kr rfl a c).2.2 ?_);rintro e st ⟨rfl,rfl⟩;refine gg (lB (piece (C:=[]) .nil (k0:=0) (n:=0) (r:=0) (ex:=[]) (show exec TT _ 0 (.region 1 (jI 1) false) 0 [] 0 Ew=_ from ajF) kr (ρ:=[]) kr rfl a c).2.2 ?_);rintro e st ⟨rfl,rfl⟩;refine gg (gg (lB (piece (C:=[]) .nil (k0:=0) (n:=0) (r:=0) (ex:=[]) (show exec TT _ 0 (.region 2 (jI 2) false) 0 [] 0 DG=_ from ajw) kr (ρ:=[]) kr rfl a c).2.2 ?_));rintro e st ⟨rfl,rfl⟩;refine aau (Wt (n:=256) (abG (st':=(nA 0).a6 []) ?_ (aaT a c ?_ 255 0 rfl)))
 .exact(yD (D:=[]) (ρ:=[]) (ys:=[]) gf rfl (λz f=>by cases f) afF kr).2.2 X a c
 .refine gg (lB (piece (C:=[]) .nil (k0:=0) (n:=0) (r:=0) (ex:=[]) (show exec TT _ 0 (.region 11 (jI 11) true) 0 [] 0 (nA 255)=_ from alN) rfl (ρ:=[]) rfl rfl a c).2.2 ?_);rintro e st ⟨rfl,rfl⟩;exact tB ⟨trivial,d,λn b h=>by cases h⟩
theorem agT:rQ Tryz.prog [.cell 0 436,.cell 1 437] (JB.a6 [])=some (Na.a6 []):=kr
theorem aol(F)(tag):bB.ok Tryz.prog ⟨333,[],[],0,0,Na,[],F,tag⟩:=by
 intro ls os d e a;exact fg.intro (H:=[]) Tryz.func333 kr aml (n:=29) kr (rs:=[.cell 0 436,.cell 1 437]) kr λX b c=>aky b c agT
def Ah:List At:=(la++la).map λx=>.i (x:Nat)
def wD:List At:=vH.map λn=>.i ((cond (Nat.blt n 255) n 0:Nat))
end
section
attribute [local irreducible] Fo
open Go.RowKit
def V5:a8:=.j []
def vD:=Fo V5
def AD:bB:=⟨333,[],[],0,0,Na,[],vD,300⟩
theorem aom:AD.ok Tryz.prog:=aol vD 300
instance:Ok AD:=⟨aom⟩
def awq:a8:=.ln U0<|.ln U1<|.bI .neq U3 U4<|.ite U5 (.j [.i 1,.r0]) (.cA 300 vD [] 0<|.op (.app .r0 U0 1 1)<|.join (.ln U1<|.loop [.i 0,U6] (.bI .lss U8 U7<|.ite bA (.join (.rw U1 U8 1<|.cl bD 0 (.int .u8)<|.join (.op (.bi .neq .u8 U2 (.i 0))<|.ite bH (.op (.bi .neq .u8 bJ (.i 0))<|.j [bM]) (.j [.b false])) (.ite bH (.rw U9 U8 1<|.op (.rc U9 U8 0 (.int .u8))<|.op (.ed U2 256)<|.op (.fw wD U2)<|.op (.ed bJ 256)<|.op (.fw wD bJ)<|.bI .add bV bR<|.op (.ed bW 510)<|.op (.fw Ah bW)<|.op (.bi .xor .u8 bL bX)<|.rw U9 U8 1<|.op (.set U9 U8 0 [((.int .u8),b9)])<|.j [cq]) (.j [U9]))) (.bI .add U8 (.i 1)<|.j [bJ,bD])) (.br (.jump 1 [U9])))) (.j [.i 0,U7]))
def OB:=Fo awq
def QX:bB:=⟨326,[cs 0,cs 1,.c (.p (.int .u8) U2)],[],3,2,.bq [.c (.own 0),ci 3],[(0,(.row 5 U4))],OB,301⟩
instance:Ok QX:=oS [AD]
def aro:a8:=.op (.conv .i64 U0)<|.join (.loop [U1,.i 0,U2] (.op (.bi .neq .u8 U3 (.i 0))<|.ite U6 (.join (.join (.op (.bi .and .u8 U3 (.i 1))<|.op (.bi .eql .u8 U7 (.i 1))<|.ite U8 (.bI .xor U4 U5<|.j [U9]) (.j [U4])) (.bI .shl U5 (.i 1)<|.bI .shr U8 (.i 8)<|.bI .eql U9 (.i 1)<|.ite bA (.bI .xor U8 (.i 285)<|.j [U7,bD]) (.j [U7,U8]))) (.op (.bi .shr .u8 U3 (.i 1))<|.j [U9,U7,U8])) (.br (.jump 1 [U4])))) (.op (.conv .u8 U3)<|.j [U4])
def vT:=Fo aro
def Cj:bB:=⟨325,[.c (.p (.int .u8) U0),.c (.p (.int .u8) U1)],[],2,1,.v (.c (.p (.int .u8) U2)),[],vT,302⟩
instance:Ok Cj:=oS []
def Sa:a8:=.bI .mul U0 U1<|.op (.f_ U2 [((.int .u8),(.i 0))] 1)<|.j [U3]
def FB:=Fo Sa
def Cz:bB:=⟨324,[ci 0,ci 1],[],2,1,.v (.agg [pi 0,pi 1,.own 0]),[(0,(.row 5 U2))],FB,303⟩
instance:Ok Cz:=oS []
def Yl:a8:=.bI .mul U3 U1<|.bI .add U5 U4<|.rw U2 U6 1<|.cl U7 0 (.int .u8)<|.j [U8]
def tZ:=Fo Yl
def Ct:bB:=⟨320,[.agg [pi 0,pi 1,ps 2],ci 3,ci 4],[],5,1,.v (.c (.p (.int .u8) U5)),[],tZ,304⟩
instance:Ok Ct:=oS []
def Xt:a8:=.op (.bi .eql .u8 U0 (.i 0))<|.ite U1 (.j [.i 0,.i 1]) (.cA 300 vD [] 0<|.op (.ed U0 256)<|.op (.fw wD U0)<|.bI .sub (.i 255) U2<|.op (.ed U3 510)<|.op (.fw Ah U3)<|.j [U4,.i 0])
def QF:=Fo Xt
def VA:bB:=⟨319,[.c (.p (.int .u8) U0)],[],1,2,.bq [.c (.p (.int .u8) U1),ci 2],[],QF,305⟩
instance:Ok VA:=oS [AD]
def TI:a8:=.join (.bI .geq U0 (.i 1)<|.ite U1 (.bI .leq U0 (.i 16)<|.j [U2]) (.j [.b false])) (.j [U1])
def pB:=Fo TI
def zg:bB:=⟨316,[ci 0],[],1,1,.v (.c (.p .bool U1)),[],pB,306⟩
instance:Ok zg:=oS []
def Rl:a8:=.join (.cA 306 pB [U0] 1<|.ite U3 (.cA 306 pB [U1] 1<|.ite U4 (.ln U2<|.bI .mul U0 U1<|.bI .eql U5 U6<|.j [U7]) (.j [.b false])) (.j [.b false])) (.j [U3])
def tm:=Fo Rl
def yY:bB:=⟨315,[.agg [pi 0,pi 1,ps 2]],[],3,1,.v (.c (.p .bool U3)),[],tm,307⟩
instance:Ok yY:=oS [zg]
def ate:a8:=.join (.cA 307 tm [U0,U1,U2] 1<|.no U4<|.ite U5 (.j [.b true]) (.ln U3<|.bI .neq U6 U1<|.j [U7])) (.ite U4 (.j [.i 1,.r0]) (.join (.ln U3<|.loop [.i 0] (.bI .lss U6 U5<|.ite U7 (.rw U3 U6 1<|.cl U8 0 .sl<|.ln U9<|.rw U3 (.i 0) 1<|.cl bD 0 .sl<|.ln bJ<|.bI .neq bA bH<|.ite bM (.br (.jump 2 [.i 1,.r0])) (.bI .add U6 (.i 1)<|.j [bL])) (.br (.jump 1 [])))) (.op (.f_ U0 [(.sl,.r0)] 24)<|.join (.ln U5<|.loop [.i 0,U5] (.bI .lss U7 U6<|.ite U9 (.join (.rw U3 (.i 0) 1<|.cl bA 0 .sl<|.ln bD<|.op (.f_ bJ [((.int .u8),(.i 0))] 1)<|.rw U8 U7 1<|.op (.set U8 U7 0 [(.sl,bH)])<|.ln U3<|.loop [.i 0,bL] (.bI .lss bR bV<|.ite bX (.rw U3 bR 1<|.cl b9 0 .sl<|.rw bW U7 1<|.op (.rc bW U7 0 .sl)<|.cA 304 tZ [U0,U1,U2,U7,bR] 1<|.cA 301 OB [cv,cu,cX] 2<|.rw bW U7 1<|.op (.set bW U7 0 [(.sl,cK)])<|.bI .add bR (.i 1)<|.j [dI,dJ]) (.br (.jump 1 [bW])))) (.bI .add U7 (.i 1)<|.j [bD,bA])) (.br (.jump 1 [U8])))) (.j [.i 0,U6]))))
def Iu:=Fo ate
def XS:bB:=⟨308,[.agg [pi 0,pi 1,ps 2],cs 3],[],4,2,.bq [.c (.own 0),ci 4],[(0,(.row 71 U5))],Iu,308⟩
instance:Ok XS:=oS [yY,Ct,QX]
def awS:a8:=.op (.bs .neq U0 U0)<|.j [U1]
def DU:=Fo awS
def Vr:bB:=⟨301,[.c (.p .str U0)],[],1,1,.v (.c (.p .bool U1)),[],DU,309⟩
instance:Ok Vr:=oS []
def R2:a8:=.join (.ln U0<|.loop [.i 0] (.bI .lss U3 U2<|.ite U4 (.rw U0 U3 1<|.cl U5 0 (.int .i64)<|.bI .eql U1 U6<|.ite U7 (.br (.jump 2 [U3])) (.bI .add U3 (.i 1)<|.j [U8])) (.br (.jump 1 [])))) (.j [.i (-1)])
def Om:=Fo R2
def Yd:bB:=⟨281,[cs 0,ci 1],[],2,1,.v (ci 2),[],Om,311⟩
instance:Ok Yd:=oS []
def apa:a8:=.cA 309 DU [U0] 1<|.cA 309 DU [U1] 1<|.ite U2 (.ite U3 (.j [.i 0]) (.j [.i (-1)])) (.ite U3 (.j [.i 1]) (.op (.bs .lss U0 U1)<|.ite U4 (.j [.i (-1)]) (.op (.bs .gtr U0 U1)<|.ite U5 (.j [.i 1]) (.j [.i 0]))))
def Mg:=Fo apa
def aar:bB:=⟨276,[.c (.p .str U0),.c (.p .str U1)],[],2,1,.v (ci 2),[],Mg,312⟩
instance:Ok aar:=oS [Vr]
def aeU:a8:=.bI .leq U0 (.i 0)<|.ite U1 (.j [.i 0]) (.bI .sub U0 (.i 1)<|.bI .quo U2 (.i 256)<|.bI .add U3 (.i 1)<|.bI .mul U4 (.i 64)<|.j [U5])
def JE:=Fo aeU
def SH:bB:=⟨241,[ci 0],[],1,1,.v (ci 1),[],JE,314⟩
instance:Ok SH:=oS []
def ahR:a8:=.cA 311 Om [U0,U1] 1<|.bI .geq U2 (.i 0)<|.j [U3]
def Ha:=Fo ahR
def Zc:bB:=⟨240,[cs 0,ci 1],[],2,1,.v (.c (.p .bool U2)),[],Ha,315⟩
instance:Ok Zc:=oS [Yd]
def awK:a8:=.j []
def RE:=Fo awK
def Yp:bB:=⟨233,[.agg [.p .str U0,ps 1,ps 2]],[],3,0,.v (.c (.p .str U0)),[],RE,316⟩
instance:Ok Yp:=oS []
def avD:a8:=.op (.f_ (.i 6) [(.bool,(.b false))] 1)<|.join (.ln bD<|.loop [.i 0,.i 0,bM] (.bI .lss bR bL<|.ite bX (.join (.rw bD bR 1<|.cl b9 0 .sl<|.join (.rw bJ bR 1<|.cl cq 0 .bool<|.ite cv (.cA 315 Ha [bH,bR] 1<|.no cX<|.ite cG (.ln cu<|.cA 314 JE [U3] 1<|.bI .eql cK c9<|.rw bW bR 1<|.op (.set bW bR 0 [(.bool,dJ)])<|.j [eo]) (.rw bW bR 1<|.op (.set bW bR 0 [(.bool,(.b false))])<|.j [c9])) (.rw bW bR 1<|.op (.set bW bR 0 [(.bool,(.b false))])<|.j [cG])) (.rw cq bR 1<|.op (.rc cq bR 0 .bool)<|.ite cX (.bI .add bV (.i 1)<|.j [cG,cq]) (.j [bV,cq]))) (.bI .add bR (.i 1)<|.j [b9,cq,cu])) (.br (.jump 1 [bV,bW])))) (.j [bL,bV])
def Ni:=Fo avD
def D2:bB:=⟨212,[.agg (de 0 4++[.p (.int .u32) U4,.p (.int .u32) U5,.p (.int .u32) U6,.p (.int .u32) U7,.p (.int .u32) U8,.p (.int .u32) U9,ps 10]),cs 11,cs 12,cs 13],[],14,2,.bq [.c (.own 0),ci 14],[(0,(.row 4 bL))],Ni,317⟩
instance:Ok D2:=oS [Zc,SH]
def Tu:List L->Option (List L):=Ni
def MH:bB:=⟨212,[.agg (de 0 4++[.p (.int .u32) U4,.p (.int .u32) U5,.p (.int .u32) U6,.p (.int .u32) U7,.p (.int .u32) U8,.p (.int .u32) U9,ps 10]),cs 11,cs 12,cs 13],[],14,2,.bq [cs 15,ci 14],[],Ni,2031⟩
theorem ahn:MH.ok Tryz.prog:=Da (s:=D2) (Ok.j D2) rfl (x:=(.v 15)) (e:=4) rfl rfl 2031
instance:Ok MH:=⟨ahn⟩
def adC:a8:=.op (.un .xor .u32 U0)<|.join (.ln U1<|.loop [U2,.i 0] (.bI .lss U5 U3<|.ite U6 (.join (.rw U1 U5 1<|.cl U7 0 (.int .u8)<|.op (.conv .u32 U8)<|.op (.bi .xor .u32 U4 U9)<|.loop [bA,.i 0] (.bI .lss bJ (.i 8)<|.ite bH (.join (.op (.bi .and .u32 bD (.i 1))<|.op (.bi .shr .u32 bD (.i 1))<|.op (.bi .eql .u32 bM (.i 1))<|.ite bV (.op (.bi .xor .u32 bL (.i 2197175160))<|.j [bR]) (.j [bL])) (.bI .add bJ (.i 1)<|.j [bM,bL])) (.br (.jump 1 [bD])))) (.bI .add U5 (.i 1)<|.j [U7,U8])) (.br (.jump 1 [U4])))) (.op (.un .xor .u32 U3)<|.j [U4])
def MY:=Fo adC
def SL:bB:=⟨204,[.c (.p (.int .u32) U0),cs 1],[],2,1,.v (.c (.p (.int .u32) U2)),[],MY,318⟩
instance:Ok SL:=oS []
def atT:a8:=.ln U0<|.ln U0<|.op (.part U0 U1 U2 1)<|.op (.part U0 (.i 0) U1 1)<|.j [U4]
def HI:=Fo atT
def Rj:bB:=⟨203,[cs 0],[],1,1,.v (cs 1),[],HI,319⟩
instance:Ok Rj:=oS []
def ajn:a8:=.ite U2 (.op (.mn U3 U0)<|.j [U4]) (.ln U1<|.bI .add U0 U4<|.op (.mx U3 U5)<|.j [U6])
def yf:=Fo ajn
def Dz:bB:=⟨200,[.agg [pi 0,ps 1,.p .bool U2],ci 3],[],4,1,.v (ci 4),[],yf,320⟩
instance:Ok Dz:=oS []
def ala:a8:=.join (.op (.bs .neq U0 (.s ⟨#[]⟩))<|.ite U1 (.op (.lI U0)<|.bI .leq U2 (.i 40)<|.ite U3 (.op (.call 2020 Gh [U0,.s ⟨#[97,98,99,100,101,102,103,104,105,106,107,108,109,110,111,112,113,114,115,116,117,118,119,120,121,122,48,49,50,51,52,53,54,55,56,57,46,45]⟩] 1 [])<|.op (.bs .eql U4 (.s ⟨#[]⟩))<|.j [U5]) (.j [.b false])) (.j [.b false])) (.j [U1])
def Eo:=Fo ala
def KL:bB:=⟨198,[.c (.p .str U0)],[],1,1,.v (.c (.p .bool U1)),[],Eo,321⟩
instance:Ok KL:=oS [Jk]
def Ma:=mS [] 194 [cs 0] [] 1 1 (.v (.c (.p (.int .u64) U1))) [] 322
def DF:=Ma.F
instance:Ok Ma:=oM
def YH:a8:=.op (.lit [[(.sl,.r0)]])<|.join (.loop [.i 0,U1] (.bI .lss U2 (.i 6)<|.ite U4 (.op (.lit [[((.int .i64),U2)]])<|.op (.lit [[(.sl,U5)]])<|.op (.app U3 U6 1 24)<|.bI .add U2 (.i 1)<|.j [U8,U7]) (.br (.jump 1 [U3])))) (.join (.loop [.i 0,U2] (.bI .lss U3 (.i 6)<|.ite U5 (.join (.bI .add U3 (.i 1)<|.loop [U6,U4] (.bI .lss U7 (.i 6)<|.ite U9 (.op (.lit [[((.int .i64),U3)],[((.int .i64),U7)]])<|.op (.lit [[(.sl,bA)]])<|.op (.app U8 bD 1 24)<|.bI .add U7 (.i 1)<|.j [bH,bJ]) (.br (.jump 1 [U8])))) (.bI .add U3 (.i 1)<|.j [U7,U6])) (.br (.jump 1 [U4])))) (.join (.bI .lss U0 (.i 0)<|.ite U4 (.j [.b true]) (.ln U3<|.bI .geq U0 U5<|.j [U6])) (.ite U4 (.j [.r0]) (.rw U3 U0 1<|.op (.rc U3 U0 0 .sl)<|.j [U6]))))
def KP:=Fo YH
def WS:bB:=⟨168,[ci 0],[],1,1,.v (cs 1),[],KP,323⟩
instance:Ok WS:=oS []
def Tl:a8:=.join (.ln U0<|.loop [.i 0] (.bI .lss U6 U5<|.ite U7 (.rw U0 U6 4<|.cl U8 0 (.int .u64)<|.cl U8 1 (.int .u32)<|.cl U8 2 (.int .i64)<|.cl U8 3 (.int .i64)<|.op (.bi .eql .u64 U1 U9)<|.op (.bi .eql .u32 U2 bA)<|.op (.bb .and bH bM)<|.bI .eql U3 bD<|.op (.bb .and bL bV)<|.bI .eql U4 bJ<|.op (.bb .and bR bW)<|.ite bX (.br (.jump 2 [U6])) (.bI .add U6 (.i 1)<|.j [b9])) (.br (.jump 1 [])))) (.j [.i (-1)])
def Ld:=Fo Tl
def Q4:bB:=⟨162,[cs 0,.agg [.p (.int .u64) U1,.p (.int .u32) U2,pi 3,pi 4]],[],5,1,.v (ci 5),[],Ld,324⟩
instance:Ok Q4:=oS []
def awG:a8:=.join (.bI .geq U0 (.i 0)<|.ite U3 (.bI .lss U0 (.i 4)<|.ite U4 (.bI .geq U1 (.i 1)<|.ite U5 (.bI .leq U1 (.i 8)<|.ite U6 (.bI .geq U2 (.i 0)<|.ite U7 (.bI .leq U2 (.i 4294967295)<|.j [U8]) (.j [.b false])) (.j [.b false])) (.j [.b false])) (.j [.b false])) (.j [.b false])) (.j [U3])
def NM:=Fo awG
def TM:bB:=⟨155,[.agg [pi 0,pi 1,pi 2]],[],3,1,.v (.c (.p .bool U3)),[],NM,325⟩
instance:Ok TM:=oS []
def aev:a8:=.join (.ln U0<|.loop [.i 0,.i 0] (.bI .lss U3 U1<|.ite U4 (.rw U0 U3 1<|.cl U5 0 (.int .u8)<|.op (.bi .shl .u64 U2 (.i 8))<|.op (.conv .u64 U6)<|.op (.bi .or .u64 U7 U8)<|.bI .add U3 (.i 1)<|.j [U9,bA]) (.br (.jump 1 [U2])))) (.j [U1])
def vX:=Fo aev
def WQ:bB:=⟨153,[cs 0],[],1,1,.v (.c (.p (.int .u64) U1)),[],vX,326⟩
instance:Ok WQ:=oS []
def ahh:a8:=.cA 318 MY [.i 0,U0] 1<|.j [U1]
def E4:=Fo ahh
def FD:bB:=⟨151,[cs 0],[],1,1,.v (.c (.p (.int .u32) U1)),[],E4,327⟩
instance:Ok FD:=oS [SL]
def aqi:a8:=.ln U1<|.join (.ln U2<|.loop [U3,.i 0] (.bI .lss U6 U4<|.ite U7 (.rw U2 U6 3<|.cl U8 0 (.int .i64)<|.cl U8 1 .sl<|.cl U8 2 .bool<|.cA 320 yf [U9,bA,bD,U5] 1<|.bI .add U6 (.i 1)<|.j [bJ,bH]) (.br (.jump 1 [U5])))) (.j [U4])
def Mm:=Fo aqi
def TN:bB:=⟨148,[.agg [.p .str U0,ps 1,ps 2]],[],3,1,.v (ci 3),[],Mm,328⟩
instance:Ok TN:=oS [Dz]
def LY:=mS [] 107 [] [] 0 0 (.v (.c (.fn 163 []))) [] 329
def vh:=LY.F
instance:Ok LY:=oM
def ahp:a8:=.cA 324 Ld [U0,U1,U2,U3,U4] 1<|.bI .geq U5 (.i 0)<|.j [U6]
def tg:=Fo ahp
def VF:bB:=⟨106,[cs 0,.agg [.p (.int .u64) U1,.p (.int .u32) U2,pi 3,pi 4]],[],5,1,.v (.c (.p .bool U5)),[],tg,330⟩
instance:Ok VF:=oS [Q4]
def QD:a8:=.bI .eql U0 (.i 1)<|.ite U5 (.br (.jump 0 [.s ⟨#[100,97,116]⟩])) (.bI .eql U0 (.i 2)<|.ite U6 (.br (.jump 0 [.s ⟨#[115,104,100]⟩])) (.bI .eql U0 (.i 3)<|.ite U7 (.br (.jump 0 [.s ⟨#[100,101,108]⟩])) (.bI .eql U0 (.i 4)<|.ite U8 (.br (.jump 0 [.s ⟨#[105,100,120]⟩])) (.cA 2021 qU [U3] 1<|.op (.bs .add (.s ⟨#[101,99]⟩) U9)<|.j [bA]))))
def Vt:=Fo QD
def XE:bB:=⟨104,[.agg (de 0 4++[.p .bool U4])],[],5,1,.v (.c (.p .str U5)),[],Vt,331⟩
instance:Ok XE:=oS [EU]
def WR:a8:=.join (.join (.join (.bI .eql U0 (.i 1)<|.ite U5 (.j [U5]) (.bI .eql U0 (.i 2)<|.ite U6 (.j [U6]) (.bI .eql U0 (.i 3)<|.j [U7]))) (.ite U5 (.ite U4 (.br (.jump 2 [.b false])) (.j [])) (.bI .eql U0 (.i 4)<|.ite U6 (.j []) (.bI .eql U0 (.i 5)<|.ite U7 (.br (.jump 1 [])) (.br (.jump 2 [.b false])))))) (.bI .neq U3 (.i 0)<|.ite U5 (.br (.jump 1 [.b false])) (.j []))) (.join (.bI .geq U3 (.i 0)<|.ite U5 (.bI .lss U3 (.i 6)<|.ite U6 (.bI .geq U1 (.i 0)<|.ite U7 (.bI .lss U1 (.i 4)<|.ite U8 (.bI .geq U2 (.i 1)<|.ite U9 (.bI .leq U2 (.i 8)<|.j [bA]) (.j [.b false])) (.j [.b false])) (.j [.b false])) (.j [.b false])) (.j [.b false])) (.j [U5]))
def Y2:=Fo WR
def abu:bB:=⟨101,[.agg (de 0 4++[.p .bool U4])],[],5,1,.v (.c (.p .bool U5)),[],Y2,332⟩
instance:Ok abu:=oS []
def aqo:a8:=.cA 327 E4 [U0] 1<|.op (.conv .u8 U1)<|.op (.bi .shr .u32 U1 (.i 8))<|.op (.conv .u8 U3)<|.op (.bi .shr .u32 U1 (.i 16))<|.op (.conv .u8 U5)<|.op (.bi .shr .u32 U1 (.i 24))<|.op (.conv .u8 U7)<|.op (.lit [[((.int .u8),U2)],[((.int .u8),U4)],[((.int .u8),U6)],[((.int .u8),U8)]])<|.j [U9]
def JF:=Fo aqo
def aaL:bB:=⟨97,[cs 0],[],1,1,.v (.c (.own 0)),[(0,(.row 5 U1))],JF,333⟩
instance:Ok aaL:=oS [FD]
def awz:a8:=.ln U0<|.ln U1<|.bI .neq U2 U3<|.ite U4 (.j [.b false]) (.join (.ln U0<|.loop [.i 0] (.bI .lss U6 U5<|.ite U7 (.rw U0 U6 1<|.cl U8 0 (.int .u8)<|.rw U1 U6 1<|.cl bA 0 (.int .u8)<|.op (.bi .neq .u8 U9 bD)<|.ite bJ (.br (.jump 2 [.b false])) (.bI .add U6 (.i 1)<|.j [bH])) (.br (.jump 1 [])))) (.j [.b true]))
def Ar:=Fo awz
def C_:bB:=⟨96,[cs 0,cs 1],[],2,1,.v (.c (.p .bool U2)),[],Ar,334⟩
instance:Ok C_:=oS []
def arb:a8:=.join (.ln U0<|.loop [.i 0,.i 0] (.bI .lss U3 U1<|.ite U4 (.rw U0 U3 1<|.cl U5 0 (.int .u8)<|.bI .shl U2 (.i 8)<|.op (.conv .i64 U6)<|.bI .or U7 U8<|.bI .add U3 (.i 1)<|.j [U9,bA]) (.br (.jump 1 [U2])))) (.j [U1])
def rS:=Fo arb
def MC:bB:=⟨95,[cs 0],[],1,1,.v (ci 1),[],rS,335⟩
instance:Ok MC:=oS []
def U':a8:=.cA 332 Y2 [U0,U1,U2,U3,U4] 1<|.no U5<|.ite U6 (.br (.jump 0 [.s ⟨#[]⟩,.i 1])) (.cA 2021 qU [U1] 1<|.cA 2021 qU [U2] 1<|.cA 331 Vt [U0,U1,U2,U3,U4] 1<|.op (.lit [[(.str,(.s ⟨#[118]⟩))],[(.str,U7)],[(.str,U8)],[(.str,U9)]])<|.op (.call 2022 wS [bA,.s ⟨#[46]⟩] 1 [])<|.join (.ite U4 (.op (.bs .add bD (.s ⟨#[46,116,109,112]⟩))<|.j [bJ]) (.j [bD])) (.j [bJ,.i 0]))
def DQ:=Fo U'
def JX:bB:=⟨53,[.agg (de 0 4++[.p .bool U4])],[],5,2,.bq [.c (.p .str U5),ci 6],[],DQ,336⟩
instance:Ok JX:=oS [abu,XE,EU,H8]
def Uj:a8:=.cA 336 DQ [U0,U1,U2,.i 0,.b false] 2<|.j [U3]
def FE:=Fo Uj
def Mc:bB:=⟨51,[ci 0,ci 1,ci 2],[],3,1,.v (.c (.p .str U3)),[],FE,337⟩
instance:Ok Mc:=oS [JX]
def avu:a8:=.join (.op (.bi .eql .u64 U0 U4)<|.ite U8 (.op (.bi .eql .u32 U1 U5)<|.ite U9 (.op (.bb .eql U2 U6)<|.ite bA (.op (.str U3)<|.op (.str U7)<|.op (.bs .eql bD bJ)<|.j [bH]) (.j [.b false])) (.j [.b false])) (.j [.b false])) (.j [U8])
def N3:=Fo avu
def RQ:bB:=⟨21,[.agg [.p (.int .u64) U0,.p (.int .u32) U1,.p .bool U2,ps 3],.agg [.p (.int .u64) U4,.p (.int .u32) U5,.p .bool U6,ps 7]],[],8,1,.v (.c (.p .bool U8)),[],N3,338⟩
instance:Ok RQ:=oS []
def Ut:a8:=.ln U2<|.bI .gtr U3 (.i 12)<|.ite U4 (.j [.b false]) (.join (.ln U2<|.loop [.i 0] (.bI .lss U6 U5<|.ite U7 (.join (.rw U2 U6 3<|.cl U8 0 .str<|.cl U8 1 .sl<|.cl U8 2 .sl<|.join (.ln bA<|.bI .gtr bJ (.i 500)<|.ite bH (.j [.b true]) (.ln bD<|.bI .gtr bM (.i 8)<|.ite bL (.j [.b true]) (.op (.lI U9)<|.bI .gtr bV (.i 100)<|.j [bR]))) (.ite bJ (.br (.jump 3 [.b false])) (.ln bD<|.loop [.i 0] (.bI .lss bM bH<|.ite bL (.rw bD bM 3<|.cl bV 0 (.int .i64)<|.cl bV 1 .sl<|.cl bV 2 .bool<|.join (.ln bW<|.bI .gtr b9 (.i 200)<|.ite cu (.j [.b true]) (.bI .gtr bR (.i 2000)<|.ite cq (.bI .leq bR (.i 1048576)<|.j [cv]) (.j [.b false]))) (.ite b9 (.br (.jump 4 [.b false])) (.bI .add bM (.i 1)<|.j [cu]))) (.br (.jump 1 [])))))) (.bI .add U6 (.i 1)<|.j [U8])) (.br (.jump 1 [])))) (.j [.b true]))
def Hv:=Fo Ut
def WL:bB:=⟨9,[.agg [pi 0,pi 1,ps 2]],[],3,1,.v (.c (.p .bool U3)),[],Hv,339⟩
instance:Ok WL:=oS []
def Xw:a8:=.op (.bi .neq .u64 U0 U0)<|.j [U1]
def F0:=Fo Xw
def s0:bB:=⟨290,[.c (.p (.int .u64) U0)],[],1,1,.v (.c (.p .bool U1)),[],F0,0⟩
instance:Ok s0:=oS []
def NJ:a8:=.cA 0 F0 [U0] 1<|.cA 0 F0 [U1] 1<|.ite U2 (.ite U3 (.j [.i 0]) (.j [.i (-1)])) (.ite U3 (.j [.i 1]) (.op (.bi .lss .u64 U0 U1)<|.ite U4 (.j [.i (-1)]) (.op (.bi .gtr .u64 U0 U1)<|.ite U5 (.j [.i 1]) (.j [.i 0]))))
def F1:=Fo NJ
def s1:bB:=⟨249,[.c (.p (.int .u64) U0),.c (.p (.int .u64) U1)],[],2,1,.v (ci 2),[],F1,1⟩
instance:Ok s1:=oS [s0]
def Xp:a8:=.j []
def F4:=Fo Xp
def s4:bB:=⟨112,[cs 0],[],1,0,.v (.c (.fn 169 [0])),[(0,(.box [ps 0]))],F4,4⟩
instance:Ok s4:=oS []
def Rv:a8:=.join (.bI .lss U0 (.i 0)<|.ite U1 (.j [.b true]) (.bI .gtr U0 (.i 4096)<|.j [U2])) (.ite U1 (.j [.i 0]) (.bI .add (.i 20) U0<|.bI .add U2 (.i 4)<|.bI .add U3 (.i 8)<|.bI .sub U4 (.i 1)<|.bI .quo U5 (.i 8)<|.bI .mul U6 (.i 8)<|.j [U7]))
def F5:=Fo Rv
def s5:bB:=⟨83,[ci 0],[],1,1,.v (ci 1),[],F5,5⟩
instance:Ok s5:=oS []
def aaN:a8:=.cA 1 F1 [U0,U4] 1<|.j [U8]
def F6:=Fo aaN
def s6:bB:=⟨248,[.agg [.p (.int .u64) U0,.p (.int .u32) U1,pi 2,pi 3],.agg [.p (.int .u64) U4,.p (.int .u32) U5,pi 6,pi 7]],[],8,1,.v (ci 8),[],F6,6⟩
instance:Ok s6:=oS [s1]
def s7:=mS [] 207 [.agg [.p (.int .u64) U0,.p (.int .u32) U1,pi 2,pi 3]] [] 4 1 (.v (.c (.p .bool U4))) [] 7
def F7:=s7.F
instance:Ok s7:=oM
def YM:a8:=.cA 7 F7 [U0,U1,U2,U3] 1<|.no U4<|.j [U5]
def F8:=Fo YM
def s8:bB:=⟨206,[.agg [.p (.int .u64) U0,.p (.int .u32) U1,pi 2,pi 3]],[],4,1,.v (.c (.p .bool U4)),[],F8,8⟩
instance:Ok s8:=oS [s7]
def ZZ:a8:=.join (.ln U0<|.loop [.i 0] (.bI .lss U2 U1<|.ite U3 (.rw U0 U2 4<|.cl U4 0 (.int .u64)<|.cl U4 1 (.int .u32)<|.cl U4 2 (.int .i64)<|.cl U4 3 (.int .i64)<|.join (.bI .gtr U2 (.i 0)<|.ite U9 (.bI .sub U2 (.i 1)<|.rw U0 bA 4<|.cl bD 0 (.int .u64)<|.op (.bi .leq .u64 U5 bJ)<|.j [bH]) (.j [.b false])) (.ite U9 (.br (.jump 2 [.b false])) (.bI .add U2 (.i 1)<|.j [bA]))) (.br (.jump 1 [])))) (.j [.b true])
def F9:=Fo ZZ
def s9:bB:=⟨205,[cs 0],[],1,1,.v (.c (.p .bool U1)),[],F9,9⟩
instance:Ok s9:=oS []
def y8:=mS [] 135 [] [] 0 0 (.v (.agg [.nil,.nil,.nil,.nil,.nil,.nil,.nil,.nil,.p (.int .i64) (.i 0),.p (.int .i64) (.i 0)])) [] 10
def F10:=y8.F
instance:Ok y8:=oM
def YP:a8:=.cA 5 F5 [U3] 1<|.j [U4]
def Iw:=Fo YP
def DC:bB:=⟨188,[.agg [.p (.int .u64) U0,.p (.int .u32) U1,pi 2,pi 3]],[],4,1,.v (ci 4),[],Iw,11⟩
instance:Ok DC:=oS [s5]
def Ds:=mS [] 171 [.c (.p (.int .u64) U0)] [] 1 1 (.v (ci 1)) [] 12
def Oc:=Ds.F
instance:Ok Ds:=oM
def abi:a8:=.j []
def Hl:=Fo abi
def IZ:bB:=⟨22,[.c (.p (.int .u64) U0),.c (.p (.int .u32) U1)],[],2,0,.v (.agg [.p (.int .u64) U0,.p (.int .u32) U1,.p (.int .i64) (.i 0),.p (.int .i64) (.i 0),.p (.int .i64) (.i 0),.p (.int .i64) (.i 0),.p (.int .u64) (.i 0),.p (.int .u32) (.i 0),.p (.int .i64) (.i 0),.p (.int .i64) (.i 0),.p (.int .i64) (.i 0)]),[],Hl,14⟩
instance:Ok IZ:=oS []
def XP:a8:=.join (.ln U2<|.loop [.i 0,.r0] (.bI .lss U4 U3<|.ite U6 (.rw U2 U4 3<|.cl U7 0 .str<|.cl U7 1 .sl<|.cl U7 2 .sl<|.join (.ln bA<|.loop [.i 0,.r0] (.bI .lss bJ bD<|.ite bM (.rw bA bJ 3<|.cl bL 0 (.int .i64)<|.cl bL 1 .sl<|.cl bL 2 .bool<|.op (.lit [[((.int .i64),bV),(.sl,bR),(.bool,bW)]])<|.op (.app bH bX 3 40)<|.bI .add bJ (.i 1)<|.j [cu,b9]) (.br (.jump 1 [bH])))) (.op (.lit [[(.str,U8),(.sl,U9),(.sl,bD)]])<|.op (.app U5 bJ 3 64)<|.bI .add U4 (.i 1)<|.j [bM,bH])) (.br (.jump 1 [U5])))) (.j [U3])
def Iq:=Fo XP
def Ai:bB:=⟨16,[.agg [pi 0,pi 1,ps 2]],[],3,1,.v (.agg [pi 0,pi 1,.own 0]),[(0,(.row 127 U3))],Iq,18⟩
instance:Ok Ai:=oS []
def Kf:List L->Option (List L):=Iq
def Gd:bB:=⟨16,[.agg [pi 0,pi 1,ps 2]],[],3,1,.v (.agg [pi 0,pi 1,ps 3]),[],Iq,2051⟩
theorem alH:Gd.ok Tryz.prog:=Da (s:=Ai) (Ok.j Ai) rfl (x:=(.v 3)) (e:=127) rfl rfl 2051
instance:Ok Gd:=⟨alH⟩
def aqP:a8:=.join (.loop [.i 0,.i 0] (.bI .lss U3 (.i 8)<|.ite U4 (.join (.op (.conv .u64 U3)<|.op (.bi .shr .u8 U1 U5)<|.op (.bi .and .u8 U6 (.i 1))<|.op (.bi .eql .u8 U7 (.i 1))<|.ite U8 (.op (.conv .i64 U0)<|.op (.conv .u64 U3)<|.bI .shl U9 bA<|.bI .xor U2 bD<|.j [bJ]) (.j [U2])) (.bI .add U3 (.i 1)<|.j [U5,U6])) (.br (.jump 1 [U2])))) (.join (.loop [U2,.i 14] (.bI .geq U4 (.i 8)<|.ite U5 (.join (.op (.conv .u64 U4)<|.bI .shr U3 U6<|.bI .and U7 (.i 1)<|.bI .eql U8 (.i 1)<|.ite U9 (.bI .sub U4 (.i 8)<|.op (.conv .u64 bA)<|.bI .shl (.i 285) bD<|.bI .xor U3 bJ<|.j [bH]) (.j [U3])) (.bI .sub U4 (.i 1)<|.j [U6,U7])) (.br (.jump 1 [U3])))) (.op (.conv .u8 U3)<|.j [U4]))
def pW:=Fo aqP
def vI:bB:=⟨291,[.c (.p (.int .u8) U0),.c (.p (.int .u8) U1)],[],2,1,.v (.c (.p (.int .u8) U2)),[],pW,19⟩
instance:Ok vI:=oS []
def atx:a8:=.join (.loop [.i 1] (.bI .lss U1 (.i 256)<|.ite U2 (.op (.conv .u8 U1)<|.cA 19 pW [U0,U3] 1<|.op (.bi .eql .u8 U4 (.i 1))<|.ite U5 (.op (.conv .u8 U1)<|.br (.jump 2 [U6,.i 0])) (.bI .add U1 (.i 1)<|.j [U6])) (.br (.jump 1 [])))) (.j [.i 0,.i 1])
def D7:=Fo atx
def XI:bB:=⟨288,[.c (.p (.int .u8) U0)],[],1,2,.bq [.c (.p (.int .u8) U1),ci 2],[],D7,20⟩
instance:Ok XI:=oS [vI]
def aqZ:a8:=.ln U0<|.ln U1<|.bI .neq U3 U4<|.ite U5 (.j [.i 1,.r0]) (.join (.loop [.i 0,.r0] (.ln U0<|.bI .lss U6 U8<|.ite U9 (.rw U0 U6 1<|.cl bA 0 (.int .u8)<|.rw U1 U6 1<|.cl bJ 0 (.int .u8)<|.cA 19 pW [U2,bH] 1<|.op (.bi .xor .u8 bD bM)<|.op (.lit [[((.int .u8),bL)]])<|.op (.app U7 bV 1 1)<|.bI .add U6 (.i 1)<|.j [bW,bR]) (.br (.jump 1 [U7])))) (.j [.i 0,U6]))
def qD:=Fo aqZ
def J':bB:=⟨253,[cs 0,cs 1,.c (.p (.int .u8) U2)],[],3,2,.bq [.c (.own 0),ci 3],[(0,(.row 5 U4))],qD,21⟩
instance:Ok J':=oS [vI]
def Jj:a8:=.join (.bI .geq U0 (.i 1)<|.ite U2 (.bI .leq U0 (.i 16)<|.ite U3 (.bI .geq U1 (.i 1)<|.ite U4 (.bI .leq U1 (.i 16)<|.j [U5]) (.j [.b false])) (.j [.b false])) (.j [.b false])) (.j [U2])
def nh:=Fo Jj
def wu:bB:=⟨285,[ci 0,ci 1],[],2,1,.v (.c (.p .bool U2)),[],nh,22⟩
instance:Ok wu:=oS []
def aaY:a8:=.cA 22 nh [U0,U1] 1<|.no U2<|.ite U3 (.j [.i 1,.i 0,.i 0,.r0]) (.join (.loop [.i 0,.r0] (.bI .lss U4 U0<|.ite U6 (.join (.loop [.i 1,.i 0,U5] (.bI .lss U8 U1<|.ite bA (.op (.lit [[((.int .u8),U7)]])<|.op (.app U9 bD 1 1)<|.op (.conv .u8 U4)<|.cA 19 pW [U7,bH] 1<|.bI .add U8 (.i 1)<|.j [bM,bL,bJ]) (.br (.jump 1 [U9])))) (.bI .add U4 (.i 1)<|.j [U8,U7])) (.br (.jump 1 [U5])))) (.j [.i 0,U0,U1,U4]))
def F23:=Fo aaY
def Wp:bB:=⟨254,[ci 0,ci 1],[],2,4,.bq [.agg [pi 3,pi 4,.own 0],ci 2],[(0,(.row 5 U5))],F23,23⟩
instance:Ok Wp:=oS [wu,vI]
def MN:a8:=.join (.cA 22 nh [U0,U1] 1<|.ite U3 (.ln U2<|.bI .mul U0 U1<|.bI .eql U4 U5<|.j [U6]) (.j [.b false])) (.j [U3])
def nM:=Fo MN
def uz:bB:=⟨252,[.agg [pi 0,pi 1,ps 2]],[],3,1,.v (.c (.p .bool U3)),[],nM,24⟩
instance:Ok uz:=oS [wu]
def TK:a8:=.join (.cA 24 nM [U0,U1,U2] 1<|.no U4<|.ite U5 (.j [.b true]) (.ln U3<|.cA 22 nh [U6,U1] 1<|.no U7<|.j [U8])) (.ite U4 (.j [.i 1,.i 0,.i 0,.r0]) (.ln U3<|.join (.loop [.i 0,.r0] (.ln U3<|.bI .lss U6 U8<|.ite U9 (.join (.rw U3 U6 1<|.cl bA 0 (.int .i64)<|.bI .lss bD (.i 0)<|.ite bJ (.j [.b true]) (.rw U3 U6 1<|.cl bH 0 (.int .i64)<|.bI .geq bM U0<|.j [bL])) (.ite bA (.br (.jump 2 [.i 1,.i 0,.i 0,.r0])) (.rw U3 U6 1<|.cl bD 0 (.int .i64)<|.bI .mul bJ U1<|.rw U3 U6 1<|.cl bM 0 (.int .i64)<|.bI .add bL (.i 1)<|.bI .mul bV U1<|.ln U2<|.op (.part U2 bH bR 1)<|.op (.app U7 bX 1 1)<|.bI .add U6 (.i 1)<|.j [cu,b9]))) (.br (.jump 1 [U7])))) (.j [.i 0,U5,U1,U6])))
def F25:=Fo TK
def Lq:bB:=⟨244,[.agg [pi 0,pi 1,ps 2],cs 3],[],4,4,.bq [.agg [pi 5,pi 6,.own 0],ci 4],[(0,(.row 5 U7))],F25,25⟩
instance:Ok Lq:=oS [uz,wu]
def UO:a8:=.ln U0<|.bI .neq U2 U1<|.ite U3 (.j [.b false]) (.join (.loop [.i 0] (.bI .lss U4 U1<|.ite U5 (.rw U0 U4 1<|.cl U6 0 .sl<|.ln U7<|.rw U0 (.i 0) 1<|.cl U9 0 .sl<|.ln bA<|.bI .neq U8 bD<|.ite bJ (.br (.jump 2 [.b false])) (.bI .add U4 (.i 1)<|.j [bH])) (.br (.jump 1 [])))) (.j [.b true]))
def DX:=Fo UO
def Yt:bB:=⟨179,[cs 0,ci 1],[],2,1,.v (.c (.p .bool U2)),[],DX,26⟩
instance:Ok Yt:=oS []
def aga:a8:=.bI .lss U0 (.i 0)<|.ite U1 (.j [.i 0,.i 0,.i 1]) (.bI .quo U0 (.i 64)<|.bI .rem U2 (.i 4)<|.bI .quo U2 (.i 4)<|.bI .mul U4 (.i 64)<|.bI .rem U0 (.i 64)<|.bI .add U5 U6<|.j [U3,U7,.i 0])
def K4:=Fo aga
def WJ:bB:=⟨178,[ci 0],[],1,3,.bq [ci 1,ci 2,ci 3],[],K4,27⟩
instance:Ok WJ:=oS []
def alP:a8:=.bI .lss U0 (.i 0)<|.ite U1 (.j [.i 0]) (.bI .quo U0 (.i 256)<|.join (.bI .rem U0 (.i 256)<|.bI .gtr U3 (.i 0)<|.ite U4 (.bI .add U2 (.i 1)<|.j [U5]) (.j [U2])) (.bI .mul U3 (.i 64)<|.j [U4]))
def MR:=Fo alP
def WT:bB:=⟨177,[ci 0],[],1,1,.v (ci 1),[],MR,28⟩
instance:Ok WT:=oS []
def afQ:a8:=.op (.mx (.i (-1)) U3)<|.j [U4]
def Jy:=Fo afQ
def Q_:bB:=⟨14,[.agg [pi 0,pi 1,ps 2],ci 3],[],4,1,.v (.agg [pi 0,pi 4,ps 2]),[],Jy,29⟩
instance:Ok Q_:=oS []
def K3:=mS [] 172 [.agg [pi 0,pi 1,ps 2],.agg [.p .str U3,ps 4,ps 5]] [] 6 1 (.v (.agg [pi 0,pi 1,.own 0])) [(0,(.row 109 U6))] 30
def F30:=K3.F
instance:Ok K3:=oM
def aaR:a8:=.op (.lit [])<|.op (.app U3 U2 3 64)<|.join (.bI .gtr U1 (.i 0)<|.ite U5 (.bI .sub U1 (.i 1)<|.j [U6]) (.j [U1])) (.j [U5,U4])
def rf:=Fo aaR
def yn:bB:=⟨49,[.agg [pi 0,pi 1,ps 2]],[],3,2,.v (.agg [pi 0,pi 3,.own 0]),[(0,(.row 109 U4))],rf,31⟩
instance:Ok yn:=oS []
def SG:a8:=.join (.loop [.i 0] (.ln U2<|.bI .lss U4 U5<|.ite U6 (.rw U2 U4 3<|.cl U7 0 .str<|.op (.bs .eql U8 U3)<|.ite U9 (.br (.jump 2 [U4])) (.bI .add U4 (.i 1)<|.j [bA])) (.br (.jump 1 [])))) (.j [.i (-1)])
def zc:=Fo SG
def LM:bB:=⟨47,[.agg [pi 0,pi 1,ps 2],.c (.p .str U3)],[],4,1,.v (ci 4),[],zc,32⟩
instance:Ok LM:=oS []
def abz:a8:=.op (.lit [])<|.op (.app U4 U0 1 1)<|.ite U3 (.ln U5<|.op (.mn U6 U1)<|.ln U5<|.op (.cut U5 (.i 0) U7 1)<|.op (.tk U5 U9)<|.j [bA]) (.join (.loop [U5] (.ln U6<|.bI .lss U7 U1<|.ite U8 (.op (.lit [[((.int .u8),(.i 0))]])<|.op (.app U6 U9 1 1)<|.j [bA]) (.br (.jump 1 [U6])))) (.ln U2<|.bI .add U1 U7<|.ln U6<|.bI .gtr U8 U9<|.ite bA (.ln U6<|.op (.cut U6 (.i 0) U1 1)<|.op (.tk U6 bJ)<|.op (.app bH U2 1 1)<|.j [bM]) (.ln U6<|.op (.cut U6 U1 U8 1)<|.op (.ue U6 U1 bJ U2 1)<|.j [bH])))
def qz:=Fo abz
def LZ:bB:=⟨146,[cs 0,.agg [pi 1,ps 2,.p .bool U3]],[],4,1,.v (.c (.own 0)),[(0,(.row 5 U4))],qz,33⟩
instance:Ok LZ:=oS []
def aex:a8:=.join (.loop [.i 0] (.op (.lI U0)<|.bI .lss U1 U2<|.ite U3 (.op (.rr U0 U1)<|.join (.op (.bi .geq .u8 U4 (.i 97))<|.ite U5 (.op (.bi .leq .u8 U4 (.i 122))<|.ite U6 (.no (.b true)<|.j [U7]) (.op (.bi .geq .u8 U4 (.i 48))<|.ite U7 (.op (.bi .leq .u8 U4 (.i 57))<|.ite U8 (.no (.b true)<|.j [U9]) (.op (.bi .eql .u8 U4 (.i 46))<|.ite U9 (.no (.b true)<|.j [bA]) (.op (.bi .eql .u8 U4 (.i 45))<|.no bA<|.j [bD]))) (.op (.bi .eql .u8 U4 (.i 46))<|.ite U8 (.no (.b true)<|.j [U9]) (.op (.bi .eql .u8 U4 (.i 45))<|.no U9<|.j [bA])))) (.op (.bi .geq .u8 U4 (.i 48))<|.ite U6 (.op (.bi .leq .u8 U4 (.i 57))<|.ite U7 (.no (.b true)<|.j [U8]) (.op (.bi .eql .u8 U4 (.i 46))<|.ite U8 (.no (.b true)<|.j [U9]) (.op (.bi .eql .u8 U4 (.i 45))<|.no U9<|.j [bA]))) (.op (.bi .eql .u8 U4 (.i 46))<|.ite U7 (.no (.b true)<|.j [U8]) (.op (.bi .eql .u8 U4 (.i 45))<|.no U8<|.j [U9])))) (.ite U5 (.br (.jump 2 [.b false])) (.bI .add U1 (.i 1)<|.j [U6]))) (.br (.jump 1 [])))) (.join (.op (.lI U0)<|.bI .geq U1 (.i 1)<|.ite U2 (.op (.lI U0)<|.bI .leq U3 (.i 40)<|.j [U4]) (.j [.b false])) (.j [U1]))
def rq:=Fo aex
def LU:bB:=⟨46,[.c (.p .str U0)],[],1,1,.v (.c (.p .bool U1)),[],rq,34⟩
instance:Ok LU:=oS []
def Ee:=mS [] 33 [ci 0] [] 1 1 (.v (.agg [pi 1,.p (.int .i64) (.i (-1)),.nil])) [] 35
def F35:=Ee.F
instance:Ok Ee:=oM
def agL:a8:=.join (.loop [U0,.i 0] (.bI .lss U2 (.i 8)<|.ite U3 (.join (.op (.bi .and .u32 U1 (.i 1))<|.op (.bi .eql .u32 U4 (.i 1))<|.ite U5 (.op (.bi .shr .u32 U1 (.i 1))<|.op (.bi .xor .u32 U6 (.i 2197175160))<|.j [U7]) (.op (.bi .shr .u32 U1 (.i 1))<|.j [U6])) (.bI .add U2 (.i 1)<|.j [U4,U5])) (.br (.jump 1 [U1])))) (.j [U1])
def Cl:=Fo agL
def VI:bB:=⟨223,[.c (.p (.int .u32) U0)],[],1,1,.v (.c (.p (.int .u32) U1)),[],Cl,36⟩
instance:Ok VI:=oS []
def aua:a8:=.op (.un .xor .u32 U0)<|.join (.loop [U2,.i 0] (.ln U1<|.bI .lss U4 U5<|.ite U6 (.rw U1 U4 1<|.cl U7 0 (.int .u8)<|.op (.conv .u32 U8)<|.op (.bi .xor .u32 U3 U9)<|.cA 36 Cl [bA] 1<|.bI .add U4 (.i 1)<|.j [bD,bJ]) (.br (.jump 1 [U3])))) (.op (.un .xor .u32 U3)<|.j [U4])
def FZ:=Fo aua
def R9:bB:=⟨181,[.c (.p (.int .u32) U0),cs 1],[],2,1,.v (.c (.p (.int .u32) U2)),[],FZ,37⟩
instance:Ok R9:=oS [VI]
def ahE:a8:=.cA 37 FZ [.i 0,U0] 1<|.j [U1]
def FP:=Fo ahE
def Mr:bB:=⟨129,[cs 0],[],1,1,.v (.c (.p (.int .u32) U1)),[],FP,38⟩
instance:Ok Mr:=oS [R9]
def awv:a8:=.join (.bI .geq U0 (.i 0)<|.ite U3 (.bI .lss U0 (.i 4)<|.ite U4 (.bI .geq U1 (.i 1)<|.ite U5 (.bI .leq U1 (.i 8)<|.ite U6 (.bI .geq U2 (.i 0)<|.ite U7 (.bI .lss U2 (.i 4294967296)<|.j [U8]) (.j [.b false])) (.j [.b false])) (.j [.b false])) (.j [.b false])) (.j [.b false])) (.j [U3])
def yp:=Fo awv
def za:bB:=⟨126,[.agg [pi 0,pi 1,pi 2]],[],3,1,.v (.c (.p .bool U3)),[],yp,39⟩
instance:Ok za:=oS []
def alR:a8:=.join (.loop [.i 0,.i 0] (.ln U0<|.bI .lss U2 U3<|.ite U4 (.op (.bi .shl .u64 U1 (.i 8))<|.rw U0 U2 1<|.cl U6 0 (.int .u8)<|.op (.conv .u64 U7)<|.op (.bi .or .u64 U5 U8)<|.bI .add U2 (.i 1)<|.j [U9,bA]) (.br (.jump 1 [U1])))) (.j [U1])
def F40:=Fo alR
def yQ:bB:=⟨125,[cs 0],[],1,1,.v (.c (.p (.int .u64) U1)),[],F40,40⟩
instance:Ok yQ:=oS []
def adx:a8:=.cA 38 FP [U0] 1<|.op (.conv .u8 U1)<|.op (.bi .shr .u32 U1 (.i 8))<|.op (.conv .u8 U3)<|.op (.bi .shr .u32 U1 (.i 16))<|.op (.conv .u8 U5)<|.op (.bi .shr .u32 U1 (.i 24))<|.op (.conv .u8 U7)<|.op (.lit [[((.int .u8),U2)],[((.int .u8),U4)],[((.int .u8),U6)],[((.int .u8),U8)]])<|.j [U9]
def wO:=Fo adx
def ox:bB:=⟨124,[cs 0],[],1,1,.v (.c (.own 0)),[(0,(.row 5 U1))],wO,41⟩
instance:Ok ox:=oS [Mr]
def YG:a8:=.join (.bI .sub U1 (.i 1)<|.loop [U2,.r0] (.bI .geq U3 (.i 0)<|.ite U5 (.bI .mul (.i 8) U3<|.op (.conv .u64 U6)<|.op (.bi .shr .u64 U0 U7)<|.op (.conv .u8 U8)<|.op (.lit [[((.int .u8),U9)]])<|.op (.app U4 bA 1 1)<|.bI .sub U3 (.i 1)<|.j [bJ,bD]) (.br (.jump 1 [U4])))) (.j [U2])
def EH:=Fo YG
def vN:bB:=⟨132,[.c (.p (.int .u64) U0),ci 1],[],2,1,.v (.c (.own 0)),[(0,(.row 5 U2))],EH,42⟩
instance:Ok vN:=oS []
def D3:=mS [] 137 [.agg [.p (.int .u64) U0,.p (.int .u32) U1,.p .bool U2,ps 3]] [] 4 1 (.v (.c (.p .bool U4))) [] 43
def F43:=D3.F
instance:Ok D3:=oM
def avR:a8:=.join (.bI .lss U0 (.i 0)<|.ite U1 (.j [.b true]) (.bI .gtr U0 (.i 4096)<|.j [U2])) (.ite U1 (.j [.i 0]) (.bI .add (.i 20) U0<|.bI .add U2 (.i 4)<|.bI .add U3 (.i 7)<|.bI .quo U4 (.i 8)<|.bI .mul U5 (.i 8)<|.j [U6]))
def mL:=Fo avR
def kX:bB:=⟨79,[ci 0],[],1,1,.v (ci 1),[],mL,44⟩
instance:Ok kX:=oS []
def aei:a8:=.join (.ln U0<|.bI .sub U2 (.i 1)<|.loop [U3] (.bI .geq U4 (.i 0)<|.ite U5 (.rw U0 U4 4<|.cl U6 0 (.int .u64)<|.op (.bi .eql .u64 U7 U1)<|.ite U8 (.rw U0 U4 4<|.cl U9 0 (.int .u64)<|.cl U9 1 (.int .u32)<|.cl U9 2 (.int .i64)<|.cl U9 3 (.int .i64)<|.br (.jump 2 ([.b true]++w 10 4))) (.bI .sub U4 (.i 1)<|.j [U9])) (.br (.jump 1 [])))) (.j [.b false,.i 0,.i 0,.i 0,.i 0])
def C4:=Fo aei
def Sq:bB:=⟨82,[cs 0,.c (.p (.int .u64) U1)],[],2,5,.bq [.agg [.p (.int .u64) U3,.p (.int .u32) U4,pi 5,pi 6],.c (.p .bool U2)],[],C4,45⟩
instance:Ok Sq:=oS []
def Ur:a8:=.join (.loop [.i 0,.r0] (.ln U0<|.bI .lss U1 U3<|.ite U4 (.join (.loop [.i 0] (.join (.ln U2<|.bI .lss U5 U6<|.ite U7 (.rw U2 U5 4<|.op (.rc U2 U5 0 (.int .u64))<|.rw U0 U1 4<|.cl bA 0 (.int .u64)<|.op (.bi .lss .u64 U9 bD)<|.j [bJ]) (.j [.b false])) (.ite U6 (.bI .add U5 (.i 1)<|.j [U7]) (.br (.jump 1 [U5]))))) (.op (.lit [])<|.ln U2<|.op (.cut U2 U5 U7 4)<|.op (.vw U2 U5 U8)<|.op (.app U6 U9 4 32)<|.join (.join (.ln bA<|.bI .gtr bD (.i 0)<|.ite bJ (.rw bA (.i 0) 4<|.op (.rc bA (.i 0) 0 (.int .u64))<|.rw U0 U1 4<|.cl bL 0 (.int .u64)<|.op (.bi .eql .u64 bM bV)<|.j [bR]) (.j [.b false])) (.ite bD (.ln bA<|.op (.cut bA (.i 1) bJ 4)<|.op (.vw bA (.i 1) bH)<|.j [bM]) (.j [bA]))) (.ln U2<|.op (.cut U2 (.i 0) U5 4)<|.rw U0 U1 4<|.cl bM 0 (.int .u64)<|.cl bM 1 (.int .u32)<|.cl bM 2 (.int .i64)<|.cl bM 3 (.int .i64)<|.op (.lit [[((.int .u64),bL),((.int .u32),bV),((.int .i64),bR),((.int .i64),bW)]])<|.op (.tk U2 bH)<|.op (.app b9 bX 4 32)<|.op (.app cu bD 4 32)<|.bI .add U1 (.i 1)<|.j [cv,cq]))) (.br (.jump 1 [U2])))) (.j [U1])
def yK:=Fo Ur
def y9:bB:=⟨131,[cs 0],[],1,1,.v (.c (.own 0)),[(0,(.row 25 U1))],yK,46⟩
instance:Ok y9:=oS []
def aun:a8:=.join (.bI .geq U2 (.i 16)<|.ite U4 (.bI .leq U2 (.i 1048576)<|.ite U5 (.bI .rem U2 (.i 8)<|.bI .eql U6 (.i 0)<|.ite U7 (.bI .geq U3 (.i 0)<|.ite U8 (.bI .leq U3 (.i 4096)<|.j [U9]) (.j [.b false])) (.j [.b false])) (.j [.b false])) (.j [.b false])) (.j [U4])
def Cc:=Fo aun
def DD:bB:=⟨186,[.agg [.p (.int .u64) U0,.p (.int .u32) U1,pi 2,pi 3]],[],4,1,.v (.c (.p .bool U4)),[],Cc,47⟩
instance:Ok DD:=oS []
def aqf:a8:=.join (.loop [.i 0] (.ln U0<|.bI .lss U1 U2<|.ite U3 (.join (.rw U0 U1 4<|.cl U4 0 (.int .u64)<|.cl U4 1 (.int .u32)<|.cl U4 2 (.int .i64)<|.cl U4 3 (.int .i64)<|.op (.call 47 Cc (w 5 4) 1 [])<|.no U9<|.ite bA (.j [.b true]) (.bI .gtr U1 (.i 0)<|.ite bD (.rw U0 U1 4<|.cl bJ 0 (.int .u64)<|.bI .sub U1 (.i 1)<|.rw U0 bM 4<|.cl bL 0 (.int .u64)<|.op (.bi .leq .u64 bH bV)<|.j [bR]) (.j [.b false]))) (.ite U4 (.br (.jump 2 [.b false])) (.bI .add U1 (.i 1)<|.j [U5]))) (.br (.jump 1 [])))) (.j [.b true])
def sG:=Fo aqf
def wB:bB:=⟨166,[cs 0],[],1,1,.v (.c (.p .bool U1)),[],sG,48⟩
instance:Ok wB:=oS [DD]
def adS:a8:=.join (.loop [.i 0,.i 0] (.ln U0<|.bI .lss U2 U3<|.ite U4 (.rw U0 U2 4<|.cl U5 3 (.int .i64)<|.cA 44 mL [U6] 1<|.bI .add U1 U7<|.bI .add U2 (.i 1)<|.j [U8,U9]) (.br (.jump 1 [U1])))) (.j [U1])
def D4:=Fo adS
def IH:bB:=⟨183,[cs 0],[],1,1,.v (ci 1),[],D4,49⟩
instance:Ok IH:=oS [kX]
def ake:a8:=.op (.bi .mul .u64 U0 (.i 11400714819323198485))<|.op (.bi .shr .u64 U1 (.i 61))<|.op (.conv .i64 U2)<|.j [U3]
def Gi:=Fo ake
def Lo:bB:=⟨182,[.c (.p (.int .u64) U0)],[],1,1,.v (ci 1),[],Gi,50⟩
instance:Ok Lo:=oS []
def Yj:a8:=.join (.cA 24 nM [U0,U1,U2] 1<|.no U4<|.ite U5 (.j [.b true]) (.ln U3<|.bI .neq U6 U1<|.j [U7])) (.ite U4 (.j [.i 1,.r0]) (.join (.loop [.i 0] (.ln U3<|.bI .lss U5 U6<|.ite U7 (.rw U3 U5 1<|.op (.rc U3 U5 0 .sl)<|.ln U9<|.rw U3 (.i 0) 1<|.op (.rc U3 (.i 0) 0 .sl)<|.ln bJ<|.bI .neq bA bH<|.ite bM (.br (.jump 2 [.i 1,.r0])) (.bI .add U5 (.i 1)<|.j [bL])) (.br (.jump 1 [])))) (.join (.loop [.i 0,.r0] (.bI .lss U5 U0<|.ite U7 (.rw U3 (.i 0) 1<|.op (.rc U3 (.i 0) 0 .sl)<|.ln U9<|.op (.f_ bA [((.int .u8),(.i 0))] 1)<|.join (.loop [.i 0,bD] (.bI .lss bJ U1<|.ite bM (.rw U3 bJ 1<|.op (.rc U3 bJ 0 .sl)<|.bI .mul U5 U1<|.bI .add bR bJ<|.rw U2 bW 1<|.cl bX 0 (.int .u8)<|.op (.call 21 qD [bH,bV,b9] 2 [1])<|.bI .add bJ (.i 1)<|.j [cv,cq]) (.br (.jump 1 [bH])))) (.op (.lit [[(.sl,bJ)]])<|.op (.app U6 bH 1 24)<|.bI .add U5 (.i 1)<|.j [bL,bM])) (.br (.jump 1 [U6])))) (.j [.i 0,U5]))))
def xd:=Fo Yj
def MX:bB:=⟨221,[.agg [pi 0,pi 1,ps 2],.c (.own 0)],[.row 71 U3],4,2,.bq [.c (.own 1),ci 4],[(1,(.row 71 U5)),(0,(.row 71 U3))],xd,60⟩
instance:Ok MX:=oS [uz,J']
def amy:a8:=.join (.cA 39 yp [U0,U1,U2] 1<|.no bD<|.ite bJ (.j [.b true]) (.bI .lss U3 (.i 16)<|.ite bH (.j [.b true]) (.bI .gtr U3 (.i 524288)<|.ite bM (.j [.b true]) (.cA 48 sG [bA] 1<|.no bL<|.j [bV])))) (.ite bD (.j [.b false]) (.join (.loop [.i 0] (.ln bA<|.bI .lss bJ bH<|.ite bM (.rw bA bJ 4<|.op (.rc bA bJ 2 (.int .i64))<|.rw bA bJ 4<|.op (.rc bA bJ 3 (.int .i64))<|.cA 44 mL [bW] 1<|.bI .add bV bX<|.bI .gtr b9 U3<|.ite cu (.br (.jump 2 [.b false])) (.bI .add bJ (.i 1)<|.j [cq])) (.br (.jump 1 [])))) (.j [.b true])))
def Jg:=Fo amy
def vY:bB:=⟨110,[.agg (de 0 4++[.p (.int .u32) U4,.p (.int .u32) U5,.p (.int .u32) U6,.p (.int .u32) U7,.p (.int .u32) U8,.p (.int .u32) U9,.own 0])],[.row 25 bA],11,1,.v (.c (.p .bool bD)),[(0,(.row 25 bA))],Jg,61⟩
instance:Ok vY:=oS [wB,kX,za]
def QS:a8:=.join (.ln U0<|.loop [.i 0] (.bI .lss U2 U1<|.ite U3 (.rw U0 U2 4<|.op (.rc U0 U2 0 (.int .u64))<|.op (.rc U0 U2 1 (.int .u32))<|.op (.rc U0 U2 2 (.int .i64))<|.op (.rc U0 U2 3 (.int .i64))<|.join (.bI .gtr U2 (.i 0)<|.ite U9 (.bI .sub U2 (.i 1)<|.rw U0 bA 4<|.op (.rc U0 bA 0 (.int .u64))<|.op (.bi .leq .u64 U5 bJ)<|.j [bH]) (.j [.b false])) (.ite U9 (.br (.jump 2 [.b false])) (.bI .add U2 (.i 1)<|.j [bA]))) (.br (.jump 1 [])))) (.j [.b true])
def BH:=Fo QS
def Dm:bB:=⟨205,[.c (.own 0)],[.row 25 U0],1,1,.v (.c (.p .bool U1)),[(0,(.row 25 U0))],BH,62⟩
instance:Ok Dm:=oS []
def Lp:a8:=.join (.bI .lss U0 (.i 0)<|.ite U1 (.op (.ed (.i 0) 0)<|.op (.ed (.i 0) 0)<|.j []) (.j [])) (.join (.bI .sub U0 (.i 0)<|.bI .gtr U1 (.i 0)<|.ite U2 (.op (.cut .r0 (.i 0) (.i 0) 4)<|.op (.f_ U1 [((.int .u64),(.i 0)),((.int .u32),(.i 0)),((.int .i64),(.i 0)),((.int .i64),(.i 0))] 32)<|.rw U4 (.i 0) 4<|.op (.app .r0 U4 4 32)<|.ln U6<|.op (.cut U6 (.i 0) (.i 0) 4)<|.j [U6]) (.j [.r0])) (.j [U1]))
def Hs:=Fo Lp
def pA:bB:=⟨230,[.c .nil,ci 0],[],1,1,.v (.c (.sub 0 (.i 0) (.i 0))),[(0,(.row 25 U1))],Hs,63⟩
instance:Ok pA:=oS []
def zA:List L->Option (List L):=λls=>match pA.F ls with|some os=>if os.length=pA.il then some []else none|none=>none
def OC:bB:=⟨230,[.c .nil,ci 0],[],1,0,.v (.c (.own 0)),[(0,.row 25 .r0)],zA,2001⟩
theorem ajd:OC.ok Tryz.prog:=afO (s:=pA) (Ok.j pA) rfl rfl (x:=(.v 1)) rfl 2001
instance:Ok OC:=⟨ajd⟩
def UP:a8:=.bI .mul U3 U1<|.bI .add U3 (.i 1)<|.bI .mul U5 U1<|.ln U2<|.op (.part U2 U4 U6 1)<|.j [U8]
def abp:=Fo UP
def t_:bB:=⟨317,[.agg [pi 0,pi 1,ps 2],ci 3],[],4,1,.v (cs 4),[],abp,340⟩
instance:Ok t_:=oS []
def abc:a8:=.bI .mul U3 U1<|.bI .add U3 (.i 1)<|.bI .mul U5 U1<|.ln U2<|.op (.cut U2 U4 U6 1)<|.j [U4,U8]
def mf:=Fo abc
def sP:bB:=⟨317,[.agg [pi 0,pi 1,.own 0],ci 3],[.row 5 U2],4,2,.v (.c (.sub 0 U4 U5)),[(0,(.row 5 U2))],mf,341⟩
instance:Ok sP:=oS []
def Yh:a8:=.bI .rem U0 (.i 255)<|.bI .add U1 (.i 255)<|.bI .rem U2 (.i 255)<|.j [U3]
def ZM:=Fo Yh
def TW:bB:=⟨336,[ci 0],[],1,1,.v (ci 1),[],ZM,342⟩
instance:Ok TW:=oS []
def abj:a8:=.join (.ln U3<|.loop [.i 0] (.bI .lss U5 U4<|.ite U6 (.join (.rw U3 U5 14<|.cl U7 0 (.int .i64)<|.cl U7 1 (.int .i64)<|.cl U7 2 (.int .i64)<|.cl U7 3 (.int .i64)<|.cl U7 4 .sl<|.cl U7 5 .sl<|.cl U7 6 .sl<|.cl U7 7 .sl<|.cl U7 8 .sl<|.cl U7 9 .sl<|.cl U7 10 .sl<|.cl U7 11 .sl<|.cl U7 12 (.int .i64)<|.cl U7 13 (.int .i64)<|.loop [.i 0] (.bI .lss cq (.i 8)<|.ite cv (.op (.ed cq 8)<|.op (.fw [bJ,bH,bM,bL,bV,bR,bW,bX] cq)<|.ln cX<|.bI .gtr cG (.i 8)<|.ite cK (.br (.jump 4 [.b false])) (.bI .add cq (.i 1)<|.j [c9])) (.br (.jump 1 [])))) (.bI .add U5 (.i 1)<|.j [U7])) (.br (.jump 1 [])))) (.ln U3<|.bI .leq U4 (.i 12)<|.j [U5])
def NX:=Fo abj
def abO:bB:=⟨8,[.agg [pi 0,pi 1,.p .bool U2,ps 3]],[],4,1,.v (.c (.p .bool U4)),[],NX,502⟩
instance:Ok abO:=oS []
def asr:a8:=.ite U2 (.ln U3<|.op (.mx U0 (.i 0))<|.op (.mn U4 U5)<|.ln U3<|.op (.cut U3 (.i 0) U6 1)<|.op (.tk U3 U8)<|.j [U9]) (.join (.ln U3<|.cA 320 yf [U0,U1,U2,U4] 1<|.ln U3<|.bI .gtr U5 U6<|.ite U7 (.ln U3<|.bI .sub U5 U8<|.op (.f_ U9 [((.int .u8),(.i 0))] 1)<|.rw bA (.i 0) 1<|.op (.app U3 bA 1 1)<|.j [bJ]) (.j [U3])) (.ln U4<|.op (.cut U4 U0 U5 1)<|.op (.ue U4 U0 U6 U1 1)<|.j [U7]))
def LR:=Fo asr
def Yy:bB:=⟨202,[.agg [pi 0,ps 1,.p .bool U2],.c (.own 0)],[.row 5 U3],4,1,.v (.c (.own 1)),[(1,(.row 5 U4))],LR,358⟩
instance:Ok Yy:=oS [Dz]
def aaW:a8:=.cA 341 mf [U0,U1,U2,U3] 2<|.cA 341 mf [U0,U1,U2,U4] 2<|.op (.vw U2 U5 U6)<|.ln U9<|.loop [.i 0,U2] (.bI .lss bD bA<|.ite bH (.op (.gh bJ U7 U8 bD 1)<|.op (.rc bJ bM 0 (.int .u8))<|.op (.gh bJ U5 U6 bD 1)<|.op (.rc bJ bV 0 (.int .u8))<|.op (.gh bJ U5 U6 bD 1)<|.op (.set bJ bW 0 [((.int .u8),bL)])<|.op (.gh bX U7 U8 bD 1)<|.op (.set bX b9 0 [((.int .u8),bR)])<|.bI .add bD (.i 1)<|.j [cq,cu]) (.br (.jump 1 [bJ])))
def On:=Fo aaW
def RF:bB:=⟨321,[.agg [pi 0,pi 1,.own 0],ci 3,ci 4],[.row 5 U2],5,1,.bq [],[(0,(.row 5 U5))],On,359⟩
instance:Ok RF:=oS [sP,t_]
def alq:a8:=.bI .eql U0 bM<|.j [cu]
def NU:=Fo alq
def aaM:bB:=⟨87,[.agg (de 0 4++eT 4 8++[pi 12,pi 13]),.c (.ptr 0 0)],[.box [pi 14,pi 15,pi 16,.p (.int .u64) bR,.p (.int .u32) bW,pi 19,pi 20]],21,1,.v (.c (.p .bool cu)),[(0,(.box [pi 14,pi 15,pi 16,.p (.int .u64) bR,.p (.int .u32) bW,pi 19,pi 20]))],NU,360⟩
instance:Ok aaM:=oS []
def SR:a8:=.rw U1 U0 4<|.cl U3 0 (.int .u64)<|.op (.bi .geq .u64 U4 U2)<|.j [U5]
def NZ:=Fo SR
def YB:bB:=⟨251,[ci 0,.c (.ptr 0 0),.c (.ptr 1 0)],[.box [ps 1],.box [.p (.int .u64) U2]],3,1,.v (.c (.p .bool U3)),[(0,(.box [ps 1])),(1,(.box [.p (.int .u64) U2]))],NZ,83⟩
instance:Ok YB:=oS []
def L6:a8:=.join (.ln U0<|.loop [.i 0] (.bI .lss U2 U1<|.ite U3 (.rw U0 U2 4<|.cl U4 0 (.int .u64)<|.cl U4 1 (.int .u32)<|.cl U4 2 (.int .i64)<|.cl U4 3 (.int .i64)<|.cA 8 F8 [U5,U6,U7,U8] 1<|.ite U9 (.br (.jump 2 [U2])) (.bI .add U2 (.i 1)<|.j [bA])) (.br (.jump 1 [])))) (.j [.i (-1)])
def EE:=Fo L6
def Fp:bB:=⟨208,[cs 0,.c (.fn 206 [])],[],1,1,.v (ci 1),[],EE,84⟩
instance:Ok Fp:=oS [s8]
def If:a8:=.bI .add U1 (.i 1)<|.loop [U3,U0] (.bI .lss U4 U2<|.ite U6 (.join (.loop [U4,U5] (.join (.bI .gtr U7 U1<|.ite U9 (.rw U8 U7 4<|.op (.rc U8 U7 0 (.int .u64))<|.op (.rc U8 U7 1 (.int .u32))<|.op (.rc U8 U7 2 (.int .i64))<|.op (.rc U8 U7 3 (.int .i64))<|.bI .sub U7 (.i 1)<|.rw U8 bL 4<|.op (.rc U8 bL 0 (.int .u64))<|.op (.rc U8 bL 1 (.int .u32))<|.op (.rc U8 bL 2 (.int .i64))<|.op (.rc U8 bL 3 (.int .i64))<|.cA 6 F6 [bD,bJ,bH,bM,bR,bW,bX,b9] 1<|.bI .lss cu (.i 0)<|.j [cq]) (.j [.b false])) (.ite U9 (.bI .sub U7 (.i 1)<|.bI .sub U7 (.i 1)<|.rw U8 bD 4<|.op (.rc U8 bD 0 (.int .u64))<|.op (.rc U8 bD 1 (.int .u32))<|.op (.rc U8 bD 2 (.int .i64))<|.op (.rc U8 bD 3 (.int .i64))<|.rw U8 U7 4<|.op (.rc U8 U7 0 (.int .u64))<|.op (.rc U8 U7 1 (.int .u32))<|.op (.rc U8 U7 2 (.int .i64))<|.op (.rc U8 U7 3 (.int .i64))<|.rw U8 U7 4<|.op (.set U8 U7 0 [((.int .u64),bH),((.int .u32),bM),((.int .i64),bL),((.int .i64),bV)])<|.rw cv bA 4<|.op (.set cv bA 0 [((.int .u64),bW),((.int .u32),bX),((.int .i64),b9),((.int .i64),cu)])<|.bI .sub U7 (.i 1)<|.j [cK,cG]) (.br (.jump 1 [U8]))))) (.bI .add U4 (.i 1)<|.j [U8,U7])) (.br (.jump 1 [U5])))
def Ep:=Fo If
def Tn:bB:=⟨256,[.c (.own 0),ci 1,ci 2,.c (.fn 248 [])],[.row 25 U0],3,1,.bq [],[(0,(.row 25 U3))],Ep,85⟩
instance:Ok Tn:=oS [s6]
def T6:a8:=.cA 84 EE [U0] 1<|.bI .geq U1 (.i 0)<|.j [U2]
def H7:=Fo T6
def Es:bB:=⟨156,[cs 0,.c (.fn 206 [])],[],1,1,.v (.c (.p .bool U1)),[],H7,87⟩
instance:Ok Es:=oS [Fp]
def Nc:a8:=.join (.loop [.i 0,U0] (.bI .lss U3 U4<|.ite U5 (.bI .add U3 U4<|.op (.conv .u64 U6)<|.op (.bi .shr .u64 U7 (.i 1))<|.op (.conv .i64 U8)<|.cA 83 NZ [U9,U1,U2] 1<|.no bA<|.ite bD (.bI .add U9 (.i 1)<|.j [bJ,U4]) (.j [U3,U9])) (.br (.jump 1 [U3])))) (.j [U3])
def La:=Fo Nc
def ZD:bB:=⟨250,[ci 0,.c (.fn 251 [0,1])],[.box [ps 1],.box [.p (.int .u64) U2]],3,1,.v (ci 3),[(0,(.box [ps 1])),(1,(.box [.p (.int .u64) U2]))],La,88⟩
instance:Ok ZD:=oS [YB]
end
section
open Go.Shelf
def Tryz.aii:Go.Shelf.Ren:=⟨λ|6=>189|15=>225|14=>224|28=>264|29=>265|20=>256|21=>257|22=>258|23=>259|24=>260|25=>261|26=>262|27=>263|46=>292|47=>293|48=>294|49=>295|50=>296|57=>310|n=>n,λ|22=>89|24=>25|25=>295|3=>3|39=>135|0=>0|53=>23|55=>22|4=>4|46=>363|45=>362|50=>304|5=>5|9=>9|66=>398|70=>402|76=>415|77=>416|n=>n,λ|n=>n⟩
theorem Tryz.Su:Go.Proofs.SlLaysF0.n6 Tryz.prog Tryz.aii:={
 mixed:=kr
 f6:=⟨Tryz.f189.name,dc,Tryz.func189.trans (cO some kr)⟩
 f14:=⟨Tryz.f224.name,dc,Tryz.func224.trans (cO some kr)⟩
 f15:=Tryz.func225.trans (cO some kr)
 f20:=⟨Tryz.f256.name,dc,Tryz.func256.trans (cO some kr)⟩
 f21:=⟨Tryz.f257.name,dc,Tryz.func257.trans (cO some kr)⟩
 f22:=⟨Tryz.f258.name,dc,Tryz.func258.trans (cO some kr)⟩
 f23:=⟨Tryz.f259.name,dc,Tryz.func259.trans (cO some kr)⟩
 f24:=⟨Tryz.f260.name,dc,Tryz.func260.trans (cO some kr)⟩
 f25:=⟨Tryz.f261.name,dc,Tryz.func261.trans (cO some kr)⟩
 f26:=⟨Tryz.f262.name,dc,Tryz.func262.trans (cO some kr)⟩
 f27:=⟨Tryz.f263.name,dc,Tryz.func263.trans (cO some kr)⟩
 f28:=Tryz.func264.trans (cO some kr)
 f29:=Tryz.func265.trans (cO some kr)
 f46:=⟨Tryz.f292.name,dc,Tryz.func292.trans (cO some kr)⟩
 f47:=Tryz.func293.trans (cO some kr)
 f48:=Tryz.func294.trans (cO some kr)
 f49:=⟨Tryz.f295.name,dc,Tryz.func295.trans (cO some kr)⟩
 f50:=⟨Tryz.f296.name,dc,Tryz.func296.trans (cO some kr)⟩
 f57:=⟨Tryz.f310.name,dc,Tryz.func310.trans (cO some kr)⟩
 t0:=Tryz.underlying0
 a0:=Tryz.isAgg0
 z0:=Tryz.sizeOf0
 v0:=Tryz.zeroValue0
 t3:=Tryz.underlying3
 a3:=Tryz.isAgg3
 z3:=Tryz.sizeOf3
 v3:=Tryz.zeroValue3
 t4:=Tryz.underlying4
 a4:=Tryz.isAgg4
 z4:=Tryz.sizeOf4
 v4:=Tryz.zeroValue4
 t5:=Tryz.underlying5
 a5:=Tryz.isAgg5
 z5:=Tryz.sizeOf5
 v5:=Tryz.zeroValue5
 t9:=Tryz.underlying9
 a9:=Tryz.isAgg9
 z9:=Tryz.sizeOf9
 v9:=Tryz.zeroValue9
 t22:=Tryz.underlying89
 a22:=Tryz.isAgg89
 z22:=Tryz.sizeOf89
 v22:=Tryz.zeroValue89
 t25:=Tryz.underlying295
 a25:=Tryz.isAgg295
 z25:=Tryz.sizeOf295
 v25:=Tryz.zeroValue295
 t39:=Tryz.underlying135
 a39:=Tryz.isAgg135
 z39:=Tryz.sizeOf135
 v39:=Tryz.zeroValue135
 t45:=Tryz.underlying362
 a45:=Tryz.isAgg362
 z45:=Tryz.sizeOf362
 v45:=Tryz.zeroValue362
 t46:=Tryz.underlying363
 a46:=Tryz.isAgg363
 z46:=Tryz.sizeOf363
 v46:=Tryz.zeroValue363
 t50:=Tryz.underlying304
 a50:=Tryz.isAgg304
 z50:=Tryz.sizeOf304
 v50:=Tryz.zeroValue304
 t53:=Tryz.underlying23
 a53:=Tryz.isAgg23
 z53:=Tryz.sizeOf23
 v53:=Tryz.zeroValue23
 t55:=Tryz.underlying22
 a55:=Tryz.isAgg22
 z55:=Tryz.sizeOf22
 v55:=Tryz.zeroValue22
 t66:=Tryz.underlying398
 a66:=Tryz.isAgg398
 z66:=Tryz.sizeOf398
 v66:=Tryz.zeroValue398
 t70:=Tryz.underlying402
 a70:=Tryz.isAgg402
 z70:=Tryz.sizeOf402
 v70:=Tryz.zeroValue402
 t76:=Tryz.underlying415
 a76:=Tryz.isAgg415
 z76:=Tryz.sizeOf415
 v76:=Tryz.zeroValue415
 t77:=Tryz.underlying416
 a77:=Tryz.isAgg416
 z77:=Tryz.sizeOf416
 v77:=Tryz.zeroValue416}
def Tryz.ajA:Go.Shelf.Ren:=⟨λ|5=>191|7=>226|n=>n,λ|22=>2|3=>3|4=>4|n=>n,λ|n=>n⟩
theorem Tryz.ata:Go.Proofs.SlLaysC2.n5 Tryz.prog Tryz.ajA:={
 mixed:=kr
 f5:=⟨Tryz.f191.name,dc,Tryz.func191.trans (cO some kr)⟩
 f7:=⟨Tryz.f226.name,dc,Tryz.func226.trans (cO some kr)⟩
 t3:=Tryz.underlying3
 a3:=Tryz.isAgg3
 z3:=Tryz.sizeOf3
 v3:=Tryz.zeroValue3
 t4:=Tryz.underlying4
 a4:=Tryz.isAgg4
 z4:=Tryz.sizeOf4
 v4:=Tryz.zeroValue4
 t22:=Tryz.underlying2
 a22:=Tryz.isAgg2
 z22:=Tryz.sizeOf2
 v22:=Tryz.zeroValue2}
section
open Go.RowKit Go.Lib Go.Sort
abbrev I4:=Int×Int×Int×Int
def encI(x:I4):List cr:=[.int .u64 x.1,.int .u32 x.2.1,.int .i64 x.2.2.1,.int .i64 x.2.2.2]
def ob(x y:I4):Int:=Lib.compareInt x.2.2.1 y.2.2.1
theorem Du(x y):ltOf ob x y=decide (x.2.2.1<y.2.2.1):=by
 unfold ltOf ob Lib.compareInt;by_cases a:x.2.2.1<y.2.2.1
 .simp[a]
 .by_cases b:y.2.2.1<x.2.2.1<;>simp[a,b]
theorem Rq:SWO (ltOf ob):={
 irrefl:=λx=>by rw[Du];simp
 trans:=λx y z a b=>by rw[Du]at*;simp at*;omega
 ntrans:=λx y z a b=>by rw[Du]at*;simp at*;omega}
set_option maxHeartbeats 1000000 in
theorem amu(x y)(W):Calls Tryz.prog 190 #[.agg (encI x).toArray,.agg (encI y).toArray] W λe w'=>e=.returned (.int .i64 (ob x y))/\∃q os',w'=grow (W.drewN q) os':=by
 have hcon:=λW'=>AnyG.cmp_Compare_int Tryz.ata x.2.2.1 y.2.2.1 W'
 unfold ob encI
 go_enter Tryz.func190,Tryz.ntmps190
 go_wp2_with (go_at_call 191;refine(hcon _).mono ?_;rintro e w' ⟨rfl,rfl⟩)
 go_ret
 exact⟨rfl,0,_,by rw[alloc_eq_grow,alloc_eq_grow,grow_grow];rfl⟩
theorem awl(a off size)(w):CmpLays Tryz.prog 190 #[] encI 4 ob a off size w:=λ_ _ _ _ x y=>amu x y _
def Ei:List PV->Option I4
 |[.sc (.int .u64 a),.sc (.int .u32 b),.sc (.int .i64 c),.sc (.int .i64 d)]=>some (a,b,c,d)
 |_=>none
def vi(x:I4):List PV:=[.sc (.int .u64 x.1),.sc (.int .u32 x.2.1),.sc (.int .i64 x.2.2.1),.sc (.int .i64 x.2.2.2)]
theorem ajL{r x}(h:Ei r=some x):r=vi x:=by
 unfold Ei at h;split at h
 .cases h;rfl
 .cases h
def wM:List (List PV)->Option (List I4)
 |[]=>some []
 |r::rs=>match Ei r,wM rs with
  |some x,some xs=>some (x::xs)
  |_,_=>none
theorem V9:∀{rows:List (List PV)}{xs:List I4},wM rows=some xs->rows=xs.map vi
 |[],xs,h=>by cases h;rfl
 |r::rs,xs,h=>by
  simp only[wM]at h;split at h
  .rename_i x ys a b;cases h;rw[ajL a,V9 b];rfl
  .cases h
def vV(x:I4)(r:List I4):List I4:=(pdq (ltOf ob) (x::r).toArray 0 (r.length+1) (Lib.bitLen (r.length+1)) true true).toList
def mj:List I4->List I4
 |[]=>[]
 |x::r=>vV x r
theorem U_(xs):(mj xs).Perm xs/\(∀(i j:Nat)(a b),i<j->(mj xs)[i]?=some a->(mj xs)[j]?=some b->a.2.2.1<=b.2.2.1):=by
 cases xs with
 |nil=>exact⟨G3 _,λi j a b _ h=>by simp[mj]at h⟩
 |cons x r=>
  obtain⟨⟨f,_,g⟩,n⟩:=pdq_sorts (ltOf ob) Rq (x::r).toArray 0 (r.length+1) (Lib.bitLen (r.length+1)) true true (gk _) (by simp) (Or.inl rfl);show(vV x r).Perm (x::r)/\∀(i j:Nat)(a b:I4),i<j->(vV x r)[i]?=some a->(vV x r)[j]?=some b->_;unfold vV;refine⟨?_,λi j a b c k e=>?_⟩
  .have l:∀d:Array I4,d.size=r.length+1->d.extract 0 (r.length+1)=d:=λd o=>by rw[<-o];simp
   rw[l _ (by rw[f];simp),l _ (by simp)]at g;exact g
  .rw[P2]at k e;have m:=(fx.1 e).1;have:=n i j (gk _) c (by rw[f]at m;simpa using m);rw[getElem!_def,getElem!_def,k,e,Du]at this;have:¬b.2.2.1<a.2.2.1:=eR this;omega
def qx:List L->Option (List L):=λls=>match ls with
 |[.r rows]=>match wM rows with
  |some xs=>if xs.length<=1048576 then some [.r ((mj xs).map vi)]else none
  |none=>none
 |_=>none
def NB:bB:=⟨189,[.c (.own 0),.c (.fn 190 [])],[.row 25 (.v 0)],1,1,.bq [],[(0,.row 25 (.v 1))],qx,2060⟩
theorem agu{w g n a e b d os}(c:w.heap[g]?=some (.cells a e b)):
 (sortWorldK encI 4 w g 0 n d os).heap[g]?=some (.cells (putCells id 0 (flatK encI 4 d) a) e b):=by
 have f:g<w.heap.size:=(fx.1 c).1;have:((mapBlock (Sort.ahead w n) g (putCells id 0 (flatK encI 4 d))).heap++os)[g]?=_:=Array.getElem?_append_left (by simpa[mapBlock,Sort.ahead]using f);refine this.trans ?_;show((Sort.ahead w n).heap.modify g (onCells _))[g]?=_;rw[P8,bF rfl];show Option.map _ w.heap[g]?=_;rw[c];rfl
theorem arC{w g n q d os}(b:q<w.heap.size)(a:q≠g):(sortWorldK encI 4 w g 0 n d os).heap[q]?=w.heap[q]?:=by
 have:((mapBlock (Sort.ahead w n) g (putCells id 0 (flatK encI 4 d))).heap++os)[q]?=_:=Array.getElem?_append_left (by simpa[mapBlock,Sort.ahead]using b);refine this.trans ?_;show((Sort.ahead w n).heap.modify g (onCells _))[q]?=_;rw[P8,bO (λh=>a h.symm)];rfl
theorem YZ{w g n d os}:w.heap.size<=(sortWorldK encI 4 w g 0 n d os).heap.size:=by
 show _<=((mapBlock (Sort.ahead w n) g (putCells id 0 (flatK encI 4 d))).heap++os).size;simp[mapBlock,Sort.ahead]
theorem Uh{d:List I4}{i j}(a)(b:j<4):∃v,(vi d[i])[j]?=some (.sc v)/\flat v=true/\(flatK encI 4 d.toArray)[i*4+j]! =v:=by
 have c:i*4+j<d.toArray.size*4:=by simp;omega
 rw[get_flatK encI 4 _ _ c,show(i*4+j) /4=i by omega,show(i*4+j)%4=j by omega,getElem!_pos d.toArray i (by simpa using a)]
 match j,b with
 |0,_=>exact⟨_,rfl,rfl,rfl⟩
 |1,_=>exact⟨_,rfl,rfl,rfl⟩
 |2,_=>exact⟨_,rfl,rfl,rfl⟩
 |3,_=>exact⟨_,rfl,rfl,rfl⟩
theorem afD:NB.ok Tryz.prog:=by
 intro ls os hl s al;change qx ls=some os at s;unfold qx at s;split at s
 .rename_i rows;split at s
  .rename_i xs aa;split at s
   .rename_i hn;cases s;show fg Tryz.prog 189 [.c (.own 0),.c (.fn 190 [])] [.row 25 rows] (.bq []) [(0,.row 25 ((mj xs).map vi))];obtain rfl:=V9 aa;refine⟨⟨_,Tryz.func189,by kernel_rfl,rfl⟩,λw M N vals hM am ab ad hH ae I=>?_⟩;obtain⟨u0,e0,r0⟩:=I 0 _ rfl;obtain⟨u1,e1,r1⟩:=I 1 _ rfl;obtain⟨x,A,fz,P,Q,J,hlen,E,R,S,F,G,af,hnil,B⟩:=hH 0 _ rfl;have P:N 0=some x:=P;have f:x.sz=4:=F.trans kr;rw[bC]at hlen;obtain⟨o,T,rfl⟩:∃y,N 0=some y/\u0=.slice (y.g.map λg=>⟨g,0,none⟩) y.len y.cap:=by
     rcases r0 with h|h
     .cases h
     .exact h
    obtain rfl:o=x:=by rw[P]at T;cases T;rfl
    obtain⟨us,rfl,ag,_⟩:=r1;obtain rfl:us= #[]:=P3 ag;obtain rfl:vals= #[.slice (o.g.map λg=>⟨g,0,none⟩) o.len o.cap,.func (.func 190) #[] #[]]:=by
     obtain⟨l⟩:=vals
     match l,ae with
     |[a,b],_=>
      simp at e0 e1;rw[e0,e1]
    have U:∀w',w.heap.size<=w'.heap.size->wG N 1 w w' ⟨N,[]⟩:=λw' hs=>⟨rfl,λn y g L Y=>⟨mO (ab n y g L Y).1 hs,.inl ⟨n,y,L,Y⟩⟩,ad,λm _=>.inr rfl⟩
    have H:∀w',RV M ⟨N,[]⟩ w' (.bq []) (.tuple #[]):=λw'=>⟨#[],rfl,rfl,λi x h=>by cases h⟩
    cases xs with
    |nil=>
     rw[show o.len=0 from hlen];refine(AnyF.slices_SortFunc_none Tryz.Su _ _ _ w).mono ?_;rintro e w' ⟨rfl,rfl⟩;exact⟨_,⟨N,[]⟩,rfl,Frame.refl _ _,U _ (dx _),λn b h=>hH n b (by
      simp only[hX,nR]at h;split at h
      .rename_i V;simp at V;subst V;exact h
      .cases h),H _⟩
    |cons y ys=>
     obtain⟨g,O⟩:∃g,o.g=some g:=by
      cases O:o.g with
      |some g=>exact⟨g,rfl⟩
      |none=>have:=hnil O;simp at hlen;omega
     have C:=J g O;have an:A.size=o.cap*4:=by rw[G,f]
     have ao:ys.length+1<=o.cap:=by simpa[hlen]using E
     rw[O,hlen];have K:∀(i j:Nat)(v:cr)(D:i< (y::ys).length),j<4->(vi (y::ys)[i])[j]?=some (.sc v)->A[i*4+j]?=some v:=λi j v D Z I=>by
      obtain⟨u,k1,k2⟩:=B i _ j _ (by rw[cN,cW D];rfl) I;rw[f]at k1;rw[k1,RP.ei k2]
     have ah:HoldsK encI 4 w g 0 (y::ys).toArray:=by
      intro t ht;have ht:t< (ys.length+1)*4:=by simpa using ht
      obtain⟨v,L,_,h3⟩:=Uh (d:=y::ys) (i:=t/4) (j:=t%4) (by simp;omega) om;rw[show t/4*4+t%4=t by omega]at h3;have hc:=K _ _ _ (by simp;omega) om L;rw[show t/4*4+t%4=t by omega]at hc;constructor
      .rw[mQ];show(match w.heap[g]? with|some (.cells c _ _)=>_|_=>none)=_;rw[C];rw[h3];exact hc
      .show(match w.heap[g]? with|some (.cells _ _ (lo,D))=>_|_=>false)=_;rw[C];obtain⟨lo,D⟩:=fz;rcases Q with hf|hf
       .cases hf;simp
       .simp;omega
     have eg:∀args w,(callFunc 190 args).run Tryz.prog w=.ok (.enter 190 args) w:=enters_of Tryz.func190 kr rfl;refine(AnyQ.slices_SortFunc_eq Tryz.Su 4 Tryz.isAgg25 Tryz.sizeOf25 encI (λ_=>rfl) (λx v I=>by simp[encI]at I;rcases I with rfl|rfl|rfl|rfl<;>rfl) ob Rq 190 #[] g 0 o.cap (y::ys).toArray w eg (awl g 0 _ w) ah ((fx.1 C).1) (by simp;simp at hn;omega)).mono ?_;rintro e w' ⟨rfl,n,os,rfl⟩;have ai:pdq (ltOf ob) (y::ys).toArray 0 (y::ys).toArray.size (Lib.bitLen (y::ys).toArray.size) true true=(mj (y::ys)).toArray:=by simp[mj,vV]
     rw[ai];have W:(mj (y::ys)).length=ys.length+1:=by have:=(U_ (y::ys)).1.length_eq;simpa using this
     have hput:∀k,k< (ys.length+1)*4->(putCells id 0 (flatK encI 4 (mj (y::ys)).toArray) A)[k]?=some (flatK encI 4 (mj (y::ys)).toArray)[k]!:=λk hk=>by
      have aj:k<A.size:=om;unfold putCells;rw[Array.getElem?_mapIdx,pd aj];simp[W,hk]
     refine⟨_,⟨N,[]⟩,rfl,⟨rfl,rfl,rfl,YZ,λq hq hK=>arC hq λh=>hK ⟨0,o,P,by rw[O,h]⟩⟩,U _ YZ,λm b hb=>?_,H _⟩;simp only[hX,nR]at hb;split at hb
     .rename_i hm;simp at hm;subst hm;cases hb;refine⟨o,_,fz,P,?_,λg' X=>by rw[O]at X;cases X;exact agu C,by rw[bC,W];exact hlen,E,R,S,F,?_,?_,hnil,?_⟩
      .simpa[putCells]using Q
      .simpa[putCells]using G
      .intro r hr;simp only[eV]at hr;obtain⟨z,_,rfl⟩:=hr;exact f.symm
      .intro i r j p D Z;rw[cN,bY]at D;obtain⟨z,hz,rfl⟩:=D;obtain⟨D,rfl⟩:=dW.1 hz;have ak:j<4:=(dW.1 Z).1;obtain⟨v,L,Y,h3⟩:=Uh D ak;rw[L]at Z;cases Z;refine⟨v,?_,RP.sc Y⟩;rw[f,hput _ om,h3]
     .cases hb
   .cases s
  .cases s
 .cases s
instance:Ok NB:=⟨afD⟩
end
end
section
attribute [local irreducible] Fo
open Go.RowKit
def Dq:=mS [Lo,IH,DD,y9] 184 [cs 0,ci 1] [] 2 10 (.v (.agg [.own 0,.own 1,.own 2,.own 3,.own 4,.own 5,.own 6,.own 7,pi 2,pi 3])) [(0,(.row 25 U4)),(1,(.row 25 U5)),(2,(.row 25 U6)),(3,(.row 25 U7)),(4,(.row 25 U8)),(5,(.row 25 U9)),(6,(.row 25 bA)),(7,(.row 25 bD))] 51
def F51:=Dq.F
instance:Ok Dq:=oM
def aut:a8:=.join (.loop [.i 0,.i 0] (.bI .lss bD (.i 8)<|.ite bJ (.op (.ed bD 8)<|.op (.fw (w 0 8) bD)<|.cA 48 sG [bH] 1<|.no bM<|.ite bL (.br (.jump 2 [.b false])) (.join (.loop [.i 0] (.op (.ed bD 8)<|.op (.fw (w 0 8) bD)<|.ln bR<|.bI .lss bV bW<|.ite bX (.op (.ed bD 8)<|.op (.fw (w 0 8) bD)<|.rw b9 bV 4<|.cl cu 0 (.int .u64)<|.cA 50 Gi [cq] 1<|.bI .neq cv bD<|.ite cX (.br (.jump 4 [.b false])) (.bI .add bV (.i 1)<|.j [cG])) (.br (.jump 1 [])))) (.op (.ed bD 8)<|.op (.fw (w 0 8) bD)<|.cA 49 D4 [bV] 1<|.bI .add bA bR<|.bI .add bD (.i 1)<|.j [bW,bX]))) (.br (.jump 1 [bA])))) (.join (.bI .eql U8 bA<|.ite bD (.bI .geq U9 (.i 0)<|.ite bJ (.bI .leq U9 (.i 1099511627776)<|.j [bH]) (.j [.b false])) (.j [.b false])) (.j [bD]))
def zK:=Fo aut
def yA:bB:=⟨130,[.agg (eT 0 8++[pi 8,pi 9])],[],10,1,.v (.c (.p .bool bA)),[],zK,52⟩
instance:Ok yA:=oS [Lo,IH,wB]
def XB:a8:=.bI .add (.i 48) U0<|.op (.conv .u8 U1)<|.op (.lit [[((.int .u8),U2)]])<|.op (.str U3)<|.j [U4]
def yh:=Fo XB
def Vn:bB:=⟨176,[ci 0],[],1,1,.v (.c (.p .str U1)),[],yh,53⟩
instance:Ok Vn:=oS []
def UK:a8:=.join (.bI .lss U0 (.i 1)<|.ite U5 (.j [.b true]) (.bI .gtr U0 (.i 5)<|.ite U6 (.j [.b true]) (.bI .lss U1 (.i 0)<|.ite U7 (.j [.b true]) (.bI .geq U1 (.i 4)<|.ite U8 (.j [.b true]) (.bI .lss U2 (.i 1)<|.ite U9 (.j [.b true]) (.bI .gtr U2 (.i 8)<|.j [bA])))))) (.ite U5 (.j [.b false]) (.bI .eql U0 (.i 5)<|.ite U6 (.join (.bI .geq U3 (.i 0)<|.ite U7 (.bI .lss U3 (.i 6)<|.j [U8]) (.j [.b false])) (.j [U7])) (.join (.bI .eql U3 (.i 0)<|.ite U7 (.bI .eql U0 (.i 4)<|.ite U8 (.j [.b true]) (.no U4<|.j [U9])) (.j [.b false])) (.j [U7]))))
def Hg:=Fo UK
def Q0:bB:=⟨175,[.agg (de 0 4++[.p .bool U4])],[],5,1,.v (.c (.p .bool U5)),[],Hg,54⟩
instance:Ok Q0:=oS []
def UE:a8:=.op (.call 54 Hg (w 0 5) 1 [])<|.no U5<|.ite U6 (.br (.jump 0 [.s ⟨#[]⟩,.i 1])) (.cA 53 yh [U3] 1<|.op (.bs .add (.s ⟨#[101,99]⟩) U7)<|.op (.lit [[(.str,(.s ⟨#[]⟩))],[(.str,(.s ⟨#[100,97,116]⟩))],[(.str,(.s ⟨#[115,104,100]⟩))],[(.str,(.s ⟨#[100,101,108]⟩))],[(.str,(.s ⟨#[105,100,120]⟩))],[(.str,U8)]])<|.cA 53 yh [U1] 1<|.op (.bs .add (.s ⟨#[118,46]⟩) bA)<|.op (.bs .add bD (.s ⟨#[46]⟩))<|.cA 53 yh [U2] 1<|.op (.bs .add bJ bH)<|.op (.bs .add bM (.s ⟨#[46]⟩))<|.rw U9 U0 1<|.op (.rc U9 U0 0 .str)<|.op (.bs .add bL bR)<|.join (.ite U4 (.op (.bs .add bW (.s ⟨#[46,116,109,112]⟩))<|.j [bX]) (.j [bW])) (.j [bX,.i 0]))
def BK:=Fo UE
def HX:bB:=⟨121,[.agg (de 0 4++[.p .bool U4])],[],5,2,.bq [.c (.p .str U5),ci 6],[],BK,55⟩
instance:Ok HX:=oS [Q0,Vn]
def UQ:a8:=.cA 55 BK [U0,U1,U2,.i 0,.b false] 2<|.j [U3]
def yk:=Fo UQ
def qG:bB:=⟨62,[ci 0,ci 1,ci 2],[],3,1,.v (.c (.p .str U3)),[],yk,56⟩
instance:Ok qG:=oS [HX]
def BF:=mS [] 116 [ci 0] [] 1 4 (.bq [.agg [pi 2,.p (.int .i64) (.i 0),pi 3,pi 4,.nil,.nil,.nil,.nil,.nil,.nil,.nil,.nil,.p (.int .i64) (.i 0),.p (.int .i64) (.i 0)],ci 1]) [] 57
def F57:=BF.F
instance:Ok BF:=oM
def aqG:a8:=.join (.loop [.i 0] (.ln U0<|.bI .lss U2 U3<|.ite U4 (.join (.rw U0 U2 4<|.cl U5 2 (.int .i64)<|.rw U0 U2 4<|.cl U7 3 (.int .i64)<|.cA 44 mL [U8] 1<|.bI .add U6 U9<|.bI .gtr bA U1<|.ite bD (.br (.jump 3 [.b false])) (.loop [.i 0] (.ln U0<|.bI .lss bJ bH<|.ite bM (.join (.bI .neq bJ U2<|.ite bL (.rw U0 bJ 4<|.cl bV 2 (.int .i64)<|.rw U0 U2 4<|.cl bW 2 (.int .i64)<|.bI .geq bR bX<|.ite b9 (.rw U0 bJ 4<|.cl cu 2 (.int .i64)<|.bI .lss cq bA<|.j [cv]) (.j [.b false])) (.j [.b false])) (.ite bL (.br (.jump 4 [.b false])) (.bI .add bJ (.i 1)<|.j [bV]))) (.br (.jump 1 []))))) (.bI .add U2 (.i 1)<|.j [U5])) (.br (.jump 1 [])))) (.j [.b true])
def BU:=Fo aqG
def s58:bB:=⟨140,[cs 0,ci 1],[],2,1,.v (.c (.p .bool U2)),[],BU,58⟩
instance:Ok s58:=oS [kX]
def amH:a8:=.join (.loop [.i 0,.r0] (.join (.ln U0<|.bI .lss U2 U4<|.ite U5 (.bI .lss U2 U1<|.j [U6]) (.j [.b false])) (.ite U4 (.rw U0 U2 4<|.cl U5 0 (.int .u64)<|.cl U5 1 (.int .u32)<|.cl U5 2 .bool<|.cl U5 3 .sl<|.join (.ln U9<|.bI .gtr bA (.i 30)<|.ite bD (.ln U9<|.op (.part U9 (.i 0) (.i 30) 1)<|.j [bH]) (.j [U9])) (.join (.ite U8 (.j [.r0]) (.j [bA])) (.op (.bi .and .u64 U6 (.i 7))<|.op (.bi .and .u32 U7 (.i 3))<|.op (.lit [[((.int .u64),bJ),((.int .u32),bH),(.bool,U8),(.sl,bD)]])<|.op (.app U3 bM 4 40)<|.bI .add U2 (.i 1)<|.j [bV,bL]))) (.br (.jump 1 [U3]))))) (.j [U2])
def Ll:=Fo amH
def BI:bB:=⟨35,[cs 0,ci 1],[],2,1,.v (.c (.own 0)),[(0,(.row 73 U2))],Ll,59⟩
instance:Ok BI:=oS []
def alg:List L->Option (List L):=Ll
def ON:bB:=⟨35,[cs 0,ci 1],[],2,1,.v (cs 2),[],Ll,2004⟩
theorem ahy:ON.ok Tryz.prog:=Da (s:=BI) (Ok.j BI) rfl (x:=(.v 2)) (e:=73) rfl rfl 2004
instance:Ok ON:=⟨ahy⟩
def Zr:a8:=.cA 2060 qx [U0] 1<|.join (.ln U2<|.loop [.i 16,.i 0] (.bI .lss U5 U3<|.ite U6 (.rw U2 U5 4<|.op (.rc U2 U5 0 (.int .u64))<|.op (.rc U2 U5 1 (.int .u32))<|.op (.rc U2 U5 2 (.int .i64))<|.op (.rc U2 U5 3 (.int .i64))<|.bI .lss bA U4<|.ite bJ (.br (.jump 2 [.b false,U2])) (.cA 5 F5 [bD] 1<|.bI .add bA bH<|.bI .add U5 (.i 1)<|.j [bM,bL])) (.br (.jump 1 [U4])))) (.bI .leq U3 U1<|.j [U4,U2])
def Kv:=Fo Zr
def LC:bB:=⟨142,[.c (.own 0),ci 1],[.row 25 U0],2,2,.v (.c (.p .bool U2)),[(0,(.row 25 U3))],Kv,186⟩
instance:Ok LC:=oS [s5,NB]
end
end
end Go.Proofs.YtndegphojkiblaaGreatDoor
