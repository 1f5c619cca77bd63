/- A part. -/
import Derived.Test.YtiikkkhcolcebaaGreatDoorG15
import Derived.Test.YtiikkkhcolcebaaGreatDoorG17
import Derived.Test.YtiikkkhcolcebaaGreatDoorG18
import Derived.Test.YtiikkkhcolcebaaGreatDoorG19
import Derived.Test.YtiikkkhcolcebaaGreatDoorG20
import Derived.WalkKit
set_option linter.all false
set_option maxHeartbeats 4000000
set_option maxRecDepth 100000
namespace Go.Proofs.YtiikkkhcolcebaaGreatDoor
noncomputable section
section
open Go.RowKit
open Classical
def bl.nx(e:Bool):bl->Option bq
 |.bp (.st .normal S)=>if e then none else some S
 |.bp (.st .ret S)=>if e then some S else none
 |.bp _=>none
 |.op _ k=>k.nx e
 |.ite _ a b=>(a.nx e).or (b.nx e)
 |.join _ b=>b.nx e
 |.loop _ _=>none
def nx(e:Bool)(o:Option bl):bq:=(o.bind (bl.nx e)).getD default
theorem abV(i)(h:i<255):jx i=true:=by
 have e:i=15*(i/15)+i%15:=om;have d:i/15<17:=om;have c:i%15∈List.range 15:=jr.2 om;rw[e];generalize i%15=b at c;generalize i/15=a at d
 match a,d with
 |0,_=>exact cz.1 aqh b c
 |1,_=>exact cz.1 agf b c
 |2,_=>exact cz.1 arV b c
 |3,_=>exact cz.1 ayn b c
 |4,_=>exact cz.1 arp b c
 |5,_=>exact cz.1 ayb b c
 |6,_=>exact cz.1 asf b c
 |7,_=>exact cz.1 aaS b c
 |8,_=>exact cz.1 aiV b c
 |9,_=>exact cz.1 aAe b c
 |10,_=>exact cz.1 aaf b c
 |11,_=>exact cz.1 aoO b c
 |12,_=>exact cz.1 anB b c
 |13,_=>exact cz.1 aaX b c
 |14,_=>exact cz.1 abu b c
 |15,_=>exact cz.1 ayR b c
 |16,_=>exact cz.1 awK b c
 |a+17,h=>omega
theorem Sb{e c S l}(h:BT e c S l=true)(m:S.bu=[])(n:S.nv=0){X}(b:X.P=Tryz.prog)(d:X.k0=0):
 Aw X c (λf st=>f=(if e then .exit 0 else .normal)/\st=l.a_ []) (S.a_ []):=by
 unfold BT at h;split at h
 .rename_i o g;simp only[cu,oV,Ou]at h;obtain⟨⟨i,a⟩,j⟩:=h;refine mr (kO (piece (C:=[]) .nil g m (ρ:=[]) n.symm rfl b d).2.2 ?_);rintro f st ⟨rfl,rfl⟩;exact⟨_,(zg (D:=[]) (ρ:=[]) (ys:=[]) iB rfl (λz k=>by cases k) j a).2.2 X b d,by rw[i];rfl,rfl⟩
 .rename_i o g;simp only[cu,Ou]at h;obtain⟨⟨i,a⟩,j⟩:=h;refine mr (kO (piece (C:=[]) .nil g m (ρ:=[]) n.symm rfl b d).2.2 ?_);rintro f st ⟨rfl,rfl⟩;exact⟨_,(zg (D:=[]) (ρ:=[]) (ys:=[]) iB rfl (λz k=>by cases k) j a).2.2 X b d,by rw[i];rfl,rfl⟩
 .cases h
theorem adP:BT true Ee (nV 255) (nV 255)=true:=kr
theorem T7{X}(a:X.P=Tryz.prog)(b:X.k0=0){Q}(c:Q (.exit 0) ((nV 255).a_ [])):∀k i,i+k=255->rS X Ee (k+1) Q ((nV i).a_ [])
 |0,i,h=>by
  obtain rfl:i=255:=om;refine kO (Sb adP rfl rfl a b) ?_;rintro e st ⟨rfl,rfl⟩;exact c
 |k+1,i,h=>by
  refine kO (Sb (abV i om) rfl rfl a b) ?_;rintro e st ⟨rfl,rfl⟩;exact T7 a b c k (i+1) om
def J0:bq:=wM 29 0 [] []
def Eh:bq:=nx false (oe TT [] (kq 0) false J0)
def EM:bq:=nx false (oe TT [] (kq 1) false Eh)
def QX:bq:=nx false (oe TT [] (kq 2) false EM)
def Hw:bq:=nx false (oe TT [] (kq 11) true (nV 255))
theorem asn:oe TT [] (kq 0) false J0=some (.bp (.st .normal Eh)):=kr
theorem aol:oe TT [] (kq 1) false Eh=some (.bp (.st .normal EM)):=kr
theorem adH:oe TT [] (kq 2) false EM=some (.bp (.st .normal QX)):=kr
theorem amF:oe TT [] (kq 11) true (nV 255)=some (.bp (.st .normal Hw)):=kr
theorem axg:ub [] TT 0 QX (nV 0) 0 [] [(0,0),(8,1)] []=true:=kr
def LY:SV:=.bL [.agg (DQ 255++DQ 255),.agg (QQ 255)]
theorem apR{X}(a:X.P=Tryz.prog)(c:X.k0=0){r}(d:tW Tryz.prog [.cell 0 395,.cell 1 396] (Hw.a_ [])=some r):Aw X Wn (nD Tryz.prog [.cell 0 395,.cell 1 396] r []) (iH 29 [] []):=by
 refine ei (kO (piece (C:=[]) .nil (k0:=0) (n:=0) (r:=0) (ex:=[]) (show exec TT _ 0 (.region 0 (kq 0) false) 0 [] 0 J0=_ from asn) kr (ρ:=[]) kr rfl a c).2.2 ?_);rintro e st ⟨rfl,rfl⟩;refine ei (kO (piece (C:=[]) .nil (k0:=0) (n:=0) (r:=0) (ex:=[]) (show exec TT _ 0 (.region 1 (kq 1) false) 0 [] 0 Eh=_ from aol) kr (ρ:=[]) kr rfl a c).2.2 ?_);rintro e st ⟨rfl,rfl⟩;refine ei (ei (kO (piece (C:=[]) .nil (k0:=0) (n:=0) (r:=0) (ex:=[]) (show exec TT _ 0 (.region 2 (kq 2) false) 0 [] 0 EM=_ from adH) kr (ρ:=[]) kr rfl a c).2.2 ?_));rintro e st ⟨rfl,rfl⟩;refine VB (P9 (n:=256) (OZ (st':=(nV 0).a_ []) ?_ (T7 a c ?_ 255 0 rfl)))
 .exact(zg (D:=[]) (ρ:=[]) (ys:=[]) iB rfl (λz f=>by cases f) axg kr).2.2 X a c
 .refine ei (kO (piece (C:=[]) .nil (k0:=0) (n:=0) (r:=0) (ex:=[]) (show exec TT _ 0 (.region 11 (kq 11) true) 0 [] 0 (nV 255)=_ from amF) rfl (ρ:=[]) rfl rfl a c).2.2 ?_);rintro e st ⟨rfl,rfl⟩;exact nZ ⟨trivial,d,λn b h=>by cases h⟩
theorem akc:tW Tryz.prog [.cell 0 395,.cell 1 396] (Hw.a_ [])=some (LY.a_ []):=kr
theorem ajp(F)(a):bw.ok Tryz.prog ⟨292,[],[],0,0,LY,[],F,a⟩:=by
 intro ls os e f b;exact eC.intro (H:=[]) Tryz.func292 kr aaY (n:=29) kr (rs:=[.cell 0 395,.cell 1 396]) kr λX c d=>apR c d akc
def yD:List At:=(lF++lF).map λx=>.i (x:Nat)
def wI:List At:=xx.map λn=>.i ((cond (Nat.blt n 255) n 0:Nat))
end
section
attribute [local irreducible] Fo
open Go.RowKit
def WN:bl:=.bI .mul U3 U1<|.bI .add U5 U4<|.rw U2 U6 1<|.cl U7 0 (.int .u8)<|.j [U8]
def mZ:=Fo WN
def abm:bw:=⟨235,[.agg [pi 0,pi 1,ps 2],ci 3,ci 4],[],5,1,.v (.c (.p (.int .u8) U5)),[],mZ,304⟩
theorem JS:Ok abm:=oS .nil
def Wx:bl:=.j []
def qR:=Fo Wx
def aiX:bw:=⟨292,[],[],0,0,LY,[],qR,300⟩
theorem KZ:aiX.ok Tryz.prog:=ajp qR 300
def QY:bl:=.bI .mul U0 U1<|.op (.jJ U2 [((.int .u8),(.i 0))] 1)<|.j [U3]
def sD:=Fo QY
def axJ:bw:=⟨283,[ci 0,ci 1],[],2,1,.v (.agg [pi 0,pi 1,.own 0]),[(0,(.row 5 U2))],sD,303⟩
theorem KJ:Ok axJ:=oS .nil
def Xq:bl:=.join (.bI .geq U0 (.i 1)<|.ite U1 (.bI .leq U0 (.i 16)<|.j [U2]) (.j [.b false])) (.j [U1])
def l7:=Fo Xq
def atg:bw:=⟨229,[ci 0],[],1,1,.v (.c (.p .bool U1)),[],l7,306⟩
theorem Cu:Ok atg:=oS .nil
def apm:bl:=.join (.bI .geq U0 (.i 0)<|.ite U3 (.bI .lss U0 (.i 4)<|.ite U4 (.bI .geq U1 (.i 1)<|.ite U5 (.bI .leq U1 (.i 8)<|.ite U6 (.bI .geq U2 (.i 0)<|.ite U7 (.bI .leq U2 (.i 4294967295)<|.j [U8]) (.j [.b false])) (.j [.b false])) (.j [.b false])) (.j [.b false])) (.j [.b false])) (.j [U3])
def D1:=Fo apm
def ahA:bw:=⟨158,[.agg [pi 0,pi 1,pi 2]],[],3,1,.v (.c (.p .bool U3)),[],D1,325⟩
theorem VN:Ok ahA:=oS .nil
def acw:bl:=.join (.ln U0<|.loop [.i 0,.i 0] (.bI .lss U3 U1<|.ite U4 (.rw U0 U3 1<|.cl U5 0 (.int .u8)<|.bI .shl U2 (.i 8)<|.op (.conv .i64 U6)<|.bI .or U7 U8<|.bI .add U3 (.i 1)<|.j [U9,bB]) (.bp (.jump 1 [U2])))) (.j [U1])
def AB:=Fo acw
def azZ:bw:=⟨263,[cs 0],[],1,1,.v (ci 1),[],AB,658⟩
theorem awR:Ok azZ:=oS .nil
def alG:bl:=.op (.conv .u8 U0)<|.op (.bi .shr .u32 U0 (.i 8))<|.op (.conv .u8 U2)<|.op (.bi .shr .u32 U0 (.i 16))<|.op (.conv .u8 U4)<|.op (.bi .shr .u32 U0 (.i 24))<|.op (.conv .u8 U6)<|.j [U1,U3,U5,U7]
def J6:=Fo alG
def acq:bw:=⟨262,[.c (.p (.int .u32) U0)],[],1,4,.v (.agg [.p (.int .u8) U1,.p (.int .u8) U2,.p (.int .u8) U3,.p (.int .u8) U4]),[],J6,659⟩
theorem asz:Ok acq:=oS .nil
def aep:bl:=.op (.un .xor .u32 U0)<|.join (.ln U1<|.loop [U2,.i 0] (.bI .lss U5 U3<|.ite U6 (.join (.rw U1 U5 1<|.cl U7 0 (.int .u8)<|.op (.conv .u32 U8)<|.op (.bi .xor .u32 U4 U9)<|.loop [bB,.i 0] (.bI .lss bG (.i 8)<|.ite bN (.join (.op (.bi .and .u32 bE (.i 1))<|.op (.bi .shr .u32 bE (.i 1))<|.op (.bi .eql .u32 bP (.i 1))<|.ite bU (.op (.bi .xor .u32 bQ (.i 2197175160))<|.j [bW]) (.j [bQ])) (.bI .add bG (.i 1)<|.j [bP,bQ])) (.bp (.jump 1 [bE])))) (.bI .add U5 (.i 1)<|.j [U7,U8])) (.bp (.jump 1 [U4])))) (.op (.un .xor .u32 U3)<|.j [U4])
def Ie:=Fo aep
def azj:bw:=⟨223,[.c (.p (.int .u32) U0),cs 1],[],2,1,.v (.c (.p (.int .u32) U2)),[],Ie,318⟩
theorem ayi:Ok azj:=oS .nil
def abG:bl:=.cA 318 Ie [.i 0,U0] 1<|.j [U1]
def xb:=Fo abG
def aiJ:bw:=⟨154,[cs 0],[],1,1,.v (.c (.p (.int .u32) U1)),[],xb,327⟩
theorem CP:Ok aiJ:=oS (.cons ayi .nil)
def aad:bl:=.ln U0<|.bI .lss U1 (.i 16)<|.ite U2 (.j [.i 4,.i 0,.i 0,.i 0]) (.ln U0<|.op (.part U0 (.i 0) (.i 4) 1)<|.op (.str U4)<|.op (.bs .neq U5 (.s ⟨#[78,86,79,76]⟩))<|.ite U6 (.j [.i 3,.i 0,.i 0,.i 0]) (.ln U0<|.op (.part U0 (.i 0) (.i 12) 1)<|.cA 327 xb [U8] 1<|.cA 659 J6 [U9] 4<|.ln U0<|.op (.part U0 (.i 12) (.i 16) 1)<|.op (.part bQ (.i 0) (.i 4) 1)<|.op (.rc bU (.i 0) 0 (.int .u8))<|.op (.rc bU (.i 1) 0 (.int .u8))<|.op (.rc bU (.i 2) 0 (.int .u8))<|.op (.rc bU (.i 3) 0 (.int .u8))<|.op (.lit [[((.int .u8),bW),((.int .u8),bT),((.int .u8),cg),((.int .u8),cp)]])<|.rw cL (.i 0) 4<|.cl cj 0 (.int .u8)<|.cl cj 1 (.int .u8)<|.cl cj 2 (.int .u8)<|.cl cj 3 (.int .u8)<|.op (.bi .eql .u8 bB cm)<|.op (.bi .eql .u8 bE cr)<|.op (.bb .and cw c9)<|.op (.bi .eql .u8 bG ck)<|.op (.bb .and dX eh)<|.op (.bi .eql .u8 bN cf)<|.op (.bb .and eL dP)<|.no gH<|.ite gN (.j [.i 5,.i 0,.i 0,.i 0]) (.ln U0<|.op (.part U0 (.i 4) (.i 6) 1)<|.cA 658 AB [ik] 1<|.ln U0<|.op (.part U0 (.i 6) (.i 8) 1)<|.cA 658 AB [jl] 1<|.ln U0<|.op (.part U0 (.i 8) (.i 12) 1)<|.cA 658 AB [mw] 1<|.cA 325 D1 [jD,jO,ru] 1<|.no pd<|.ite jM (.j [.i 3,.i 0,.i 0,.i 0]) (.j [.i 0,jD,jO,ru]))))
def M6:=Fo aad
def arx:bw:=⟨199,[cs 0],[],1,4,.bL [.agg [pi 2,pi 3,pi 4],ci 1],[],M6,660⟩
theorem aht:Ok arx:=oS (.cons CP (.cons asz (.cons awR (.cons VN .nil))))
def ahU:bl:=.ln U0<|.ln U0<|.op (.part U0 U1 U2 1)<|.op (.part U0 (.i 0) U1 1)<|.j [U4]
def KG:=Fo ahU
def ajT:bw:=⟨238,[cs 0],[],1,1,.v (cs 1),[],KG,319⟩
theorem ayL:Ok ajT:=oS .nil
def anb:bl:=.j []
def Qd:=Fo anb
def awt:bw:=⟨315,[.agg [.p .str U0,ps 1,ps 2]],[],3,0,.v (.c (.p .str U0)),[],Qd,316⟩
theorem adF:Ok awt:=oS .nil
def apN:bl:=.op (.bs .neq U0 U0)<|.j [U1]
def De:=Fo apN
def avJ:bw:=⟨381,[.c (.p .str U0)],[],1,1,.v (.c (.p .bool U1)),[],De,309⟩
theorem asM:Ok avJ:=oS .nil
end
end
end Go.Proofs.YtiikkkhcolcebaaGreatDoor
