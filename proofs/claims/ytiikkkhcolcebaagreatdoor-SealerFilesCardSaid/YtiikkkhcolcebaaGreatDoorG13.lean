/- A part. -/
import Derived.Test.YtiikkkhcolcebaaGreatDoorG6
import Derived.Test.YtiikkkhcolcebaaGreatDoorG7
import Derived.Test.YtiikkkhcolcebaaGreatDoorG9
import Derived.Test.YtiikkkhcolcebaaGreatDoorG10
import Derived.Test.YtiikkkhcolcebaaGreatDoorG11
import Derived.Test.YtiikkkhcolcebaaGreatDoorG12
import Derived.WalkKit
set_option linter.all false
set_option maxHeartbeats 4000000
set_option maxRecDepth 100000
namespace Go.Proofs.YtiikkkhcolcebaaGreatDoor
noncomputable section
section
open Go.RowKit
open Classical
def bp.nx(e:Bool):bp->Option bt
 |.bq (.st .normal S)=>if e then none else some S
 |.bq (.st .ret S)=>if e then some S else none
 |.bq _=>none
 |.op _ k=>k.nx e
 |.ite _ a b=>(a.nx e).or (b.nx e)
 |.join _ b=>b.nx e
 |.loop _ _=>none
def nx(e:Bool)(o:Option bp):bt:=(o.bind (bp.nx e)).getD default
def afa(i)(h:i<255):kC i=true:=by
 have e:i=15*(i/15)+i%15:=om;have d:i/15<17:=om;have c:i%15∈List.range 15:=ku.2 om;rw[e];generalize i%15=b at c;generalize i/15=a at d
 match a,d with
 |0,_=>exact cI.1 atB b c
 |1,_=>exact cI.1 ajf b c
 |2,_=>exact cI.1 avy b c
 |3,_=>exact cI.1 aBM b c
 |4,_=>exact cI.1 auQ b c
 |5,_=>exact cI.1 aBz b c
 |6,_=>exact cI.1 avF b c
 |7,_=>exact cI.1 adX b c
 |8,_=>exact cI.1 alW b c
 |9,_=>exact cI.1 aDG b c
 |10,_=>exact cI.1 adj b c
 |11,_=>exact cI.1 arY b c
 |12,_=>exact cI.1 aqL b c
 |13,_=>exact cI.1 aec b c
 |14,_=>exact cI.1 aez b c
 |15,_=>exact cI.1 aCq b c
 |16,_=>exact cI.1 aAg b c
 |a+17,h=>omega
def Uu{e c S l}(h:DB e c S l=true)(m:S.bx=[])(n:S.nv=0){X}(b:X.P=Tryz.prog)(d:X.k0=0):
 Aw X c (λf st=>f=(if e then .exit 0 else .normal)/\st=l.a_ []) (S.a_ []):=by
 unfold DB at h;split at h
 .rename_i o g;simp only[cF,pV,Qx]at h;obtain⟨⟨i,a⟩,j⟩:=h;refine nK (lW (piece (C:=[]) .nil g m (ρ:=[]) n.symm rfl b d).2.2 ?_);rintro f st ⟨rfl,rfl⟩;exact⟨_,(AV (D:=[]) (ρ:=[]) (ys:=[]) js rfl (λz k=>by cases k) j a).2.2 X b d,by rw[i];rfl,rfl⟩
 .rename_i o g;simp only[cF,Qx]at h;obtain⟨⟨i,a⟩,j⟩:=h;refine nK (lW (piece (C:=[]) .nil g m (ρ:=[]) n.symm rfl b d).2.2 ?_);rintro f st ⟨rfl,rfl⟩;exact⟨_,(AV (D:=[]) (ρ:=[]) (ys:=[]) js rfl (λz k=>by cases k) j a).2.2 X b d,by rw[i];rfl,rfl⟩
 .cases h
def agU:DB true Gr (o5 255) (o5 255)=true:=kr
def Wk{X}(a:X.P=Tryz.prog)(b:X.k0=0){Q}(c:Q (.exit 0) ((o5 255).a_ [])):∀k i,i+k=255->tf X Gr (k+1) Q ((o5 i).a_ [])
 |0,i,h=>by
  obtain rfl:i=255:=om;refine lW (Uu agU rfl rfl a b) ?_;rintro e st ⟨rfl,rfl⟩;exact c
 |k+1,i,h=>by
  refine lW (Uu (afa i om) rfl rfl a b) ?_;rintro e st ⟨rfl,rfl⟩;exact Wk a b c k (i+1) om
def L0:bt:=yj 29 0 [] []
def Gu:bt:=nx false (pd TT [] (lC 0) false L0)
def G2:bt:=nx false (pd TT [] (lC 1) false Gu)
def Tn:bt:=nx false (pd TT [] (lC 2) false G2)
def Jt:bt:=nx false (pd TT [] (lC 11) true (o5 255))
def avL:pd TT [] (lC 0) false L0=some (.bq (.st .normal Gu)):=kr
def aru:pd TT [] (lC 1) false Gu=some (.bq (.st .normal G2)):=kr
def agL:pd TT [] (lC 2) false G2=some (.bq (.st .normal Tn)):=kr
def apQ:pd TT [] (lC 11) true (o5 255)=some (.bq (.st .normal Jt)):=kr
def aAC:vH [] TT 0 Tn (o5 0) 0 [] [(0,0),(8,1)] []=true:=kr
def N6:SV:=.bM [.agg (FR 255++FR 255),.agg (Th 255)]
def atj{X}(a:X.P=Tryz.prog)(c:X.k0=0){r}(d:vA Tryz.prog [.cell 0 395,.cell 1 396] (Jt.a_ [])=some r):Aw X YB (oJ Tryz.prog [.cell 0 395,.cell 1 396] r []) (jz 29 [] []):=by
 refine eT (lW (piece (C:=[]) .nil (k0:=0) (n:=0) (r:=0) (ex:=[]) (show exec TT _ 0 (.region 0 (lC 0) false) 0 [] 0 L0=_ from avL) kr (ρ:=[]) kr rfl a c).2.2 ?_);rintro e st ⟨rfl,rfl⟩;refine eT (lW (piece (C:=[]) .nil (k0:=0) (n:=0) (r:=0) (ex:=[]) (show exec TT _ 0 (.region 1 (lC 1) false) 0 [] 0 Gu=_ from aru) kr (ρ:=[]) kr rfl a c).2.2 ?_);rintro e st ⟨rfl,rfl⟩;refine eT (eT (lW (piece (C:=[]) .nil (k0:=0) (n:=0) (r:=0) (ex:=[]) (show exec TT _ 0 (.region 2 (lC 2) false) 0 [] 0 G2=_ from agL) kr (ρ:=[]) kr rfl a c).2.2 ?_));rintro e st ⟨rfl,rfl⟩;refine XS (Sh (n:=256) (Q2 (st':=(o5 0).a_ []) ?_ (Wk a c ?_ 255 0 rfl)))
 .exact(AV (D:=[]) (ρ:=[]) (ys:=[]) js rfl (λz f=>by cases f) aAC kr).2.2 X a c
 .refine eT (lW (piece (C:=[]) .nil (k0:=0) (n:=0) (r:=0) (ex:=[]) (show exec TT _ 0 (.region 11 (lC 11) true) 0 [] 0 (o5 255)=_ from apQ) rfl (ρ:=[]) rfl rfl a c).2.2 ?_);rintro e st ⟨rfl,rfl⟩;exact o7 ⟨trivial,d,λn b h=>by cases h⟩
def ang:vA Tryz.prog [.cell 0 395,.cell 1 396] (Jt.a_ [])=some (N6.a_ []):=kr
def amq(F)(a):bw.ok Tryz.prog ⟨292,[],[],0,0,N6,[],F,a⟩:=by
 intro ls os e f b;exact eX.intro (H:=[]) Tryz.func292 kr aed (n:=29) kr (rs:=[.cell 0 395,.cell 1 396]) kr λX c d=>atj c d ang
def Ae:List At:=(mK++mK).map λx=>.i (x:Nat)
def yg:List At:=yY.map λn=>.i ((cond (Nat.blt n 255) n 0:Nat))
end
section
attribute [local irreducible] Fo
open Go.RowKit
def aie:bp:=.join (.loop ([.i 0]++w 0 8) (.bI .lss bD (.i 8)<|.ite cd (.join (.op (.dM bD 8)<|.op (.ix (w 0 8) bD)<|.cA 2000 mc [cv] 0<|.bI .eql bD (.i 0)<|.ite cR (.bq (.jump 0 ([.i 0,cv]++w 12 7))) (.bI .eql bD (.i 1)<|.ite cm (.bq (.jump 0 ([.i 1,bF,cv]++w 13 6))) (.bI .eql bD (.i 2)<|.ite cn (.bq (.jump 0 ([.i 2,bF,bH,cv]++w 14 5))) (.bI .eql bD (.i 3)<|.ite ct (.bq (.jump 0 ([.i 3,bF,bH,bL,cv]++w 15 4))) (.bI .eql bD (.i 4)<|.ite cH (.bq (.jump 0 ([.i 4]++w 11 4++[cv,bV,bX,bU]))) (.bI .eql bD (.i 5)<|.ite ck (.bq (.jump 0 ([.i 5]++w 11 5++[cv,bX,bU]))) (.bI .eql bD (.i 6)<|.ite cK (.bq (.jump 0 ([.i 6]++w 11 6++[cv,bU]))) (.bI .eql bD (.i 7)<|.ite cS (.bq (.jump 0 ([.i 7]++w 11 7++[cv]))) (.op (.dM (.i 0) 0)<|.j []))))))))) (.bI .add cv (.i 1)<|.bq (.jump 0 ([dZ]++w 21 8)))) (.bq (.jump 1 (w 11 8))))) (.bq (.jump 0 (w 10 8)))
def JA:=Fo aie
def ahv:bw:=⟨352,[.agg (dL 0 8++[pi 8,pi 9])],[],10,8,.v (.agg (dL 10 8++[pi 8,pi 9])),[],JA,656⟩
def avN:Ok ahv:=oS (.cons B3 .nil)
def aso:bp:=.join (.bI .eql U7 (.i 2)<|.ite cm (.j [cm]) (.bI .eql U7 (.i 3)<|.ite cn (.j [cn]) (.bI .eql U7 (.i 4)<|.ite ct (.j [ct]) (.bI .eql U7 (.i 5)<|.j [cH])))) (.ite cm (.join (.bI .geq U9 (.i 0)<|.ite cn (.bI .lss U9 (.i 7)<|.j [ct]) (.j [.b false])) (.j [cn])) (.bI .eql U7 (.i 6)<|.ite cn (.join (.bI .geq U9 (.i 0)<|.ite ct (.bI .lss U9 (.i 6)<|.j [cH]) (.j [.b false])) (.j [ct])) (.j [.b true])))
def vv:=Fo aso
def avd:bw:=⟨129,[.c (.ptr 0 0)],[.box ([pi 0,pi 1,ps 2,pi 3,pi 4,.p .bool U5,ps 6]++cM 7 7++[.p (.int .u32) bP,.p (.int .u32) bQ,.p (.int .u32) bV,.p (.int .u32) bX,.p (.int .u32) bU,.p (.int .u32) cd,ps 20,ps 21])],22,1,.v (.c (.p .bool cm)),[(0,(.box ([pi 0,pi 1,ps 2,pi 3,pi 4,.p .bool U5,ps 6]++cM 7 7++[.p (.int .u32) bP,.p (.int .u32) bQ,.p (.int .u32) bV,.p (.int .u32) bX,.p (.int .u32) bU,.p (.int .u32) cd,ps 20,ps 21])))],vv,657⟩
def W5:Ok avd:=oS .nil
def atS:bp:=.op (.conv .i64 U0)<|.join (.loop [U1,.i 0,U2] (.op (.bi .neq .u8 U3 (.i 0))<|.ite U6 (.join (.join (.op (.bi .and .u8 U3 (.i 1))<|.op (.bi .eql .u8 U7 (.i 1))<|.ite U8 (.bI .xor U4 U5<|.j [U9]) (.j [U4])) (.bI .shl U5 (.i 1)<|.bI .shr U8 (.i 8)<|.bI .eql U9 (.i 1)<|.ite bD (.bI .xor U8 (.i 285)<|.j [U7,bF]) (.j [U7,U8]))) (.op (.bi .shr .u8 U3 (.i 1))<|.j [U9,U7,U8])) (.bq (.jump 1 [U4])))) (.op (.conv .u8 U3)<|.j [U4])
def sd:=Fo atS
def aCe:bw:=⟨291,[.c (.p (.int .u8) U0),.c (.p (.int .u8) U1)],[],2,1,.v (.c (.p (.int .u8) U2)),[],sd,302⟩
def On:Ok aCe:=oS .nil
def Y1:bp:=.bI .mul U3 U1<|.bI .add U5 U4<|.rw U2 U6 1<|.cl U7 0 (.int .u8)<|.j [U8]
def nF:=Fo Y1
def aer:bw:=⟨235,[.agg [pi 0,pi 1,ps 2],ci 3,ci 4],[],5,1,.v (.c (.p (.int .u8) U5)),[],nF,304⟩
def Fg:Ok aer:=oS .nil
def YK:bp:=.j []
def sg:=Fo YK
def alY:bw:=⟨292,[],[],0,0,N6,[],sg,300⟩
def M5:alY.ok Tryz.prog:=amq sg 300
def To:bp:=.bI .mul U0 U1<|.op (.jY U2 [((.int .u8),(.i 0))] 1)<|.j [U3]
def t_:=Fo To
def aBh:bw:=⟨283,[ci 0,ci 1],[],2,1,.v (.agg [pi 0,pi 1,.own 0]),[(0,(.row 5 U2))],t_,303⟩
def MN:Ok aBh:=oS .nil
def ZC:bp:=.join (.bI .geq U0 (.i 1)<|.ite U1 (.bI .leq U0 (.i 16)<|.j [U2]) (.j [.b false])) (.j [U1])
def nf:=Fo ZC
def awD:bw:=⟨229,[ci 0],[],1,1,.v (.c (.p .bool U1)),[],nf,306⟩
def Ea:Ok awD:=oS .nil
def asy:bp:=.join (.bI .geq U0 (.i 0)<|.ite U3 (.bI .lss U0 (.i 4)<|.ite U4 (.bI .geq U1 (.i 1)<|.ite U5 (.bI .leq U1 (.i 8)<|.ite U6 (.bI .geq U2 (.i 0)<|.ite U7 (.bI .leq U2 (.i 4294967295)<|.j [U8]) (.j [.b false])) (.j [.b false])) (.j [.b false])) (.j [.b false])) (.j [.b false])) (.j [U3])
def F4:=Fo asy
def akw:bw:=⟨158,[.agg [pi 0,pi 1,pi 2]],[],3,1,.v (.c (.p .bool U3)),[],F4,325⟩
def X6:Ok akw:=oS .nil
def afB:bp:=.join (.ln U0<|.loop [.i 0,.i 0] (.bI .lss U3 U1<|.ite U4 (.rw U0 U3 1<|.cl U5 0 (.int .u8)<|.bI .shl U2 (.i 8)<|.op (.conv .i64 U6)<|.bI .or U7 U8<|.bI .add U3 (.i 1)<|.j [U9,bD]) (.bq (.jump 1 [U2])))) (.j [U1])
def Cj:=Fo afB
def aDB:bw:=⟨263,[cs 0],[],1,1,.v (ci 1),[],Cj,658⟩
def aAo:Ok aDB:=oS .nil
def aoN:bp:=.op (.conv .u8 U0)<|.op (.bi .shr .u32 U0 (.i 8))<|.op (.conv .u8 U2)<|.op (.bi .shr .u32 U0 (.i 16))<|.op (.conv .u8 U4)<|.op (.bi .shr .u32 U0 (.i 24))<|.op (.conv .u8 U6)<|.j [U1,U3,U5,U7]
def L5:=Fo aoN
def afw:bw:=⟨262,[.c (.p (.int .u32) U0)],[],1,4,.v (.agg [.p (.int .u8) U1,.p (.int .u8) U2,.p (.int .u8) U3,.p (.int .u8) U4]),[],L5,659⟩
def avZ:Ok afw:=oS .nil
def ahs:bp:=.op (.un .xor .u32 U0)<|.join (.ln U1<|.loop [U2,.i 0] (.bI .lss U5 U3<|.ite U6 (.join (.rw U1 U5 1<|.cl U7 0 (.int .u8)<|.op (.conv .u32 U8)<|.op (.bi .xor .u32 U4 U9)<|.loop [bD,.i 0] (.bI .lss bH (.i 8)<|.ite bL (.join (.op (.bi .and .u32 bF (.i 1))<|.op (.bi .shr .u32 bF (.i 1))<|.op (.bi .eql .u32 bP (.i 1))<|.ite bV (.op (.bi .xor .u32 bQ (.i 2197175160))<|.j [bX]) (.j [bQ])) (.bI .add bH (.i 1)<|.j [bP,bQ])) (.bq (.jump 1 [bF])))) (.bI .add U5 (.i 1)<|.j [U7,U8])) (.bq (.jump 1 [U4])))) (.op (.un .xor .u32 U3)<|.j [U4])
def J8:=Fo ahs
def aCK:bw:=⟨223,[.c (.p (.int .u32) U0),cs 1],[],2,1,.v (.c (.p (.int .u32) U2)),[],J8,318⟩
def aBG:Ok aCK:=oS .nil
def aeM:bp:=.cA 318 J8 [.i 0,U0] 1<|.j [U1]
def v_:=Fo aeM
def alJ:bw:=⟨154,[cs 0],[],1,1,.v (.c (.p (.int .u32) U1)),[],v_,327⟩
def AH:Ok alJ:=oS (.cons aBG .nil)
def adh:bp:=.ln U0<|.bI .lss U1 (.i 16)<|.ite U2 (.j [.i 4,.i 0,.i 0,.i 0]) (.ln U0<|.op (.part U0 (.i 0) (.i 4) 1)<|.op (.str U4)<|.op (.bs .neq U5 (.s ⟨#[78,86,79,76]⟩))<|.ite U6 (.j [.i 3,.i 0,.i 0,.i 0]) (.ln U0<|.op (.part U0 (.i 0) (.i 12) 1)<|.cA 327 v_ [U8] 1<|.cA 659 L5 [U9] 4<|.ln U0<|.op (.part U0 (.i 12) (.i 16) 1)<|.op (.part bQ (.i 0) (.i 4) 1)<|.op (.rc bV (.i 0) 0 (.int .u8))<|.op (.rc bV (.i 1) 0 (.int .u8))<|.op (.rc bV (.i 2) 0 (.int .u8))<|.op (.rc bV (.i 3) 0 (.int .u8))<|.op (.lit [[((.int .u8),bX),((.int .u8),bU),((.int .u8),cd),((.int .u8),cv)]])<|.rw cR (.i 0) 4<|.cl cm 0 (.int .u8)<|.cl cm 1 (.int .u8)<|.cl cm 2 (.int .u8)<|.cl cm 3 (.int .u8)<|.op (.bi .eql .u8 bD cn)<|.op (.bi .eql .u8 bF ct)<|.op (.bb .and cK cS)<|.op (.bi .eql .u8 bH cH)<|.op (.bb .and dZ eJ)<|.op (.bi .eql .u8 bL ck)<|.op (.bb .and e8 ee)<|.no ig<|.ite iH (.j [.i 5,.i 0,.i 0,.i 0]) (.ln U0<|.op (.part U0 (.i 4) (.i 6) 1)<|.cA 658 Cj [jG] 1<|.ln U0<|.op (.part U0 (.i 6) (.i 8) 1)<|.cA 658 Cj [jO] 1<|.ln U0<|.op (.part U0 (.i 8) (.i 12) 1)<|.cA 658 Cj [oB] 1<|.cA 325 F4 [km,kE,uy] 1<|.no ql<|.ite ky (.j [.i 3,.i 0,.i 0,.i 0]) (.j [.i 0,km,kE,uy]))))
def Pd:=Fo adh
def auY:bw:=⟨199,[cs 0],[],1,4,.bM [.agg [pi 2,pi 3,pi 4],ci 1],[],Pd,660⟩
def akp:Ok auY:=oS (.cons AH (.cons avZ (.cons aAo (.cons X6 .nil))))
def akS:bp:=.ln U0<|.ln U0<|.op (.part U0 U1 U2 1)<|.op (.part U0 (.i 0) U1 1)<|.j [U4]
def MI:=Fo akS
def amW:bw:=⟨238,[cs 0],[],1,1,.v (cs 1),[],MI,319⟩
def aCk:Ok amW:=oS .nil
def aqo:bp:=.j []
def Su:=Fo aqo
def azR:bw:=⟨315,[.agg [.p .str U0,ps 1,ps 2]],[],3,0,.v (.c (.p .str U0)),[],Su,316⟩
def agJ:Ok azR:=oS .nil
def atf:bp:=.op (.bs .neq U0 U0)<|.j [U1]
def E1:=Fo atf
def azg:bw:=⟨381,[.c (.p .str U0)],[],1,1,.v (.c (.p .bool U1)),[],E1,309⟩
def awk:Ok azg:=oS .nil
def ajV:bp:=.cA 309 E1 [U0] 1<|.cA 309 E1 [U1] 1<|.ite U2 (.ite U3 (.j [.i 0]) (.j [.i (-1)])) (.ite U3 (.j [.i 1]) (.op (.bs .lss U0 U1)<|.ite U4 (.j [.i (-1)]) (.op (.bs .gtr U0 U1)<|.ite U5 (.j [.i 1]) (.j [.i 0]))))
def Pm:=Fo ajV
def ajI:bw:=⟨357,[.c (.p .str U0),.c (.p .str U1)],[],2,1,.v (ci 2),[],Pm,312⟩
def ahx:Ok ajI:=oS (.cons awk .nil)
def adQ:bp:=.ite U2 (.op (.mn U3 U0)<|.j [U4]) (.ln U1<|.bI .add U0 U4<|.op (.mx U3 U5)<|.j [U6])
def z8:=Fo adQ
def aCZ:bw:=⟨237,[.agg [pi 0,ps 1,.p .bool U2],ci 3],[],4,1,.v (ci 4),[],z8,320⟩
def Jj:Ok aCZ:=oS .nil
def ahi:bp:=.ln U1<|.bI .gtr U3 (.i 1048576)<|.ite U4 (.j [.b false]) (.join (.ln U2<|.loop [U3,.i 0] (.bI .lss U7 U5<|.ite U8 (.rw U2 U7 3<|.cl U9 0 (.int .i64)<|.cl U9 1 .sl<|.cl U9 2 .bool<|.join (.bI .lss bD (.i 0)<|.ite bL (.j [.b true]) (.bI .gtr bD (.i 1048576)<|.ite bP (.j [.b true]) (.ite bH (.ln bF<|.bI .gtr bQ (.i 0)<|.j [bV]) (.j [.b false])))) (.ite bL (.bq (.jump 2 [.b false])) (.cA 320 z8 [bD,bF,bH,U6] 1<|.bI .gtr bP (.i 1048576)<|.ite bQ (.bq (.jump 2 [.b false])) (.bI .add U7 (.i 1)<|.j [bP,bV])))) (.bq (.jump 1 [])))) (.j [.b true]))
def Fw:=Fo ahi
def aCt:bw:=⟨168,[.agg [.p .str U0,ps 1,ps 2]],[],3,1,.v (.c (.p .bool U3)),[],Fw,350⟩
def W_:Ok aCt:=oS (.cons Jj .nil)
def avJ:bp:=.join (.op (.bs .neq U0 (.s ⟨#[]⟩))<|.ite U1 (.op (.nG U0)<|.bI .leq U2 (.i 40)<|.ite U3 (.op (.call 2020 Fm [U0,.s ⟨#[97,98,99,100,101,102,103,104,105,106,107,108,109,110,111,112,113,114,115,116,117,118,119,120,121,122,48,49,50,51,52,53,54,55,56,57,46,45]⟩] 1 [])<|.op (.bs .eql U4 (.s ⟨#[]⟩))<|.j [U5]) (.j [.b false])) (.j [.b false])) (.j [U1])
def Ar:=Fo avJ
def amd:bw:=⟨167,[.c (.p .str U0)],[],1,1,.v (.c (.p .bool U1)),[],Ar,321⟩
def IT:Ok amd:=oS (.cons azE .nil)
def TU:bp:=.cA 2070 Hr [U2] 0<|.join (.ln U2<|.loop [.i 0,U2] (.bI .lss U4 U3<|.ite U6 (.rw U5 U4 3<|.op (.rc U5 U4 0 .str)<|.op (.rc U5 U4 1 .sl)<|.op (.rc U5 U4 2 .sl)<|.cA 2011 qp [U9] 0<|.cA 2071 LC [bD] 0<|.join (.ln bD<|.loop [.i 0,bD] (.bI .lss bH bF<|.ite bP (.rw bL bH 3<|.op (.rc bL bH 0 (.int .i64))<|.op (.rc bL bH 1 .sl)<|.op (.rc bL bH 2 .bool)<|.cA 2011 qp [bX] 0<|.rw bL bH 3<|.op (.set bL bH 1 [(.sl,bX)])<|.bI .add bH (.i 1)<|.j [cR,cv]) (.bq (.jump 1 [bL])))) (.rw U5 U4 3<|.op (.set U5 U4 0 [(.str,U8),(.sl,U9),(.sl,bF)])<|.bI .add U4 (.i 1)<|.j [bP,bL])) (.bq (.jump 1 [U5])))) (.j [U3])
def PC:=Fo TU
def T3:bw:=⟨55,[.agg [pi 0,pi 1,ps 2]],[],3,1,.v (.agg [pi 0,pi 1,.own 0]),[(0,(.row 144 U3))],PC,663⟩
def OT:Ok T3:=oS (.cons wB (.cons Mv (.cons XR .nil)))
def N3:List L->Option (List L):=PC
def anp:bw:=⟨55,[.agg [pi 0,pi 1,ps 2]],[],3,1,.v (.agg [pi 0,pi 1,ps 3]),[],PC,2054⟩
def Vl:anp.ok Tryz.prog:=nY (s:=T3) OT rfl (x:=(.v 3)) (e:=144) rfl rfl 2054
def auA:bp:=.join (.bI .geq U0 (.i 1)<|.ite bQ (.bI .leq U0 (.i 8)<|.j [bV]) (.j [.b false])) (.j [bQ])
def wy:=Fo auA
def avs:bw:=⟨26,[.agg (cM 0 7++[.p (.int .u32) U7,.p (.int .u32) U8,.p (.int .u32) U9,.p (.int .u32) bD,.p (.int .u32) bF,.p (.int .u32) bH,ps 13,ps 14])],[],15,1,.v (.c (.p .bool bQ)),[],wy,664⟩
def Mz:Ok avs:=oS .nil
def adA:bp:=.op (.bi .neq .u64 U0 U0)<|.j [U1]
def F0:=Fo adA
def s0:bw:=⟨380,[.c (.p (.int .u64) U0)],[],1,1,.v (.c (.p .bool U1)),[],F0,0⟩
def ok0:Ok s0:=oS .nil
def XG:bp:=.cA 0 F0 [U0] 1<|.cA 0 F0 [U1] 1<|.ite U2 (.ite U3 (.j [.i 0]) (.j [.i (-1)])) (.ite U3 (.j [.i 1]) (.op (.bi .lss .u64 U0 U1)<|.ite U4 (.j [.i (-1)]) (.op (.bi .gtr .u64 U0 U1)<|.ite U5 (.j [.i 1]) (.j [.i 0]))))
def F1:=Fo XG
def s1:bw:=⟨350,[.c (.p (.int .u64) U0),.c (.p (.int .u64) U1)],[],2,1,.v (ci 2),[],F1,1⟩
def ok1:Ok s1:=oS (.cons ok0 .nil)
def ajQ:bp:=.cA 1 F1 [U0,U4] 1<|.j [U8]
def F6:=Fo ajQ
def s6:bw:=⟨349,[.agg [.p (.int .u64) U0,.p (.int .u32) U1,pi 2,pi 3],.agg [.p (.int .u64) U4,.p (.int .u32) U5,pi 6,pi 7]],[],8,1,.v (ci 8),[],F6,6⟩
def vJ:Ok s6:=oS (.cons ok1 .nil)
def aea:bp:=.op (.bi .mul .u64 U0 (.i 11400714819323198485))<|.op (.bi .shr .u64 U1 (.i 61))<|.op (.conv .i64 U2)<|.j [U3]
def KL:=Fo aea
def s12:bw:=⟨253,[.c (.p (.int .u64) U0)],[],1,1,.v (ci 1),[],KL,12⟩
def ahg:Ok s12:=oS .nil
def aew:bp:=.join (.bI .geq U2 (.i 16)<|.ite U4 (.bI .leq U2 (.i 1048576)<|.ite U5 (.bI .rem U2 (.i 8)<|.bI .eql U6 (.i 0)<|.ite U7 (.bI .geq U3 (.i 0)<|.ite U8 (.bI .leq U3 (.i 4096)<|.j [U9]) (.j [.b false])) (.j [.b false])) (.j [.b false])) (.j [.b false])) (.j [U4])
def F7:=Fo aew
def s7:bw:=⟨226,[.agg [.p (.int .u64) U0,.p (.int .u32) U1,pi 2,pi 3]],[],4,1,.v (.c (.p .bool U4)),[],F7,7⟩
def ok7:Ok s7:=oS .nil
def adt:bp:=.cA 7 F7 [U0,U1,U2,U3] 1<|.no U4<|.j [U5]
def F8:=Fo adt
def s8:bw:=⟨225,[.agg [.p (.int .u64) U0,.p (.int .u32) U1,pi 2,pi 3]],[],4,1,.v (.c (.p .bool U4)),[],F8,8⟩
def ok8:Ok s8:=oS (.cons ok7 .nil)
def alp:bp:=.join (.ln U0<|.loop [.i 0] (.bI .lss U2 U1<|.ite U3 (.rw U0 U2 4<|.cl U4 0 (.int .u64)<|.cl U4 1 (.int .u32)<|.cl U4 2 (.int .i64)<|.cl U4 3 (.int .i64)<|.join (.bI .gtr U2 (.i 0)<|.ite U9 (.bI .sub U2 (.i 1)<|.rw U0 bD 4<|.cl bF 0 (.int .u64)<|.op (.bi .leq .u64 U5 bH)<|.j [bL]) (.j [.b false])) (.ite U9 (.bq (.jump 2 [.b false])) (.bI .add U2 (.i 1)<|.j [bD]))) (.bq (.jump 1 [])))) (.j [.b true])
def F9:=Fo alp
def s9:bw:=⟨224,[cs 0],[],1,1,.v (.c (.p .bool U1)),[],F9,9⟩
def Kp:Ok s9:=oS .nil
def ayR:bp:=.join (.bI .lss U0 (.i 0)<|.ite U1 (.j [.b true]) (.bI .gtr U0 (.i 4096)<|.j [U2])) (.ite U1 (.j [.i 0]) (.bI .add (.i 20) U0<|.bI .add U2 (.i 4)<|.bI .add U3 (.i 8)<|.bI .sub U4 (.i 1)<|.bI .quo U5 (.i 8)<|.bI .mul U6 (.i 8)<|.j [U7]))
def F5:=Fo ayR
def s5:bw:=⟨117,[ci 0],[],1,1,.v (ci 1),[],F5,5⟩
def F_:Ok s5:=oS .nil
def S6:bp:=.join (.ln U2<|.loop [.i 0,.r0] (.bI .lss U4 U3<|.ite U6 (.rw U2 U4 3<|.cl U7 0 .str<|.cl U7 1 .sl<|.cl U7 2 .sl<|.join (.ln bD<|.loop [.i 0,.r0] (.bI .lss bH bF<|.ite bP (.rw bD bH 3<|.cl bQ 0 (.int .i64)<|.cl bQ 1 .sl<|.cl bQ 2 .bool<|.op (.lit [[((.int .i64),bV),(.sl,bX),(.bool,bU)]])<|.op (.app bL cd 3 40)<|.bI .add bH (.i 1)<|.j [cR,cv]) (.bq (.jump 1 [bL])))) (.op (.lit [[(.str,U8),(.sl,U9),(.sl,bF)]])<|.op (.app U5 bH 3 64)<|.bI .add U4 (.i 1)<|.j [bP,bL])) (.bq (.jump 1 [U5])))) (.j [U3])
def NF:=Fo S6
def Zb:bw:=⟨15,[.agg [pi 0,pi 1,ps 2]],[],3,1,.v (.agg [pi 0,pi 1,.own 0]),[(0,(.row 144 U3))],NF,18⟩
def KE:Ok Zb:=oS .nil
def Ox:List L->Option (List L):=NF
def aqQ:bw:=⟨15,[.agg [pi 0,pi 1,ps 2]],[],3,1,.v (.agg [pi 0,pi 1,ps 3]),[],NF,2051⟩
def XA:aqQ.ok Tryz.prog:=nY (s:=Zb) KE rfl (x:=(.v 3)) (e:=144) rfl rfl 2051
end
end
end Go.Proofs.YtiikkkhcolcebaaGreatDoor
