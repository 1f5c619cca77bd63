/- A part. -/
import Derived.Test.YtiikkkhcolcebaaGreatDoorG5
import Derived.Test.YtiikkkhcolcebaaGreatDoorG6
import Derived.Test.YtiikkkhcolcebaaGreatDoorG13
import Derived.Test.YtiikkkhcolcebaaGreatDoorG15
import Derived.Test.YtiikkkhcolcebaaGreatDoorG16
import Derived.Test.YtiikkkhcolcebaaGreatDoorG18
import Derived.Test.YtiikkkhcolcebaaGreatDoorG19
import Derived.Test.YtiikkkhcolcebaaGreatDoorG20
import Derived.WalkKit
import Derived.Laws.Closers25b
import Derived.IntWalk
set_option linter.all false
set_option maxHeartbeats 4000000
set_option maxRecDepth 100000
namespace Go.Proofs.YtiikkkhcolcebaaGreatDoor
noncomputable section
section
attribute [local irreducible] Fo
open Go.RowKit
def UP:bp:=.join (.loop [.i 0,.i 20,U0] (.bI .leq U3 U1<|.ite U5 (.cA 85 DQ [U4,U2,U3] 1<|.bI .add U3 (.i 20)<|.j [U3,U7,U6]) (.bq (.jump 1 [U2,U4])))) (.cA 85 DQ [U3,U2,U1] 1<|.loop [.i 20,U4] (.bI .lss U5 U1<|.ite U7 (.bI .mul (.i 2) U5<|.join (.loop [.i 0,U8,U6] (.bI .leq bD U1<|.ite bH (.bI .add U9 U5<|.cA 710 Ho [bF,U9,bL,bD] 1<|.bI .mul (.i 2) U5<|.bI .add bD bQ<|.j [bD,bV,bP]) (.bq (.jump 1 [U9,bF])))) (.join (.bI .add U9 U5<|.bI .lss bF U1<|.ite bH (.cA 710 Ho [bD,U9,bF,U1] 1<|.j [bL]) (.j [bD])) (.bI .mul U5 (.i 2)<|.j [bH,bF]))) (.bq (.jump 1 [U6]))))
def N_:=Fo UP
def avq:bw:=⟨379,[.c (.own 0),ci 1,.c (.fn 349 [])],[.row 164 U0],2,1,.bM [],[(0,(.row 164 U2))],N_,106⟩
def aeb:Ok avq:=oS (.cons axz (.cons awQ .nil))
def amG:bp:=.join (.cA 325 F4 [U0,U1,U2] 1<|.no bF<|.ite bH (.j [.b true]) (.bI .lss U3 (.i 16)<|.ite bL (.j [.b true]) (.bI .gtr U3 (.i 524288)<|.ite bP (.j [.b true]) (.cA 91 BR [bD] 1<|.no bQ<|.j [bV])))) (.ite bF (.j [.b false]) (.op (.call 401 Kf ([bD]++w 0 11) 1 [])<|.no bH<|.j [bL]))
def vO:=Fo amG
def ahI:bw:=⟨78,[.agg (cM 0 4++[.p (.int .u32) U4,.p (.int .u32) U5,.p (.int .u32) U6,.p (.int .u32) U7,.p (.int .u32) U8,.p (.int .u32) U9,ps 10])],[],11,1,.v (.c (.p .bool bF)),[],vO,402⟩
def Dg:Ok ahI:=oS (.cons anP (.cons LI (.cons Ro (.cons G_ (.cons Nx (.cons X6 .nil))))))
def ayF:bp:=.ln U0<|.cA 2000 mc [U4] 0<|.cA 402 vO [U1,U2,U3,U5,.i 0,.i 0,.i 0,.i 0,.i 0,.i 0,U4] 1<|.no U6<|.ite U7 (.j [.i 1,.r0,.i 0,.i 0,.i 0,.i 0,.i 0,.i 0,.i 0,.i 0,.i 0,.i 0,.r0]) (.cA 2076 Ag [U0] 1<|.cA 700 IU [U8] 2<|.op (.lit [[(.sl,U8)],[(.sl,bD)]])<|.cA 672 K2 [bF] 2<|.join (.op (.vw bL (.i 0) bH)<|.ln bP<|.loop [.i 0,.i 0,.i 0,.i 0,.i 0,.i 0,.i 0] (.bI .lss bV bQ<|.ite cn (.join (.op (.ir bL (.i 0) bH bV 1)<|.op (.rc bL ct 0 .sl)<|.cA 327 v_ [cH] 1<|.bI .eql bV (.i 0)<|.ite cK (.bq (.jump 0 ([.i 0,ck]++w 18 5))) (.bI .eql bV (.i 1)<|.ite cS (.bq (.jump 0 ([.i 1,bX,ck]++w 19 4))) (.bI .eql bV (.i 2)<|.ite dZ (.j [.i 2,bX,bU,ck,cv,cR,cm]) (.bI .eql bV (.i 3)<|.ite eJ (.j [.i 3,bX,bU,cd,ck,cR,cm]) (.bI .eql bV (.i 4)<|.ite e8 (.bq (.jump 0 ([.i 4]++w 17 4++[ck,cm]))) (.bI .eql bV (.i 5)<|.ite ee (.bq (.jump 0 ([.i 5]++w 17 5++[ck]))) (.op (.dM (.i 0) 0)<|.j []))))))) (.bI .add ct (.i 1)<|.bq (.jump 0 ([e8]++w 25 6)))) (.bq (.jump 1 (w 17 6))))) (.op (.tk bL bH)<|.bq (.jump 0 ([U9,cv,U1,U2,U3,U5]++w 14 6++[U4]))))
def K8:=Fo ayF
def arx:bw:=⟨200,[cs 0,.agg [pi 1,pi 2,pi 3],cs 4],[],5,13,.bM [.c (.own 0),.agg (cM 7 4++[.p (.int .u32) bF,.p (.int .u32) bH,.p (.int .u32) bL,.p (.int .u32) bP,.p (.int .u32) bQ,.p (.int .u32) bV,.own 1]),ci 5],[(0,(.row 95 U6)),(1,(.row 164 bX))],K8,713⟩
def afZ:Ok arx:=oS (.cons WB (.cons Dg (.cons aod (.cons AH (.cons B3 (.cons azp .nil))))))
def Ug:bp:=.cA 149 HF [.i 1,.i 9000] 6<|.join (.loop [.i 0,U2,U3,U7,U4,U5,.b false,U6,.r0] (.join (.ln U0<|.bI .lss U8 bX<|.ite bU (.bI .lss U8 U1<|.j [cd]) (.j [.b false])) (.ite bX (.join (.rw U0 U8 4<|.cl bU 0 (.int .i64)<|.cl bU 1 .sl<|.cl bU 2 (.int .i64)<|.cl bU 3 .sl<|.bI .and cd (.i 7)<|.join (.bI .eql cn (.i 0)<|.ite ct (.j [ct]) (.bI .eql cn (.i 1)<|.ite cH (.j [cH]) (.bI .eql cn (.i 2)<|.j [ck]))) (.ite ct (.cA 2004 OP [cv,.i 4] 1<|.loop ([.i 0]++w 9 8) (.ln cH<|.bI .lss ck ke<|.ite jG (.join (.rw cH ck 4<|.cl km 2 .bool<|.ite jn (.rw cH ck 4<|.cl jO 0 (.int .u64)<|.op (.call 611 Cw (w 27 8++[kE]) 8 [])<|.bq (.jump 0 (w 42 7++[mw]))) (.bI .add ck (.i 1)<|.ln cH<|.op (.part cH ck jO 4)<|.op (.call 610 xt (w 27 8++[mw]) 9 [])<|.bq (.jump 0 (w 43 8)))) (.bI .add ck (.i 1)<|.bq (.jump 0 ([ky]++w 37 8)))) (.bq (.jump 1 (w 27 8))))) (.join (.bI .eql cn (.i 3)<|.ite cH (.j [cH]) (.bI .eql cn (.i 4)<|.j [ck])) (.ite cH (.op (.call 619 BO (w 9 8) 8 [])<|.bq (.jump 0 (w 27 7++[bV]))) (.bI .eql cn (.i 5)<|.ite ck (.loop ([.i 0]++w 9 8) (.join (.ln cm<|.bI .lss cK jG<|.ite km (.bI .lss cK (.i 3)<|.j [jn]) (.j [.b false])) (.ite jG (.rw cm cK 1<|.cl km 0 (.int .u64)<|.op (.bi .and .u64 jn (.i 7))<|.op (.call 611 Cw (w 28 8++[jO]) 8 [])<|.bI .add cK (.i 1)<|.bq (.jump 0 ([iR]++w 41 7++[kE]))) (.bq (.jump 1 (w 28 8)))))) (.join (.bI .eql cn (.i 6)<|.ite cK (.j [cK]) (.bI .eql cn (.i 7)<|.j [cS])) (.ite cK (.op (.call 617 GN (w 9 8) 8 [])<|.bq (.jump 0 (w 29 7++[bV]))) (.bq (.jump 0 (w 9 8)))))))))) (.bI .add U8 (.i 1)<|.bq (.jump 0 ([ck]++w 18 8)))) (.bq (.jump 1 (w 9 8)))))) (.bq (.jump 0 (w 8 8)))
def I7:=Fo Ug
def ahd:bw:=⟨47,[cs 0,ci 1],[],2,8,.v (.agg [pi 2,pi 3,ps 4,pi 5,pi 6,.p .bool U7,ps 8,.mp 0]),[(0,(.map U9))],I7,156⟩
def aoj:Ok ahd:=oS (.cons SR (.cons KJ (.cons TH (.cons aAE (.cons Yf (.cons RQ (.cons Jo .nil)))))))
def Zz:bp:=.cA 156 I7 [U0,.i 8] 8<|.join (.cA 2004 OP [U1,.i 6] 1<|.ln bD<|.loop ([.i 0]++w 2 8) (.bI .lss bH bF<|.ite cR (.join (.rw bD bH 4<|.cl cm 0 (.int .u64)<|.cl cm 1 (.int .u32)<|.cl cm 2 .bool<|.cl cm 3 .sl<|.no cH<|.ite cK (.op (.lit [[((.int .u64),cn),((.int .u32),ct),(.bool,cH),(.sl,ck)]])<|.op (.call 610 xt (w 13 8++[cS]) 9 [])<|.bq (.jump 0 (w 30 8))) (.bq (.jump 0 (w 13 8)))) (.bI .add bH (.i 1)<|.bq (.jump 0 ([eJ]++w 22 8)))) (.bq (.jump 1 (w 13 8))))) (.op (.call 619 BO (w 10 8) 8 [])<|.bq (.jump 0 (w 19 7++[bX])))
def NK:=Fo Zz
def auF:bw:=⟨11,[cs 0,cs 1],[],2,8,.v (.agg [pi 2,pi 3,ps 4,pi 5,pi 6,.p .bool U7,ps 8,.mp 0]),[(0,(.map U9))],NK,714⟩
def aiX:Ok auF:=oS (.cons aoj (.cons KJ (.cons TH (.cons RQ (.cons Jo .nil)))))
def ajM:bp:=.ln U0<|.cA 106 N_ [U0,U1] 1<|.j [U2]
def Lg:=Fo ajM
def aBo:bw:=⟨348,[.c (.own 0),.c (.fn 349 [])],[.row 164 U0],1,1,.bM [],[(0,(.row 164 U1))],Lg,121⟩
def amw:Ok aBo:=oS (.cons aeb .nil)
def Vy:bp:=.rw U2 U3 3<|.op (.rc U2 U3 0 .str)<|.op (.rc U2 U3 1 .ie)<|.op (.rc U2 U3 2 .ie)<|.cA 328 sR [U7,U8,U9] 1<|.ln U5<|.bI .gtr bF (.i 1048576)<|.ite bH (.op (.dM (.i 0) 0)<|.j []) (.op (.rc U2 U3 2 .nl)<|.cA 2011 qp [U5] 0<|.op (.lit [[((.int .i64),U4),(.sl,U5),(.bool,(.b false))]])<|.rw bP (.i 0) 3<|.op (.app .r0 bP 3 40)<|.op (.set U2 U3 2 [(.sl,bV)])<|.op (.rc bX U3 0 .str)<|.op (.rc bX U3 1 .ie)<|.op (.rc bX U3 2 .ie)<|.cA 328 sR [bU,cd,cv] 1<|.join (.bI .gtr cR (.i 1048576)<|.ite cm (.j [.b true]) (.bI .gtr cR bD<|.ite cn (.bI .gtr U0 (.i 0)<|.ite ct (.op (.dM (.i 0) 0)<|.j []) (.j [.b false])) (.j [.b false]))) (.ite cm (.op (.dM (.i 0) 0)<|.j []) (.j [bX])))
def KA:=Fo Vy
def aip:bw:=⟨275,[.agg [pi 0,pi 1,.own 0],ci 3,ci 4,cs 5],[.row 144 U2],6,1,.bM [.agg [pi 0,pi 1,.own 0],.c (.p (.int .i64) (.i 0))],[(0,(.row 144 U6))],KA,715⟩
def afr:aip.ok Tryz.prog:=lr Vy atV (.cons JV (.cons wB .nil)) Tryz.func275 kr kr rfl
def azc:bp:=.ln U0<|.bI .lss U1 (.i 52)<|.ite U2 (.j [.i 4,.i 0,.i 0,.i 0,.i 0,.i 0,.i 0,.i 0,.i 0,.i 0,.i 0,.r0]) (.ln U0<|.op (.part U0 (.i 0) (.i 4) 1)<|.op (.str U4)<|.op (.bs .neq U5 (.s ⟨#[78,73,68,88]⟩))<|.ite U6 (.j [.i 3,.i 0,.i 0,.i 0,.i 0,.i 0,.i 0,.i 0,.i 0,.i 0,.i 0,.r0]) (.ln U0<|.op (.part U0 (.i 44) (.i 48) 1)<|.cA 335 tU [U8] 1<|.bI .mul (.i 24) U9<|.bI .add (.i 52) bD<|.ln U0<|.bI .sub bH (.i 4)<|.ln U0<|.bI .lss bP bF<|.ite bQ (.j [.i 4,.i 0,.i 0,.i 0,.i 0,.i 0,.i 0,.i 0,.i 0,.i 0,.i 0,.r0]) (.ln U0<|.bI .gtr bV bF<|.ite bX (.j [.i 3,.i 0,.i 0,.i 0,.i 0,.i 0,.i 0,.i 0,.i 0,.i 0,.i 0,.r0]) (.ln U0<|.op (.part U0 (.i 0) bL 1)<|.cA 333 A8 [cd] 1<|.ln U0<|.op (.part U0 bL cR 1)<|.cA 334 Hv [cv,cm] 1<|.no cn<|.ite ct (.j [.i 5,.i 0,.i 0,.i 0,.i 0,.i 0,.i 0,.i 0,.i 0,.i 0,.i 0,.r0]) (.ln U0<|.op (.part U0 (.i 48) bL 1)<|.cA 375 M8 [ck] 2<|.bI .neq cK (.i 0)<|.ite dZ (.j [cK,.i 0,.i 0,.i 0,.i 0,.i 0,.i 0,.i 0,.i 0,.i 0,.i 0,.r0]) (.cA 356 Ny [U0] 10<|.op (.call 402 vO (w 30 10++[cS]) 1 [])<|.no kE<|.ite mw (.j [.i 3,.i 0,.i 0,.i 0,.i 0,.i 0,.i 0,.i 0,.i 0,.i 0,.i 0,.r0]) (.bq (.jump 0 ([.i 0]++w 30 10++[cS])))))))))
def Mq:=Fo azc
def atX:bw:=⟨37,[cs 0],[],1,12,.bM [.agg (cM 2 4++[.p (.int .u32) U6,.p (.int .u32) U7,.p (.int .u32) U8,.p (.int .u32) U9,.p (.int .u32) bD,.p (.int .u32) bF,.own 0]),ci 1],[(0,(.row 164 bH))],Mq,405⟩
def aDv:Ok atX:=oS (.cons Dg (.cons asH (.cons Sl (.cons atZ (.cons aab (.cons V8 .nil))))))
def TY:bp:=.cA 2000 mc [U0] 0<|.cA 62 E9 [U0] 1<|.ite U1 (.j [U0]) (.cA 121 Lg [U0] 1<|.ln U2<|.op (.cut U2 (.i 0) (.i 0) 4)<|.join (.ln U2<|.loop [.i 0,.i 0,U2] (.bI .lss U7 U5<|.ite U9 (.join (.rw U8 U7 4<|.op (.rc U8 U7 0 (.int .u64))<|.op (.rc U8 U7 1 (.int .u32))<|.op (.rc U8 U7 2 (.int .i64))<|.op (.rc U8 U7 3 (.int .i64))<|.join (.bI .add U7 (.i 1)<|.ln U8<|.bI .eql bQ bV<|.ite bX (.j [.b true]) (.bI .add U7 (.i 1)<|.rw U8 bU 4<|.op (.rc U8 bU 0 (.int .u64))<|.op (.bi .neq .u64 cv bF)<|.j [cR])) (.ite bQ (.op (.lit [[((.int .u64),bF),((.int .u32),bH),((.int .i64),bL),((.int .i64),bP)]])<|.op (.tQ U8 U6 bV 4)<|.j [bU,bX]) (.j [U6,U8]))) (.bI .add U7 (.i 1)<|.j [bD,bH,bF])) (.bq (.jump 1 [U6,U8])))) (.op (.tk U6 U5)<|.j [U7]))
def A1:=Fo TY
def aBd:bw:=⟨306,[cs 0],[],1,1,.v (.c (.own 0)),[(0,(.row 164 U1))],A1,123⟩
def aCX:aBd.ok Tryz.prog:=lr TY Y8 (.cons amw (.cons PB (.cons Kp (.cons B3 .nil)))) Tryz.func306 kr kr rfl
def OA:bp:=.op (.call 711 K_ (w 0 4++[.b true]) 5 [])<|.bI .neq U6 (.i 0)<|.ite bD (.j [U6,.i 0,.i 0,.r0]) (.rw U9 U5 3<|.op (.rc U9 U5 0 .str)<|.op (.rc U9 U5 1 .ie)<|.op (.rc U9 U5 2 .ie)<|.cA 328 sR [bH,bL,bP] 1<|.cA 715 KA [U7,U8,U9,U5,bQ,U4] 1<|.j [.i 0,U7,U8,bV])
def S_:=Fo OA
def Z1:bw:=⟨213,[.agg [pi 0,pi 1,ps 2],.c (.p .str U3),cs 4],[],5,4,.bM [.agg [pi 6,pi 7,.own 0],ci 5],[(0,(.row 144 U8))],S_,717⟩
def akH:Z1.ok Tryz.prog:=lr OA BH (.cons afr (.cons avz (.cons JV .nil))) Tryz.func213 kr kr rfl
def E3:List L->Option (List L):=S_
def aBq:bw:=⟨213,[.agg [pi 0,pi 1,ps 2],.c (.p .str U3),cs 4],[],5,4,.bM [.agg [pi 6,pi 7,ps 8],ci 5],[],E3,2077⟩
def agB:aBq.ok Tryz.prog:=nY (s:=Z1) akH rfl (x:=(.v 8)) (e:=144) rfl rfl 2077
def aAX:bp:=.join (.bI .sub U2 (.i 1)<|.loop [U3,U0] (.bI .geq U4 (.i 0)<|.ite U6 (.bI .mul (.i 8) U4<|.bI .shr U1 U7<|.op (.conv .u8 U8)<|.op (.lit [[((.int .u8),U9)]])<|.op (.app U5 bD 1 1)<|.bI .sub U4 (.i 1)<|.j [bH,bF]) (.bq (.jump 1 [U5])))) (.j [U3])
def ru:=Fo aAX
def afd:bw:=⟨266,[.c (.own 0),ci 1,ci 2],[.row 5 U0],3,1,.v (.c (.own 1)),[(1,(.row 5 U3))],ru,718⟩
def aqc:Ok afd:=oS .nil
def asG:bp:=.join (.ln bH<|.cA 314 O_ [U3] 1<|.bI .eql bL bP<|.ite bQ (.cA 327 v_ [bH] 1<|.op (.dM bF 6)<|.op (.ix (w 4 6) bF)<|.op (.bi .eql .u32 bV bX)<|.j [bU]) (.j [.b false])) (.j [bL])
def Jf:=Fo asG
def aqp:bw:=⟨84,[.agg (cM 0 4++[.p (.int .u32) U4,.p (.int .u32) U5,.p (.int .u32) U6,.p (.int .u32) U7,.p (.int .u32) U8,.p (.int .u32) U9,ps 10]),ci 11,cs 12],[],13,1,.v (.c (.p .bool bL)),[],Jf,795⟩
def aCG:Ok aqp:=oS (.cons AH (.cons aeg .nil))
def apI:bp:=.join (.bI .geq bF (.i 0)<|.ite bL (.bI .lss bF (.i 6)<|.ite bP (.op (.call 402 vO (w 0 11) 1 [])<|.ite bQ (.op (.call 795 Jf (w 0 13) 1 [])<|.j [bV]) (.j [.b false])) (.j [.b false])) (.j [.b false])) (.j [bL])
def Lx:=Fo apI
def axE:bw:=⟨40,[.agg (cM 0 4++[.p (.int .u32) U4,.p (.int .u32) U5,.p (.int .u32) U6,.p (.int .u32) U7,.p (.int .u32) U8,.p (.int .u32) U9,ps 10]),ci 11,cs 12],[],13,1,.v (.c (.p .bool bL)),[],Lx,796⟩
def auk:Ok axE:=oS (.cons aCG (.cons Dg .nil))
end
section
open Go.RowKit Go.Shelf
namespace Sq
open Sp
attribute [local go_sem] Oper.semAt_some
def nU(f:Nat->Int)(a len:Nat):List b8:=(List.range len).map λj=>.int .u8 (f (a+j))
def u9(f:Nat->Int)(a len:Nat):(nU f a len).length=len:=by simp[nU]
def zi(f:Nat->Int)(a len:Nat){j:Nat}(b:j<len):(nU f a len)[j]?=some (.int .u8 (f (a+j))):=by simp[nU,b]
def ajX(f:Nat->Int)(a b c:Nat):nU f a b++nU f (a+b) c=nU f a (b+c):=by
 apply sE;intro i;by_cases d:i<b
 .rw[nz (by rw[u9];exact d),zi _ _ _ d,zi _ _ _ om]
 .rw[kX (by rw[u9];omega),u9];by_cases e:i<b+c
  .rw[zi _ _ _ om,zi _ _ _ e,show a+b+(i-b)=a+i by omega]
  .rw[nA (by rw[u9];omega),nA (by rw[u9];omega)]
def avf(f:Nat->Int)(a len:Nat):∀v∈nU f a len,v.oneCell'=true:=by
 intro v b;obtain⟨j,_,rfl⟩:=gg.1 b;rfl
def anU{w:bW}{base e size:Nat}{v:b8}{n:Nat}{xs:List b8}(h:w.ownsRow base e size v n xs):
 ∃A c,v=.slice A n c/\n<=c/\c<=9223372036854775807/\(0<n->∃g,A=some ⟨g,0,none⟩/\base<=g/\g<w.heap.size/\(∀j u,xs[j]?=some u->w.cell? ⟨g,j,none⟩=some u)/\∀j,w.frozen? ⟨g,j,none⟩=false):=by
 rcases h.2 with⟨rfl,rfl⟩| ⟨g,cap,cur,rfl,f,d,i,o,_⟩
 .exact⟨none,0,rfl,om,om,λh=>absurd h om⟩
 .refine⟨_,cap,rfl,i,by unfold maxLen at o;omega,λ_=>⟨g,rfl,f,(kq.1 d).1,λj u p=>?_,λj=>h.frozenAt j⟩⟩;have:=h.cells rfl j u p;have b:(⟨g,0,none⟩:Addr).add j=⟨g,j,none⟩:=by unfold Addr.add;split<;>simp_all
  rwa [b]at this
def auj(w:bW)(A:Option Addr)(len:Nat)(c:Nat->Option Addr)(ln b:Nat->Nat):Prop:=
 (0<len->∃g o,A=some ⟨g,o,none⟩/\∀i,i<len->w.cell? ⟨g,o+i,none⟩=some (.slice (c i) (ln i) (b i)))/\∀i,i<4->0<ln i->ln i<=b i/\b i<=9223372036854775807
def jb(c:Nat->Nat->Int)(t:Nat):Int:=c (ey t) (eE t)
def atH(w:bW)(N:Nat)(c:Nat->Nat->Int)(e:Ending)(w':bW):Prop:=
 ∃v,e=.returned (.tuple #[v,.int .i64 0])/\w'.ownsRow w.heap.size 5 1 v N (nU (jb c) 0 N)/\Below w.heap.size w w'
def afX(c:Nat->Nat->Int){t q j:Nat}(b:t%64+q<=64)(d:j<q):jb c (t+j)=c (ey t) (eE t+j):=by
 unfold jb;rw[show ey (t+j)=ey t by unfold ey;omega,show eE (t+j)=eE t+j by unfold eE;omega]
def adT(n:Nat)(g:n<=1048576)(w:bW):
 (Instr.makeSlice 95 (.int .i64 0) (.int .i64 (n:Int))).run Tryz.prog w=.ok (.slice (some ⟨w.heap.size,0,none⟩) 0 n) (w.alloc (.cells (madeCells #[Value.int .u8 0] n) 5)):=by
 obtain⟨e,f,b,c,d⟩:=info_parts Py;have h:=run_make (P:=Tryz.prog) w 95 5 e (.int .u8 0) Tryz.underlying95 f b .i64 .i64 0 (n:Int) om om (by rw[d];omega) om;rw[c,sF]at h;simp only[eO,zK]at h;exact h
def aos(n m:Nat)(w:bW)(b:n<=1048576)(c:cU n=m):
 Calls Tryz.prog 79 #[.int .i64 (n:Int)] w λe w'=>e=.returned (.int .i64 (m:Int))/\w=w':=Xd n m w b c
structure Ey(w:bW)(A:Option Addr)(len cap:Nat)(c:Nat->Nat->Int)(t:Nat)(v:b8)(W:bW):Prop where
 b0:W.heap[w.heap.size]?=some (.cells #[.slice A len cap] 29 (0,0))
 b2:Boxed W (w.heap.size+1+1) 95 v
 own:W.ownsRow w.heap.size 5 1 v t (nU (jb c) 0 t)
 off:v.ownBlock≠some (w.heap.size+1+1+1)
 low:Below w.heap.size w W
 size:w.heap.size+5<=W.heap.size
def Ey.kept{w W z:bW}{A:Option Addr}{len cap t:Nat}{c:Nat->Nat->Int}{v:b8}(h:Ey w A len cap c t v W){row:Option Nat}(d:W.grownBy z row)
 (x:∀r,row=some r->r=w.heap.size+1+1+1\/(w.heap.size+5<=r/\∃o:Obj,W.heap[r]?=some o/\o.isCells=false)):Ey w A len cap c t v z:=by
 have q:∀j,j≠w.heap.size+1+1+1->∀r,row=some r->r≠j\/∃o:Obj,W.heap[r]?=some o/\o.isCells=false:=λj E r e=>by
  rcases x r e with rfl| ⟨_,h⟩
  .exact .inl (λe=>E e.symm)
  .exact .inr h
 refine⟨(Am h.b0 d (q _ om)).trans h.b0,aAW h.b2 d (q _ om),?_,h.off,h.low.grown d h.low.size ?_,n_ h.size d.size⟩
 .refine h.own.kept d ?_;rcases h.own.2 with⟨rfl,_⟩| ⟨g,u,cur,rfl,_,y,_⟩
  .exact .inl rfl
  .refine .inr λF=>?_
   have B:=F.symm;rw[show(Value.slice (some ⟨g,0,none⟩) t u).ownBlock=some g from rfl]at B;rcases x g B with G| ⟨_,o,D,H⟩
   .exact h.off (by rw[<-G];rfl)
   .rw[y]at D;cases D;cases H
 .intro r e;rcases x r e with rfl| ⟨h,_⟩<;>omega
set_option maxRecDepth 100000 in
set_option maxHeartbeats 2000000 in
def aBc(A:Option Addr)(len cap:Nat)(As:Nat->Option Addr)(ln cp:Nat->Nat)(N m:Nat)(c:Nat->Nat->Int)(w:bW)(h4:4<=len)(hlc:len<=cap)(hcm:cap<=9223372036854775807)
 (hH:auj w A len As ln cp) (hN:N<=1048576) (hm:cU N=m) (hl:∀i,i<4->ln i=m) (hb:∀i,i<4->AQ w (As i) m (c i)):
 Calls Tryz.prog 38 #[.slice A len cap,.int .i64 (N:Int)] w (atH w N c):=by
 obtain⟨iz,hiz,hz0,hz1,hz2⟩:=info_parts Py;have zu:=adT N hN;have Hm:=Lib.hid hm;clear hm;have h4i:(4:Int)<=(len:Int):=om;have h4c:(4:Int)<=(cap:Int):=om;obtain⟨g,o,rfl,hc⟩:=hH.1 om;have Hl:=Lib.hid hl;clear hl;refine(callsIn_wide (n:=3)).1 ?_;refine callsIn_of_wp_marks Tryz.func38 rfl trivial ?_ rfl;simp only[Tryz.ntmps38,kW,h_,jW,Nat.reduceAdd,Nat.reduceSub,w2,w3,w5,w6,kZ,qU];refine wpIn_wide.2 ?_
 go_wp2_with fail
 go_loop [21] (λi=>∃k:Nat,k<=4/\i=.int .i64 k) (λi=>4- (intOf i).toNat)
 case atStart=>exact⟨0,om,rfl⟩
 case round=>
  obtain⟨k,hk,rfl⟩:=hrel;by_cases hlt:k<4
  .have c1:∀C,(w.alloc (.cells C 29)).cell? ⟨g,o+k,none⟩=some (.slice (As k) m (cp k)):=λC=>by
    rw[<-Hl.out k hlt];exact(World.cell?_alloc_lt w _ ⟨g,o+k,none⟩ (World.block_lt_of_cell? w _ (hc k om))).trans (hc k om)
   have k0:(0:Int)<=(k:Int):=om;have k1:(k:Int)<4:=om;clear hc zu
   go_wp2_with (go_at_call 79;refine(aos N m _ hN Hm.out).mono ?_;rintro e w' ⟨rfl,rfl⟩)
   go_round
   case rel=>exact⟨k+1,om,by go_num⟩
   case measure=>simp[intOf];omega
  .obtain rfl:k=4:=om;have c2:∀C,(w.alloc (.cells C 29)).heap.size=w.heap.size+1:=λC=>World.size_alloc _ _
   go_wp2_with (go_at_call 80;refine(S3 _ _ _).mono ?_;rintro e w' ⟨rfl,rfl⟩)
   clear c2;have B0:((((w.alloc (.cells #[.slice (some ⟨g,o,none⟩) len cap] 29)).alloc (.cells (madeCells #[Value.int .u8 0] N) 5)).alloc (.cells #[.slice (some ⟨w.heap.size+1,0,none⟩) 0 N] 95)).alloc (.cells #[.int .i64 0] 2)).heap.size=w.heap.size+1+1+1+1:=by simp
   have B1:(((w.alloc (.cells #[.slice (some ⟨g,o,none⟩) len cap] 29)).alloc (.cells (madeCells #[Value.int .u8 0] N) 5)).alloc (.cells #[.slice (some ⟨w.heap.size+1,0,none⟩) 0 N] 95)).heap.size=w.heap.size+1+1+1:=by simp
   have B2:((w.alloc (.cells #[.slice (some ⟨g,o,none⟩) len cap] 29)).alloc (.cells (madeCells #[Value.int .u8 0] N) 5)).heap.size=w.heap.size+1+1:=by simp
   have HB0:=Lib.hid B0;have HB1:=Lib.hid B1;have HB2:=Lib.hid B2;clear B0 B1 B2;refine wpIn_wide.1 (V0 (m:=3) om (w.heap.size+1+1+1) (w.heap.size+1+1+1+1) 0 (N:Int) om om om rfl ?ho ?hn rfl
    (λk W=>∃(t:Nat)(v:b8),Hid (fD 0 (0+(N:Int)) k=(t:Int))/\Ey w (some ⟨g,o,none⟩) len cap c t v W) ?hI ?hi0
    (λs p B=> {tmps:= #[.slice (some {block:=g,off:=o}) len cap,.int .i64 N,.pointer (some {block:=w.heap.size,off:=0}),undef,u4,u5,undef,u7,.pointer (some {block:=w.heap.size+1+1,off:=0}),undef,.pointer (some ⟨B,0,none⟩),
     .slice (some {block:=g,off:=o}) len cap,.int .i64 len,.bool (decide ((len:Int)<4)),.bool (decide ((len:Int)<4)),.int .i64 N,.bool (decide ((N:Int)<0)),.bool (decide ((len:Int)<4)||decide ((N:Int)<0)),
     .slice (some {block:=g,off:=o}) len cap,.slice (some {block:=g,off:=o}) 4 cap,.int .i64 4,.int .i64 4,.bool false,u23,u24,u25,u26,u27,u28,u29,u30,.int .i64 N,.slice (some {block:=w.heap.size+1,off:=0}) 0 N,.int .i64 N,
     .func (.func 161) #[] #[.pointer (some {block:=w.heap.size+1+1+1,off:=0}),.pointer (some {block:=w.heap.size+1+1+1+1,off:=0})],
     .int .i64 s,.agg #[.int .i64 (nL s),.int .i64 (nP s),.int .i64 p],undef,undef,undef,undef,undef,undef,undef,undef,undef,undef,undef,undef,undef,undef,undef,undef],defers:=[]}) ?assign ?body ?done)
   case ho=>have:=Boxed.new (((w.alloc (.cells #[.slice (some ⟨g,o,none⟩) len cap] 29)).alloc (.cells (madeCells #[Value.int .u8 0] N) 5)).alloc (.cells #[.slice (some ⟨w.heap.size+1,0,none⟩) 0 N] 95)) 2 (.int .i64 0);rw[HB1.out]at this;exact this.alloc _
   case hn=>have:=Boxed.new ((((w.alloc (.cells #[.slice (some ⟨g,o,none⟩) len cap] 29)).alloc (.cells (madeCells #[Value.int .u8 0] N) 5)).alloc (.cells #[.slice (some ⟨w.heap.size+1,0,none⟩) 0 N] 95)).alloc (.cells #[.int .i64 0] 2)) 2 (.int .i64 (N:Int));rw[HB0.out]at this;exact this
   case hI=>
    rintro k W W' row ⟨t,v,ht,hrun⟩ hg hr;refine⟨t,v,ht,hrun.kept hg λr e=>?_⟩;rcases hr r e with rfl| ⟨h,o⟩
    .exact .inl rfl
    .exact .inr ⟨by simp at h;omega,o⟩
   case hi0=>
    refine⟨0,.slice (some ⟨w.heap.size+1,0,none⟩) 0 N,rfl,?_,?_,?_,?_,?_,?_⟩
    .have a1:=heap_alloc_new w (.cells #[.slice (some ⟨g,o,none⟩) len cap] 29);rw[Below.heap_alloc _ _ _ (by simp;omega),Below.heap_alloc _ _ _ (by simp;omega),Below.heap_alloc _ _ _ (by simp;omega),Below.heap_alloc _ _ _ ch];exact a1
    .have:=Boxed.new ((w.alloc (.cells #[.slice (some ⟨g,o,none⟩) len cap] 29)).alloc (.cells (madeCells #[Value.int .u8 0] N) 5)) 95 (.slice (some ⟨w.heap.size+1,0,none⟩) 0 N);rw[HB2.out]at this;exact(this.alloc _).alloc _
    .have:=World.ownsRow_made (base:=w.heap.size) (e:=5) (size:=1) (w.alloc (.cells #[.slice (some ⟨g,o,none⟩) len cap] 29)) (madeCells #[Value.int .u8 0] N) N ch (by unfold maxLen;omega) (by simp[size_madeCells]);rw[World.size_alloc]at this;exact((this.alloc _).alloc _).alloc _
    .simp[Value.ownBlock]
    .exact((((((Below.refl _ w).alloc (dz _) _).alloc ch _).alloc (by simp;omega) _).alloc (by simp;omega) _).alloc (by simp;omega) _)
    .simp
   case assign=>
    intro l s p W K hK
    gi_wp2
    exact hK
   case body=>
    rintro l k s p W B hk hp hs1 hlt ⟨t,v,ht,hrun⟩ mh CK;have hBw:w.heap.size+5<=B:=by simp at CK;omega
    clear CK HB0 HB1 HB2;obtain rfl:s=(t:Int):=hk.symm.trans ht.out;have htl:t<N:=om;have hpl:=Md (0+(N:Int)) (t:Int) hlt;rw[hp]at hpl;obtain⟨q,rfl⟩:∃q:Nat,p=(q:Int):=⟨p.toNat,om⟩
    have Ia:1<=q:=om;have wN:t%64+q<=64:=om;have P2:t+q<=N:=om;have CL:Hid (fD 0 (0+(N:Int)) (k+1)=((t+q:Nat):Int)):=by
     show fD 0 (0+(N:Int)) k+kD (0+(N:Int)) (fD 0 (0+(N:Int)) k)=_;rw[hk,hp];omega
    have P0:eE t+q<=m:=by have:=OR wN P2;have:=Hm.out;omega
    have oY:=Fv t;rw[TB,Sj]at mh⊢;clear hk hp hs1 hlt hpl ht;have hcc:=hc (ey t) om;have CM:=hH.2 (ey t) oY (by rw[Hl.out (ey t) oY];omega);rw[Hl.out (ey t) oY]at hcc CM;obtain⟨gs,os,hAs,zy⟩:=hb (ey t) oY om;rw[hAs]at hcc;have d5:W.cell? ⟨g,o+ey t,none⟩=some (.slice (some ⟨gs,os,none⟩) m (cp (ey t))):=(hrun.low.cell (p:=⟨g,o+ey t,none⟩) (World.block_lt_of_cell? w _ hcc)).trans hcc;have abJ:∀j,j<q->W.cell? ⟨gs,os+eE t+j,none⟩=some (.int .u8 (jb c (t+j))):=λj hj=>by
     have h1:=zy (eE t+j) om;rw[zD,afX c wN hj];exact(hrun.low.cell (p:=⟨gs,os+(eE t+j),none⟩) (World.block_lt_of_cell? w _ h1)).trans h1
    have d0:W.cell? ⟨B,0,none⟩=some (.int .i64 (ey t:Int)):=cell_of_row W B 0 _ _ _ mh;have d1:W.cell? ⟨B,1,none⟩=some (.int .i64 (eE t:Int)):=cell_of_row W B 1 _ _ _ mh;have d2:W.cell? ⟨B,2,none⟩=some (.int .i64 (q:Int)):=cell_of_row W B 2 _ _ _ mh;have d3:W.cell? ⟨w.heap.size+1+1,0,none⟩=some v:=hrun.b2.cell;have d4:W.cell? ⟨w.heap.size,0,none⟩=some (.slice (some ⟨g,o,none⟩) len cap):=cell_of_row W _ 0 _ _ _ hrun.b0;obtain⟨aGR,aGS⟩:=CM;have Hbk:=Lib.hid mh;clear mh hc hcc zy hAs zu;generalize cp (ey t)=cps at*;generalize ey t=sn at*;generalize eE t=an at*;have i0:(0:Int)<=(sn:Int):=om;have i1:(sn:Int)< (len:Int):=om;have i2:(0:Int)<=(an:Int):=om;have i3:(an:Int)<=(an:Int)+(q:Int):=om;have i4:(an:Int)+(q:Int)<=(cps:Int):=om;have i8n:¬cps=an:=om;have j0:(0:Int)<=(an:Int)+(q:Int):=om;have j2:((an:Int)+(q:Int)).toNat=an+q:=om;have j1:IntKind.i64.wrap ((an:Int)+(q:Int))=(an:Int)+(q:Int):=IntWalk.i64_in _ om;refine wpIn_block ?_;refine Ym 14 kr kr (by rfl) ?hno ?_
    case hno=>
     rintro⟨a,w',hx⟩;exact absurd hx.1 ch
    simp only[Ix,IE,acE,sI]
    repeat still_step
    refine wpStill_nil ?_;clear j0 j1 j2;refine wpList_append_own_at _ rfl (.tmp 37) (.tmp 50) 95 rfl w.heap.size 5 iz (.int .u8 0) 1 1 Tryz.underlying95 hiz hz0 hz1 hz2 rfl dc v t (nU (jb c) 0 t) rfl hrun.own ⟨gs,os+an,none⟩ q (cps-an) (nU (jb c) t q) rfl (by rw[u9];omega) ?_ (avf _ _ _) (by unfold maxLen;omega) om hrun.low.size ?_
    .intro j x hx;have hj:j<q:=by
      rcases nw j q with h|h
      .exact h
      .rw[nA (by rw[u9];exact h)]at hx;cases hx
     rw[zi _ _ _ hj]at hx;cases hx;rw[show(⟨gs,os+an,none⟩:Addr).add j=⟨gs,os+an+j,none⟩by unfold Addr.add;split<;>simp_all];exact abJ j hj
    .intro v' w4 hown' hgrow _ hloc;have hb4:Boxed w4 (w.heap.size+1+1) 95 v:=Boxed.kept (W:=W.drew) hrun.b2 hgrow (hrun.b2.not_row dc hrun.own);have hgb:∀r,v.ownBlock=some r->w.heap.size<=r:=λr e=>(hrun.own.lt r e).1
     have CJ:=ajX (jb c) 0 t q;rw[kp]at CJ;rw[CJ]at hown';have aEZ:v.ownBlock≠some w.heap.size:=λe=>by
      rcases hrun.own.2 with⟨rfl,_⟩| ⟨g',cap',cur,rfl,_,hgb',_⟩
      .cases e
      .have:g'=w.heap.size:=by simpa[Value.ownBlock]using e
       subst this;have:=hrun.b0.symm.trans hgb';simp at this
     have aFa:v'.ownBlock≠some (w.heap.size+1+1+1):=by
      rcases hloc with h|h
      .rw[h];exact hrun.off
      .rw[h];intro e;have h1:W.heap.size=w.heap.size+1+1+1:=by injection e
       have:=hrun.size;omega
     obtain⟨g',cap',rfl⟩:∃g cap,v'=.slice (some ⟨g,0,none⟩) (t+q) cap:=by
      obtain⟨A',c',e1,_,_,hA'⟩:=anU hown';obtain⟨g',e2,_⟩:=hA' om;exact⟨g',c',by rw[e1,e2]⟩
     have hc4:=hb4.cell;have hf4:=hb4.frozen;have aGU:=hgrow.size;clear abJ d0 d1 d2 d3 d4 d5
     go_wp2_with fail
     have P3:W.grownBy w4 v.ownBlock:=⟨hgrow.os,hgrow.tape,hgrow.output,hgrow.size,hgrow.block⟩
     have hgs:=grownBy_setCell' w4 (w.heap.size+1+1) (.slice (some ⟨g',0,none⟩) (t+q) cap');have hko:KeepsOthers W (w4.setCell ⟨w.heap.size+1+1,0,none⟩ (.slice (some ⟨g',0,none⟩) (t+q) cap')):=by
      refine(KeepsOthers.of_grownBy P3 λj x e hj=>?_).trans (KeepsOthers.setCell _ _ _);rcases hrun.own.2 with⟨rfl,_⟩| ⟨g2,aGV,aGW,rfl,_,aFc,_⟩
      .simp[Value.ownBlock]at e
      .obtain rfl:g2=j:=by simpa[Value.ownBlock]using e
       rw[aFc]at hj;cases hj;rfl
     have nj:∀j,j<W.heap.size->j≠w.heap.size+1+1->some j≠v.ownBlock->(w4.setCell ⟨w.heap.size+1+1,0,none⟩ (.slice (some ⟨g',0,none⟩) (t+q) cap')).heap[j]?=W.heap[j]?:=λj h1 h2 h3=>
      (Below.heap_setCell _ _ _ j h2).trans (P3.block j h1 h3)
     have hsz:=hrun.size;refine⟨rfl,hko,nj _ om om (λe=>hrun.off e.symm),t+q,_,CL,(nj _ om om (λe=>aEZ e.symm)).trans hrun.b0,hb4.set _,?_,aFa,?_,n_ hsz hko.size⟩
     .exact hown'.kept hgs (.inr (hb4.not_row dc hown').symm)
     .exact(hrun.low.grown P3 hrun.low.size hgb).setCell (by simp;omega) _
   case done=>
    rintro D K W hK ⟨t,v,ht,hrun⟩ hD hd;obtain rfl:t=N:=by have h1:=ht.out;have h2:=hK.1;omega
    have c3:=hrun.b2.cell
    go_wp2_with fail
    refine⟨by simp,.inl ⟨_,_,rfl,run_takeDeferred hd,?_⟩⟩;exact⟨_,results_tmp2 rfl _ _ _,v,rfl,ownsRow_putObj hrun.own _ hd rfl,hrun.low.trans (belowK_b (w:=w) (dz _) W D _ _ (by simp at hD;omega) hd rfl rfl)⟩
def rL(bs:List (List Int))(N:Nat):List Int:=(List.range N).map λt=>((bs.getD (ey t) [])[eE t]?).getD 0
def akG{w':bW}{B:Nat}{v}{N:Nat}{f:Nat->Int}(ho:w'.ownsRow B 5 1 v N (nU f 0 N)):
 ∃x,(∀g,x.g=some g->B<=g/\g<w'.heap.size)/\v=.slice (x.g.map λg=>⟨g,0,none⟩) x.len x.cap/\∀(M:gE)(E:Env)(n:Nat),E.N n=some x->RB Tryz.prog M E w' n (.row 5 (fy ((List.range N).map f))):=by
 have hlen:(fy ((List.range N).map f)).length=N:=by rw[Fe];simp
 rcases ho.2 with⟨rfl,rfl⟩| ⟨g,cap,cur,rfl,hB,hg,h1,h2,h3,h4⟩
 .refine⟨⟨none,0,0,1⟩,λg h=>(by cases h),rfl,λM E n hn=>⟨⟨none,0,0,1⟩,#[],(0,0),hn,.inl rfl,λg h=>(by cases h),hlen.symm,dz _,dc,by show 0<1;omega,by kernel_rfl,rfl,GI _,λ_=>rfl,?_⟩⟩;intro i r j p hi hj;simp[fy]at hi
 .refine⟨⟨some g,N,cap,1⟩,λg' h=>?_,rfl,λM E n hn=>⟨⟨some g,N,cap,1⟩,cur,(0,0),hn,.inl rfl,λg' h=>?_,hlen.symm,h1,h2,by show 0<1;omega,by kernel_rfl,h3,GI _,λh=>(by cases h),?_⟩⟩
  .cases h;exact⟨hB,(kq.1 hg).1⟩
  .cases h;exact hg
  .intro i r j p hi hj;rw[Lc,b9]at hi;obtain⟨z,hz,rfl⟩:=hi;rw[cY,b9]at hz;obtain⟨k,hk,rfl⟩:=hz;obtain⟨CH,hk⟩:=ek.1 hk;simp at CH hk;subst hk;have hj0:j=0:=by cases j with|zero=>rfl|succ j=>simp at hj
   subst hj0;simp at hj;subst hj;refine⟨.int .u8 (f i),?_,RP.sc rfl⟩;have hs:=zi f 0 N CH;rw[<-h4,jD]at hs;split at hs
   .simpa using hs
   .cases hs
def atw(bs:List (List Int))(lo len N:Nat)(wJ:lo+len<=bs.length)(h4:4<=len)(hN:N<=1048576)(hl:∀i,i<4->(bs.getD (lo+i) []).length=cU N):
 eX Tryz.prog 38 [.c (.sub 0 lo len),.c (.p (.sc (.int .i64 (N:Int))))] [.row 95 (bs.map λb=>[PV.sl (fy b)])] (.bM [.c (.own 1),.c (.p (.sc (.int .i64 0)))]) [(0,.row 95 (bs.map λb=>[PV.sl (fy b)])),(1,.row 5 (fy (rL (bs.drop lo) N)))]:={
 own:=⟨_,Tryz.func38,by kernel_rfl,rfl⟩
 call :=λw M N0 vals h1 h2 h3 h4' h5 h6 h7=>by
  obtain⟨v,zo,hv2⟩:=h7 0 _ rfl;obtain⟨v1,qS,CN⟩:=h7 1 _ rfl;have CN:v1=.int .i64 (N:Int):=RP.eM CN;subst CN;have aFe:vals= #[v,.int .i64 (N:Int)]:=by
   grind
  subst aFe;have hB0:=h5 0 _ rfl;obtain⟨x0,cur,fz,hx0,zq,hhp,pR,hlc,hcm,hz0,hzz,hcs,hR,pP,hce⟩:=hB0;have hx0:N0 0=some x0:=hx0;have hv2:dj ⟨N0,[]⟩ 0 λx=>lo+len<=x.len/\∃A,v=.slice A len (x.cap-lo)/\(x.cap≠lo\/lo=0->A=x.g.map λg=>⟨g,lo*x.sz,none⟩):=hv2
  rcases hv2 with hv2| ⟨x,hx,hle,A,rfl,hA⟩
  .cases hv2
  obtain rfl:x0=x:=by
   have hx:N0 0=some x:=hx;rw[hx0]at hx;exact oc hx
  have hsz:x0.sz=1:=hzz.trans kr;rw[bA]at pR;obtain⟨g,hg⟩:∃g,x0.g=some g:=by
   cases hq:x0.g with
   |none=>have:=pP hq;omega
   |some g=>exact⟨g,rfl⟩
  have hA:=hA (.inl om);rw[hg,hsz,sF]at hA;subst hA;have hblk:=hhp g hg;rw[hsz]at hce hcs;have hcc:∀i,i<bs.length->∃u,w.cell? ⟨g,i,none⟩=some u/\RP (bad M ⟨N0,[]⟩) w (.sl (fy (bs.getD i []))) u:=λi hi=>by
   have hgd:bs.getD i []=bs[i]:=by rw[iD,db hi];rfl
   obtain⟨u,k1,k2⟩:=hce i [PV.sl (fy bs[i])] 0 (PV.sl (fy bs[i])) (by rw[cY,db hi];rfl) rfl;rw[hgd];refine⟨u,?_,k2⟩;rw[sF,lL]at k1;have k1:cur[i]?=some u:=k1;simp only[World.cell?,hblk];exact k1
  have hx:∀i:Nat,∃p:Option Addr×Nat,i<len->w.cell? ⟨g,lo+i,none⟩=some (.slice p.1 (bs.getD (lo+i) []).length p.2)/\((bs.getD (lo+i) []).length=0\/(bs.getD (lo+i) []).length<=p.2/\p.2<=maxLen)/\AQ w p.1 (bs.getD (lo+i) []).length (λt=>((bs.getD (lo+i) [])[t]?).getD 0):=λi=>by
   by_cases hi:i<len
   .obtain⟨u,e1,e2⟩:=hcc (lo+i) om;obtain⟨A,c,e3,_,e4,e5⟩:=JL e2;exact⟨(A,c),λ_=>⟨by rw[<-e3];exact e1,e4,e5⟩⟩
   .exact⟨(none,0),λh=>absurd h hi⟩
  obtain⟨p,hp⟩:=Classical.skolem.1 hx;refine(aBc (some ⟨g,lo,none⟩) len (x0.cap-lo) (λi=>(p i).1) (λi=>(bs.getD (lo+i) []).length) (λi=>(p i).2) N (cU N) (λi t=>((bs.getD (lo+i) [])[t]?).getD 0) w h4 om (by unfold maxLen at hcm;omega) ⟨λ_=>⟨g,lo,rfl,λi hi=>(hp i hi).1⟩,λi hi h0=>?_⟩ hN rfl hl (λi hi=>?_)).mono ?_
  .rcases(hp i om).2.1 with h| ⟨e1,e2⟩
   .have h0:0< (bs.getD (lo+i) []).length:=h0;omega
   .unfold maxLen at e2;exact⟨e1,om⟩
  .have:=(hp i om).2.2;rw[hl i hi]at this;exact this
  rintro e w' ⟨u,rfl,ho,hb⟩;obtain⟨x,k1,k2,k3⟩:=akG ho;have wO:=(h3 0 x0 g hx0 hg).1;have PU:∀m y,N0 m=some y->m=0/\y=x0:=λm y h=>by
   have hm:m<1:=h2 m y h;obtain rfl:m=0:=om;rw[hx0]at h;exact⟨rfl,(oc h).symm⟩
  have Ib:∀{n y},(if n=1 then some x else N0 n:Option Nm)=some y->n=1/\x=y\/n=0/\x0=y:=λ{n y}h=>by
   split at h
   .exact .inl ⟨by assumption,oc h⟩
   .obtain⟨q1,q2⟩:=PU n y h;exact .inr ⟨q1,q2.symm⟩
  have hst:jo (bad M ⟨N0,[]⟩) (bad M ⟨λn=>if n=1 then some x else N0 n,[]⟩) w w':=λg' o' u' hc CE=>by
   have hlt:=World.block_lt_of_cell? w _ hc;refine⟨(hb.cell (p:=⟨g',o',none⟩) hlt).trans hc,?_⟩;rintro(hM| ⟨n,y,hn,hy⟩)
   .exact CE (.inl hM)
   .rcases Ib hn with⟨rfl,rfl⟩| ⟨rfl,rfl⟩
    .have:=(k1 g' hy).1;have hlt:g'<w.heap.size:=hlt;omega
    .exact CE (.inr ⟨0,x0,hx0,hy⟩)
  refine⟨_,⟨λn=>if n=1 then some x else N0 n,[]⟩,rfl,Frame.B9 hb,{bx:=rfl,names:=λn y g' h k=>?_,inj:=λn m y z g' h k hy hz=>?_,gl:=λm hm=>?_},λn b h=>?_,#[u,.int .i64 0],rfl,rfl,λi y hi=>?_⟩
  .rcases Ib h with⟨rfl,rfl⟩| ⟨rfl,rfl⟩
   .exact⟨(k1 g' k).2,.inr (k1 g' k).1⟩
   .exact⟨nt (h3 0 x0 g' hx0 k).1 hb.size,.inl ⟨0,x0,hx0,k⟩⟩
  .rcases Ib h with⟨rfl,rfl⟩| ⟨rfl,rfl⟩<;>rcases Ib k with⟨rfl,rfl⟩| ⟨rfl,rfl⟩
   .rfl
   .have:=(k1 g' hy).1;have:=(h3 0 x0 g' hx0 hz).1;omega
   .have:=(k1 g' hz).1;have:=(h3 0 x0 g' hx0 hy).1;omega
   .rfl
  .have hm:m<1:=hm;exact .inr (bG om)
  .simp only[gb,kJ]at h;split at h
   .rename_i hn;simp at hn;subst hn;cases h;refine⟨x0,cur,fz,(by simpa using hx0),zq,λg' hg'=>?_,by rw[bA];exact pR,hlc,hcm,hz0,hzz,by rw[hsz];exact hcs,hR,pP,λi r j p hi hj=>?_⟩
    .exact(hb.block g' (h3 0 x0 g' hx0 hg').1).trans (hhp g' hg')
    .obtain⟨u',q1,q2⟩:=hce i r j p hi hj;rw[hsz];exact⟨u',q1,q2.trans hst⟩
   .split at h
    .rename_i hn;simp at hn;subst hn;cases h;have hd:∀i,(bs.drop lo).getD i []=bs.getD (lo+i) []:=λi=>by rw[iD,iD,kU]
     have e:rL (bs.drop lo) N=(List.range N).map (jb λi t=>((bs.getD (lo+i) [])[t]?).getD 0):=by
      unfold rL;simp only[hd];rfl
     rw[e];exact k3 M ⟨λn=>if n=1 then some x else N0 n,[]⟩ 1 ch
    .cases h
  .match i with
   |0=>cases hi;exact⟨u,rfl,.inr ⟨x,by simp,k2⟩⟩
   |1=>cases hi;exact⟨_,rfl,RP.sc rfl⟩
   |i+2=>simp at hi}
end Sq
def wA:List PV->Option (List Int)
 |[.sl q]=>mD q
 |_=>none
def avM{r b}(h:wA r=some b):r=[.sl (fy b)]:=by
 unfold wA at h;split at h
 .rw[L9 h]
 .cases h
def Y_:∀{rows:List (List PV)}{bs},rows.mapM wA=some bs->rows=bs.map λb=>[PV.sl (fy b)]
 |[],bs,h=>by simp at h;subst h;rfl
 |r::rows,bs,h=>by
  simp only[pY]at h
  cases c:wA r with
  |none=>simp[c]at h
  |some b=>
   cases d:rows.mapM wA with
   |none=>simp[c,d]at h
   |some l=>
    simp[c,d]at h;subst h;rw[avM c,Y_ d];rfl
open Classical in
def vK:List L->Option (List L):=λls=>match ls with
 |[l,a,b,n]=>match l.bE.mapM wA with
  |some bs=>if 4<=b.br.toNat/\a.br.toNat+b.br.toNat<=bs.length/\0<=n.br/\n.br<=1048576/\∀i,i<4->(bs.getD (a.br.toNat+i) []).length=Sp.cU n.br.toNat then some [.r (fy (Sq.rL (bs.drop a.br.toNat) n.br.toNat))]else none
  |none=>none
 |_=>none
def awh:bw:=⟨38,[.c (.sub 0 U1 U2),.c (.p (.int .i64) U3)],[.row 95 U0],4,1,.bM [.c (.own 1),.c (.p (.int .i64) (.i 0))],[(0,.row 95 U0),(1,.row 5 U4)],vK,2079⟩
def alH:awh.ok Tryz.prog:=by
 intro ls os g c d;have c:vK ls=some os:=c;unfold vK at c;split at c
 .rename_i l a b n _;split at c
  .rename_i bs e;split at c
   .rename_i f;cases c;obtain⟨c1,c2,c3,c4,c5⟩:=f;have:=Sq.atw bs a.br.toNat b.br.toNat n.br.toNat c2 c1 om c5;rw[<-Y_ e,zG c3]at this;exact this
   .cases c
  .cases c
 .cases c
end
section
attribute [local irreducible] Fo
open Go.RowKit
def aqz:bp:=.op (.call 671 uw (w 0 22++[U9,.b true]) 1 [])<|.join (.bI .eql U7 (.i 2)<|.ite cn (.cA 669 M9 [U0,U1,U2] 1<|.cA 651 HJ [ct,cm] 1<|.ite cH (.cA 2058 Cl [U0,U1,U2,cm] 4<|.op (.call 652 qG (w 0 22++[cK,cS,dZ,ck]) 3 [])<|.bq (.jump 1 [ck,eJ,e8,ee])) (.j [])) (.bI .eql U7 (.i 3)<|.ite ct (.cA 2059 Jm [U0,U1,U2,cm] 4<|.op (.call 652 qG (w 0 22++[ck,cK,cS,cH]) 3 [])<|.bq (.jump 1 [cH,dZ,eJ,e8])) (.bI .eql U7 (.i 4)<|.ite cH (.ln cR<|.bI .geq U9 ck<|.ite cK (.bq (.jump 1 [.i 12,U0,U1,U2])) (.rw cR U9 1<|.cl cS 0 .sl<|.cA 2077 E3 [U0,U1,U2,cm,dZ] 4<|.op (.call 652 qG (w 0 22++[e8,ee,ig,eJ]) 3 [])<|.bq (.jump 1 [eJ,iH,ke,jG]))) (.bI .eql U7 (.i 5)<|.ite ck (.cA 2061 OM [U0,U1,U2,cm] 4<|.op (.call 652 qG (w 0 22++[cS,dZ,eJ,cK]) 3 [])<|.bq (.jump 1 [cK,e8,ee,ig])) (.bI .eql U7 (.i 6)<|.ite cK (.op (.call 671 uw (w 0 22++[U9,.b false]) 1 [])<|.cA 2062 Hf [U0,U1,U2,cm,cS] 4<|.op (.call 652 qG (w 0 22++[eJ,e8,ee,dZ]) 3 [])<|.bq (.jump 1 [dZ,ig,iH,ke])) (.j [])))))) (.j [.i 0,U0,U1,U2])
def rW:=Fo aqz
def akA:bw:=⟨133,[.c (.ptr 0 0)],[.box ([pi 0,pi 1,ps 2,pi 3,pi 4,.p .bool U5,ps 6]++cM 7 7++[.p (.int .u32) bP,.p (.int .u32) bQ,.p (.int .u32) bV,.p (.int .u32) bX,.p (.int .u32) bU,.p (.int .u32) cd,ps 20,ps 21])],22,4,.v (ci 22),[(0,(.box ([pi 23,pi 24,ps 25,pi 3,pi 4,.p .bool U5,ps 6]++cM 7 7++[.p (.int .u32) bP,.p (.int .u32) bQ,.p (.int .u32) bV,.p (.int .u32) bX,.p (.int .u32) bU,.p (.int .u32) cd,ps 20,ps 21])))],rW,719⟩
def Vs:Ok akA:=oS (.cons agB (.cons Ms (.cons Di (.cons aAz (.cons WO (.cons aiR (.cons Rx (.cons VO (.cons Mg (.cons VN (.cons axO (.cons GH (.cons aCh .nil)))))))))))))
def adq:bp:=.op (.call 402 vO (w 0 11) 1 [])<|.no bF<|.ite bH (.j [.i 1,.r0]) (.op (.lit [[((.int .u8),(.i 78))],[((.int .u8),(.i 73))],[((.int .u8),(.i 68))],[((.int .u8),(.i 88))]])<|.rw bL (.i 0) 1<|.cA 718 ru [bL,U0,.i 2] 1<|.cA 718 ru [bQ,U1,.i 2] 1<|.cA 718 ru [bV,U2,.i 4] 1<|.cA 718 ru [bX,U3,.i 8] 1<|.join (.loop [.i 0,bU] (.bI .lss cd (.i 6)<|.ite cR (.op (.dM cd 6)<|.op (.ix (w 4 6) cd)<|.op (.conv .i64 cm)<|.cA 718 ru [cv,cn,.i 4] 1<|.bI .add cd (.i 1)<|.j [cH,ct]) (.bq (.jump 1 [cv])))) (.cA 698 Eg [bD] 2<|.ln bD<|.cA 718 ru [cd,cm,.i 4] 1<|.op (.app cn cR 1 1)<|.op (.call 333 A8 [ct] 1 [0])<|.op (.app ct cH 1 1)<|.j [cv,ck]))
def L4:=Fo adq
def aAR:bw:=⟨201,[.agg (cM 0 4++[.p (.int .u32) U4,.p (.int .u32) U5,.p (.int .u32) U6,.p (.int .u32) U7,.p (.int .u32) U8,.p (.int .u32) U9,ps 10])],[],11,2,.bM [.c (.own 0),ci 11],[(0,(.row 5 bH))],L4,720⟩
def arc:Ok aAR:=oS (.cons aqc (.cons Dg (.cons ahj (.cons Sl .nil))))
def asw:bp:=.j []
def XD:=Fo asw
def s15:bw:=⟨135,[.agg (dL 0 8++[pi 8,pi 9])],[],10,0,.v (.agg (dL 0 8++[pi 8,pi 9])),[],XD,15⟩
def agS:Ok s15:=oS .nil
def agH:bp:=.op (.call 15 XD (w 4 10) 0 [])<|.j []
def KX:=Fo agH
def s16:bw:=⟨59,[.agg (cM 0 4++dL 4 8++[pi 12,pi 13])],[],14,0,.v (.agg (cM 0 4++dL 4 8++[pi 12,pi 13])),[],KX,16⟩
def anW:Ok s16:=oS (.cons agS .nil)
def Yl:bp:=.join (.ln U3<|.loop [.i 0,.r0] (.bI .lss U5 U4<|.ite U7 (.rw U3 U5 14<|.cl U8 0 (.int .i64)<|.cl U8 1 (.int .i64)<|.cl U8 2 (.int .i64)<|.cl U8 3 (.int .i64)<|.cl U8 4 .sl<|.cl U8 5 .sl<|.cl U8 6 .sl<|.cl U8 7 .sl<|.cl U8 8 .sl<|.cl U8 9 .sl<|.cl U8 10 .sl<|.cl U8 11 .sl<|.cl U8 12 (.int .i64)<|.cl U8 13 (.int .i64)<|.op (.call 16 KX (w 9 14) 0 [])<|.op (.lit [[((.int .i64),U9),((.int .i64),bD),((.int .i64),bF),((.int .i64),bH),(.sl,bL),(.sl,bP),(.sl,bQ),(.sl,bV),(.sl,bX),(.sl,bU),(.sl,cd),(.sl,cv),((.int .i64),cR),((.int .i64),cm)]])<|.op (.app U6 cn 14 240)<|.bI .add U5 (.i 1)<|.j [cH,ct]) (.bq (.jump 1 [U6])))) (.j [U4])
def Kl:=Fo Yl
def ZU:bw:=⟨16,[.agg [pi 0,pi 1,.p .bool U2,ps 3]],[],4,1,.v (.agg [pi 0,pi 1,.p .bool U2,.own 0]),[(0,(.row 150 U4))],Kl,17⟩
def OQ:Ok ZU:=oS (.cons anW .nil)
def MX:List L->Option (List L):=Kl
def aty:bw:=⟨16,[.agg [pi 0,pi 1,.p .bool U2,ps 3]],[],4,1,.v (.agg [pi 0,pi 1,.p .bool U2,ps 4]),[],Kl,2052⟩
def YZ:aty.ok Tryz.prog:=nY (s:=ZU) OQ rfl (x:=(.v 4)) (e:=150) rfl rfl 2052
def atY:bp:=.join (.ln U0<|.loop [.i 0] (.bI .lss U3 U2<|.ite U4 (.rw U0 U3 1<|.cl U5 0 (.int .u64)<|.op (.bi .eql .u64 U1 U6)<|.ite U7 (.bq (.jump 2 [U3])) (.bI .add U3 (.i 1)<|.j [U8])) (.bq (.jump 1 [])))) (.j [.i (-1)])
def Ua:=Fo atY
def amx:bw:=⟨351,[cs 0,.c (.p (.int .u64) U1)],[],2,1,.v (ci 2),[],Ua,157⟩
def akK:Ok amx:=oS .nil
def apG:bp:=.cA 157 Ua [U0,U1] 1<|.bI .geq U2 (.i 0)<|.j [U3]
def Tu:=Fo apG
def aoU:bw:=⟨309,[cs 0,.c (.p (.int .u64) U1)],[],2,1,.v (.c (.p .bool U2)),[],Tu,160⟩
def aDJ:Ok aoU:=oS (.cons akK .nil)
def aBW:bp:=.cA 160 Tu [U4,U0] 1<|.j [U5]
def Jn:=Fo aBW
def atz:bw:=⟨308,[.agg [.p (.int .u64) U0,.p (.int .u32) U1,pi 2,pi 3],.c (.ptr 0 0)],[.box [ps 4]],5,1,.v (.c (.p .bool U5)),[(0,(.box [ps 4]))],Jn,161⟩
def X':Ok atz:=oS (.cons aDJ .nil)
def ahJ:bp:=.join (.ln U0<|.loop [.i 0] (.bI .lss U2 U1<|.ite U3 (.rw U0 U2 4<|.op (.rc U0 U2 0 (.int .u64))<|.op (.rc U0 U2 1 (.int .u32))<|.op (.rc U0 U2 2 (.int .i64))<|.op (.rc U0 U2 3 (.int .i64))<|.cA 161 Jn [U5,U6,U7,U8,.r0] 1<|.ite U9 (.bq (.jump 2 [U2])) (.bI .add U2 (.i 1)<|.j [bD])) (.bq (.jump 1 [])))) (.j [.i (-1)])
def JF:=Fo ahJ
def aeG:bw:=⟨227,[.c (.own 0),.c (.fn 308 [1])],[.row 164 U0,.box [.nil]],1,1,.v (ci 1),[(0,(.row 164 U0)),(1,(.box [.p .sl .r0]))],JF,162⟩
def anH:Ok aeG:=oS (.cons X' .nil)
def Vv:bp:=.cA 162 JF [U0] 1<|.bI .eql U1 (.i (-1))<|.ite U2 (.j []) (.join (.bI .add U1 (.i 1)<|.loop [U1,U3,U0] (.ln U6<|.bI .lss U5 U7<|.ite U8 (.join (.rw U6 U5 4<|.op (.rc U6 U5 0 (.int .u64))<|.op (.rc U6 U5 1 (.int .u32))<|.op (.rc U6 U5 2 (.int .i64))<|.op (.rc U6 U5 3 (.int .i64))<|.cA 161 Jn [bD,bF,bH,bL,.r0] 1<|.no bP<|.ite bQ (.rw U6 U4 4<|.op (.set U6 U4 0 [((.int .u64),bD),((.int .u32),bF),((.int .i64),bH),((.int .i64),bL)])<|.bI .add U4 (.i 1)<|.j [bU,bX]) (.j [U4,U6])) (.bI .add U5 (.i 1)<|.j [U9,bF,bD])) (.bq (.jump 1 [U4,U6])))) (.ln U4<|.op (.cut U4 U3 U5 4)<|.op (.dM (.i 0) 0)<|.j []))
def Ov:=Fo Vv
def ayv:bw:=⟨307,[.c (.own 0),.c (.fn 308 [1])],[.row 164 U0,.box [.nil]],1,0,.v (.c (.own 0)),[(0,(.row 164 U0)),(1,(.box [.p .sl .r0]))],Ov,163⟩
def aio:ayv.ok Tryz.prog:=lr Vv axf (.cons anH (.cons X' .nil)) Tryz.func307 kr kr rfl
def avr:bp:=.cA 123 A1 [.r0] 1<|.cA 163 Ov [U1] 0<|.op (.call 123 A1 [U0] 1 [0])<|.op (.app U1 U2 4 32)<|.op (.call 123 A1 [U3] 1 [0])<|.j [U4]
def O':=Fo avr
def anA:bw:=⟨258,[.c .nil,.c (.own 0),.c .nil],[.row 164 U0],1,1,.v (.c (.own 1)),[(1,(.row 164 U1)),(0,(.row 164 U0))],O',166⟩
def adw:Ok anA:=oS (.cons aio (.cons aCX .nil))
def afC:bp:=.cA 92 Bg [U0,U1,U2,U3,U4,U5,U6,U7,U8,U9] 1<|.no bD<|.ite bF (.j [.r0]) (.op (.lit [[(.sl,U0)],[(.sl,U1)],[(.sl,U2)],[(.sl,U3)],[(.sl,U4)],[(.sl,U5)],[(.sl,U6)],[(.sl,U7)]])<|.cA 64 LY [bH] 1<|.cA 166 O' [bL] 1<|.j [bP])
def B6:=Fo afC
def amJ:bw:=⟨196,[.agg (dL 0 8++[pi 8,pi 9])],[],10,1,.v (.c (.own 0)),[(0,(.row 164 bD))],B6,168⟩
def KY:Ok amJ:=oS (.cons adw (.cons Ol (.cons apa .nil)))
def atD:bp:=.join (.bI .lss U0 (.i 1)<|.ite bP (.j [.b true]) (.bI .gtr U0 (.i 8)<|.ite bQ (.j [.b true]) (.bI .lss U1 (.i 0)<|.ite bV (.j [.b true]) (.bI .gtr U1 (.i 4294967295)<|.ite bX (.j [.b true]) (.bI .lss U2 (.i 1)<|.ite bU (.j [.b true]) (.bI .gtr U2 (.i 3)<|.j [cd])))))) (.ite bP (.j [.b false]) (.join (.bI .lss U3 (.i 16)<|.ite bQ (.j [.b true]) (.bI .gtr U3 (.i 1048576)<|.ite bV (.j [.b true]) (.bI .rem U3 (.i 8)<|.bI .neq bX (.i 0)<|.ite bU (.j [.b true]) (.cA 92 Bg [U4,U5,U6,U7,U8,U9,bD,bF,bH,bL] 1<|.no cd<|.j [cv])))) (.ite bQ (.j [.b false]) (.join (.cA 168 B6 [U4,U5,U6,U7,U8,U9,bD,bF,bH,bL] 1<|.cA 186 Ll [bV,U3] 2<|.ite bX (.bI .add (.i 16) bH<|.bI .add cd bL<|.bI .eql U3 cv<|.j [cR]) (.j [.b false])) (.j [bV])))))
def Cu:=Fo atD
def awW:bw:=⟨118,[.agg (cM 0 4++dL 4 8++[pi 12,pi 13])],[],14,1,.v (.c (.p .bool bP)),[],Cu,187⟩
def X7:Ok awW:=oS (.cons KY (.cons Ol (.cons ahS .nil)))
def akt:bp:=.op (.call 187 Cu (w 0 14) 1 [])<|.no bQ<|.ite bV (.j [.i 1,.i 0,.i 0,.i 0,.i 0,.r0,.r0,.r0,.r0,.r0,.r0,.r0,.r0,.i 0,.i 0]) (.bI .neq U2 bP<|.ite bX (.j [.i 12,.i 0,.i 0,.i 0,.i 0,.r0,.r0,.r0,.r0,.r0,.r0,.r0,.r0,.i 0,.i 0]) (.bI .add U2 (.i 1)<|.op (.call 686 FZ (w 4 10++[.i 0]) 10 [])<|.bq (.jump 0 ([.i 0,U0,U1,bU,U3]++w 19 10))))
def TO:=Fo akt
def avH:bw:=⟨268,[.agg (cM 0 4++dL 4 8++[pi 12,pi 13]),ci 14],[],15,15,.bM [.agg (cM 16 4++dL 20 8++[pi 28,pi 29]),ci 15],[],TO,722⟩
def ain:Ok avH:=oS (.cons X7 (.cons Rc .nil))
def apF:bp:=.op (.call 722 TO (w 0 14++[.i 2]) 15 [])<|.bq (.jump 0 (w 14 15))
def MF:=Fo apF
def apJ:bw:=⟨204,[.agg (cM 0 4++dL 4 8++[pi 12,pi 13])],[],14,15,.bM [.agg (cM 15 4++dL 19 8++[pi 27,pi 28]),ci 14],[],MF,723⟩
def amz:Ok apJ:=oS (.cons ain .nil)
def apD:bp:=.cA 337 tu [.i 1,U3,cm] 1<|.cA 377 Ht [U0,U1,U2,jG] 2<|.bI .neq jn (.i 0)<|.ite jO (.j [jn,.i 0,.i 0,.i 0,.i 0,.i 0,.i 0,.i 0,.i 0,.i 0,.i 0,.r0,.r0]) (.cA 376 tC [U0,U1,U2,jG,.i 0,km] 2<|.cA 660 Pd [mw] 4<|.bI .neq oB (.i 0)<|.ite vW (.j [oB,.i 0,.i 0,.i 0,.i 0,.i 0,.i 0,.i 0,.i 0,.i 0,.i 0,.r0,.r0]) (.op (.call 168 B6 (w 26 10) 1 [])<|.cA 713 K8 [mw,uy,ql,ky,uL] 13<|.bI .neq iR (.i 0)<|.ite FD (.j [iR,.i 0,.i 0,.i 0,.i 0,.i 0,.i 0,.i 0,.i 0,.i 0,.i 0,.r0,.r0]) (.op (.call 720 L4 (w 50 11) 2 [1])<|.op (.lit [[(.sl,J_)]])<|.op (.app nO KR 1 24)<|.bq (.jump 0 ([v8]++w 50 11++[D3])))))
def Gc:=Fo apD
def amQ:bw:=⟨127,[.c (.ptr 0 0),.agg (cM 22 4++dL 26 8++[pi 34,pi 35])],[.box ([pi 0,pi 1,ps 2,pi 3,pi 4,.p .bool U5,ps 6]++cM 7 7++[.p (.int .u32) bP,.p (.int .u32) bQ,.p (.int .u32) bV,.p (.int .u32) bX,.p (.int .u32) bU,.p (.int .u32) cd,ps 20,ps 21])],36,13,.v (ci 36),[(0,(.box ([pi 0,pi 1,ps 2,pi 3,pi 4,.p .bool U5,ps 6,.p (.int .i64) (.i 1),pi 22,.p (.int .i64) (.i 0)]++cM 37 4++[.p (.int .u32) mw,.p (.int .u32) oB,.p (.int .u32) uy,.p (.int .u32) ql,.p (.int .u32) ky,.p (.int .u32) vW,.own 1,.own 2]))),(1,(.row 164 uL)),(2,(.row 95 iR))],Gc,724⟩
def Rz:Ok amQ:=oS (.cons KY (.cons arc (.cons afZ (.cons aDt (.cons arI (.cons Jh (.cons akp .nil)))))))
def ajk:bp:=.cA 168 B6 [U0,U1,U2,U3,U4,U5,U6,U7,U8,U9] 1<|.ln bD<|.j [bF]
def M1:=Fo ajk
def aqK:bw:=⟨119,[.agg (dL 0 8++[pi 8,pi 9])],[],10,1,.v (ci 10),[],M1,171⟩
def aBR:Ok aqK:=oS (.cons KY .nil)
def aCI:bp:=.join (.bI .lss U0 (.i 0)<|.ite U4 (.j [.b true]) (.bI .geq U0 (.i 4)<|.ite U5 (.j [.b true]) (.cA 5 F5 [.i 4096] 1<|.bI .add (.i 16) U6<|.bI .lss U1 U7<|.ite U8 (.j [.b true]) (.bI .gtr U1 (.i 262144)<|.j [U9])))) (.ite U4 (.j [.b false]) (.join (.ln U3<|.bI .lss U5 (.i 1)<|.ite U6 (.j [.b true]) (.ln U3<|.bI .gtr U7 (.i 8)<|.j [U8])) (.ite U5 (.j [.b false]) (.join (.ln U3<|.loop [.i 0] (.bI .lss U7 U6<|.ite U8 (.rw U3 U7 14<|.cl U9 0 (.int .i64)<|.cl U9 1 (.int .i64)<|.cl U9 2 (.int .i64)<|.cl U9 3 (.int .i64)<|.cl U9 4 .sl<|.cl U9 5 .sl<|.cl U9 6 .sl<|.cl U9 7 .sl<|.cl U9 8 .sl<|.cl U9 9 .sl<|.cl U9 10 .sl<|.cl U9 11 .sl<|.cl U9 12 (.int .i64)<|.cl U9 13 (.int .i64)<|.ln U3<|.bI .sub ct (.i 1)<|.bI .eql U7 cH<|.join (.cA 187 Cu [bD,bF,bH,bL,bP,bQ,bV,bX,bU,cd,cv,cR,cm,cn] 1<|.no cK<|.ite cS (.j [.b true]) (.bI .gtr U7 (.i 0)<|.ite dZ (.bI .sub U7 (.i 1)<|.rw U3 eJ 14<|.cl e8 0 (.int .i64)<|.bI .leq bD ee<|.ite ig (.j [.b true]) (.bI .eql bH (.i 1)<|.op (.bb .neq iH ck)<|.ite ke (.j [.b true]) (.bI .mul (.i 2) U1<|.bI .gtr bL jG<|.j [km]))) (.bI .eql bH (.i 1)<|.op (.bb .neq eJ ck)<|.ite e8 (.j [.b true]) (.bI .mul (.i 2) U1<|.bI .gtr bL ee<|.j [ig])))) (.ite cK (.bq (.jump 2 [.b false])) (.bI .add U7 (.i 1)<|.j [cS]))) (.bq (.jump 1 [])))) (.ln U3<|.bI .sub U6 (.i 1)<|.rw U3 U7 14<|.cl U8 0 (.int .i64)<|.cl U8 1 (.int .i64)<|.cl U8 2 (.int .i64)<|.cl U8 3 (.int .i64)<|.cl U8 4 .sl<|.cl U8 5 .sl<|.cl U8 6 .sl<|.cl U8 7 .sl<|.cl U8 8 .sl<|.cl U8 9 .sl<|.cl U8 10 .sl<|.cl U8 11 .sl<|.cl U8 12 (.int .i64)<|.cl U8 13 (.int .i64)<|.cA 171 M1 [bL,bP,bQ,bV,bX,bU,cd,cv,cR,cm] 1<|.cA 5 F5 [.i 0] 1<|.bI .mul cn ct<|.bI .add bH cH<|.bI .mul (.i 2) U1<|.bI .leq ck cK<|.j [cS])))))
def vg:=Fo aCI
def azC:bw:=⟨54,[.agg [pi 0,pi 1,.p .bool U2,ps 3]],[],4,1,.v (.c (.p .bool U4)),[],vg,190⟩
def PF:Ok azC:=oS (.cons aBR (.cons X7 (.cons F_ .nil)))
def avD:bp:=.bI .eql U0 bP<|.j [cS]
def Jg:=Fo avD
def awl:bw:=⟨269,[.agg (cM 0 4++dL 4 8++[pi 12,pi 13]),.c (.ptr 0 0)],[.box (cM 14 4++dL 18 8++[pi 26,pi 27])],28,1,.v (.c (.p .bool cS)),[(0,(.box (cM 14 4++dL 18 8++[pi 26,pi 27])))],Jg,725⟩
def aiS:Ok awl:=oS .nil
def atq:bp:=.join (.ln U0<|.loop [.i 0] (.bI .lss bV bQ<|.ite bX (.rw U0 bV 14<|.cl bU 0 (.int .i64)<|.cl bU 1 (.int .i64)<|.cl bU 2 (.int .i64)<|.cl bU 3 (.int .i64)<|.cl bU 4 .sl<|.cl bU 5 .sl<|.cl bU 6 .sl<|.cl bU 7 .sl<|.cl bU 8 .sl<|.cl bU 9 .sl<|.cl bU 10 .sl<|.cl bU 11 .sl<|.cl bU 12 (.int .i64)<|.cl bU 13 (.int .i64)<|.op (.call 725 Jg (w 19 14++w 1 14) 1 [])<|.ite ig (.bq (.jump 2 [bV])) (.bI .add bV (.i 1)<|.j [iH])) (.bq (.jump 1 [])))) (.j [.i (-1)])
def Oh:=Fo atq
def axk:bw:=⟨202,[cs 0,.c (.fn 269 [0])],[.box (cM 1 4++dL 5 8++[pi 13,pi 14])],15,1,.v (ci 15),[(0,(.box (cM 1 4++dL 5 8++[pi 13,pi 14])))],Oh,726⟩
def ajB:Ok axk:=oS (.cons aiS .nil)
def ayA:bp:=.cA 2072 D1 [U3] 0<|.join (.ln U3<|.loop [.i 0,U3] (.bI .lss U5 U4<|.ite U7 (.rw U6 U5 14<|.op (.rc U6 U5 0 (.int .i64))<|.op (.rc U6 U5 1 (.int .i64))<|.op (.rc U6 U5 2 (.int .i64))<|.op (.rc U6 U5 3 (.int .i64))<|.op (.rc U6 U5 4 .sl)<|.op (.rc U6 U5 5 .sl)<|.op (.rc U6 U5 6 .sl)<|.op (.rc U6 U5 7 .sl)<|.op (.rc U6 U5 8 .sl)<|.op (.rc U6 U5 9 .sl)<|.op (.rc U6 U5 10 .sl)<|.op (.rc U6 U5 11 .sl)<|.op (.rc U6 U5 12 (.int .i64))<|.op (.rc U6 U5 13 (.int .i64))<|.op (.call 697 Es (w 9 14) 10 [])<|.rw U6 U5 14<|.op (.set U6 U5 0 [((.int .i64),U9),((.int .i64),bD),((.int .i64),bF),((.int .i64),bH),(.sl,cn),(.sl,ct),(.sl,cH),(.sl,ck),(.sl,cK),(.sl,cS),(.sl,dZ),(.sl,eJ),((.int .i64),e8),((.int .i64),ee)])<|.bI .add U5 (.i 1)<|.j [ke,iH]) (.bq (.jump 1 [U6])))) (.j [U4])
def KS:=Fo ayA
def arF:bw:=⟨270,[.agg [pi 0,pi 1,.p .bool U2,ps 3]],[],4,1,.v (.agg [pi 0,pi 1,.p .bool U2,.own 0]),[(0,(.row 150 U4))],KS,727⟩
def agk:Ok arF:=oS (.cons aah (.cons aaG .nil))
def Uo:bp:=.op (.call 190 vg (w 0 4) 1 [])<|.no bU<|.ite cd (.j [.i 1,.i 0,.i 0,.b false,.r0]) (.op (.call 726 Oh (w 3 15) 1 [])<|.bI .lss cv (.i 0)<|.ite cR (.j [.i 6,.i 0,.i 0,.b false,.r0]) (.op (.call 727 KS (w 0 4) 1 [])<|.op (.call 697 Es (w 4 14) 10 [])<|.rw cm cv 14<|.op (.set cm cv 0 [((.int .i64),U4),((.int .i64),U5),((.int .i64),U6),((.int .i64),U7),(.sl,cn),(.sl,ct),(.sl,cH),(.sl,ck),(.sl,cK),(.sl,cS),(.sl,dZ),(.sl,eJ),((.int .i64),e8),((.int .i64),ee)])<|.cA 190 vg [U0,U1,U2,iH] 1<|.no ke<|.ite jG (.j [.i 1,.i 0,.i 0,.b false,.r0]) (.j [.i 0,U0,U1,U2,iH])))
def L_:=Fo Uo
def Rm:bw:=⟨205,[.agg [pi 0,pi 1,.p .bool U2,ps 3],.agg (cM 4 4++dL 8 8++[pi 16,pi 17])],[],18,5,.bM [.agg [pi 19,pi 20,.p .bool cR,.own 0],ci 18],[(0,(.row 150 cm))],L_,728⟩
def ZM:Ok Rm:=oS (.cons agk (.cons ajB (.cons PF (.cons aah (.cons QU .nil)))))
def UD:List L->Option (List L):=L_
def agN:bw:=⟨205,[.agg [pi 0,pi 1,.p .bool U2,ps 3],.agg (cM 4 4++dL 8 8++[pi 16,pi 17])],[],18,5,.bM [.agg [pi 19,pi 20,.p .bool cR,ps 22],ci 18],[],L_,2057⟩
def aqr:agN.ok Tryz.prog:=nY (s:=Rm) ZM rfl (x:=(.v 22)) (e:=150) rfl rfl 2057
def ahA:bp:=.op (.call 680 Ca (w 0 22) 1 [])<|.rw U6 cm 14<|.cl cn 0 (.int .i64)<|.cl cn 1 (.int .i64)<|.cl cn 2 (.int .i64)<|.cl cn 3 (.int .i64)<|.cl cn 4 .sl<|.cl cn 5 .sl<|.cl cn 6 .sl<|.cl cn 7 .sl<|.cl cn 8 .sl<|.cl cn 9 .sl<|.cl cn 10 .sl<|.cl cn 11 .sl<|.cl cn 12 (.int .i64)<|.cl cn 13 (.int .i64)<|.op (.call 723 MF (w 24 14) 15 [])<|.bI .neq jn (.i 0)<|.ite vp (.bq (.jump 0 ([jn]++w 0 7))) (.op (.call 2057 UD (w 3 4++w 39 14) 5 [])<|.bI .neq vj (.i 0)<|.ite E7 (.bq (.jump 0 ([vj]++w 0 7))) (.join (.op (.call 671 uw (w 0 22++[.i 6,.b true]) 1 [])<|.op (.call 671 uw (w 0 22++[.i 6,.b false]) 1 [])<|.cA 2062 Hf [U0,U1,U2,AA,FD] 4<|.op (.call 652 qG (w 0 22++[J_,KR,D3,v8]) 3 [])<|.bI .eql v8 (.i 0)<|.ite S4 (.bq (.jump 0 ([v8,DD,ux,ME]++w 55 4))) (.bq (.jump 0 ([v8,DD,ux,ME]++w 3 4)))) (.bq (.jump 0 (w 60 8)))))
def Hs:=Fo ahA
def auS:bw:=⟨130,[.c (.ptr 0 0)],[.box ([pi 0,pi 1,ps 2,pi 3,pi 4,.p .bool U5,ps 6]++cM 7 7++[.p (.int .u32) bP,.p (.int .u32) bQ,.p (.int .u32) bV,.p (.int .u32) bX,.p (.int .u32) bU,.p (.int .u32) cd,ps 20,ps 21])],22,8,.v (ci 22),[(0,(.box ([pi 23,pi 24,ps 25,pi 26,pi 27,.p .bool cS,ps 29]++cM 7 7++[.p (.int .u32) bP,.p (.int .u32) bQ,.p (.int .u32) bV,.p (.int .u32) bX,.p (.int .u32) bU,.p (.int .u32) cd,ps 20,ps 21])))],Hs,729⟩
def aaB:Ok auS:=oS (.cons aqr (.cons ZM (.cons amz (.cons VO (.cons Mg (.cons Oe (.cons VN (.cons GH .nil))))))))
def apx:bp:=.bI .eql U7 (.i 1)<|.ite cm (.op (.call 661 zW (w 3 4) 15 [])<|.no cn<|.ite jn (.cA 667 nQ [] 0<|.op (.lit [[((.int .i64),(.i 0)),((.int .i64),(.i 6))]])<|.bq (.jump 0 ([jO]++w 0 7++[.i 0,.i 0,.i 0,.i 0,.i 0,.i 0,.i 0,.i 0,.i 0,.i 0,.i 0,.i 0,.i 0,.r0,.r0]))) (.join (.op (.call 724 Gc (w 0 22++w 24 14) 13 [])<|.bI .neq jO (.i 0)<|.ite my (.op (.dM (.i 0) 0)<|.bq (.jump 0 (w 40 12))) (.bq (.jump 0 (w 40 12)))) (.bq (.jump 0 ([.r0]++w 0 7++[.i 2,ct,.i 0]++w 39 12))))) (.join (.join (.op (.call 680 Ca (w 0 22) 1 [])<|.bI .lss cn (.i 0)<|.ite ct (.j [.b true]) (.op (.call 657 vv (w 0 22) 1 [])<|.no cH<|.j [ck])) (.ite cn (.op (.dM (.i 0) 0)<|.j []) (.j []))) (.join (.bI .eql U7 (.i 7)<|.ite cn (.join (.op (.call 729 Hs (w 0 22) 8 [])<|.bI .neq ct (.i 0)<|.ite ee (.op (.dM (.i 0) 0)<|.bq (.jump 0 (w 25 7))) (.bq (.jump 0 (w 25 7)))) (.bq (.jump 0 (w 24 7++[.i 8,U9])))) (.bI .eql U7 (.i 8)<|.ite ct (.join (.cA 337 tu [.i 1,U3,U8] 1<|.cA 2058 Cl [U0,U1,U2,cH] 4<|.op (.call 652 qG (w 0 22++[cK,cS,dZ,ck]) 3 [])<|.bI .neq ck (.i 0)<|.ite ig (.op (.dM (.i 0) 0)<|.j [eJ,e8,ee]) (.j [eJ,e8,ee])) (.cA 667 nQ [] 0<|.op (.lit [[((.int .i64),U8),((.int .i64),(.i 0))]])<|.bq (.jump 1 ([cS,cH,ck,cK]++w 3 4++[.i 0,.i 0,.i 0,.i 0,.i 0,.i 0,.i 0,.i 0,.i 0,.i 0,.i 0,.i 0,.i 0,.r0,.r0])))) (.join (.op (.call 719 rW (w 0 22) 4 [])<|.bI .neq cH (.i 0)<|.ite dZ (.op (.dM (.i 0) 0)<|.j [ck,cK,cS]) (.j [ck,cK,cS])) (.op (.call 649 o4 ([cH,ck,cK]++w 3 19) 2 [])<|.bq (.jump 0 ([cH,ck,cK]++w 3 4++[cS,dZ])))))) (.bq (.jump 0 ([.r0]++w 23 8++[U8,e8]++w 10 12)))))
def pA:=Fo apx
def anm:bw:=⟨58,[.c (.ptr 0 0)],[.box ([pi 0,pi 1,ps 2,pi 3,pi 4,.p .bool U5,ps 6]++cM 7 7++[.p (.int .u32) bP,.p (.int .u32) bQ,.p (.int .u32) bV,.p (.int .u32) bX,.p (.int .u32) bU,.p (.int .u32) cd,ps 20,ps 21])],22,23,.v (.c (.own 1)),[(1,(.row 77 cm)),(0,(.box ([pi 23,pi 24,ps 25,pi 26,pi 27,.p .bool cS,ps 29]++cM 30 7++[.p (.int .u32) km,.p (.int .u32) jn,.p (.int .u32) jO,.p (.int .u32) kE,.p (.int .u32) mw,.p (.int .u32) oB,ps 43,ps 44])))],pA,730⟩
def Q5:Ok anm:=oS (.cons aaB (.cons Rz (.cons Vs (.cons Ms (.cons Di (.cons Oe (.cons EH (.cons XQ (.cons Jh (.cons W5 (.cons GH (.cons T' .nil))))))))))))
def aCA:bp:=.join (.op (.call 190 vg (w 3 4) 1 [])<|.no cm<|.ite cn (.j [.i 1]) (.op (.call 664 wy (w 7 15) 1 [])<|.no ct<|.ite cH (.j [.i 12]) (.bI .eql U1 (.i 0)<|.ite ck (.j [.i 13]) (.j [.i 0])))) (.bI .neq cm (.i 0)<|.ite cn (.j [cm,.i 0,.i 0,.r0,.i 0,.i 0,.b false,.r0,.i 0,.i 0,.i 0,.i 0,.i 0,.i 0,.i 0,.i 0,.i 0,.i 0,.i 0,.i 0,.i 0,.r0,.r0,.r0]) (.cA 2054 N3 [U0,U1,U2] 1<|.op (.call 2053 LM (w 3 4) 1 [])<|.op (.call 665 AY (w 7 15) 1 [])<|.op (.call 730 pA ([U0,U1,ct,U3,U4,U5,cH]++w 7 14++[ck]) 23 [])<|.bq (.jump 0 ([.i 0]++w 28 22++[cK]))))
def MK:=Fo aCA
def axM:bw:=⟨14,[.agg [pi 0,pi 1,ps 2],.agg [pi 3,pi 4,.p .bool U5,ps 6],.agg (cM 7 7++[.p (.int .u32) bP,.p (.int .u32) bQ,.p (.int .u32) bV,.p (.int .u32) bX,.p (.int .u32) bU,.p (.int .u32) cd,ps 20,ps 21])],[],22,24,.bM [.agg [pi 23,pi 24,ps 25],.agg [pi 26,pi 27,.p .bool cS,ps 29],.agg (cM 30 7++[.p (.int .u32) km,.p (.int .u32) jn,.p (.int .u32) jO,.p (.int .u32) kE,.p (.int .u32) mw,.p (.int .u32) oB,ps 43,ps 44]),.c (.own 0),ci 22],[(0,(.row 77 ky))],MK,731⟩
def ZN:Ok axM:=oS (.cons Q5 (.cons PF (.cons Mt (.cons Mz (.cons Vl (.cons OT (.cons aat (.cons IY .nil))))))))
def agW:bp:=.bI .eql U7 (.i 1)<|.ite cm (.op (.call 661 zW (w 3 4) 15 [])<|.no cn<|.ite jn (.cA 667 nQ [] 0<|.op (.lit [[((.int .i64),(.i 0)),((.int .i64),(.i 6))]])<|.bq (.jump 0 ([jO]++w 0 7++[.i 0,.i 0,.i 0,.i 0,.i 0,.i 0,.i 0,.i 0,.i 0,.i 0,.i 0,.i 0,.i 0,.r0,.r0]))) (.join (.op (.call 724 Gc (w 0 22++w 24 14) 13 [])<|.bI .neq jO (.i 0)<|.ite my (.op (.dM (.i 0) 0)<|.bq (.jump 0 (w 40 12))) (.bq (.jump 0 (w 40 12)))) (.bq (.jump 0 ([.r0]++w 0 7++[.i 2,ct,.i 0]++w 39 12))))) (.join (.join (.op (.call 680 Ca (w 0 22) 1 [])<|.bI .lss cn (.i 0)<|.ite ct (.j [.b true]) (.op (.call 657 vv (w 0 22) 1 [])<|.no cH<|.j [ck])) (.ite cn (.op (.dM (.i 0) 0)<|.j []) (.j []))) (.join (.bI .eql U7 (.i 7)<|.ite cn (.join (.op (.call 729 Hs (w 0 22) 8 [])<|.bI .neq ct (.i 0)<|.ite ee (.op (.dM (.i 0) 0)<|.bq (.jump 0 (w 25 7))) (.bq (.jump 0 (w 25 7)))) (.bq (.jump 0 (w 24 7++[.i 8,U9])))) (.bI .eql U7 (.i 8)<|.ite ct (.join (.cA 337 tu [.i 1,U3,U8] 1<|.cA 2058 Cl [U0,U1,U2,cH] 4<|.op (.call 652 qG (w 0 22++[cK,cS,dZ,ck]) 3 [])<|.bI .neq ck (.i 0)<|.ite ig (.op (.dM (.i 0) 0)<|.j [eJ,e8,ee]) (.j [eJ,e8,ee])) (.cA 667 nQ [] 0<|.op (.lit [[((.int .i64),U8),((.int .i64),(.i 0))]])<|.bq (.jump 1 ([cS,cH,ck,cK]++w 3 4++[.i 0,.i 0,.i 0,.i 0,.i 0,.i 0,.i 0,.i 0,.i 0,.i 0,.i 0,.i 0,.i 0,.r0,.r0])))) (.join (.op (.call 719 rW (w 0 22) 4 [])<|.bI .neq cH (.i 0)<|.ite dZ (.op (.dM (.i 0) 0)<|.j [ck,cK,cS]) (.j [ck,cK,cS])) (.op (.call 649 o4 ([cH,ck,cK]++w 3 19) 2 [])<|.bq (.jump 0 ([cH,ck,cK]++w 3 4++[cS,dZ])))))) (.bq (.jump 0 ([.r0]++w 23 8++[U8,e8]++w 10 12)))))
def Dd:=Fo agW
def atU:bw:=⟨58,[.c (.ptr 0 0)],[.box ([pi 0,pi 1,ps 2,pi 3,pi 4,.p .bool U5,ps 6]++cM 7 7++[.p (.int .u32) bP,.p (.int .u32) bQ,.p (.int .u32) bV,.p (.int .u32) bX,.p (.int .u32) bU,.p (.int .u32) cd,.own 1,.own 2]),.row 164 cv,.row 95 cR],22,23,.v (.c (.own 3)),[(3,(.row 77 cm)),(0,(.box ([pi 23,pi 24,ps 25,pi 26,pi 27,.p .bool cS,ps 29]++cM 30 7++[.p (.int .u32) km,.p (.int .u32) jn,.p (.int .u32) jO,.p (.int .u32) kE,.p (.int .u32) mw,.p (.int .u32) oB,ps 43,ps 44])))],Dd,732⟩
def afh:Ok atU:=oS (.cons aaB (.cons Rz (.cons Vs (.cons Ms (.cons Di (.cons Oe (.cons EH (.cons XQ (.cons Jh (.cons W5 (.cons GH (.cons T' .nil))))))))))))
def auN:bp:=.join (.op (.call 190 vg (w 3 4) 1 [])<|.no cm<|.ite cn (.j [.i 1]) (.op (.call 664 wy (w 7 15) 1 [])<|.no ct<|.ite cH (.j [.i 12]) (.bI .eql U1 (.i 0)<|.ite ck (.j [.i 13]) (.j [.i 0])))) (.bI .neq cm (.i 0)<|.ite cn (.j [cm,.i 0,.i 0,.r0,.i 0,.i 0,.b false,.r0,.i 0,.i 0,.i 0,.i 0,.i 0,.i 0,.i 0,.i 0,.i 0,.i 0,.i 0,.i 0,.i 0,.r0,.r0,.r0]) (.cA 2054 N3 [U0,U1,U2] 1<|.op (.call 2053 LM (w 3 4) 1 [])<|.op (.call 665 AY (w 7 15) 1 [])<|.op (.call 732 Dd ([U0,U1,ct,U3,U4,U5,cH]++w 7 14++[ck]) 23 [])<|.bq (.jump 0 ([.i 0]++w 28 22++[cK]))))
def IX:=Fo auN
def afH:bw:=⟨14,[.agg [pi 0,pi 1,ps 2],.agg [pi 3,pi 4,.p .bool U5,ps 6],.agg (cM 7 7++[.p (.int .u32) bP,.p (.int .u32) bQ,.p (.int .u32) bV,.p (.int .u32) bX,.p (.int .u32) bU,.p (.int .u32) cd,.own 0,.own 1])],[.row 164 cv,.row 95 cR],22,24,.bM [.agg [pi 23,pi 24,ps 25],.agg [pi 26,pi 27,.p .bool cS,ps 29],.agg (cM 30 7++[.p (.int .u32) km,.p (.int .u32) jn,.p (.int .u32) jO,.p (.int .u32) kE,.p (.int .u32) mw,.p (.int .u32) oB,ps 43,ps 44]),.c (.own 2),ci 22],[(2,(.row 77 ky))],IX,733⟩
def W8:Ok afH:=oS (.cons afh (.cons Q5 (.cons PF (.cons Mt (.cons Mz (.cons Vl (.cons OT (.cons aat (.cons IY .nil)))))))))
def adn:bp:=.cA 667 nQ [] 0<|.cA 666 G0 [.i 0,.i 0,.i 0,.i 0,.i 0,.i 0,.i 0,.i 0,.i 0,.i 0,.i 0,.i 0,.i 0,.r0,.r0] 2<|.join (.loop ([.i 0]++w 0 7++[bD,.i 0,.i 0,.i 0,.i 0,.i 0,.i 0,.i 0,.i 0,.i 0,.i 0,.i 0,.i 0,.r0,bF,U7]) (.bI .lss bH (.i 60)<|.ite jG (.join (.bI .eql bH U9<|.ite km (.op (.call 611 Cw (w 13 7++[ke,U8]) 8 [])<|.bq (.jump 0 (w 39 7++[jn]))) (.bq (.jump 0 (w 13 7++[ke])))) (.cA 2051 Ox [km,jn,jO] 1<|.op (.call 2052 MX (w 40 4) 1 [])<|.op (.call 731 MK ([km,jn,ky,kE,mw,oB,vW]++w 20 15) 24 [])<|.bI .neq uL (.i 0)<|.ite QT (.bq (.jump 2 ([.b false]++w 37 7++[.i 0,.i 0,ql]))) (.cA 2055 uK [iR,nO,vu] 1<|.op (.call 2056 WG (w 51 4) 1 [])<|.ln Au<|.bI .gtr U74 (.i 0)<|.ite U75 (.rw Au (.i 0) 2<|.op (.rc Au (.i 0) 0 (.int .i64))<|.op (.rc Au (.i 0) 1 (.int .i64))<|.bq (.jump 2 [.b true,iR,nO,MQ,qh,my,vp,MR,U77,U78,ql])) (.bI .add bH (.i 1)<|.bq (.jump 0 ([U76,iR,nO,MQ,qh,my,vp,MR]++w 55 15++[ql])))))) (.bq (.jump 1 (w 13 7++[ke]))))) (.bq (.jump 0 ([.b false]++w 12 7++[.i 0,.i 0,cd])))
def B7:=Fo adn
def awz:bw:=⟨31,[.agg [pi 0,pi 1,ps 2,pi 3,pi 4,.p .bool U5,ps 6,.mp 0],.c (.p (.int .u64) U8),ci 9],[.map U7],10,11,.bM [.agg [pi 11,pi 12,ps 13,pi 14,pi 15,.p .bool bV,ps 17,.mp 0],.agg [pi 18,pi 19],.c (.p .bool bD)],[(0,(.map cv))],B7,734⟩
def awZ:Ok awz:=oS (.cons W8 (.cons ZN (.cons YZ (.cons OQ (.cons SR (.cons EH (.cons Ul (.cons XA (.cons KE (.cons arX (.cons aaw (.cons ahk (.cons aaR .nil)))))))))))))
def awm:bp:=.cA 149 HF [.i 1,.i 9000] 6<|.cA 2051 Ox [U0,U1,U5] 1<|.cA 2052 MX [U2,U3,.b false,U4] 1<|.cA 667 nQ [] 0<|.cA 666 G0 [.i 0,.i 0,.i 0,.i 0,.i 0,.i 0,.i 0,.i 0,.i 0,.i 0,.i 0,.i 0,.i 0,.r0,.r0] 2<|.cA 733 IX [U0,U1,U6,U2,U3,.b false,U7,U8,.i 0,.i 0,.i 0,.i 0,.i 0,.i 0,.i 0,.i 0,.i 0,.i 0,.i 0,.i 0,.r0,U9] 24<|.join (.bI .eql bD (.i 0)<|.ite iH (.ln ig<|.bI .eql ke (.i 1)<|.ite jG (.rw ig (.i 0) 2<|.op (.rc ig (.i 0) 1 (.int .i64))<|.bI .eql jn (.i 6)<|.ite jO (.cA 670 tV [.i 1,.i 2,.i 6,.b true] 1<|.op (.bs .eql kE (.s ⟨#[118,46,49,46,50,46,105,100,120,46,116,109,112]⟩))<|.ite mw (.cA 667 nQ [] 0<|.cA 664 wy [.i 0,.i 0,.i 0,.i 0,.i 0,.i 0,.i 0,.i 0,.i 0,.i 0,.i 0,.i 0,.i 0,.r0,.r0] 1<|.no oB<|.j [uy]) (.j [.b false])) (.j [.b false])) (.j [.b false])) (.j [.b false])) (.j [iH])
def G6:=Fo awm
def adm:bw:=⟨10,[],[],0,1,.v (.c (.p .bool U0)),[],G6,735⟩
def agX:Ok adm:=oS (.cons W8 (.cons ZN (.cons YZ (.cons OQ (.cons Yf (.cons OU (.cons EH (.cons Ul (.cons XA (.cons KE (.cons Mz .nil)))))))))))
def afR:bp:=.join (.op (.vw U0 U1 U2)<|.ln U3<|.loop [.i 0] (.bI .lss U5 U4<|.ite U6 (.op (.ir U0 U1 U2 U5 1)<|.op (.rc U0 U7 0 .sl)<|.ln U8<|.op (.ir U0 U1 U2 (.i 0) 1)<|.op (.rc U0 bD 0 .sl)<|.ln bF<|.bI .neq U9 bH<|.ite bL (.bq (.jump 2 [.b false])) (.bI .add U5 (.i 1)<|.j [bP])) (.bq (.jump 1 [])))) (.op (.vw U0 U1 U2)<|.ln U3<|.bI .eql U4 (.i 6)<|.j [U5])
def N7:=Fo afR
def aBK:bw:=⟨81,[.c (.sub 0 U1 U2)],[.row 95 U0],3,1,.v (.c (.p .bool U3)),[(0,(.row 95 U0))],N7,798⟩
def ady:Ok aBK:=oS .nil
def amV:bp:=.join (.cA 307 nE [U0,U1,U2] 1<|.no U6<|.ite U7 (.j [.b true]) (.op (.vw U3 U4 U5)<|.ln U8<|.bI .neq U9 U1<|.j [bD])) (.ite U6 (.j [.i 1,.r0]) (.join (.op (.vw U3 U4 U5)<|.ln U7<|.loop [.i 0] (.bI .lss U9 U8<|.ite bD (.op (.ir U3 U4 U5 U9 1)<|.op (.rc U3 bF 0 .sl)<|.ln bH<|.op (.ir U3 U4 U5 (.i 0) 1)<|.op (.rc U3 bP 0 .sl)<|.ln bQ<|.bI .neq bL bV<|.ite bX (.bq (.jump 2 [.i 1,.r0])) (.bI .add U9 (.i 1)<|.j [bU])) (.bq (.jump 1 [])))) (.op (.jY U0 [(.sl,.r0)] 24)<|.join (.ln U7<|.loop [.i 0,U7] (.bI .lss U9 U8<|.ite bF (.join (.op (.ir U3 U4 U5 (.i 0) 1)<|.op (.rc U3 bH 0 .sl)<|.ln bL<|.op (.jY bP [((.int .u8),(.i 0))] 1)<|.rw bD U9 1<|.op (.set bD U9 0 [(.sl,bQ)])<|.op (.vw U3 U4 U5)<|.ln bU<|.loop [.i 0,bX] (.bI .lss cv cd<|.ite cm (.op (.ir U3 U4 U5 cv 1)<|.op (.rc U3 cn 0 .sl)<|.rw cR U9 1<|.op (.rc cR U9 0 .sl)<|.cA 304 nF [U0,U1,U2,U9,cv] 1<|.cA 301 Fq [ck,ct,cK] 2<|.rw cR U9 1<|.op (.set cR U9 0 [(.sl,dZ)])<|.bI .add cv (.i 1)<|.j [ee,e8]) (.bq (.jump 1 [cR])))) (.bI .add U9 (.i 1)<|.j [bL,bH])) (.bq (.jump 1 [bD])))) (.j [.i 0,U8]))))
def MJ:=Fo amV
def aeK:bw:=⟨165,[.agg [pi 0,pi 1,.own 0],.c (.sub 1 U4 U5)],[.row 5 U2,.row 95 U3],6,2,.bM [.c (.own 2),ci 6],[(2,(.row 95 U7)),(1,(.row 95 U3)),(0,(.row 5 U2))],MJ,799⟩
def acY:Ok aeK:=oS (.cons Ch (.cons TE (.cons Fg .nil)))
def aff:bp:=.op (.vw U0 U1 U2)<|.ln U3<|.bI .neq U4 (.i 4)<|.ite U5 (.j [.i 1,.r0]) (.cA 385 CC [] 3<|.op (.lit [[((.int .i64),(.i 4))],[((.int .i64),(.i 5))]])<|.op (.call 347 uz (w 6 4) 4 [3])<|.cA 799 MJ [bF,bH,bL,U0,U1,U2] 2<|.j [bP,bQ])
def J9:=Fo aff
def awg:bw:=⟨82,[.c (.sub 0 U1 U2)],[.row 95 U0],3,2,.bM [.c (.own 1),ci 3],[(1,(.row 95 U4)),(0,(.row 95 U0))],J9,800⟩
def afF:Ok awg:=oS (.cons acY (.cons ZW (.cons Ry (.cons J6 .nil))))
def akr:bp:=.cA 798 N7 [U0,U1,U2] 1<|.no U3<|.ite U4 (.j [.b false]) (.op (.AU U0 U1 U2 (.i 0) (.i 4) 1)<|.cA 800 J9 [U0,U5,U6] 2<|.join (.ln U8<|.loop [.i 0] (.bI .lss bD U9<|.ite bF (.rw U8 bD 1<|.op (.rc U8 bD 0 .sl)<|.bI .add (.i 4) bD<|.op (.ir U0 U1 U2 bP 1)<|.op (.rc U0 bQ 0 .sl)<|.cA 780 Nj [bL,bV] 1<|.no bX<|.ite bU (.bq (.jump 2 [.b false])) (.bI .add bD (.i 1)<|.j [cd])) (.bq (.jump 1 [])))) (.j [.b true]))
def MM:=Fo akr
def alm:bw:=⟨39,[.c (.sub 0 U1 U2)],[.row 95 U0],3,1,.v (.c (.p .bool U3)),[(0,(.row 95 U0))],MM,801⟩
def azZ:Ok alm:=oS (.cons afF (.cons WB (.cons ady (.cons akQ .nil))))
def aAm:bp:=.cA 714 NK [U0,U1] 8<|.op (.call 734 B7 (w 2 8++[.i 0,.i (-1)]) 11 [])<|.join (.no bD<|.ite cR (.j [.b true]) (.bI .neq cd (.i 0)<|.j [cm])) (.ite cR (.join (.ite bD (.bI .eql cd (.i 6)<|.ite cm (.cA 735 G6 [] 1<|.j [cn]) (.j [.b false])) (.j [.b false])) (.j [cm])) (.cA 56 pI [.i 1,.i 1,bU] 1<|.cA 143 uX [U2,U3,U4,cm] 2<|.cA 56 pI [.i 1,.i 1,bU] 1<|.cA 128 qZ [bF,bH,bL,cH] 2<|.join (.loop [.i 0,.r0] (.bI .lss cS (.i 7)<|.ite eJ (.cA 670 tV [.i 1,bU,cS,.b false] 1<|.cA 143 uX [bF,bH,bL,e8] 2<|.cA 670 tV [.i 1,bU,cS,.b true] 1<|.cA 128 qZ [bF,bH,bL,iH] 2<|.join (.bI .neq ig (.i 0)<|.ite km (.j [.b true]) (.bI .neq jG (.i 6)<|.j [jn])) (.ite km (.bq (.jump 2 [.b false])) (.op (.lit [[(.sl,ee)]])<|.op (.app dZ jn 1 24)<|.bI .add cS (.i 1)<|.j [kE,jO]))) (.bq (.jump 1 [dZ])))) (.rw cS (.i 6) 1<|.op (.rc cS (.i 6) 0 .sl)<|.cA 405 Mq [eJ] 12<|.ln cS<|.op (.cut cS (.i 0) (.i 6) 1)<|.ln cn<|.cA 2079 vK [cS,.i 0,ql,ky] 1<|.join (.bI .neq ct (.i 0)<|.ite uL (.j [.b true]) (.bI .neq e8 (.i 0)<|.ite iR (.j [.b true]) (.bI .neq cK (.i 6)<|.ite nO (.j [.b true]) (.op (.str vW)<|.op (.str cn)<|.op (.bs .neq vu qh)<|.ite my (.j [.b true]) (.ln cS<|.op (.cut cS (.i 0) (.i 6) 1)<|.cA 801 MM [cS,.i 0,vj] 1<|.no I0<|.ite Dl (.j [.b true]) (.ln cn<|.bI .neq ke WW<|.j [Ek])))))) (.ite uL (.j [.b false]) (.join (.loop [.i 0] (.bI .lss iR (.i 6)<|.ite nO (.rw cS iR 1<|.op (.rc cS iR 0 .sl)<|.op (.call 796 Lx (w 32 11++[iR,qh]) 1 [])<|.no my<|.ite vp (.bq (.jump 2 [.b false])) (.bI .add iR (.i 1)<|.j [vj])) (.bq (.jump 1 [])))) (.cA 735 G6 [] 1<|.j [iR]))))))
def BS:=Fo aAm
def GU:bw:=⟨6,[cs 0,cs 1],[],2,1,.v (.c (.p .bool U2)),[],BS,802⟩
def anL:Ok GU:=oS (.cons azZ (.cons agX (.cons awZ (.cons auk (.cons aDv (.cons aiX (.cons R5 (.cons VT (.cons OU (.cons zc (.cons alH .nil)))))))))))
end
section
open Go.RowKit
namespace AI
def yZ(k:fE){n}(b:k.min<=n)(c:n<=k.max):k.wrap n=n:=by
 cases k<;>simp[IntKind.min,IntKind.max,IntKind.bits,IntKind.signed]at b c<;>simp[IntKind.wrap,IntKind.bits,IntKind.signed]<;> (try split)<;>omega
def apO(op:BinOp)(a b:Int):Bool:=match op with
 |.eql=>decide (a=b)
 |.neq=>decide (a≠b)
 |.lss=>decide (a<b)
 |.leq=>decide (a<=b)
 |.gtr=>decide (b<a)
 |.geq=>decide (b<=a)
 |_=>false
inductive BD where
 |cmp (op:BinOp) (x y:Li) (p:Bool)
 |o8 (b:Bool)
deriving Inhabited
def BD.val(τ:List L):BD->Bool
 |.cmp op x y p=>apO op (fI τ x) (fI τ y)==p
 |.o8 b=>b
def BD.in(n:Nat):BD->Bool
 |.cmp _ x y _=>jh n x.1&&jh n y.1
 |.o8 _=>true
def BD.neg:BD->BD
 |.cmp op x y p=>.cmp op x y (!p)
 |.o8 b=>.o8 (!b)
def sb{τ ys x}(h:jh τ.length x.1=true):fI (τ++ys) x=fI τ x:=by simp only[fI,EY h]
def BD.J5{τ ys}{b:BD}(h:b.in τ.length=true):b.val (τ++ys)=b.val τ:=by
 cases b with
 |cmp op x y p=>
  simp only[BD.in,cF]at h;simp only[BD.val,sb h.1,sb h.2]
 |o8=>rfl
def tX{n m t}(h:jh n t=true)(b:n<=m):jh m t=true:=by simp only[jh,e_]at h⊢;omega
def BD.Pk{n m}{b:BD}(h:b.in n=true)(d:n<=m):b.in m=true:=by
 cases b with
 |cmp op x y p=>
  simp only[BD.in,cF]at h⊢;exact⟨tX h.1 d,tX h.2 d⟩
 |o8=>rfl
abbrev RS:=Option (List AC)
def yp(x:RS)(rows:List (List PV)):Prop:=match x with
 |none=>rows=[]
 |some cs=>AC.rows cs rows
def lk{α:Type}:List (Nat×α)->Nat->Option α
 |[],_=>none
 |(k,x)::r,g=>cond (Nat.beq k g) (some x) (lk r g)
def te{α:Type}:∀{l:List (Nat×α)}{g:Nat}{x:α},lk l g=some x->(g,x)∈l
 |[],_,_,h=>by cases h
 |(k,y)::r,g,x,h=>by
  simp only[lk]at h
  cases b:Nat.beq k g with
  |true=>
   rw[b]at h;have:=Ac b;subst this;cases h;exact jg
  |false=>rw[b]at h;exact je _ (te h)
structure AS where
 env:List Nat
 n:Nat
 fs:List Fa
 rw:List (Nat×RS)
 cl:List (Nat×List AC)
 bd:List (Nat×BD)
 al:List (Nat×Li)
 ll:List (Nat×Li)
 sm:List ((List Nat×Nat)×Nat)
 pr:List (Nat×List Nat)
deriving Inhabited
def SK:Nat->List L->Prop
 |0,[l]=>∃n,∀r∈l.bE,∃q,r=[.sl q]/\q.length=n
 |_,_=>True
def at'(τ:List L)(g:Nat):L:=(τ[g]?).getD (.b false)
def CA(τ:List L)(k:List Nat×Nat):Option L:=(k.1[(at' τ k.2).br.toNat]?).map (at' τ)
def vi(n:Nat)(k:List Nat×Nat):Bool:=k.1.all (λg=>decide (g<n))&&decide (k.2<n)
structure Ga(S:AS)(τ ρ:List L):Prop where
 n:τ.length=S.n
 env:ρ=S.env.map (at' τ)
 lt:∀g∈S.env,g<S.n
 fs:∀f∈S.fs,f.ok τ
 rw:∀x∈S.rw,x.1<S.n/\yp x.2 (at' τ x.1).bE
 cl:∀x∈S.cl,x.1<S.n/\AC.lP x.2 (at' τ x.1).jS
 bd:∀x∈S.bd,x.1<S.n/\x.2.in S.n=true/\(at' τ x.1).eF=x.2.val τ
 al:∀x∈S.al,x.1<S.n/\jh S.n x.2.1=true/\(at' τ x.1).br=fI τ x.2
 ll:∀x∈S.ll,x.1<S.n/\jh S.n x.2.1=true/\((at' τ x.1).bE.length:Int)=fI τ x.2
 sm:∀x∈S.sm,x.2<S.n/\vi S.n x.1=true/\CA τ x.1=some (at' τ x.2)
 pr:∀x∈S.pr,(∀g∈x.2,g<S.n)/\SK x.1 (x.2.map (at' τ))
def xC{τ ys g}(h:g<τ.length):at' (τ++ys) g=at' τ g:=by
 unfold at';rw[nz h]
def KG{n m k}(h:vi n k=true)(b:n<=m):vi m k=true:=by
 simp only[vi,cF,cI,e_]at h⊢;exact⟨λg c=>nt (h.1 g c) b,nt h.2 b⟩
def Jw{τ ys k}(h:vi τ.length k=true):CA (τ++ys) k=CA τ k:=by
 simp only[vi,cF,cI,e_]at h;unfold CA;rw[xC h.2]
 cases b:k.1[(at' τ k.2).br.toNat]? with
 |none=>rfl
 |some g=>simp only[cg];rw[xC (h.1 g (eN b))]
def asK(τ)(l):at' (τ++[l]) τ.length=l:=by simp[at']
structure qk where
 fs:List Fa:=[]
 rw:Option RS:=none
 cl:Option (List AC):=none
 bd:Option BD:=none
 al:Option Li:=none
 ll:Option Li:=none
 sm:Option (List Nat×Nat):=none
structure qk.ok(N:qk)(τ:List L)(l:L):Prop where
 fs:∀f∈N.fs,f.holds (τ++[l])
 rw:∀x,N.rw=some x->yp x l.bE
 cl:∀x,N.cl=some x->AC.lP x l.jS
 bd:∀x,N.bd=some x->l.eF=x.val τ
 al:∀x,N.al=some x->l.br=fI τ x
 ll:∀x,N.ll=some x->(l.bE.length:Int)=fI τ x
 sm:∀x,N.sm=some x->CA τ x=some l
def xe{α:Type}(g:Nat):Option α->List (Nat×α)->List (Nat×α)
 |some x,l=>(g,x)::l
 |none,l=>l
def aay(n:Nat):Option Li->Bool
 |some x=>jh n x.1
 |none=>true
def qk.in(n:Nat)(N:qk):Bool:=N.fs.all (Fa.in (n+1))&& (match N.bd with|some b=>b.in n|none=>true)&&aay n N.al&&aay n N.ll&& (match N.sm with|some k=>vi n k|none=>true)
def ZQ(g:Nat):Option (List Nat×Nat)->List ((List Nat×Nat)×Nat)->List ((List Nat×Nat)×Nat)
 |some k,l=>(k,g)::l
 |none,l=>l
def axe{g o l x}(h:x∈ZQ g o l):(o=some x.1/\x.2=g)\/x∈l:=by
 cases o with
 |none=>exact .inr h
 |some y=>
  rcases fh.1 h with rfl|h
  .simp_all
  .exact .inr h
def AS.push(S:AS)(N:qk):Option AS:=
 if N.in S.n=true then
  some ⟨S.env++[S.n],S.n+1,N.fs++S.fs,xe S.n N.rw S.rw,xe S.n N.cl S.cl,xe S.n N.bd S.bd,xe S.n N.al S.al,xe S.n N.ll S.ll,ZQ S.n N.sm S.sm,S.pr⟩
 else none
def Bh{α g o l}{x:Nat×α}(h:x∈xe g o l):(∃y,o=some y/\x=(g,y))\/x∈l:=by
 cases o with
 |none=>exact .inr h
 |some y=>
  rcases fh.1 h with h|h
  .simp_all
  .exact .inr h
def Ga.push{S K τ ρ N l}(h:Ga S τ ρ)(hp:S.push N=some K)(G:N.ok τ l):Ga K (τ++[l]) (ρ++[l]):=by
 unfold AS.push at hp;split at hp
 .rename_i I;simp only[qk.in,cF,cI]at I;injection hp with hp
  subst hp;have F:=h.n;have u:∀g,g<S.n->at' (τ++[l]) g=at' τ g:=λg E=>xC om
  have q:at' (τ++[l]) S.n=l:=by rw[<-F];exact asK τ l
  exact{
   n:=by simp[F]
   env:=by
    rw[h.env,dU,List.map_singleton,q];congr 1;exact ia λg E=>(u g (h.lt g E)).symm
   lt:=λg E=>by
    rcases iP.1 E with E|E
    .have:=h.lt g E;show g<S.n+1;omega
    simp_all
   fs:=λf J=>by
    rcases iP.1 J with J|J
    .exact⟨by simp_all,G.fs f J⟩
    .exact(h.fs f J).append
   rw :=λx d=>by
    rcases Bh d with⟨y,B,rfl⟩|d
    .exact⟨p0 _,by simp only[q];exact G.rw y B⟩
    .obtain⟨t,z⟩:=h.rw x d;exact⟨zM t,by rw[u _ t];exact z⟩
   cl :=λx d=>by
    rcases Bh d with⟨y,B,rfl⟩|d
    .exact⟨p0 _,by simp only[q];exact G.cl y B⟩
    .obtain⟨t,z⟩:=h.cl x d;exact⟨zM t,by rw[u _ t];exact z⟩
   bd :=λx d=>by
    rcases Bh d with⟨y,B,rfl⟩|d
    .have D:=I.1.1.1.2;rw[B]at D;exact⟨p0 _,BD.Pk D (w7 _),by simp only[q];rw[BD.J5 (by rw[F];exact D)];exact G.bd y B⟩
    .obtain⟨t,z,H⟩:=h.bd x d;exact⟨zM t,BD.Pk z (w7 _),by rw[u _ t,BD.J5 (by rw[F];exact z)];exact H⟩
   al :=λx d=>by
    rcases Bh d with⟨y,B,rfl⟩|d
    .have D:=I.1.1.2;rw[B]at D;exact⟨p0 _,tX D (w7 _),by simp only[q];rw[sb (by rw[F];exact D)];exact G.al y B⟩
    .obtain⟨t,z,H⟩:=h.al x d;exact⟨zM t,tX z (w7 _),by rw[u _ t,sb (by rw[F];exact z)];exact H⟩
   ll :=λx d=>by
    rcases Bh d with⟨y,B,rfl⟩|d
    .have D:=I.1.2;rw[B]at D;exact⟨p0 _,tX D (w7 _),by simp only[q];rw[sb (by rw[F];exact D)];exact G.ll y B⟩
    .obtain⟨t,z,H⟩:=h.ll x d;exact⟨zM t,tX z (w7 _),by rw[u _ t,sb (by rw[F];exact z)];exact H⟩
   sm :=λx d=>by
    rcases axe d with⟨B,E⟩|d
    .have D:=I.2;rw[B]at D;exact⟨by simp_all,KG D (w7 _),by rw[E,q,Jw (by rw[F];exact D)];exact G.sm _ B⟩
    .obtain⟨t,z,H⟩:=h.sm x d;exact⟨zM t,KG z (w7 _),by rw[u _ t,Jw (by rw[F];exact z)];exact H⟩
   pr:=λx d=>by
    obtain⟨t,z⟩:=h.pr x d;exact⟨λg E=>zM (t g E),by rw[ia (g:=at' τ) λg E=>u g (t g E)];exact z⟩}
 simp_all
def AS.li(S:AS):At->Li
 |.v i=>match S.env[i]? with
  |some g=>(match lk S.al g with
   |some x=>x
   |none=>(3*g+1,0))
  |none=>(0,0)
 |.i c=>(0,c)
 |_=>(0,0)
def AS.le(S:AS):At->Li
 |.v i=>match S.env[i]? with
  |some g=>(match lk S.ll g with
   |some x=>x
   |none=>(3*g+2,0))
  |none=>(0,0)
 |_=>(0,0)
def AS.ls(S:AS):At->Option Li
 |.v i=>match S.env[i]? with
  |some g=>some (3*g+3,0)
  |none=>some (0,0)
 |.s x=>some (0,x.size)
 |_=>some (0,0)
def aAn(τ)(g):fH τ (3*g+1)=(at' τ g).br:=by
 simp_all[fH,at']
def aoT(τ)(g):fH τ (3*g+2)=((at' τ g).bE.length:Int):=by
 simp only[fH,show(3*g+1) /3=g by omega,show(3*g+1)%3=1 by omega,at'];simp
def atM(τ)(g):fH τ (3*g+3)=((at' τ g).gJ.size:Int):=by
 simp only[fH,show(3*g+2) /3=g by omega,show(3*g+2)%3=2 by omega,at'];simp
section
variable{S:AS}{τ ρ:List L}(h:Ga S τ ρ)
include h
def Ga.holds{f}(d:f∈S.fs):f.holds τ:=(h.fs f d).2
def Ga.ev{i}:(At.v i).ev ρ=match S.env[i]? with|some g=>at' τ g|none=>.b false:=by
 simp only[At.ev,h.env,cY];cases S.env[i]? <;>rfl
def Ga.li(x):(x.ev ρ).br=fI τ (S.li x):=by
 cases x with
 |v i=>
  rw[h.ev];simp only[AS.li]
  cases S.env[i]? with
  |none=>rfl
  |some g=>
   simp only;split
   .rename_i x d;exact(h.al _ (te d)).2.2
   .simp only[fI,aAn];omega
 |i c=>simp[At.ev,L.br,AS.li,fI,fH]
 |b=>rfl
 |s=>rfl
 |r0=>rfl
def Ga.le(x):((x.ev ρ).bE.length:Int)=fI τ (S.le x):=by
 cases x with
 |v i=>
  rw[h.ev];simp only[AS.le]
  cases S.env[i]? with
  |none=>rfl
  |some g=>
   simp only;split
   .rename_i x d;exact(h.ll _ (te d)).2.2
   .simp only[fI,aoT];omega
 |i c=>rfl
 |b=>rfl
 |s=>rfl
 |r0=>rfl
def Ga.atk(x):jh τ.length (S.li x).1=true:=by
 cases x with
 |v i=>
  simp only[AS.li]
  cases d:S.env[i]? with
  |none=>rfl
  |some g=>
   simp only;split
   .rename_i x q;rw[h.n];exact(h.al _ (te q)).2.1
   .have:=h.lt g (eN d);simp only[jh,h.n,e_];omega
 |_=>rfl
def Ga.azQ(x):jh τ.length (S.le x).1=true:=by
 cases x with
 |v i=>
  simp only[AS.le]
  cases d:S.env[i]? with
  |none=>rfl
  |some g=>
   simp only;split
   .rename_i x q;rw[h.n];exact(h.ll _ (te q)).2.1
   .have:=h.lt g (eN d);simp only[jh,h.n,e_];omega
 |_=>rfl
end
def AJ(t:Nat)(x:Li)(c:Int):Fa:=⟨t,x.1,x.2+c⟩
def B4(t:Nat)(x:Li)(c:Int):Fa:=⟨x.1,t,c-x.2⟩
def fEq(t:Nat)(x:Li):List Fa:=[AJ t x 0,B4 t x 0]
def Kx(t:Nat)(lo b:Int):List Fa:=[AJ t (0,0) b,B4 t (0,0) (-lo)]
def ajw{τ t x c}(h:fH τ t-fI τ x<=c):(AJ t x c).holds τ:=by
 unfold Fa.holds AJ;unfold fI at h;simp only;omega
def aAQ{τ t x c}(h:fI τ x-fH τ t<=c):(B4 t x c).holds τ:=by
 unfold Fa.holds B4;unfold fI at h;simp only;omega
def aBJ{τ t lo b}(d:lo<=fH τ t)(e:fH τ t<=b):∀f∈Kx t lo b,f.holds τ:=λf c=>by
 have g:fI τ (0,0)=0:=by rfl
 simp only[Kx,fh,IC,or_false]at c;rcases c with rfl|rfl
 .simp_all[ajw]
 simp_all[aAQ]
def holds_nil{τ}:∀f∈([]:List Fa),f.holds τ:=λf b=>by cases b
def kRg(k:Option fE)(t:Nat):List Fa:=match k with
 |some k=>Kx t k.min k.max
 |none=>[]
def aev(k:Option fE)(n:Int):Int:=match k with
 |some k=>k.wrap n
 |none=>n
def azh{k τ t n}(h:fH τ t=aev k n):∀f∈kRg k t,f.holds τ:=by
 cases k with
 |none=>exact holds_nil
 |some k=>
  have:=Go.wrap_within k n;exact aBJ (by rw[h];exact this.1) (by rw[h];exact this.2)
end AI
namespace AI
end AI
namespace AI
def AS.rs(S:AS):At->Option RS
 |.v i=>match S.env[i]? with
  |some g=>lk S.rw g
  |none=>some none
 |_=>some none
def AS.cs(S:AS):At->Option (List AC)
 |.v i=>match S.env[i]? with
  |some g=>lk S.cl g
  |none=>none
 |_=>none
def AS.bo(S:AS):At->Option BD
 |.v i=>match S.env[i]? with
  |some g=>lk S.bd g
  |none=>none
 |.b t=>some (.o8 t)
 |_=>none
section
variable{S:AS}{τ ρ:List L}(h:Ga S τ ρ)
include h
def Ga.rs{x r}(d:S.rs x=some r):yp r (x.ev ρ).bE:=by
 cases x with
 |v i=>
  rw[h.ev];simp only[AS.rs]at d
  cases q:S.env[i]? with
  |none=>rw[q]at d;cases d;rfl
  |some g=>rw[q]at d;exact(h.rw _ (te d)).2
 |_=>cases d;rfl
def Ga.cs{x r}(d:S.cs x=some r):AC.lP r (x.ev ρ).jS:=by
 cases x with
 |v i=>
  rw[h.ev];simp only[AS.cs]at d
  cases q:S.env[i]? with
  |none=>simp_all
  |some g=>rw[q]at d;exact(h.cl _ (te d)).2
 |_=>cases d
def Ga.bo{x b}(d:S.bo x=some b):(x.ev ρ).eF=b.val τ:=by
 cases x with
 |v i=>
  rw[h.ev];simp only[AS.bo]at d
  cases q:S.env[i]? with
  |none=>simp_all
  |some g=>rw[q]at d;exact(h.bd _ (te d)).2.2
 |b t=>cases d;rfl
 |_=>cases d
end
def Ga.ls{S τ ρ}(h:Ga S τ ρ){x y}(d:S.ls x=some y):((x.ev ρ).gJ.size:Int)=fI τ y:=by
 cases x with
 |v i=>
  rw[h.ev];simp only[AS.ls]at d
  cases q:S.env[i]? with
  |none=>rw[q]at d;cases d;rfl
  |some g=>rw[q]at d;cases d;simp only[fI,atM];omega
 |s x=>cases d;simp[fI,xa,At.ev,L.gJ]
 |i c=>cases d;rfl
 |b t=>cases d;rfl
 |r0=>cases d;rfl
def Ga.ark{S τ ρ}(h:Ga S τ ρ){x y}(d:S.ls x=some y):jh τ.length y.1=true:=by
 cases x with
 |v i=>
  simp only[AS.ls]at d
  cases q:S.env[i]? with
  |none=>rw[q]at d;cases d;rfl
  |some g=>
   rw[q]at d;cases d;have:=h.lt g (eN q);simp only[jh,h.n,e_];omega
 |_=>cases d;rfl
def AS.at(S:AS)(x i:At):Bool:=qc S.fs (0,0) (S.li i) 0&&qc S.fs (S.li i) (S.le x) (-1)
section
variable{S:AS}{τ ρ:List L}(h:Ga S τ ρ)
include h
end
end AI
namespace AI
def kQ{n rows}(h:cC n rows=true):pD n rows=true:=by
 cases rows with
 |nil=>rfl
 |cons r rows=>
  have:=(kf.1 h) r jg;simp[pD,this]
theorem z0(τ):fI τ (0,0)=0:=by rfl
section
variable{S:AS}{τ ρ:List L}(h:Ga S τ ρ)
include h
end
end AI
namespace AI
def Sf:RS->RS->Bool
 |none,_=>true
 |some a,some b=>AC.A4 a b
 |some _,none=>false
def azH{x y}(h:Sf x y=true){rows}(d:yp x rows):yp y rows:=by
 cases x with
 |none=>
  have:rows=[]:=d;subst this
  cases y with
  |none=>rfl
  |some c=>intro r d;cases d
 |some a=>cases y with
  |none=>cases h
  |some b=>exactλr e=>AC.KN h (d r e)
section
variable{S:AS}{τ ρ:List L}(h:Ga S τ ρ)
include h
end
def aDw.ok(τ:List L):List qk->List L->Prop
 |[],[]=>True
 |N::d,l::ls=>N.ok τ l/\aDw.ok (τ++[l]) d ls
 |_,_=>False
def one(x:Option qk):Option (List qk):=x.map λN=>[N]
end AI
namespace AI
def N9(x y:Li)(c:Int):Fa:=⟨x.1,y.1,c+y.2-x.2⟩
def ada{τ x y c}(h:fI τ x-fI τ y<=c):(N9 x y c).holds τ:=by
 unfold Fa.holds N9;unfold fI at h;simp only;omega
def anI(b:List Fa)(x y:Li)(c:Int):Bool:=match Fj b y x with
 |some d=>decide (d+c<0)
 |none=>false
def AS.tr(S:AS)(d:List At)(t:Nat):Option Li:=match t with
 |0=>some (0,0)
 |t+1=>match d[t/3]? with
  |none=>some (0,0)
  |some x=>if t%3=0 then some (S.li x)else if t%3=1 then some (S.le x)else S.ls x
def Ga.tr{S τ ρ}(h:Ga S τ ρ){q t x}(d:S.tr q t=some x):fI τ x=fH (q.map (At.ev ρ)) t/\jh τ.length x.1=true:=by
 cases t with
 |zero=>cases d;exact⟨by rfl,rfl⟩
 |succ t=>
  simp only[AS.tr]at d;simp only[fH,cY]
  cases B:q[t/3]? with
  |none=>rw[B]at d;cases d;refine⟨?_,rfl⟩;simp only[fI,xa,acD,Option.getD_none,L.br,L.bE,L.gJ];simp_all
  |some y=>
   rw[B]at d;simp only[cg,ik]at d⊢;split at d
   .rename_i u;cases d;rw[bB u];exact⟨(h.li y).symm,h.atk y⟩
   .rename_i u;rw[bG u];split at d
    .rename_i z;cases d;rw[bB z];exact⟨(h.le y).symm,h.azQ y⟩
    .rename_i z;rw[bG z];exact⟨(h.ls d).symm,h.ark d⟩
structure p_ where
 fs:List Fa:=[]
 rw:List (Nat×RS):=[]
 bs:List (Nat×Bool):=[]
 pr:List (Nat×List Nat):=[]
deriving Inhabited
structure p_.ok(T:p_)(vs:List L):Prop where
 fs:∀f∈T.fs,f.holds vs
 rw:∀x∈T.rw,yp x.2 (at' vs x.1).bE
 bs:∀x∈T.bs,(at' vs x.1).eF=x.2
 pr:∀x∈T.pr,SK x.1 (x.2.map (at' vs))
def AS.vR(S:AS)(d:List At):List Nat->Option (List Nat)
 |[]=>some []
 |p::ps=>match d[p]? with
  |some (.v i)=>match S.env[i]?,S.vR d ps with
   |some g,some gs=>some (g::gs)
   |_,_=>none
  |_=>none
def EG(id:Nat)(gs:List Nat):List (Nat×List Nat)->Bool
 |[]=>false
 |(i,l)::r=>if i==id&&l==gs then true else EG id gs r
def SP{id:Nat}{gs:List Nat}:∀{l:List (Nat×List Nat)},EG id gs l=true->(id,gs)∈l
 |[],h=>by cases h
 |(i,l)::r,h=>by
  simp only[EG]at h;split at h
  .rename_i b;simp only[cF]at b;rw[eq_of_beq b.1,eq_of_beq b.2];exact jg
  .exact je _ (SP h)
def Ga.vR{S:AS}{τ ρ:List L}(h:Ga S τ ρ){q:List At}:∀{ps gs:List Nat},S.vR q ps=some gs->ps.map (at' (q.map (At.ev ρ)))=gs.map (at' τ)
 |[],gs,d=>by cases d;rfl
 |p::ps,gs,d=>by
  simp only[AS.vR]at d;split at d
  .rename_i i u;split at d
   .rename_i g x y t;cases d;simp only[dE,h.vR t];simp only[at',cY,u,cg,ik];rw[h.ev,y];rfl
   .cases d
  .cases d
def AS.d_(S:AS)(d:List At)(T:p_):Bool:=
 T.fs.all (λf=>match S.tr d f.a,S.tr d f.b with
  |some x,some y=>qc S.fs x y f.c
  |_,_=>false)&&
 T.rw.all (λx=>match d[x.1]? with
  |some y=>match S.rs y with
   |some z=>Sf z x.2
   |none=>(match S.bo y with|_=>false)
  |none=>false)&&
 T.bs.all (λx=>match d[x.1]? with
  |some y=>match S.bo y with
   |some (.o8 b)=>b==x.2
   |_=>false
  |none=>false)&&
 T.pr.all (λx=>match S.vR d x.2 with
  |some gs=>EG x.1 gs S.pr
  |none=>false)
def JI{b:List At}{ρ p y}(h:b[p]?=some y):at' (b.map (At.ev ρ)) p=y.ev ρ:=by simp[at',h]
def Ga.d_{S τ ρ}(h:Ga S τ ρ){q T}(D:S.d_ q T=true):T.ok (q.map (At.ev ρ)):=by
 have u:∀f∈S.fs,f.holds τ:=λf u=>h.holds u
 simp only[AS.d_,cF,cI]at D;obtain⟨⟨⟨c1,c2⟩,c3⟩,c4⟩:=D;refine⟨λf d=>?_,λx d=>?_,λx d=>?_,λx d=>?_⟩;rotate_left 3
 .have:=c4 x d;split at this
  .rename_i gs B;rw[h.vR B];exact(h.pr _ (SP this)).2
  .cases this
 .have:=c1 f d;split at this
  .rename_i x y E t;have:=aDD u this;unfold Fa.holds;rw[<-(h.tr E).1,<-(h.tr t).1];exact this
  .cases this
 .have:=c2 x d;split at this
  .rename_i y t;split at this
   .rename_i z F;rw[JI t];exact azH this (h.rs F)
   .cases this
  .cases this
 .have:=c3 x d;split at this
  .rename_i y t;split at this
   .rename_i b G;rw[JI t,h.bo G];have:=eq_of_beq this;exact this
   .cases this
  .cases this
def AS.ext(S:AS)(d:List At)(m:Nat)(T:p_):Option AS:=
 let k:=d.length
 let tr:=λt=>match t with
  |0=>some ((0,0):Li)
  |t+1=>if t/3<k then S.tr d (t+1)else some (3*(S.n+(t/3-k))+t%3+1,0)
 let fs:=T.fs.mapM λf=>match tr f.a,tr f.b with
  |some x,some y=>some (N9 x y f.c)
  |_,_=>none
 let ps:=λp=>if p<k then match d[p]? with
  |some (.v i)=>S.env[i]?
  |_=>none
  else if p<k+m then some (S.n+(p-k))else none
 let q:=λ(l:List Nat)=>l.mapM ps
 match fs with
 |some fs=>if fs.all (Fa.in (S.n+m))=true then some ⟨S.env++(List.range m).map (S.n+ ·),S.n+m,fs++S.fs,(T.rw.filterMap λx=>(ps x.1).map λg=>(g,x.2))++S.rw,S.cl,(T.bs.filterMap λx=>(ps x.1).map λg=>(g,.o8 x.2))++S.bd,S.al,S.ll,S.sm,(T.pr.filterMap λx=>(q x.2).map λgs=>(x.1,gs))++S.pr⟩else none
 |none=>none
end AI
namespace AI
def mapM_mem{α e:Type}{g}:∀{l:List α}{ys}{y:e},l.mapM g=some ys->y∈ys->∃x∈l,g x=some y
 |[],ys,y,h,b=>by simp_all
 |a::l,ys,y,h,b=>by
  cases c:g a with
  |none=>simp[c]at h
  |some z=>
   cases d:l.mapM g with
   |none=>simp[c,d]at h
   |some f=>
    simp[c,d]at h;subst h;rcases fh.1 b with rfl|b
    .simp_all
    simp_all[mapM_mem]
def auO{b c d e t}(h:b[d]?=c[e]?)(f:t/3=e):fH b (3*d+t%3+1)=fH c (t+1):=by
 simp only[fH];rw[show(3*d+t%3) /3=d by omega,show(3*d+t%3)%3=t%3 by omega,h,f]
def Ga.ext{S S' τ ρ}(h:Ga S τ ρ){d m T}(q:S.ext d m T=some S'){o}(ho:o.length=m)(R:T.ok (d.map (At.ev ρ)++o)):Ga S' (τ++o) (ρ++o):=by
 subst ho;unfold AS.ext at q;simp only at q;split at q
 .rename_i fs U;split at q
  .injection q with q
   subst q;have K:=h.n;have z:∀g,g<S.n->at' (τ++o) g=at' τ g:=λg u=>xC om
   have G:∀j,at' (τ++o) (S.n+j)=at' o j:=λj=>by
    unfold at';rw[kX om];congr 2;omega
   have W:∀p,d.length<=p->at' (d.map (At.ev ρ)++o) p=at' o (p-d.length):=λp hp=>by
    unfold at';rw[kX (by simpa using hp)];simp
   have X:∀p,p<d.length->at' (d.map (At.ev ρ)++o) p=at' (d.map (At.ev ρ)) p:=λp hp=>xC (by simpa using hp)
   have M:∀(t:Nat)(x:Li),(match t with
    |0=>some ((0,0):Li)
    |t+1=>if t/3<d.length then S.tr d (t+1)else some (3*(S.n+(t/3-d.length))+t%3+1,0))=some x->fI (τ++o) x=fH (d.map (At.ev ρ)++o) t:=λt x N=>by
    cases t with
    |zero=>cases N;rfl
    |succ t=>
     simp only at N;split at N
     .obtain⟨e1,e2⟩:=h.tr N;rw[sb e2,e1,EY];simp only[jh,bA,e_];omega
     .cases N;simp only[fI,IF];refine auO ?_ rfl;rw[kX om,kX (by simp;omega)];congr 1;simp;omega
   have H:∀(p g:Nat),(if p<d.length then match d[p]? with
    |some (.v i)=>S.env[i]?
    |_=>none
    else if p<d.length+o.length then some (S.n+(p-d.length))else none)=some g->g<S.n+o.length/\at' (τ++o) g=at' (d.map (At.ev ρ)++o) p:=λp g hp=>by
    split at hp
    .rename_i Y;split at hp
     .rename_i i hi;have u:=h.lt g (eN hp);refine⟨om,?_⟩;rw[z g u,X p Y,JI hi,h.ev,hp]
     .cases hp
    .split at hp
     .cases hp;exact⟨om,by rw[G,W p om]⟩
     .cases hp
   exact{
    n:=by simp[K]
    env :=by
     rw[h.env,dU];congr 1
     .exact ia λg u=>(z g (h.lt g u)).symm
     .apply sE;intro j;rw[gW,cY];by_cases O:j<o.length
      .rw[sG O,db O];simp only[cg,Function.comp];rw[G j];simp[at',O]
      simp_all
    lt:=λg u=>by
     rcases iP.1 u with u|u
     .have:=h.lt g u;show g<S.n+o.length;omega
     .obtain⟨j,O,rfl⟩:=gg.1 u;have:=ku.1 O;show S.n+j<S.n+o.length;omega
    fs :=λf P=>by
     rcases iP.1 P with P|P
     .refine⟨by simp_all,?_⟩;obtain⟨f0,Z,E⟩:=mapM_mem U P;split at E
      .rename_i x y q hy;cases E;refine ada ?_;rw[M _ _ q,M _ _ hy];exact R.fs f0 Z
      .cases E
     .exact(h.fs f P).append
    rw:=λx q=>by
     rcases iP.1 q with q|q
     .obtain⟨x0,F,E⟩:=uj.1 q;simp only[b9]at E;obtain⟨g,u,rfl⟩:=E;obtain⟨k1,k2⟩:=H _ _ u;exact⟨k1,by rw[k2];exact R.rw x0 F⟩
     .obtain⟨D,B⟩:=h.rw x q;exact⟨by show x.1<S.n+o.length;omega,by rw[z _ D];exact B⟩
    cl:=λx q=>by
     obtain⟨D,B⟩:=h.cl x q;exact⟨by show x.1<S.n+o.length;omega,by rw[z _ D];exact B⟩
    bd:=λx q=>by
     rcases iP.1 q with q|q
     .obtain⟨x0,F,E⟩:=uj.1 q;simp only[b9]at E;obtain⟨g,u,rfl⟩:=E;obtain⟨k1,k2⟩:=H _ _ u;exact⟨k1,rfl,by rw[k2];exact R.bs x0 F⟩
     .obtain⟨D,B,I⟩:=h.bd x q;exact⟨by show x.1<S.n+o.length;omega,BD.Pk B gL,by rw[z _ D,BD.J5 (by rw[K];exact B)];exact I⟩
    al:=λx q=>by
     obtain⟨D,B,I⟩:=h.al x q;exact⟨by show x.1<S.n+o.length;omega,tX B gL,by rw[z _ D,sb (by rw[K];exact B)];exact I⟩
    ll:=λx q=>by
     obtain⟨D,B,I⟩:=h.ll x q;exact⟨by show x.1<S.n+o.length;omega,tX B gL,by rw[z _ D,sb (by rw[K];exact B)];exact I⟩
    sm:=λx q=>by
     obtain⟨D,B,I⟩:=h.sm x q;exact⟨by show x.2<S.n+o.length;omega,KG B gL,by rw[z _ D,Jw (by rw[K];exact B)];exact I⟩
    pr :=λx q=>by
     rcases iP.1 q with q|q
     .obtain⟨x0,F,E⟩:=uj.1 q;simp only[b9]at E;obtain⟨gs,aa,rfl⟩:=E
      have key:∀(l gs:List Nat),l.mapM (λp=>if p<d.length then match d[p]? with
       |some (.v i)=>S.env[i]?
       |_=>none
       else if p<d.length+o.length then some (S.n+(p-d.length))else none)=some gs->(∀g∈gs,g<S.n+o.length)/\gs.map (at' (τ++o))=l.map (at' (d.map (At.ev ρ)++o)):=by
       intro l
       induction l with
       |nil=>simp_all
       |cons p l ih=>
        intro gs u;simp only[pY,Option.bind_eq_bind,jq]at u;obtain⟨g,ab,ac,ad,ae⟩:=u;cases ae;obtain⟨k1,k2⟩:=H _ _ ab;obtain⟨k3,k4⟩:=ih ac ad;exact⟨λg' J=>by rcases fh.1 J with rfl|J;exact k1;exact k3 g' J,by simp only[dE,k2,k4]⟩
      obtain⟨k1,k2⟩:=key _ _ aa;exact⟨k1,by rw[k2];exact R.pr x0 F⟩
     .obtain⟨D,B⟩:=h.pr x q;exact⟨λg u=>(by have:=D g u;show g<S.n+o.length;omega),by rw[ia (g:=at' τ) λg u=>z g (D g u)];exact B⟩}
  simp_all
 simp_all
structure qL where
 iM:Nat
 kF:Nat
 pre:p_
 cases:List p_
deriving Inhabited
def qL.ok(F:List L->Option (List L))(s:qL):Prop:=∀ls,ls.length=s.iM->s.pre.ok ls->∃o,F ls=some o/\o.length=s.kF/\∃T∈s.cases,T.ok (ls++o)
def AC.bare:AC->Bool
 |.int .. =>true
 |.bool=>true
 |.str _=>true
 |.sl d _=>decide (d<=0)
 |.any=>false
def anV(T:p_)(p:Nat):Bool:=match lk T.rw p with
 |some none=>true
 |some (some cs)=>cs.all AC.bare
 |none=>false
def AS.asU(S:AS)(d:List At)(T:p_):Bool:=T.fs.any λf=>decide (f.a<=3*d.length)&&decide (f.b<=3*d.length)&&match S.tr d f.a,S.tr d f.b with
 |some x,some y=>anI S.fs x y f.c
 |_,_=>false
def lQ(S:AS)(s:qL)(args:List At)(n:Nat)(us:List Nat):Option (List AS):=
 if args.length=s.iM/\n=s.kF/\S.d_ args s.pre=true/\s.cases.all (λT=>us.all λu=>anV T (s.iM+u))=true then(s.cases.filter λT=> !S.asU args T).mapM λT=>S.ext args n T else none
end AI
namespace AI
structure Inv where
 sp:List Nat
 ts:List p_
 t:Nat
 up:Bool
 b:Nat
 c:Int
deriving Inhabited
inductive ye where
 |e
 |b (x y:ye)
 |j (sp:List Nat) (ts:List p_) (x y:ye)
 |l (i:Inv) (x:ye)
deriving Inhabited
def ye.snd:ye->ye
 |.b _ y=>y
 |.j _ _ _ y=>y
 |_=>.e
structure Lv where
 k:Nat
 S:AS
 xs:List At
deriving Inhabited
def AS.wj(S:AS)(N:qk):Option AS:=(S.push N).map λd=> {d with env:=S.env}
def Ga.wj{S d τ ρ}(h:Ga S τ ρ){N l}(hp:S.wj N=some d)(x:N.ok τ l):Ga d (τ++[l]) ρ/\d.env=S.env:=by
 simp only[AS.wj,b9]at hp;obtain⟨t,u,rfl⟩:=hp;have k:=h.push u x;have y:t.n=S.n+1:=by
  unfold AS.push at u;grind
 refine⟨⟨k.n,?_,λg q=>?_,k.fs,k.rw,k.cl,k.bd,k.al,k.ll,k.sm,k.pr⟩,rfl⟩
 .rw[h.env];exact ia λg q=>(xC (by rw[h.n];exact h.lt g q)).symm
 .have:=h.lt g q;show g<t.n;omega
def AS.names(S:AS):List At->Option (List Nat×AS)
 |[]=>some ([],S)
 |x::xs=>match x with
  |.v i=>match S.env[i]? with
   |some g=>(S.names xs).map λy=>(g::y.1,y.2)
   |none=>none
  |.i c=>(S.wj {al:=some (0,c)}).bind λd=>(d.names xs).map λy=>(S.n::y.1,y.2)
  |.b t=>(S.wj {bd:=some (.o8 t)}).bind λd=>(d.names xs).map λy=>(S.n::y.1,y.2)
  |.s x=>(S.wj {fs:=fEq (3*S.n+3) (0,x.size)}).bind λd=>(d.names xs).map λy=>(S.n::y.1,y.2)
  |.r0=>(S.wj {rw:=some none,ll:=some (0,0)}).bind λd=>(d.names xs).map λy=>(S.n::y.1,y.2)
end AI
namespace AI
def AS.start(s:qL):AS:=⟨List.range s.iM,s.iM,s.pre.fs,s.pre.rw,[],s.pre.bs.map λx=>(x.1,.o8 x.2),[],[],[],s.pre.pr⟩
def qL.wf(s:qL):Bool:=s.pre.fs.all (Fa.in s.iM)&&s.pre.rw.all (λx=>decide (x.1<s.iM))&&s.pre.bs.all (λx=>decide (x.1<s.iM))&&s.pre.pr.all (λx=>x.2.all λg=>decide (g<s.iM))
def Ga.start{s}(q:s.wf=true){ls}(t:ls.length=s.iM)(hp:s.pre.ok ls):Ga (AS.start s) ls ls:=by
 simp only[qL.wf,cF,cI,e_]at q;obtain⟨⟨⟨D,E⟩,F⟩,G⟩:=q;refine⟨t,?_,λg H=>ku.1 H,λf u=>⟨by rw[t];exact D f u,hp.fs f u⟩,λx d=>⟨E x d,hp.rw x d⟩,λx d=>(by cases d),λx d=>?_,λx d=>(by cases d),λx d=>(by cases d),λx d=>(by cases d),λx d=>⟨by exact G x d,hp.pr x d⟩⟩
 .apply sE;intro j;simp only[AS.start,cY];by_cases z:j<ls.length
  .rw[sG om,db z];simp[at',z]
  .rw[nA om,nA (by simp;omega)];rfl
 .obtain⟨y,B,rfl⟩:=gg.1 d;exact⟨F y B,rfl,hp.bs y B⟩
end AI
def azw{A R f}(I:A->Prop)(Q:R->Prop)(mu:A->Nat)
 (step:∀a,I a->(∃r,f a=some (.inr r)/\Q r)\/(∃a',f a=some (.inl a')/\I a'/\mu a'<mu a)):
 ∀a,I a->∃r,i_ f a=some r/\Q r:=by
 have key:∀(n:Nat)(a:A),mu a<=n->I a->∃r,i_ f a=some r/\Q r:=by
  intro n
  induction n with
  |zero=>
   intro a e b;rcases step a b with⟨r,c,d⟩| ⟨a',_,_,g⟩
   .exact⟨r,GJ c,d⟩
   .omega
  |succ n ih=>
   intro a e b;rcases step a b with⟨r,c,d⟩| ⟨a',c,d,g⟩
   .exact⟨r,GJ c,d⟩
   .obtain⟨r,i,j⟩:=ih a' om d;exact⟨r,by rw[Br c];exact i,j⟩
 exactλa b=>key _ a (dz _) b
def bp.wp(f:bp)(ρ:List L)(Q:Lf×List L->Prop):Prop:=∃r,f.a_ ρ=some r/\Q r
def tx(rest:bp)(ρ:List L)(Q:Lf×List L->Prop)(r:Lf×List L):Prop:=match r with
 |(.jump 0 args,b)=>rest.wp (ρ++args.map (At.ev b)) Q
 |(.jump (k+1) args,b)=>Q (.jump k args,b)
 |r=>Q r
def wi(I:List L->Prop)(mu:List L->Nat)(a:List L)(Q:Lf×List L->Prop)(r:Lf×List L):Prop:=match r with
 |(.jump 0 args,b)=>I (args.map (At.ev b))/\mu (args.map (At.ev b))<mu a
 |(.jump (k+1) args,b)=>Q (.jump k args,b)
 |r=>Q r
def lS(Q:List L->Prop)(r:Lf×List L):Prop:=match r with
 |(.jump 0 args,b)=>Q (args.map (At.ev b))
 |_=>False
section
variable{ρ:List L}{Q:Lf×List L->Prop}
def vZ{x}:(bp.bq x).wp ρ Q=Q (x,ρ):=by
 apply propext;constructor
 .rintro⟨r,h1,h2⟩;cases h1;exact h2
 .intro h;exact⟨_,rfl,h⟩
def ata{nd k}:(bp.op nd k).wp ρ Q=match nd.ev ρ with|some ls=>k.wp (ρ++ls) Q|none=>False:=by
 unfold bp.wp;simp only[bp.a_]
 cases nd.ev ρ with
 |none=>simp
 |some ls=>rfl
def rY{c a b}:(bp.ite c a b).wp ρ Q=if(c.ev ρ).eF=true then a.wp ρ Q else b.wp ρ Q:=by
 unfold bp.wp;simp only[bp.a_];split<;>rfl
def tW{a b}:(bp.join a b).wp ρ Q=a.wp ρ (tx b ρ Q):=by
 apply propext;unfold bp.wp;simp only[bp.a_];constructor
 .rintro⟨r,h1,h2⟩;split at h1
  .rename_i args dI ha;exact⟨_,ha,r,h1,h2⟩
  .rename_i k args dI ha;cases h1;exact⟨_,ha,h2⟩
  .rename_i h3 h4;refine⟨r,h1,?_⟩;obtain⟨lf,dI⟩:=r
   cases lf with
   |st=>exact h2
   |jump k args=>cases k with
    |zero=>exact absurd h1 (h3 _ _)
    |succ k=>exact absurd h1 (h4 _ _ _)
 .rintro⟨⟨lf,dI⟩,h1,h2⟩;rw[h1]
  cases lf with
  |st=>exact⟨_,rfl,h2⟩
  |jump k args=>cases k with
   |zero=>exact h2
   |succ k=>exact⟨_,rfl,h2⟩
def wp_loop{init body}(I)(mu)(h0:I (init.map (At.ev ρ)))(step:∀a,I a->body.wp (ρ++a) (wi I mu a Q)):(bp.loop init body).wp ρ Q:=by
 refine azw (f:=λa=>oT (body.a_ (ρ++a))) I Q mu (λa ha=>?_) _ h0;obtain⟨⟨lf,dI⟩,h1,h2⟩:=step a ha
 cases lf with
 |st e S=>exact .inl ⟨(.st e S,dI),by rw[h1];rfl,h2⟩
 |jump k args=>cases k with
  |zero=>exact .inr ⟨_,by rw[h1];rfl,h2.1,h2.2⟩
  |succ k=>exact .inl ⟨(.jump k args,dI),by rw[h1];rfl,h2⟩
def bp.wp.mono{f:bp}{Q'}(h:f.wp ρ Q)(d:∀r,Q r->Q' r):f.wp ρ Q':=by
 obtain⟨r,q,t⟩:=h;exact⟨r,q,d r t⟩
end
def kT{f ls Q}(h:f.wp ls (lS Q)):∃o,Fo f ls=some o/\Q o:=by
 obtain⟨⟨c,d⟩,e,b⟩:=h
 cases c with
 |st=>exact b.elim
 |jump k args=>cases k with
  |zero=>exact⟨_,by unfold Fo;rw[e];rfl,b⟩
  |succ k=>exact b.elim
section
variable{α:Type}{a:α}{l m:List α}{n:Nat}
theorem d1:(a::l)++m=a::(l++m):=rfl
theorem d2:([]:List α)++m=m:=rfl
theorem d3:(a::l)[n+1]?=l[n]?:=rfl
theorem d4:(a::l)[0]?=some a:=rfl
theorem d5{b}:(some a).getD b=a:=rfl
theorem d6{n}:(L.i n).br=n:=rfl
theorem d7{b}:(L.b b).eF=b:=rfl
theorem d8{b}:(L.r b).bE=b:=rfl
theorem d9{b}:(L.c b).jS=b:=rfl
theorem e0{b}:(L.s b).gJ=b:=rfl
end
namespace AI
def wrap64{n}(b: -9223372036854775808<=n)(c:n<=9223372036854775807):IntKind.wrap .i64 n=n:=yZ .i64 b c
def ayg(k:fE)(n):k.min<=k.wrap n/\k.wrap n<=k.max:=by
 have:=(azh (k:=some k) (t:=1) (τ:=[.i (k.wrap n)]) (n:=n) rfl)
 have b:=this _ jg;have c:=this _ (je _ jg);simp[Fa.holds,AJ,B4,fH,L.br]at b c;omega
end AI
def bJ{f ls o}(h:f.wp ls (lS λx=>x=o)):Fo f ls=some o:=by
 obtain⟨x,b,rfl⟩:=kT h;exact b
def gZ{b P}(c:b=true↔P)(h:¬P):b=false:=by
 cases b with
 |true=>exact absurd (c.1 rfl) h
 |false=>rfl
def cN(n:Nat):List L->Nat
 |.i i::_=>n-i.toNat
 |_=>0
def gX(n:Nat):List L->Nat
 |_:: .i i::_=>n-i.toNat
 |_=>0
def dy(n i:Nat)(h:i<n:=by omega):n- ((i+1:Nat):Int).toNat<n-i:=om
section
variable{ρ:List L}{Q:Lf×List L->Prop}{k:bp}
def iT{nd}:(bp.op nd k).wp ρ Q=∃ls,nd.ev ρ=some ls/\k.wp (ρ++ls) Q:=by
 rw[ata];cases nd.ev ρ<;>simp
def Ay{o}{P:List L->Prop}:(∃ls,o.map ([·])=some ls/\P ls)=∃l,o=some l/\P [l]:=by
 cases o<;>simp
def vE{op kd x y}:(bp.op (.bi op kd x y) k).wp ρ Q=∃l,eC op kd (x.ev ρ).br (y.ev ρ).br=some l/\k.wp (ρ++[l]) Q:=by
 rw[iT];exact Ay
def wF{op x y}:(bp.op (.bs op x y) k).wp ρ Q=∃l,xO op (x.ev ρ).gJ (y.ev ρ).gJ=some l/\k.wp (ρ++[l]) Q:=by
 rw[iT];exact Ay
def wD{op x y}:(bp.op (.bb op x y) k).wp ρ Q=∃l,oj op (x.ev ρ).eF (y.ev ρ).eF=some l/\k.wp (ρ++[l]) Q:=by
 rw[iT];exact Ay
def yb{x}:(bp.op (.not x) k).wp ρ Q=k.wp (ρ++[.b (!(x.ev ρ).eF)]) Q:=by rw[iT];simp[Nd.ev]
def y_{kd x}:(bp.op (.conv kd x) k).wp ρ Q=k.wp (ρ++[.i (kd.wrap (x.ev ρ).br)]) Q:=by rw[iT];simp[Nd.ev]
def xE{x}:(bp.op (.len x) k).wp ρ Q=k.wp (ρ++[.i (x.ev ρ).bE.length]) Q:=by rw[iT];simp[Nd.ev]
def vV{x i n}:(bp.op (.row x i n) k).wp ρ Q=(0<=(i.ev ρ).br/\∃r,(x.ev ρ).bE[(i.ev ρ).br.toNat]?=some r/\r.length=n/\k.wp (ρ++[.c r]) Q):=by
 rw[iT];simp only[Nd.ev];by_cases h0:0<=(i.ev ρ).br
 .simp only[h0,if_true,true_and]
  cases(x.ev ρ).bE[(i.ev ρ).br.toNat]? with
  |none=>simp
  |some r=>by_cases hr:r.length=n<;>simp[hr]
 .simp[h0]
def vD{x i j kd}:(bp.op (.rc x i j kd) k).wp ρ Q=∃r,(x.ev ρ).bE[(i.ev ρ).br.toNat]?=some r/\∃q,r[j]?=some q/\∃l,kd.of q=some l/\k.wp (ρ++[l]) Q:=by
 rw[iT];simp only[Nd.ev];apply propext
 cases(x.ev ρ).bE[(i.ev ρ).br.toNat]? with
 |none=>simp
 |some r=>cases hr:r[j]? with
  |none=>simp[hr]
  |some q=>simp only[ko,hr,exists_eq_left'];exact iff_of_eq Ay
def vh{x j kd}:(bp.op (.cl x j kd) k).wp ρ Q=∃q,(x.ev ρ).jS[j]?=some q/\∃l,kd.of q=some l/\k.wp (ρ++[l]) Q:=by
 rw[iT];simp only[Nd.ev];apply propext
 cases(x.ev ρ).jS[j]? with
 |none=>simp
 |some q=>simp only[ko,exists_eq_left'];exact iff_of_eq Ay
def AX{α:Type}{c}[Decidable c]{a}{P:α->Prop}:(∃x,(if c then some a else none)=some x/\P x)=(c/\P a):=by
 by_cases h:c<;>simp[h]
def uF{i c}:(bp.op (.dM i c) k).wp ρ Q=((0<=(i.ev ρ).br/\(i.ev ρ).br<c)/\k.wp (ρ++[]) Q):=by rw[iT];exact AX
def wb{xs i}:(bp.op (.ix xs i) k).wp ρ Q=∃x,xs[(i.ev ρ).br.toNat]?=some x/\k.wp (ρ++[x.ev ρ]) Q:=by
 rw[iT];simp only[Nd.ev];cases xs[(i.ev ρ).br.toNat]? <;>simp
def xN{x i n y}:(bp.op (.cq x i n y) k).wp ρ Q=k.wp (ρ++[if(i.ev ρ).br.toNat=n then y.ev ρ else x.ev ρ]) Q:=by rw[iT];simp[Nd.ev]
def xb{x lo hi n}:(bp.op (.part x lo hi n) k).wp ρ Q=((0<=(lo.ev ρ).br/\(lo.ev ρ).br<=(hi.ev ρ).br/\(hi.ev ρ).br.toNat<=(x.ev ρ).bE.length/\cC n (x.ev ρ).bE=true)/\k.wp (ρ++[.r (((x.ev ρ).bE.take (hi.ev ρ).br.toNat).drop (lo.ev ρ).br.toNat)]) Q):=by rw[iT];exact AX
def wx{x lo hi n}:(bp.op (.cut x lo hi n) k).wp ρ Q=((0<=(lo.ev ρ).br/\(lo.ev ρ).br<=(hi.ev ρ).br/\(hi.ev ρ).br.toNat<=(x.ev ρ).bE.length/\pD n (x.ev ρ).bE=true)/\k.wp (ρ++[.i (((hi.ev ρ).br.toNat- (lo.ev ρ).br.toNat:Nat):Int)]) Q):=by rw[iT];exact AX
def xG{x lo ln}:(bp.op (.vw x lo ln) k).wp ρ Q=k.wp (ρ++[.r (((x.ev ρ).bE.drop (lo.ev ρ).br.toNat).take (ln.ev ρ).br.toNat)]) Q:=by rw[iT];simp[Nd.ev]
def xK{x ln}:(bp.op (.tk x ln) k).wp ρ Q=k.wp (ρ++[.r ((x.ev ρ).bE.take (ln.ev ρ).br.toNat)]) Q:=by rw[iT];simp[Nd.ev]
def wa{x y n b}:(bp.op (.app x y n b) k).wp ρ Q=(((x.ev ρ).bE.length+(y.ev ρ).bE.length<=9223372036854775807/\((x.ev ρ).bE.length+(y.ev ρ).bE.length)*b<=140737488355328/\cC n (x.ev ρ).bE=true/\cC n (y.ev ρ).bE=true)/\k.wp (ρ++[.r ((x.ev ρ).bE++(y.ev ρ).bE)]) Q):=by rw[iT];exact AX
def vP{x i j ps}:(bp.op (.set x i j ps) k).wp ρ Q=∃r,(x.ev ρ).bE[(i.ev ρ).br.toNat]?=some r/\j+ps.length<=r.length/\k.wp (ρ++[.r ((x.ev ρ).bE.set (i.ev ρ).br.toNat (r.take j++cZ ρ ps++r.drop (j+ps.length)))]) Q:=by
 rw[iT];simp only[Nd.ev]
 cases(x.ev ρ).bE[(i.ev ρ).br.toNat]? with
 |none=>simp
 |some r=>by_cases hr:j+ps.length<=r.length<;>simp[hr]
def zg{rows}:(bp.op (.lit rows) k).wp ρ Q=k.wp (ρ++[.r (rows.map (cZ ρ))]) Q:=by rw[iT];simp[Nd.ev]
def yo{x y}:(bp.op (.mn x y) k).wp ρ Q=k.wp (ρ++[.i (if(y.ev ρ).br< (x.ev ρ).br then(y.ev ρ).br else(x.ev ρ).br)]) Q:=by rw[iT];simp[Nd.ev]
def yJ{x y}:(bp.op (.mx x y) k).wp ρ Q=k.wp (ρ++[.i (if(y.ev ρ).br> (x.ev ρ).br then(y.ev ρ).br else(x.ev ρ).br)]) Q:=by rw[iT];simp[Nd.ev]
def uB{t F args n us}:(bp.op (.call t F args n us) k).wp ρ Q=∃l,F (args.map (At.ev ρ))=some l/\(l.length=n/\(us.all λi=>((l[i]?).getD (.b false)).bE.all (·.all PV.bare))=true)/\k.wp (ρ++l) Q:=by
 rw[iT];simp only[Nd.ev];apply propext
 cases F (args.map (At.ev ρ))with
 |none=>simp
 |some l=>simp only[ko,exists_eq_left'];exact iff_of_eq AX
end
def atn{ρ Q c a b}:(bp.ite c a b).wp ρ Q=(((c.ev ρ).eF=true->a.wp ρ Q)/\((c.ev ρ).eF=false->b.wp ρ Q)):=by
 rw[rY];cases(c.ev ρ).eF<;>simp
section
variable{ρ:List L}{Q:Lf×List L->Prop}{k:bp}
def dw{op b x y l}(h:eC op b (x.ev ρ).br (y.ev ρ).br=some l)(c:k.wp (ρ++[l]) Q):(bp.op (.bi op b x y) k).wp ρ Q:=by rw[vE];exact⟨l,h,c⟩
def mP{op x y l}(h:xO op (x.ev ρ).gJ (y.ev ρ).gJ=some l)(b:k.wp (ρ++[l]) Q):(bp.op (.bs op x y) k).wp ρ Q:=by rw[wF];exact⟨l,h,b⟩
def aqv{op x y l}(h:oj op (x.ev ρ).eF (y.ev ρ).eF=some l)(b:k.wp (ρ++[l]) Q):(bp.op (.bb op x y) k).wp ρ Q:=by rw[wD];exact⟨l,h,b⟩
def auw{x}(b:k.wp (ρ++[.b (!(x.ev ρ).eF)]) Q):(bp.op (.not x) k).wp ρ Q:=by exact b
def ju{b x}(c:k.wp (ρ++[.i (b.wrap (x.ev ρ).br)]) Q):(bp.op (.conv b x) k).wp ρ Q:=by exact c
def anT{x}(b:k.wp (ρ++[.i (x.ev ρ).bE.length]) Q):(bp.op (.len x) k).wp ρ Q:=by exact b
def jy{x i n r}(b:0<=(i.ev ρ).br)(c:(x.ev ρ).bE[(i.ev ρ).br.toNat]?=some r)(d:r.length=n)(e:k.wp (ρ++[.c r]) Q):(bp.op (.row x i n) k).wp ρ Q:=by rw[vV];exact⟨b,r,c,d,e⟩
def r5{x i j b r q l}(c:(x.ev ρ).bE[(i.ev ρ).br.toNat]?=some r)(d:r[j]?=some q)(e:b.of q=some l)(f:k.wp (ρ++[l]) Q):(bp.op (.rc x i j b) k).wp ρ Q:=by rw[vD];exact⟨r,c,q,d,l,e,f⟩
def Tt{x j b q l}(c:(x.ev ρ).jS[j]?=some q)(d:b.of q=some l)(e:k.wp (ρ++[l]) Q):(bp.op (.cl x j b) k).wp ρ Q:=by rw[vh];exact⟨q,c,l,d,e⟩
def nH{i:At}{c:Nat}(h:0<=(i.ev ρ).br/\(i.ev ρ).br<c)(b:k.wp (ρ++[]) Q):(bp.op (.dM i c) k).wp ρ Q:=by rw[uF];exact⟨h,b⟩
def yF{xs i x}(h:xs[(i.ev ρ).br.toNat]?=some x)(b:k.wp (ρ++[x.ev ρ]) Q):(bp.op (.ix xs i) k).wp ρ Q:=by rw[wb];exact⟨x,h,b⟩
def lK{x lo b n}(h:0<=(lo.ev ρ).br/\(lo.ev ρ).br<=(b.ev ρ).br/\(b.ev ρ).br.toNat<=(x.ev ρ).bE.length/\pD n (x.ev ρ).bE=true)(c:k.wp (ρ++[.i (((b.ev ρ).br.toNat- (lo.ev ρ).br.toNat:Nat):Int)]) Q):(bp.op (.cut x lo b n) k).wp ρ Q:=by rw[wx];exact⟨h,c⟩
def Tk{x lo ln}(b:k.wp (ρ++[.r (((x.ev ρ).bE.drop (lo.ev ρ).br.toNat).take (ln.ev ρ).br.toNat)]) Q):(bp.op (.vw x lo ln) k).wp ρ Q:=by exact b
def afL{x ln}(b:k.wp (ρ++[.r ((x.ev ρ).bE.take (ln.ev ρ).br.toNat)]) Q):(bp.op (.tk x ln) k).wp ρ Q:=by exact b
def X3{x y n b}(h:(x.ev ρ).bE.length+(y.ev ρ).bE.length<=9223372036854775807/\((x.ev ρ).bE.length+(y.ev ρ).bE.length)*b<=140737488355328/\cC n (x.ev ρ).bE=true/\cC n (y.ev ρ).bE=true)(c:k.wp (ρ++[.r ((x.ev ρ).bE++(y.ev ρ).bE)]) Q):(bp.op (.app x y n b) k).wp ρ Q:=by rw[wa];exact⟨h,c⟩
def Ad{x i j ps r}(b:(x.ev ρ).bE[(i.ev ρ).br.toNat]?=some r)(c:j+ps.length<=r.length)(d:k.wp (ρ++[.r ((x.ev ρ).bE.set (i.ev ρ).br.toNat (r.take j++cZ ρ ps++r.drop (j+ps.length)))]) Q):(bp.op (.set x i j ps) k).wp ρ Q:=by rw[vP];exact⟨r,b,c,d⟩
def YS{rows}(b:k.wp (ρ++[.r (rows.map (cZ ρ))]) Q):(bp.op (.lit rows) k).wp ρ Q:=by exact b
def du{t F args n us l}(h:F (args.map (At.ev ρ))=some l)(b:l.length=n)(c:(us.all λi=>((l[i]?).getD (.b false)).bE.all (·.all PV.bare))=true)(d:k.wp (ρ++l) Q):(bp.op (.call t F args n us) k).wp ρ Q:=by rw[uB];exact⟨l,h,⟨b,c⟩,d⟩
def dn{c a b}(d:(c.ev ρ).eF=true->a.wp ρ Q)(e:(c.ev ρ).eF=false->b.wp ρ Q):(bp.ite c a b).wp ρ Q:=by rw[atn];exact⟨d,e⟩
def y7{c a b}(hc:(c.ev ρ).eF=true)(ha:a.wp ρ Q):(bp.ite c a b).wp ρ Q:=by rw[rY,bB hc];exact ha
def qo{c a b}(hc:(c.ev ρ).eF=false)(hb:b.wp ρ Q):(bp.ite c a b).wp ρ Q:=by rw[rY,bG (by rw[hc];decide)];exact hb
def En{a b}(h:a.wp ρ (tx b ρ Q)):(bp.join a b).wp ρ Q:=by rw[tW];exact h
def bm{x}(h:Q (x,ρ)):(bp.bq x).wp ρ Q:=by rw[vZ];exact h
def Nd.JU(ρ:List L):Nd->Option L
 |.len x=>some (.i (x.ev ρ).bE.length)
 |.bi op d x y=>eC op d (x.ev ρ).br (y.ev ρ).br
 |.cl x j d=>match(x.ev ρ).jS[j]? with
  |some q=>d.of q
  |none=>none
 |.not x=>some (.b (!(x.ev ρ).eF))
 |.conv d x=>some (.i (d.wrap (x.ev ρ).br))
 |.lit rows=>some (.r (rows.map (cZ ρ)))
 |.vw x lo ln=>some (.r (((x.ev ρ).bE.drop (lo.ev ρ).br.toNat).take (ln.ev ρ).br.toNat))
 |.tk x ln=>some (.r ((x.ev ρ).bE.take (ln.ev ρ).br.toNat))
 |.bb op x y=>oj op (x.ev ρ).eF (y.ev ρ).eF
 |_=>none
def sN{c l}(h:c.JU ρ=some l)(b:k.wp (ρ++[l]) Q):(bp.op c k).wp ρ Q:=by
 cases c with
 |len x=>cases h;exact anT b
 |bi op e x y=>exact dw h b
 |cl x j e=>
  unfold Nd.JU at h
  cases d:(x.ev ρ).jS[j]? with
  |none=>simp[d]at h
  |some q=>exact Tt d (by simpa[d]using h) b
 |not x=>cases h;exact auw b
 |conv e x=>cases h;exact ju b
 |lit rows=>cases h;exact YS b
 |vw x lo ln=>cases h;exact Tk b
 |tk x ln=>cases h;exact afL b
 |bb op x y=>exact aqv h b
 |_=>cases h
end
end
end
end Go.Proofs.YtiikkkhcolcebaaGreatDoor
