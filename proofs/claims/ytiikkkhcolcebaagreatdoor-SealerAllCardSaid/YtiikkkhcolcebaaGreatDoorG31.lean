/- A part. -/
import Derived.Test.YtiikkkhcolcebaaGreatDoorG13
import Derived.Test.YtiikkkhcolcebaaGreatDoorG15
import Derived.Test.YtiikkkhcolcebaaGreatDoorG21
import Derived.Test.YtiikkkhcolcebaaGreatDoorG23
import Derived.Test.YtiikkkhcolcebaaGreatDoorG25
import Derived.Test.YtiikkkhcolcebaaGreatDoorG26
import Derived.Test.YtiikkkhcolcebaaGreatDoorG28
import Derived.Test.YtiikkkhcolcebaaGreatDoorG29
import Derived.Test.YtiikkkhcolcebaaGreatDoorG30
import Derived.WalkKit
import Derived.Laws.Closers25b
import Derived.IntWalk
set_option linter.all false
set_option maxHeartbeats 4000000
set_option maxRecDepth 100000
namespace Go.Proofs.YtiikkkhcolcebaaGreatDoor
noncomputable section
section
attribute [local irreducible] Fo
open Go.RowKit
def SF:bl:=.join (.loop [.i 0,.i 20,U0] (.bI .leq U3 U1<|.ite U5 (.cA 85 B7 [U4,U2,U3] 1<|.bI .add U3 (.i 20)<|.j [U3,U7,U6]) (.bp (.jump 1 [U2,U4])))) (.cA 85 B7 [U3,U2,U1] 1<|.loop [.i 20,U4] (.bI .lss U5 U1<|.ite U7 (.bI .mul (.i 2) U5<|.join (.loop [.i 0,U8,U6] (.bI .leq bB U1<|.ite bG (.bI .add U9 U5<|.cA 710 Fb [bE,U9,bN,bB] 1<|.bI .mul (.i 2) U5<|.bI .add bB bQ<|.j [bB,bU,bP]) (.bp (.jump 1 [U9,bE])))) (.join (.bI .add U9 U5<|.bI .lss bE U1<|.ite bG (.cA 710 Fb [bB,U9,bE,U1] 1<|.j [bN]) (.j [bB])) (.bI .mul U5 (.i 2)<|.j [bG,bE]))) (.bp (.jump 1 [U6]))))
def L1:=Fo SF
def arN:bw:=⟨379,[.c (.own 0),ci 1,.c (.fn 349 [])],[.row 164 U0],2,1,.bL [],[(0,(.row 164 U2))],L1,106⟩
theorem aaW:Ok arN:=oS (.cons aud (.cons ats .nil))
def ajE:bl:=.join (.cA 325 D1 [U0,U1,U2] 1<|.no bE<|.ite bG (.j [.b true]) (.bI .lss U3 (.i 16)<|.ite bN (.j [.b true]) (.bI .gtr U3 (.i 524288)<|.ite bP (.j [.b true]) (.cA 91 Ad [bB] 1<|.no bQ<|.j [bU])))) (.ite bE (.j [.b false]) (.op (.call 401 Il ([bB]++w 0 11) 1 [])<|.no bG<|.j [bN]))
def zX:=Fo ajE
def aeG:bw:=⟨78,[.agg (cI 0 4++[.p (.int .u32) U4,.p (.int .u32) U5,.p (.int .u32) U6,.p (.int .u32) U7,.p (.int .u32) U8,.p (.int .u32) U9,ps 10])],[],11,1,.v (.c (.p .bool bE)),[],zX,402⟩
theorem O4:Ok aeG:=oS (.cons akK (.cons Mo (.cons VQ (.cons VN .nil))))
def avi:bl:=.ln U0<|.cA 2000 kU [U4] 0<|.cA 402 zX [U1,U2,U3,U5,.i 0,.i 0,.i 0,.i 0,.i 0,.i 0,U4] 1<|.no U6<|.ite U7 (.j [.i 1,.r0,.i 0,.i 0,.i 0,.i 0,.i 0,.i 0,.i 0,.i 0,.i 0,.i 0,.r0]) (.cA 2076 yF [U0] 1<|.cA 700 GQ [U8] 2<|.op (.lit [[(.sl,U8)],[(.sl,bB)]])<|.cA 672 I' [bE] 2<|.join (.op (.vw bN (.i 0) bG)<|.ln bP<|.loop [.i 0,.i 0,.i 0,.i 0,.i 0,.i 0,.i 0] (.bI .lss bU bQ<|.ite cm (.join (.op (.jv bN (.i 0) bG bU 1)<|.op (.rc bN cr 0 .sl)<|.cA 327 xb [ck] 1<|.bI .eql bU (.i 0)<|.ite cw (.bp (.jump 0 ([.i 0,cf]++w 18 5))) (.bI .eql bU (.i 1)<|.ite c9 (.bp (.jump 0 ([.i 1,bW,cf]++w 19 4))) (.bI .eql bU (.i 2)<|.ite dX (.j [.i 2,bW,bT,cf,cp,cL,cj]) (.bI .eql bU (.i 3)<|.ite eh (.j [.i 3,bW,bT,cg,cf,cL,cj]) (.bI .eql bU (.i 4)<|.ite eL (.bp (.jump 0 ([.i 4]++w 17 4++[cf,cj]))) (.bI .eql bU (.i 5)<|.ite dP (.bp (.jump 0 ([.i 5]++w 17 5++[cf]))) (.op (.du (.i 0) 0)<|.j []))))))) (.bI .add cr (.i 1)<|.bp (.jump 0 ([eL]++w 25 6)))) (.bp (.jump 1 (w 17 6))))) (.op (.tk bN bG)<|.bp (.jump 0 ([U9,cp,U1,U2,U3,U5]++w 14 6++[U4]))))
def Jf:=Fo avi
def aoo:bw:=⟨200,[cs 0,.agg [pi 1,pi 2,pi 3],cs 4],[],5,13,.bL [.c (.own 0),.agg (cI 7 4++[.p (.int .u32) bE,.p (.int .u32) bG,.p (.int .u32) bN,.p (.int .u32) bP,.p (.int .u32) bQ,.p (.int .u32) bU,.own 1]),ci 5],[(0,(.row 95 U6)),(1,(.row 164 bW))],Jf,713⟩
theorem acQ:Ok aoo:=oS (.cons anL (.cons O4 (.cons akV (.cons CP (.cons Al (.cons avS .nil))))))
def RY:bl:=.cA 149 Fw [.i 1,.i 9000] 6<|.join (.loop [.i 0,U2,U3,U7,U4,U5,.b false,U6,.r0] (.join (.ln U0<|.bI .lss U8 bW<|.ite bT (.bI .lss U8 U1<|.j [cg]) (.j [.b false])) (.ite bW (.join (.rw U0 U8 4<|.cl bT 0 (.int .i64)<|.cl bT 1 .sl<|.cl bT 2 (.int .i64)<|.cl bT 3 .sl<|.bI .and cg (.i 7)<|.join (.bI .eql cm (.i 0)<|.ite cr (.j [cr]) (.bI .eql cm (.i 1)<|.ite ck (.j [ck]) (.bI .eql cm (.i 2)<|.j [cf]))) (.ite cr (.cA 2004 MH [cp,.i 4] 1<|.loop ([.i 0]++w 9 8) (.ln ck<|.bI .lss cf iq<|.ite ik (.join (.rw ck cf 4<|.cl jD 2 .bool<|.ite iZ (.rw ck cf 4<|.cl jl 0 (.int .u64)<|.op (.call 611 AQ (w 27 8++[jO]) 8 [])<|.bp (.jump 0 (w 42 7++[lx]))) (.bI .add cf (.i 1)<|.ln ck<|.op (.part ck cf jl 4)<|.op (.call 610 vK (w 27 8++[lx]) 9 [])<|.bp (.jump 0 (w 43 8)))) (.bI .add cf (.i 1)<|.bp (.jump 0 ([jM]++w 37 8)))) (.bp (.jump 1 (w 27 8))))) (.join (.bI .eql cm (.i 3)<|.ite ck (.j [ck]) (.bI .eql cm (.i 4)<|.j [cf])) (.ite ck (.op (.call 619 Aa (w 9 8) 8 [])<|.bp (.jump 0 (w 27 7++[bU]))) (.bI .eql cm (.i 5)<|.ite cf (.loop ([.i 0]++w 9 8) (.join (.ln cj<|.bI .lss cw ik<|.ite jD (.bI .lss cw (.i 3)<|.j [iZ]) (.j [.b false])) (.ite ik (.rw cj cw 1<|.cl jD 0 (.int .u64)<|.op (.bi .and .u64 iZ (.i 7))<|.op (.call 611 AQ (w 28 8++[jl]) 8 [])<|.bI .add cw (.i 1)<|.bp (.jump 0 ([kb]++w 41 7++[jO]))) (.bp (.jump 1 (w 28 8)))))) (.join (.bI .eql cm (.i 6)<|.ite cw (.j [cw]) (.bI .eql cm (.i 7)<|.j [c9])) (.ite cw (.op (.call 617 Ez (w 9 8) 8 [])<|.bp (.jump 0 (w 29 7++[bU]))) (.bp (.jump 0 (w 9 8)))))))))) (.bI .add U8 (.i 1)<|.bp (.jump 0 ([cf]++w 18 8)))) (.bp (.jump 1 (w 9 8)))))) (.bp (.jump 0 (w 8 8)))
def G7:=Fo RY
def adZ:bw:=⟨47,[cs 0,ci 1],[],2,8,.v (.agg [pi 2,pi 3,ps 4,pi 5,pi 6,.p .bool U7,ps 8,.mp 0]),[(0,(.map U9))],G7,156⟩
theorem alc:Ok adZ:=oS (.cons Qw (.cons IS (.cons Rg (.cons axj (.cons V0 (.cons PI (.cons Hr .nil)))))))
def Xn:bl:=.cA 156 G7 [U0,.i 8] 8<|.join (.cA 2004 MH [U1,.i 6] 1<|.ln bB<|.loop ([.i 0]++w 2 8) (.bI .lss bG bE<|.ite cL (.join (.rw bB bG 4<|.cl cj 0 (.int .u64)<|.cl cj 1 (.int .u32)<|.cl cj 2 .bool<|.cl cj 3 .sl<|.no ck<|.ite cw (.op (.lit [[((.int .u64),cm),((.int .u32),cr),(.bool,ck),(.sl,cf)]])<|.op (.call 610 vK (w 13 8++[c9]) 9 [])<|.bp (.jump 0 (w 30 8))) (.bp (.jump 0 (w 13 8)))) (.bI .add bG (.i 1)<|.bp (.jump 0 ([eh]++w 22 8)))) (.bp (.jump 1 (w 13 8))))) (.op (.call 619 Aa (w 10 8) 8 [])<|.bp (.jump 0 (w 19 7++[bW])))
def LC:=Fo Xn
def are:bw:=⟨11,[cs 0,cs 1],[],2,8,.v (.agg [pi 2,pi 3,ps 4,pi 5,pi 6,.p .bool U7,ps 8,.mp 0]),[(0,(.map U9))],LC,714⟩
theorem afY:Ok are:=oS (.cons alc (.cons IS (.cons Rg (.cons PI (.cons Hr .nil)))))
def agN:bl:=.ln U0<|.cA 106 L1 [U0,U1] 1<|.j [U2]
def Jm:=Fo agN
def axQ:bw:=⟨348,[.c (.own 0),.c (.fn 349 [])],[.row 164 U0],1,1,.bL [],[(0,(.row 164 U1))],Jm,121⟩
theorem aju:Ok axQ:=oS (.cons aaW .nil)
def Tj:bl:=.rw U2 U3 3<|.op (.rc U2 U3 0 .str)<|.op (.rc U2 U3 1 .gr)<|.op (.rc U2 U3 2 .gr)<|.cA 328 rC [U7,U8,U9] 1<|.ln U5<|.bI .gtr bE (.i 1048576)<|.ite bG (.op (.du (.i 0) 0)<|.j []) (.op (.rc U2 U3 2 .nl)<|.cA 2011 pj [U5] 0<|.op (.lit [[((.int .i64),U4),(.sl,U5),(.bool,(.b false))]])<|.rw bP (.i 0) 3<|.op (.app .r0 bP 3 40)<|.op (.set U2 U3 2 [(.sl,bU)])<|.op (.rc bW U3 0 .str)<|.op (.rc bW U3 1 .gr)<|.op (.rc bW U3 2 .gr)<|.cA 328 rC [bT,cg,cp] 1<|.join (.bI .gtr cL (.i 1048576)<|.ite cj (.j [.b true]) (.bI .gtr cL bB<|.ite cm (.bI .gtr U0 (.i 0)<|.ite cr (.op (.du (.i 0) 0)<|.j []) (.j [.b false])) (.j [.b false]))) (.ite cj (.op (.du (.i 0) 0)<|.j []) (.j [bW])))
def II:=Fo Tj
def afm:bw:=⟨275,[.agg [pi 0,pi 1,.own 0],ci 3,ci 4,cs 5],[.row 144 U2],6,1,.bL [.agg [pi 0,pi 1,.own 0],.c (.p (.int .i64) (.i 0))],[(0,(.row 144 U6))],II,715⟩
theorem ack:afm.ok Tryz.prog:=g_ Tj aqx (.cons HX (.cons uM .nil)) Tryz.func275 kr kr rfl
def Sz:bl:=.join (.ln U3<|.loop [.i 0,.r0] (.bI .lss U5 U4<|.ite U7 (.rw U3 U5 14<|.cl U8 0 (.int .i64)<|.cl U8 1 (.int .i64)<|.cl U8 2 (.int .i64)<|.cl U8 3 (.int .i64)<|.cl U8 4 .sl<|.cl U8 5 .sl<|.cl U8 6 .sl<|.cl U8 7 .sl<|.cl U8 8 .sl<|.cl U8 9 .sl<|.cl U8 10 .sl<|.cl U8 11 .sl<|.cl U8 12 (.int .i64)<|.cl U8 13 (.int .i64)<|.op (.call 646 HV (w 9 14) 0 [])<|.op (.lit [[((.int .i64),U9),((.int .i64),bB),((.int .i64),bE),((.int .i64),bG),(.sl,bN),(.sl,bP),(.sl,bQ),(.sl,bU),(.sl,bW),(.sl,bT),(.sl,cg),(.sl,cp),((.int .i64),cL),((.int .i64),cj)]])<|.op (.app U6 cm 14 240)<|.bI .add U5 (.i 1)<|.j [ck,cr]) (.bp (.jump 1 [U6])))) (.j [U4])
def Ij:=Fo Sz
def Xd:bw:=⟨21,[.agg [pi 0,pi 1,.p .bool U2,ps 3]],[],4,1,.v (.agg [pi 0,pi 1,.p .bool U2,.own 0]),[(0,(.row 90 U4))],Ij,647⟩
theorem YE:Ok Xd:=oS (.cons aiU .nil)
def Um:List L->Option (List L):=Ij
def ayB:bw:=⟨21,[.agg [pi 0,pi 1,.p .bool U2,ps 3]],[],4,1,.v (.agg [pi 0,pi 1,.p .bool U2,ps 4]),[],Ij,2056⟩
theorem aeh:ayB.ok Tryz.prog:=mJ (s:=Xd) YE rfl (x:=(.v 4)) (e:=90) rfl rfl 2056
def Jl:bl:=.join (.ln U2<|.loop [.i 0,.r0] (.bI .lss U4 U3<|.ite U6 (.rw U2 U4 3<|.cl U7 0 .str<|.cl U7 1 .gr<|.cl U7 2 .gr<|.join (.ln bB<|.loop [.i 0,.r0] (.bI .lss bG bE<|.ite bP (.rw bB bG 3<|.cl bQ 0 (.int .i64)<|.cl bQ 1 .gr<|.cl bQ 2 .bool<|.op (.lit [[((.int .i64),bU),(.sl,bW),(.bool,bT)]])<|.op (.app bN cg 3 40)<|.bI .add bG (.i 1)<|.j [cL,cp]) (.bp (.jump 1 [bN])))) (.op (.lit [[(.str,U8),(.sl,U9),(.sl,bE)]])<|.op (.app U5 bG 3 64)<|.bI .add U4 (.i 1)<|.j [bP,bN])) (.bp (.jump 1 [U5])))) (.j [U3])
def L4:=Fo Jl
def PB:bw:=⟨19,[.agg [pi 0,pi 1,ps 2]],[],3,1,.v (.agg [pi 0,pi 1,.own 0]),[(0,(.row 141 U3))],L4,648⟩
theorem Yj:PB.ok Tryz.prog:=g_ Jl zY .nil Tryz.func19 kr kr rfl
def ti:List L->Option (List L):=L4
def aAi:bw:=⟨19,[.agg [pi 0,pi 1,ps 2]],[],3,1,.v (.agg [pi 0,pi 1,ps 3]),[],L4,2055⟩
theorem aoQ:aAi.ok Tryz.prog:=mJ (s:=PB) Yj rfl (x:=(.v 3)) (e:=141) rfl rfl 2055
def afZ:bl:=.bI .eql U7 (.i 5)<|.ite cj (.bI .add U9 (.i 1)<|.bI .eql cm (.i 7)<|.ite cr (.j [.i 6,.i 0]) (.j [.i 2,cm])) (.bI .eql U7 (.i 6)<|.ite cm (.bI .add U9 (.i 1)<|.bI .eql cr (.i 6)<|.ite ck (.j [.i 7,cr]) (.j [U7,cr])) (.bI .add U7 (.i 1)<|.j [cr,U9]))
def nU:=Fo afZ
def ame:bw:=⟨134,[.c (.ptr 0 0)],[.box ([pi 0,pi 1,ps 2,pi 3,pi 4,.p .bool U5,ps 6]++cI 7 7++[.p (.int .u32) bP,.p (.int .u32) bQ,.p (.int .u32) bU,.p (.int .u32) bW,.p (.int .u32) bT,.p (.int .u32) cg,ps 20,ps 21])],22,2,.bL [],[(0,(.box ([pi 0,pi 1,ps 2,pi 3,pi 4,.p .bool U5,ps 6,pi 22,pi 8,pi 23]++cI 10 4++[.p (.int .u32) bP,.p (.int .u32) bQ,.p (.int .u32) bU,.p (.int .u32) bW,.p (.int .u32) bT,.p (.int .u32) cg,ps 20,ps 21])))],nU,649⟩
theorem RO:Ok ame:=oS .nil
def azi:bl:=.join (.ln U0<|.loop [.i 0] (.bI .lss U3 U2<|.ite U4 (.rw U0 U3 1<|.cl U5 0 .str<|.op (.bs .eql U1 U6)<|.ite U7 (.bp (.jump 2 [U3])) (.bI .add U3 (.i 1)<|.j [U8])) (.bp (.jump 1 [])))) (.j [.i (-1)])
def G4:=Fo azi
def azu:bw:=⟨274,[cs 0,.c (.p .str U1)],[],2,1,.v (ci 2),[],G4,650⟩
theorem atJ:Ok azu:=oS .nil
def acj:bl:=.cA 650 G4 [U0,U1] 1<|.bI .geq U2 (.i 0)<|.j [U3]
def Fz:=Fo acj
def ajk:bw:=⟨210,[cs 0,.c (.p .str U1)],[],2,1,.v (.c (.p .bool U2)),[],Fz,651⟩
theorem ayI:Ok ajk:=oS (.cons atJ .nil)
def aeY:bl:=.join (.bI .eql ck (.i 0)<|.ite cf (.j [cj,cm,cr]) (.j [U0,U1,U2])) (.j [cf,cw,c9])
def pE:=Fo aeY
def aiR:bw:=⟨131,[.c (.ptr 0 0),.agg [pi 22,pi 23,ps 24],ci 25],[.box ([pi 0,pi 1,ps 2,pi 3,pi 4,.p .bool U5,ps 6]++cI 7 7++[.p (.int .u32) bP,.p (.int .u32) bQ,.p (.int .u32) bU,.p (.int .u32) bW,.p (.int .u32) bT,.p (.int .u32) cg,ps 20,ps 21])],26,3,.v (ci 25),[(0,(.box ([pi 26,pi 27,ps 28,pi 3,pi 4,.p .bool U5,ps 6]++cI 7 7++[.p (.int .u32) bP,.p (.int .u32) bQ,.p (.int .u32) bU,.p (.int .u32) bW,.p (.int .u32) bT,.p (.int .u32) cg,ps 20,ps 21])))],pE,652⟩
theorem Et:Ok aiR:=oS .nil
def Rx:bl:=.cA 2000 kU [U0] 0<|.cA 62 JG [U0] 1<|.ite U1 (.j [U0]) (.cA 121 Jm [U0] 1<|.ln U2<|.op (.cut U2 (.i 0) (.i 0) 4)<|.join (.ln U2<|.loop [.i 0,.i 0,U2] (.bI .lss U7 U5<|.ite U9 (.join (.rw U8 U7 4<|.op (.rc U8 U7 0 (.int .u64))<|.op (.rc U8 U7 1 (.int .u32))<|.op (.rc U8 U7 2 (.int .i64))<|.op (.rc U8 U7 3 (.int .i64))<|.join (.bI .add U7 (.i 1)<|.ln U8<|.bI .eql bQ bU<|.ite bW (.j [.b true]) (.bI .add U7 (.i 1)<|.rw U8 bT 4<|.op (.rc U8 bT 0 (.int .u64))<|.op (.bi .neq .u64 cp bE)<|.j [cL])) (.ite bQ (.op (.lit [[((.int .u64),bE),((.int .u32),bG),((.int .i64),bN),((.int .i64),bP)]])<|.op (.sq U8 U6 bU 4)<|.j [bT,bW]) (.j [U6,U8]))) (.bI .add U7 (.i 1)<|.j [bB,bG,bE])) (.bp (.jump 1 [U6,U8])))) (.op (.tk U6 U5)<|.j [U7]))
def zl:=Fo Rx
def axF:bw:=⟨306,[cs 0],[],1,1,.v (.c (.own 0)),[(0,(.row 164 U1))],zl,123⟩
theorem azx:axF.ok Tryz.prog:=g_ Rx WU (.cons aju (.cons YK (.cons QS (.cons Al .nil)))) Tryz.func306 kr kr rfl
def Mr:bl:=.op (.call 711 Jh (w 0 4++[.b true]) 5 [])<|.bI .neq U6 (.i 0)<|.ite bB (.j [U6,.i 0,.i 0,.r0]) (.rw U9 U5 3<|.op (.rc U9 U5 0 .str)<|.op (.rc U9 U5 1 .gr)<|.op (.rc U9 U5 2 .gr)<|.cA 328 rC [bG,bN,bP] 1<|.cA 715 II [U7,U8,U9,U5,bQ,U4] 1<|.j [.i 0,U7,U8,bU])
def QK:=Fo Mr
def XQ:bw:=⟨213,[.agg [pi 0,pi 1,ps 2],.c (.p .str U3),cs 4],[],5,4,.bL [.agg [pi 6,pi 7,.own 0],ci 5],[(0,(.row 144 U8))],QK,717⟩
theorem ahK:XQ.ok Tryz.prog:=g_ Mr zY (.cons ack (.cons arY (.cons HX .nil))) Tryz.func213 kr kr rfl
def Df:List L->Option (List L):=QK
def axS:bw:=⟨213,[.agg [pi 0,pi 1,ps 2],.c (.p .str U3),cs 4],[],5,4,.bL [.agg [pi 6,pi 7,ps 8],ci 5],[],Df,2077⟩
theorem adv:axS.ok Tryz.prog:=mJ (s:=XQ) ahK rfl (x:=(.v 8)) (e:=144) rfl rfl 2077
def axA:bl:=.join (.bI .sub U2 (.i 1)<|.loop [U3,U0] (.bI .geq U4 (.i 0)<|.ite U6 (.bI .mul (.i 8) U4<|.bI .shr U1 U7<|.op (.conv .u8 U8)<|.op (.lit [[((.int .u8),U9)]])<|.op (.app U5 bB 1 1)<|.bI .sub U4 (.i 1)<|.j [bG,bE]) (.bp (.jump 1 [U5])))) (.j [U3])
def qd:=Fo axA
def abY:bw:=⟨266,[.c (.own 0),ci 1,ci 2],[.row 5 U0],3,1,.v (.c (.own 1)),[(1,(.row 5 U3))],qd,718⟩
theorem amQ:Ok abY:=oS .nil
def ann:bl:=.op (.call 671 sY (w 0 22++[U9,.b true]) 1 [])<|.join (.bI .eql U7 (.i 2)<|.ite cm (.cA 669 K2 [U0,U1,U2] 1<|.cA 651 Fz [cr,cj] 1<|.ite ck (.cA 2058 AD [U0,U1,U2,cj] 4<|.op (.call 652 pE (w 0 22++[cw,c9,dX,cf]) 3 [])<|.bp (.jump 1 [cf,eh,eL,dP])) (.j [])) (.bI .eql U7 (.i 3)<|.ite cr (.cA 2059 Hl [U0,U1,U2,cj] 4<|.op (.call 652 pE (w 0 22++[cf,cw,c9,ck]) 3 [])<|.bp (.jump 1 [ck,dX,eh,eL])) (.bI .eql U7 (.i 4)<|.ite ck (.ln cL<|.bI .geq U9 cf<|.ite cw (.bp (.jump 1 [.i 12,U0,U1,U2])) (.rw cL U9 1<|.cl c9 0 .sl<|.cA 2077 Df [U0,U1,U2,cj,dX] 4<|.op (.call 652 pE (w 0 22++[eL,dP,gH,eh]) 3 [])<|.bp (.jump 1 [eh,gN,iq,ik]))) (.bI .eql U7 (.i 5)<|.ite cf (.cA 2061 MD [U0,U1,U2,cj] 4<|.op (.call 652 pE (w 0 22++[c9,dX,eh,cw]) 3 [])<|.bp (.jump 1 [cw,eL,dP,gH])) (.bI .eql U7 (.i 6)<|.ite cw (.op (.call 671 sY (w 0 22++[U9,.b false]) 1 [])<|.cA 2062 E3 [U0,U1,U2,cj,c9] 4<|.op (.call 652 pE (w 0 22++[eh,eL,dP,dX]) 3 [])<|.bp (.jump 1 [dX,gH,gN,iq])) (.j [])))))) (.j [.i 0,U0,U1,U2])
def qB:=Fo ann
def ahE:bw:=⟨133,[.c (.ptr 0 0)],[.box ([pi 0,pi 1,ps 2,pi 3,pi 4,.p .bool U5,ps 6]++cI 7 7++[.p (.int .u32) bP,.p (.int .u32) bQ,.p (.int .u32) bU,.p (.int .u32) bW,.p (.int .u32) bT,.p (.int .u32) cg,ps 20,ps 21])],22,4,.v (ci 22),[(0,(.box ([pi 23,pi 24,ps 25,pi 3,pi 4,.p .bool U5,ps 6]++cI 7 7++[.p (.int .u32) bP,.p (.int .u32) bQ,.p (.int .u32) bU,.p (.int .u32) bW,.p (.int .u32) bT,.p (.int .u32) cg,ps 20,ps 21])))],qB,719⟩
theorem Td:Ok ahE:=oS (.cons adv (.cons Kq (.cons BE (.cons axd (.cons Ut (.cons afS (.cons Pv (.cons Tz (.cons Kg (.cons Tx (.cons auq (.cons Et (.cons ayI .nil)))))))))))))
def aal:bl:=.op (.call 402 zX (w 0 11) 1 [])<|.no bE<|.ite bG (.j [.i 1,.r0]) (.op (.lit [[((.int .u8),(.i 78))],[((.int .u8),(.i 73))],[((.int .u8),(.i 68))],[((.int .u8),(.i 88))]])<|.rw bN (.i 0) 1<|.cA 718 qd [bN,U0,.i 2] 1<|.cA 718 qd [bQ,U1,.i 2] 1<|.cA 718 qd [bU,U2,.i 4] 1<|.cA 718 qd [bW,U3,.i 8] 1<|.join (.loop [.i 0,bT] (.bI .lss cg (.i 6)<|.ite cL (.op (.du cg 6)<|.op (.gk (w 4 6) cg)<|.op (.conv .i64 cj)<|.cA 718 qd [cp,cm,.i 4] 1<|.bI .add cg (.i 1)<|.j [ck,cr]) (.bp (.jump 1 [cp])))) (.cA 698 CA [bB] 2<|.ln bB<|.cA 718 qd [cg,cj,.i 4] 1<|.op (.app cm cL 1 1)<|.op (.call 333 DC [cr] 1 [0])<|.op (.app cr ck 1 1)<|.j [cp,cf]))
def J5:=Fo aal
def axv:bw:=⟨201,[.agg (cI 0 4++[.p (.int .u32) U4,.p (.int .u32) U5,.p (.int .u32) U6,.p (.int .u32) U7,.p (.int .u32) U8,.p (.int .u32) U9,ps 10])],[],11,2,.bL [.c (.own 0),ci 11],[(0,(.row 5 bG))],J5,720⟩
theorem anW:Ok axv:=oS (.cons amQ (.cons O4 (.cons aef (.cons aeg .nil))))
def apj:bl:=.j []
def Vn:=Fo apj
def s15:bw:=⟨135,[.agg (dh 0 8++[pi 8,pi 9])],[],10,0,.v (.agg (dh 0 8++[pi 8,pi 9])),[],Vn,15⟩
theorem adN:Ok s15:=oS .nil
def adD:bl:=.op (.call 15 Vn (w 4 10) 0 [])<|.j []
def I6:=Fo adD
def s16:bw:=⟨59,[.agg (cI 0 4++dh 4 8++[pi 12,pi 13])],[],14,0,.v (.agg (cI 0 4++dh 4 8++[pi 12,pi 13])),[],I6,16⟩
theorem akP:Ok s16:=oS (.cons adN .nil)
def V9:bl:=.join (.ln U3<|.loop [.i 0,.r0] (.bI .lss U5 U4<|.ite U7 (.rw U3 U5 14<|.cl U8 0 (.int .i64)<|.cl U8 1 (.int .i64)<|.cl U8 2 (.int .i64)<|.cl U8 3 (.int .i64)<|.cl U8 4 .sl<|.cl U8 5 .sl<|.cl U8 6 .sl<|.cl U8 7 .sl<|.cl U8 8 .sl<|.cl U8 9 .sl<|.cl U8 10 .sl<|.cl U8 11 .sl<|.cl U8 12 (.int .i64)<|.cl U8 13 (.int .i64)<|.op (.call 16 I6 (w 9 14) 0 [])<|.op (.lit [[((.int .i64),U9),((.int .i64),bB),((.int .i64),bE),((.int .i64),bG),(.sl,bN),(.sl,bP),(.sl,bQ),(.sl,bU),(.sl,bW),(.sl,bT),(.sl,cg),(.sl,cp),((.int .i64),cL),((.int .i64),cj)]])<|.op (.app U6 cm 14 240)<|.bI .add U5 (.i 1)<|.j [ck,cr]) (.bp (.jump 1 [U6])))) (.j [U4])
def Is:=Fo V9
def XJ:bw:=⟨16,[.agg [pi 0,pi 1,.p .bool U2,ps 3]],[],4,1,.v (.agg [pi 0,pi 1,.p .bool U2,.own 0]),[(0,(.row 150 U4))],Is,17⟩
theorem MJ:Ok XJ:=oS (.cons akP .nil)
def KS:List L->Option (List L):=Is
def aqf:bw:=⟨16,[.agg [pi 0,pi 1,.p .bool U2,ps 3]],[],4,1,.v (.agg [pi 0,pi 1,.p .bool U2,ps 4]),[],Is,2052⟩
theorem WK:aqf.ok Tryz.prog:=mJ (s:=XJ) MJ rfl (x:=(.v 4)) (e:=150) rfl rfl 2052
def aqz:bl:=.join (.ln U0<|.loop [.i 0] (.bI .lss U3 U2<|.ite U4 (.rw U0 U3 1<|.cl U5 0 (.int .u64)<|.op (.bi .eql .u64 U1 U6)<|.ite U7 (.bp (.jump 2 [U3])) (.bI .add U3 (.i 1)<|.j [U8])) (.bp (.jump 1 [])))) (.j [.i (-1)])
def RQ:=Fo aqz
def ajv:bw:=⟨351,[cs 0,.c (.p (.int .u64) U1)],[],2,1,.v (ci 2),[],RQ,157⟩
theorem ahN:Ok ajv:=oS .nil
def amx:bl:=.cA 157 RQ [U0,U1] 1<|.bI .geq U2 (.i 0)<|.j [U3]
def Q6:=Fo amx
def alM:bw:=⟨309,[cs 0,.c (.p (.int .u64) U1)],[],2,1,.v (.c (.p .bool U2)),[],Q6,160⟩
theorem aAh:Ok alM:=oS (.cons ahN .nil)
def ayx:bl:=.cA 160 Q6 [U4,U0] 1<|.j [U5]
def Hq:=Fo ayx
def aqg:bw:=⟨308,[.agg [.p (.int .u64) U0,.p (.int .u32) U1,pi 2,pi 3],.c (.ptr 0 0)],[.box [ps 4]],5,1,.v (.c (.p .bool U5)),[(0,(.box [ps 4]))],Hq,161⟩
theorem VU:Ok aqg:=oS (.cons aAh .nil)
def aeH:bl:=.join (.ln U0<|.loop [.i 0] (.bI .lss U2 U1<|.ite U3 (.rw U0 U2 4<|.op (.rc U0 U2 0 (.int .u64))<|.op (.rc U0 U2 1 (.int .u32))<|.op (.rc U0 U2 2 (.int .i64))<|.op (.rc U0 U2 3 (.int .i64))<|.cA 161 Hq [U5,U6,U7,U8,.r0] 1<|.ite U9 (.bp (.jump 2 [U2])) (.bI .add U2 (.i 1)<|.j [bB])) (.bp (.jump 1 [])))) (.j [.i (-1)])
def HJ:=Fo aeH
def abB:bw:=⟨227,[.c (.own 0),.c (.fn 308 [1])],[.row 164 U0,.box [.nil]],1,1,.v (ci 1),[(0,(.row 164 U0)),(1,(.box [.p .sl .r0]))],HJ,162⟩
theorem akD:Ok abB:=oS (.cons VU .nil)
def Tg:bl:=.cA 162 HJ [U0] 1<|.bI .eql U1 (.i (-1))<|.ite U2 (.j []) (.join (.bI .add U1 (.i 1)<|.loop [U1,U3,U0] (.ln U6<|.bI .lss U5 U7<|.ite U8 (.join (.rw U6 U5 4<|.op (.rc U6 U5 0 (.int .u64))<|.op (.rc U6 U5 1 (.int .u32))<|.op (.rc U6 U5 2 (.int .i64))<|.op (.rc U6 U5 3 (.int .i64))<|.cA 161 Hq [bB,bE,bG,bN,.r0] 1<|.no bP<|.ite bQ (.rw U6 U4 4<|.op (.set U6 U4 0 [((.int .u64),bB),((.int .u32),bE),((.int .i64),bG),((.int .i64),bN)])<|.bI .add U4 (.i 1)<|.j [bT,bW]) (.j [U4,U6])) (.bI .add U5 (.i 1)<|.j [U9,bE,bB])) (.bp (.jump 1 [U4,U6])))) (.ln U4<|.op (.cut U4 U3 U5 4)<|.op (.du (.i 0) 0)<|.j []))
def Mk:=Fo Tg
def auY:bw:=⟨307,[.c (.own 0),.c (.fn 308 [1])],[.row 164 U0,.box [.nil]],1,0,.v (.c (.own 0)),[(0,(.row 164 U0)),(1,(.box [.p .sl .r0]))],Mk,163⟩
theorem afk:auY.ok Tryz.prog:=g_ Tg atH (.cons akD (.cons VU .nil)) Tryz.func307 kr kr rfl
def arO:bl:=.cA 123 zl [.r0] 1<|.cA 163 Mk [U1] 0<|.op (.call 123 zl [U0] 1 [0])<|.op (.app U1 U2 4 32)<|.op (.call 123 zl [U3] 1 [0])<|.j [U4]
def M2:=Fo arO
def akw:bw:=⟨258,[.c .nil,.c (.own 0),.c .nil],[.row 164 U0],1,1,.v (.c (.own 1)),[(1,(.row 164 U1)),(0,(.row 164 U0))],M2,166⟩
theorem aar:Ok akw:=oS (.cons afk (.cons azx .nil))
def acx:bl:=.cA 92 zE [U0,U1,U2,U3,U4,U5,U6,U7,U8,U9] 1<|.no bB<|.ite bE (.j [.r0]) (.op (.lit [[(.sl,U0)],[(.sl,U1)],[(.sl,U2)],[(.sl,U3)],[(.sl,U4)],[(.sl,U5)],[(.sl,U6)],[(.sl,U7)]])<|.cA 64 JY [bG] 1<|.cA 166 M2 [bN] 1<|.j [bP])
def Ao:=Fo acx
def ajH:bw:=⟨196,[.agg (dh 0 8++[pi 8,pi 9])],[],10,1,.v (.c (.own 0)),[(0,(.row 164 bB))],Ao,168⟩
theorem I7:Ok ajH:=oS (.cons aar (.cons Md (.cons alS .nil)))
def aqj:bl:=.join (.bI .lss U0 (.i 1)<|.ite bP (.j [.b true]) (.bI .gtr U0 (.i 8)<|.ite bQ (.j [.b true]) (.bI .lss U1 (.i 0)<|.ite bU (.j [.b true]) (.bI .gtr U1 (.i 4294967295)<|.ite bW (.j [.b true]) (.bI .lss U2 (.i 1)<|.ite bT (.j [.b true]) (.bI .gtr U2 (.i 3)<|.j [cg])))))) (.ite bP (.j [.b false]) (.join (.bI .lss U3 (.i 16)<|.ite bQ (.j [.b true]) (.bI .gtr U3 (.i 1048576)<|.ite bU (.j [.b true]) (.bI .rem U3 (.i 8)<|.bI .neq bW (.i 0)<|.ite bT (.j [.b true]) (.cA 92 zE [U4,U5,U6,U7,U8,U9,bB,bE,bG,bN] 1<|.no cg<|.j [cp])))) (.ite bQ (.j [.b false]) (.join (.cA 168 Ao [U4,U5,U6,U7,U8,U9,bB,bE,bG,bN] 1<|.cA 186 Jp [bU,U3] 2<|.ite bW (.bI .add (.i 16) bG<|.bI .add cg bN<|.bI .eql U3 cp<|.j [cL]) (.j [.b false])) (.j [bU])))))
def AN:=Fo aqj
def aty:bw:=⟨118,[.agg (cI 0 4++dh 4 8++[pi 12,pi 13])],[],14,1,.v (.c (.p .bool bP)),[],AN,187⟩
theorem VO:Ok aty:=oS (.cons I7 (.cons Md (.cons aeQ .nil)))
def ahw:bl:=.op (.call 187 AN (w 0 14) 1 [])<|.no bQ<|.ite bU (.j [.i 1,.i 0,.i 0,.i 0,.i 0,.r0,.r0,.r0,.r0,.r0,.r0,.r0,.r0,.i 0,.i 0]) (.bI .neq U2 bP<|.ite bW (.j [.i 12,.i 0,.i 0,.i 0,.i 0,.r0,.r0,.r0,.r0,.r0,.r0,.r0,.r0,.i 0,.i 0]) (.bI .add U2 (.i 1)<|.op (.call 686 DY (w 4 10++[.i 0]) 10 [])<|.bp (.jump 0 ([.i 0,U0,U1,bT,U3]++w 19 10))))
def Ro:=Fo ahw
def asi:bw:=⟨268,[.agg (cI 0 4++dh 4 8++[pi 12,pi 13]),ci 14],[],15,15,.bL [.agg (cI 16 4++dh 20 8++[pi 28,pi 29]),ci 15],[],Ro,722⟩
theorem afj:Ok asi:=oS (.cons VO (.cons O' .nil))
def amw:bl:=.op (.call 722 Ro (w 0 14++[.i 2]) 15 [])<|.bp (.jump 0 (w 14 15))
def KE:=Fo amw
def amz:bw:=⟨204,[.agg (cI 0 4++dh 4 8++[pi 12,pi 13])],[],14,15,.bL [.agg (cI 15 4++dh 19 8++[pi 27,pi 28]),ci 14],[],KE,723⟩
theorem ajx:Ok amz:=oS (.cons afj .nil)
def amu:bl:=.cA 337 r4 [.i 1,U3,cj] 1<|.cA 377 Fg [U0,U1,U2,ik] 2<|.bI .neq iZ (.i 0)<|.ite jl (.j [iZ,.i 0,.i 0,.i 0,.i 0,.i 0,.i 0,.i 0,.i 0,.i 0,.i 0,.r0,.r0]) (.cA 376 r_ [U0,U1,U2,ik,.i 0,jD] 2<|.cA 660 M6 [lx] 4<|.bI .neq mw (.i 0)<|.ite w7 (.j [mw,.i 0,.i 0,.i 0,.i 0,.i 0,.i 0,.i 0,.i 0,.i 0,.i 0,.r0,.r0]) (.op (.call 168 Ao (w 26 10) 1 [])<|.cA 713 Jf [lx,ru,pd,jM,yH] 13<|.bI .neq kb (.i 0)<|.ite DF (.j [kb,.i 0,.i 0,.i 0,.i 0,.i 0,.i 0,.i 0,.i 0,.i 0,.i 0,.r0,.r0]) (.op (.call 720 J5 (w 50 11) 2 [1])<|.op (.lit [[(.sl,If)]])<|.op (.app oD I0 1 24)<|.bp (.jump 0 ([uw]++w 50 11++[Cl])))))
def D5:=Fo amu
def ajO:bw:=⟨127,[.c (.ptr 0 0),.agg (cI 22 4++dh 26 8++[pi 34,pi 35])],[.box ([pi 0,pi 1,ps 2,pi 3,pi 4,.p .bool U5,ps 6]++cI 7 7++[.p (.int .u32) bP,.p (.int .u32) bQ,.p (.int .u32) bU,.p (.int .u32) bW,.p (.int .u32) bT,.p (.int .u32) cg,ps 20,ps 21])],36,13,.v (ci 36),[(0,(.box ([pi 0,pi 1,ps 2,pi 3,pi 4,.p .bool U5,ps 6,.p (.int .i64) (.i 1),pi 22,.p (.int .i64) (.i 0)]++cI 37 4++[.p (.int .u32) lx,.p (.int .u32) mw,.p (.int .u32) ru,.p (.int .u32) pd,.p (.int .u32) jM,.p (.int .u32) w7,.own 1,.own 2]))),(1,(.row 164 yH)),(2,(.row 95 kb))],D5,724⟩
theorem Pw:Ok ajO:=oS (.cons I7 (.cons anW (.cons acQ (.cons azT (.cons aoA (.cons Hg (.cons aht .nil)))))))
def agl:bl:=.cA 168 Ao [U0,U1,U2,U3,U4,U5,U6,U7,U8,U9] 1<|.ln bB<|.j [bE]
def KV:=Fo agl
def anA:bw:=⟨119,[.agg (dh 0 8++[pi 8,pi 9])],[],10,1,.v (ci 10),[],KV,171⟩
theorem ays:Ok anA:=oS (.cons I7 .nil)
def azh:bl:=.join (.bI .lss U0 (.i 0)<|.ite U4 (.j [.b true]) (.bI .geq U0 (.i 4)<|.ite U5 (.j [.b true]) (.cA 5 F5 [.i 4096] 1<|.bI .add (.i 16) U6<|.bI .lss U1 U7<|.ite U8 (.j [.b true]) (.bI .gtr U1 (.i 262144)<|.j [U9])))) (.ite U4 (.j [.b false]) (.join (.ln U3<|.bI .lss U5 (.i 1)<|.ite U6 (.j [.b true]) (.ln U3<|.bI .gtr U7 (.i 8)<|.j [U8])) (.ite U5 (.j [.b false]) (.join (.ln U3<|.loop [.i 0] (.bI .lss U7 U6<|.ite U8 (.rw U3 U7 14<|.cl U9 0 (.int .i64)<|.cl U9 1 (.int .i64)<|.cl U9 2 (.int .i64)<|.cl U9 3 (.int .i64)<|.cl U9 4 .sl<|.cl U9 5 .sl<|.cl U9 6 .sl<|.cl U9 7 .sl<|.cl U9 8 .sl<|.cl U9 9 .sl<|.cl U9 10 .sl<|.cl U9 11 .sl<|.cl U9 12 (.int .i64)<|.cl U9 13 (.int .i64)<|.ln U3<|.bI .sub cr (.i 1)<|.bI .eql U7 ck<|.join (.cA 187 AN [bB,bE,bG,bN,bP,bQ,bU,bW,bT,cg,cp,cL,cj,cm] 1<|.no cw<|.ite c9 (.j [.b true]) (.bI .gtr U7 (.i 0)<|.ite dX (.bI .sub U7 (.i 1)<|.rw U3 eh 14<|.cl eL 0 (.int .i64)<|.bI .leq bB dP<|.ite gH (.j [.b true]) (.bI .eql bG (.i 1)<|.op (.bb .neq gN cf)<|.ite iq (.j [.b true]) (.bI .mul (.i 2) U1<|.bI .gtr bN ik<|.j [jD]))) (.bI .eql bG (.i 1)<|.op (.bb .neq eh cf)<|.ite eL (.j [.b true]) (.bI .mul (.i 2) U1<|.bI .gtr bN dP<|.j [gH])))) (.ite cw (.bp (.jump 2 [.b false])) (.bI .add U7 (.i 1)<|.j [c9]))) (.bp (.jump 1 [])))) (.ln U3<|.bI .sub U6 (.i 1)<|.rw U3 U7 14<|.cl U8 0 (.int .i64)<|.cl U8 1 (.int .i64)<|.cl U8 2 (.int .i64)<|.cl U8 3 (.int .i64)<|.cl U8 4 .sl<|.cl U8 5 .sl<|.cl U8 6 .sl<|.cl U8 7 .sl<|.cl U8 8 .sl<|.cl U8 9 .sl<|.cl U8 10 .sl<|.cl U8 11 .sl<|.cl U8 12 (.int .i64)<|.cl U8 13 (.int .i64)<|.cA 171 KV [bN,bP,bQ,bU,bW,bT,cg,cp,cL,cj] 1<|.cA 5 F5 [.i 0] 1<|.bI .mul cm cr<|.bI .add bG ck<|.bI .mul (.i 2) U1<|.bI .leq cf cw<|.j [c9])))))
def tJ:=Fo azh
def awe:bw:=⟨54,[.agg [pi 0,pi 1,.p .bool U2,ps 3]],[],4,1,.v (.c (.p .bool U4)),[],tJ,190⟩
theorem Ny:Ok awe:=oS (.cons ays (.cons VO (.cons D2 .nil)))
def asd:bl:=.bI .eql U0 bP<|.j [c9]
def Hf:=Fo asd
def asN:bw:=⟨269,[.agg (cI 0 4++dh 4 8++[pi 12,pi 13]),.c (.ptr 0 0)],[.box (cI 14 4++dh 18 8++[pi 26,pi 27])],28,1,.v (.c (.p .bool c9)),[(0,(.box (cI 14 4++dh 18 8++[pi 26,pi 27])))],Hf,725⟩
theorem afT:Ok asN:=oS .nil
def apY:bl:=.join (.ln U0<|.loop [.i 0] (.bI .lss bU bQ<|.ite bW (.rw U0 bU 14<|.cl bT 0 (.int .i64)<|.cl bT 1 (.int .i64)<|.cl bT 2 (.int .i64)<|.cl bT 3 (.int .i64)<|.cl bT 4 .sl<|.cl bT 5 .sl<|.cl bT 6 .sl<|.cl bT 7 .sl<|.cl bT 8 .sl<|.cl bT 9 .sl<|.cl bT 10 .sl<|.cl bT 11 .sl<|.cl bT 12 (.int .i64)<|.cl bT 13 (.int .i64)<|.op (.call 725 Hf (w 19 14++w 1 14) 1 [])<|.ite gH (.bp (.jump 2 [bU])) (.bI .add bU (.i 1)<|.j [gN])) (.bp (.jump 1 [])))) (.j [.i (-1)])
def L':=Fo apY
def atM:bw:=⟨202,[cs 0,.c (.fn 269 [0])],[.box (cI 1 4++dh 5 8++[pi 13,pi 14])],15,1,.v (ci 15),[(0,(.box (cI 1 4++dh 5 8++[pi 13,pi 14])))],L',726⟩
theorem agC:Ok atM:=oS (.cons afT .nil)
def avd:bl:=.cA 2072 Cj [U3] 0<|.join (.ln U3<|.loop [.i 0,U3] (.bI .lss U5 U4<|.ite U7 (.rw U6 U5 14<|.op (.rc U6 U5 0 (.int .i64))<|.op (.rc U6 U5 1 (.int .i64))<|.op (.rc U6 U5 2 (.int .i64))<|.op (.rc U6 U5 3 (.int .i64))<|.op (.rc U6 U5 4 .sl)<|.op (.rc U6 U5 5 .sl)<|.op (.rc U6 U5 6 .sl)<|.op (.rc U6 U5 7 .sl)<|.op (.rc U6 U5 8 .sl)<|.op (.rc U6 U5 9 .sl)<|.op (.rc U6 U5 10 .sl)<|.op (.rc U6 U5 11 .sl)<|.op (.rc U6 U5 12 (.int .i64))<|.op (.rc U6 U5 13 (.int .i64))<|.op (.call 697 CJ (w 9 14) 10 [])<|.rw U6 U5 14<|.op (.set U6 U5 0 [((.int .i64),U9),((.int .i64),bB),((.int .i64),bE),((.int .i64),bG),(.sl,cm),(.sl,cr),(.sl,ck),(.sl,cf),(.sl,cw),(.sl,c9),(.sl,dX),(.sl,eh),((.int .i64),eL),((.int .i64),dP)])<|.bI .add U5 (.i 1)<|.j [iq,gN]) (.bp (.jump 1 [U6])))) (.j [U4])
def I1:=Fo avd
def aow:bw:=⟨270,[.agg [pi 0,pi 1,.p .bool U2,ps 3]],[],4,1,.v (.agg [pi 0,pi 1,.p .bool U2,.own 0]),[(0,(.row 150 U4))],I1,727⟩
theorem ada:Ok aow:=oS (.cons X7 (.cons Yu .nil))
def R7:bl:=.op (.call 190 tJ (w 0 4) 1 [])<|.no bT<|.ite cg (.j [.i 1,.i 0,.i 0,.b false,.r0]) (.op (.call 726 L' (w 3 15) 1 [])<|.bI .lss cp (.i 0)<|.ite cL (.j [.i 6,.i 0,.i 0,.b false,.r0]) (.op (.call 727 I1 (w 0 4) 1 [])<|.op (.call 697 CJ (w 4 14) 10 [])<|.rw cj cp 14<|.op (.set cj cp 0 [((.int .i64),U4),((.int .i64),U5),((.int .i64),U6),((.int .i64),U7),(.sl,cm),(.sl,cr),(.sl,ck),(.sl,cf),(.sl,cw),(.sl,c9),(.sl,dX),(.sl,eh),((.int .i64),eL),((.int .i64),dP)])<|.cA 190 tJ [U0,U1,U2,gN] 1<|.no iq<|.ite ik (.j [.i 1,.i 0,.i 0,.b false,.r0]) (.j [.i 0,U0,U1,U2,gN])))
def J':=Fo R7
def Pj:bw:=⟨205,[.agg [pi 0,pi 1,.p .bool U2,ps 3],.agg (cI 4 4++dh 8 8++[pi 16,pi 17])],[],18,5,.bL [.agg [pi 19,pi 20,.p .bool cL,.own 0],ci 18],[(0,(.row 150 cj))],J',728⟩
theorem XA:Ok Pj:=oS (.cons ada (.cons agC (.cons Ny (.cons X7 (.cons OT .nil)))))
def Sl:List L->Option (List L):=J'
def adJ:bw:=⟨205,[.agg [pi 0,pi 1,.p .bool U2,ps 3],.agg (cI 4 4++dh 8 8++[pi 16,pi 17])],[],18,5,.bL [.agg [pi 19,pi 20,.p .bool cL,ps 22],ci 18],[],J',2057⟩
theorem ane:adJ.ok Tryz.prog:=mJ (s:=Pj) XA rfl (x:=(.v 22)) (e:=150) rfl rfl 2057
def TTd:bV:=TT++([0,1,6,7,8,10,11,12,13,14,15,16,17,18,19,20,21,22,27,30,35,37,38,39,41,44,46,49,50,51,52,53,54,56,59,62,65,66,67,68,69,70,71,72,73,74,75,76,77,79,80,81,82,83,84,87,89,91,92,93,94,96,98,99,100,101,102,103,104,105,106,107,108,109,110,111,112,113,115,116,118,120,121,122,123,124,125,126,127,128,129].map λi=>(i,eW Tryz.prog i))
theorem tq:bV.ok Tryz.prog TTd:=bV.wH kr
def aey:bl:=.op (.call 680 As (w 0 22) 1 [])<|.rw U6 cj 14<|.cl cm 0 (.int .i64)<|.cl cm 1 (.int .i64)<|.cl cm 2 (.int .i64)<|.cl cm 3 (.int .i64)<|.cl cm 4 .sl<|.cl cm 5 .sl<|.cl cm 6 .sl<|.cl cm 7 .sl<|.cl cm 8 .sl<|.cl cm 9 .sl<|.cl cm 10 .sl<|.cl cm 11 .sl<|.cl cm 12 (.int .i64)<|.cl cm 13 (.int .i64)<|.op (.call 723 KE (w 24 14) 15 [])<|.bI .neq iZ (.i 0)<|.ite wG (.bp (.jump 0 ([iZ]++w 0 7))) (.op (.call 2057 Sl (w 3 4++w 39 14) 5 [])<|.bI .neq zm (.i 0)<|.ite Dj (.bp (.jump 0 ([zm]++w 0 7))) (.join (.op (.call 671 sY (w 0 22++[.i 6,.b true]) 1 [])<|.op (.call 671 sY (w 0 22++[.i 6,.b false]) 1 [])<|.cA 2062 E3 [U0,U1,U2,yV,DF] 4<|.op (.call 652 pE (w 0 22++[If,I0,Cl,uw]) 3 [])<|.bI .eql uw (.i 0)<|.ite QE (.bp (.jump 0 ([uw,BV,sZ,KD]++w 55 4))) (.bp (.jump 0 ([uw,BV,sZ,KD]++w 3 4)))) (.bp (.jump 0 (w 60 8)))))
def Ff:=Fo aey
def ars:bw:=⟨130,[.c (.ptr 0 0)],[.box ([pi 0,pi 1,ps 2,pi 3,pi 4,.p .bool U5,ps 6]++cI 7 7++[.p (.int .u32) bP,.p (.int .u32) bQ,.p (.int .u32) bU,.p (.int .u32) bW,.p (.int .u32) bT,.p (.int .u32) cg,ps 20,ps 21])],22,8,.v (ci 22),[(0,(.box ([pi 23,pi 24,ps 25,pi 26,pi 27,.p .bool c9,ps 29]++cI 7 7++[.p (.int .u32) bP,.p (.int .u32) bQ,.p (.int .u32) bU,.p (.int .u32) bW,.p (.int .u32) bT,.p (.int .u32) cg,ps 20,ps 21])))],Ff,729⟩
theorem Yq:Ok ars:=oS (.cons ane (.cons XA (.cons ajx (.cons Tz (.cons Kg (.cons L7 (.cons Tx (.cons Et .nil))))))))
def TP:bl:=.bI .eql U7 (.i 1)<|.ite cj (.op (.call 661 yo (w 3 4) 15 [])<|.no cm<|.ite iZ (.cA 667 my [] 0<|.op (.lit [[((.int .i64),(.i 0)),((.int .i64),(.i 6))]])<|.bp (.jump 0 ([jl]++w 0 7++[.i 0,.i 0,.i 0,.i 0,.i 0,.i 0,.i 0,.i 0,.i 0,.i 0,.i 0,.i 0,.i 0,.r0,.r0]))) (.join (.op (.call 724 D5 (w 0 22++w 24 14) 13 [])<|.bI .neq jl (.i 0)<|.ite mR (.op (.du (.i 0) 0)<|.bp (.jump 0 (w 40 12))) (.bp (.jump 0 (w 40 12)))) (.bp (.jump 0 ([.r0]++w 0 7++[.i 2,cr,.i 0]++w 39 12))))) (.join (.join (.op (.call 680 As (w 0 22) 1 [])<|.bI .lss cm (.i 0)<|.ite cr (.j [.b true]) (.op (.call 657 tT (w 0 22) 1 [])<|.no ck<|.j [cf])) (.ite cm (.op (.du (.i 0) 0)<|.j []) (.j []))) (.join (.bI .eql U7 (.i 7)<|.ite cm (.join (.op (.call 729 Ff (w 0 22) 8 [])<|.bI .neq cr (.i 0)<|.ite dP (.op (.du (.i 0) 0)<|.bp (.jump 0 (w 25 7))) (.bp (.jump 0 (w 25 7)))) (.bp (.jump 0 (w 24 7++[.i 8,U9])))) (.bI .eql U7 (.i 8)<|.ite cr (.join (.cA 337 r4 [.i 1,U3,U8] 1<|.cA 2058 AD [U0,U1,U2,ck] 4<|.op (.call 652 pE (w 0 22++[cw,c9,dX,cf]) 3 [])<|.bI .neq cf (.i 0)<|.ite gH (.op (.du (.i 0) 0)<|.j [eh,eL,dP]) (.j [eh,eL,dP])) (.cA 667 my [] 0<|.op (.lit [[((.int .i64),U8),((.int .i64),(.i 0))]])<|.bp (.jump 1 ([c9,ck,cf,cw]++w 3 4++[.i 0,.i 0,.i 0,.i 0,.i 0,.i 0,.i 0,.i 0,.i 0,.i 0,.i 0,.i 0,.i 0,.r0,.r0])))) (.join (.op (.call 719 qB (w 0 22) 4 [])<|.bI .neq ck (.i 0)<|.ite dX (.op (.du (.i 0) 0)<|.j [cf,cw,c9]) (.j [cf,cw,c9])) (.op (.call 649 nU ([ck,cf,cw]++w 3 19) 2 [])<|.bp (.jump 0 ([ck,cf,cw]++w 3 4++[c9,dX])))))) (.bp (.jump 0 ([.r0]++w 23 8++[U8,eL]++w 10 12)))))
def oz:=Fo TP
def aki:bw:=⟨58,[.c (.ptr 0 0)],[.box ([pi 0,pi 1,ps 2,pi 3,pi 4,.p .bool U5,ps 6]++cI 7 7++[.p (.int .u32) bP,.p (.int .u32) bQ,.p (.int .u32) bU,.p (.int .u32) bW,.p (.int .u32) bT,.p (.int .u32) cg,ps 20,ps 21])],22,23,.v (.c (.own 1)),[(1,(.row 77 cj)),(0,(.box ([pi 23,pi 24,ps 25,pi 26,pi 27,.p .bool c9,ps 29]++cI 30 7++[.p (.int .u32) jD,.p (.int .u32) iZ,.p (.int .u32) jl,.p (.int .u32) jO,.p (.int .u32) lx,.p (.int .u32) mw,ps 43,ps 44])))],oz,730⟩
theorem O3:aki.ok Tryz.prog:=g_ TP tq (.cons Yq (.cons Pw (.cons Td (.cons Kq (.cons BE (.cons L7 (.cons CW (.cons Vz (.cons Hg (.cons UE (.cons Et (.cons RO .nil)))))))))))) Tryz.func58 kr kr rfl
end
section
open Go.RowKit
def Yl:bl:=.join (.op (.call 190 tJ (w 3 4) 1 [])<|.no cj<|.ite cm (.j [.i 1]) (.op (.call 664 uJ (w 7 15) 1 [])<|.no cr<|.ite ck (.j [.i 12]) (.bI .eql U1 (.i 0)<|.ite cf (.j [.i 13]) (.j [.i 0])))) (.bI .neq cj (.i 0)<|.ite cm (.j [cj,.i 0,.i 0,.r0,.i 0,.i 0,.b false,.r0,.i 0,.i 0,.i 0,.i 0,.i 0,.i 0,.i 0,.i 0,.i 0,.i 0,.i 0,.i 0,.i 0,.r0,.r0,.r0]) (.cA 2054 LV [U0,U1,U2] 1<|.op (.call 2053 JK (w 3 4) 1 [])<|.op (.call 665 zj (w 7 15) 1 [])<|.op (.call 730 oz ([U0,U1,cr,U3,U4,U5,ck]++w 7 14++[cf]) 23 [])<|.bp (.jump 0 ([.i 0]++w 28 22++[cw]))))
def KH:=Fo Yl
def auo:bw:=⟨14,[.agg [pi 0,pi 1,ps 2],.agg [pi 3,pi 4,.p .bool U5,ps 6],.agg (cI 7 7++[.p (.int .u32) bP,.p (.int .u32) bQ,.p (.int .u32) bU,.p (.int .u32) bW,.p (.int .u32) bT,.p (.int .u32) cg,ps 20,ps 21])],[],22,24,.bL [.agg [pi 23,pi 24,ps 25],.agg [pi 26,pi 27,.p .bool c9,ps 29],.agg (cI 30 7++[.p (.int .u32) jD,.p (.int .u32) iZ,.p (.int .u32) jl,.p (.int .u32) jO,.p (.int .u32) lx,.p (.int .u32) mw,ps 43,ps 44]),.c (.own 0),ci 22],[(0,(.row 77 jM))],KH,731⟩
theorem XB:auo.ok Tryz.prog:=g_ Yl tq (.cons O3 (.cons Ny (.cons Kr (.cons Ky (.cons S7 (.cons ML (.cons Yg (.cons GX .nil)))))))) Tryz.func14 kr kr rfl
def P5:bl:=.bI .eql U7 (.i 1)<|.ite cj (.op (.call 661 yo (w 3 4) 15 [])<|.no cm<|.ite iZ (.cA 667 my [] 0<|.op (.lit [[((.int .i64),(.i 0)),((.int .i64),(.i 6))]])<|.bp (.jump 0 ([jl]++w 0 7++[.i 0,.i 0,.i 0,.i 0,.i 0,.i 0,.i 0,.i 0,.i 0,.i 0,.i 0,.i 0,.i 0,.r0,.r0]))) (.join (.op (.call 724 D5 (w 0 22++w 24 14) 13 [])<|.bI .neq jl (.i 0)<|.ite mR (.op (.du (.i 0) 0)<|.bp (.jump 0 (w 40 12))) (.bp (.jump 0 (w 40 12)))) (.bp (.jump 0 ([.r0]++w 0 7++[.i 2,cr,.i 0]++w 39 12))))) (.join (.join (.op (.call 680 As (w 0 22) 1 [])<|.bI .lss cm (.i 0)<|.ite cr (.j [.b true]) (.op (.call 657 tT (w 0 22) 1 [])<|.no ck<|.j [cf])) (.ite cm (.op (.du (.i 0) 0)<|.j []) (.j []))) (.join (.bI .eql U7 (.i 7)<|.ite cm (.join (.op (.call 729 Ff (w 0 22) 8 [])<|.bI .neq cr (.i 0)<|.ite dP (.op (.du (.i 0) 0)<|.bp (.jump 0 (w 25 7))) (.bp (.jump 0 (w 25 7)))) (.bp (.jump 0 (w 24 7++[.i 8,U9])))) (.bI .eql U7 (.i 8)<|.ite cr (.join (.cA 337 r4 [.i 1,U3,U8] 1<|.cA 2058 AD [U0,U1,U2,ck] 4<|.op (.call 652 pE (w 0 22++[cw,c9,dX,cf]) 3 [])<|.bI .neq cf (.i 0)<|.ite gH (.op (.du (.i 0) 0)<|.j [eh,eL,dP]) (.j [eh,eL,dP])) (.cA 667 my [] 0<|.op (.lit [[((.int .i64),U8),((.int .i64),(.i 0))]])<|.bp (.jump 1 ([c9,ck,cf,cw]++w 3 4++[.i 0,.i 0,.i 0,.i 0,.i 0,.i 0,.i 0,.i 0,.i 0,.i 0,.i 0,.i 0,.i 0,.r0,.r0])))) (.join (.op (.call 719 qB (w 0 22) 4 [])<|.bI .neq ck (.i 0)<|.ite dX (.op (.du (.i 0) 0)<|.j [cf,cw,c9]) (.j [cf,cw,c9])) (.op (.call 649 nU ([ck,cf,cw]++w 3 19) 2 [])<|.bp (.jump 0 ([ck,cf,cw]++w 3 4++[c9,dX])))))) (.bp (.jump 0 ([.r0]++w 23 8++[U8,eL]++w 10 12)))))
def Bx:=Fo P5
def aqw:bw:=⟨58,[.c (.ptr 0 0)],[.box ([pi 0,pi 1,ps 2,pi 3,pi 4,.p .bool U5,ps 6]++cI 7 7++[.p (.int .u32) bP,.p (.int .u32) bQ,.p (.int .u32) bU,.p (.int .u32) bW,.p (.int .u32) bT,.p (.int .u32) cg,.own 1,.own 2]),.row 164 cp,.row 95 cL],22,23,.v (.c (.own 3)),[(3,(.row 77 cj)),(0,(.box ([pi 23,pi 24,ps 25,pi 26,pi 27,.p .bool c9,ps 29]++cI 30 7++[.p (.int .u32) jD,.p (.int .u32) iZ,.p (.int .u32) jl,.p (.int .u32) jO,.p (.int .u32) lx,.p (.int .u32) mw,ps 43,ps 44])))],Bx,732⟩
theorem acb:aqw.ok Tryz.prog:=g_ P5 tq (.cons Yq (.cons Pw (.cons Td (.cons Kq (.cons BE (.cons L7 (.cons CW (.cons Vz (.cons Hg (.cons UE (.cons Et (.cons RO .nil)))))))))))) Tryz.func58 kr kr rfl
def VP:bl:=.join (.op (.call 190 tJ (w 3 4) 1 [])<|.no cj<|.ite cm (.j [.i 1]) (.op (.call 664 uJ (w 7 15) 1 [])<|.no cr<|.ite ck (.j [.i 12]) (.bI .eql U1 (.i 0)<|.ite cf (.j [.i 13]) (.j [.i 0])))) (.bI .neq cj (.i 0)<|.ite cm (.j [cj,.i 0,.i 0,.r0,.i 0,.i 0,.b false,.r0,.i 0,.i 0,.i 0,.i 0,.i 0,.i 0,.i 0,.i 0,.i 0,.i 0,.i 0,.i 0,.i 0,.r0,.r0,.r0]) (.cA 2054 LV [U0,U1,U2] 1<|.op (.call 2053 JK (w 3 4) 1 [])<|.op (.call 665 zj (w 7 15) 1 [])<|.op (.call 732 Bx ([U0,U1,cr,U3,U4,U5,ck]++w 7 14++[cf]) 23 [])<|.bp (.jump 0 ([.i 0]++w 28 22++[cw]))))
def GW:=Fo VP
def acB:bw:=⟨14,[.agg [pi 0,pi 1,ps 2],.agg [pi 3,pi 4,.p .bool U5,ps 6],.agg (cI 7 7++[.p (.int .u32) bP,.p (.int .u32) bQ,.p (.int .u32) bU,.p (.int .u32) bW,.p (.int .u32) bT,.p (.int .u32) cg,.own 0,.own 1])],[.row 164 cp,.row 95 cL],22,24,.bL [.agg [pi 23,pi 24,ps 25],.agg [pi 26,pi 27,.p .bool c9,ps 29],.agg (cI 30 7++[.p (.int .u32) jD,.p (.int .u32) iZ,.p (.int .u32) jl,.p (.int .u32) jO,.p (.int .u32) lx,.p (.int .u32) mw,ps 43,ps 44]),.c (.own 2),ci 22],[(2,(.row 77 jM))],GW,733⟩
theorem UH:acB.ok Tryz.prog:=g_ VP tq (.cons acb (.cons O3 (.cons Ny (.cons Kr (.cons Ky (.cons S7 (.cons ML (.cons Yg (.cons GX .nil))))))))) Tryz.func14 kr kr rfl
def OS:bl:=.cA 667 my [] 0<|.cA 666 EK [.i 0,.i 0,.i 0,.i 0,.i 0,.i 0,.i 0,.i 0,.i 0,.i 0,.i 0,.i 0,.i 0,.r0,.r0] 2<|.join (.loop ([.i 0]++w 0 7++[bB,.i 0,.i 0,.i 0,.i 0,.i 0,.i 0,.i 0,.i 0,.i 0,.i 0,.i 0,.i 0,.r0,bE,U7]) (.bI .lss bG (.i 60)<|.ite ik (.join (.bI .eql bG U9<|.ite jD (.op (.call 611 AQ (w 13 7++[iq,U8]) 8 [])<|.bp (.jump 0 (w 39 7++[iZ]))) (.bp (.jump 0 (w 13 7++[iq])))) (.cA 2051 Mm [jD,iZ,jl] 1<|.op (.call 2052 KS (w 40 4) 1 [])<|.op (.call 731 KH ([jD,iZ,jM,jO,lx,mw,w7]++w 20 15) 24 [])<|.bI .neq yH (.i 0)<|.ite OR (.bp (.jump 2 ([.b false]++w 37 7++[.i 0,.i 0,pd]))) (.cA 2055 ti [kb,oD,wK] 1<|.op (.call 2056 Um (w 51 4) 1 [])<|.ln yP<|.bI .gtr U74 (.i 0)<|.ite U75 (.rw yP (.i 0) 2<|.op (.rc yP (.i 0) 0 (.int .i64))<|.op (.rc yP (.i 0) 1 (.int .i64))<|.bp (.jump 2 [.b true,kb,oD,KM,rJ,mR,wG,KN,U77,U78,pd])) (.bI .add bG (.i 1)<|.bp (.jump 0 ([U76,kb,oD,KM,rJ,mR,wG,KN]++w 55 15++[pd])))))) (.bp (.jump 1 (w 13 7++[iq]))))) (.bp (.jump 0 ([.b false]++w 12 7++[.i 0,.i 0,cg])))
def Ap:=Fo OS
def ate:bw:=⟨31,[.agg [pi 0,pi 1,ps 2,pi 3,pi 4,.p .bool U5,ps 6,.mp 0],.c (.p (.int .u64) U8),ci 9],[.map U7],10,11,.bL [.agg [pi 11,pi 12,ps 13,pi 14,pi 15,.p .bool bU,ps 17,.mp 0],.agg [pi 18,pi 19],.c (.p .bool bB)],[(0,(.map cp))],Ap,734⟩
theorem atC:ate.ok Tryz.prog:=g_ OS tq (.cons UH (.cons XB (.cons WK (.cons MJ (.cons Qw (.cons CW (.cons R4 (.cons Vk (.cons IM (.cons aoQ (.cons Yj (.cons aeh (.cons YE .nil))))))))))))) Tryz.func31 kr kr rfl
def Wo:bl:=.cA 149 Fw [.i 1,.i 9000] 6<|.cA 2051 Mm [U0,U1,U5] 1<|.cA 2052 KS [U2,U3,.b false,U4] 1<|.cA 667 my [] 0<|.cA 666 EK [.i 0,.i 0,.i 0,.i 0,.i 0,.i 0,.i 0,.i 0,.i 0,.i 0,.i 0,.i 0,.i 0,.r0,.r0] 2<|.cA 733 GW [U0,U1,U6,U2,U3,.b false,U7,U8,.i 0,.i 0,.i 0,.i 0,.i 0,.i 0,.i 0,.i 0,.i 0,.i 0,.i 0,.i 0,.r0,U9] 24<|.join (.bI .eql bB (.i 0)<|.ite gN (.ln gH<|.bI .eql iq (.i 1)<|.ite ik (.rw gH (.i 0) 2<|.op (.rc gH (.i 0) 1 (.int .i64))<|.bI .eql iZ (.i 6)<|.ite jl (.cA 670 xh [.i 1,.i 2,.i 6,.b true] 1<|.op (.bs .eql jO (.s ⟨#[118,46,49,46,50,46,105,100,120,46,116,109,112]⟩))<|.ite lx (.cA 667 my [] 0<|.cA 664 uJ [.i 0,.i 0,.i 0,.i 0,.i 0,.i 0,.i 0,.i 0,.i 0,.i 0,.i 0,.i 0,.i 0,.r0,.r0] 1<|.no mw<|.j [ru]) (.j [.b false])) (.j [.b false])) (.j [.b false])) (.j [.b false])) (.j [gN])
def L9:=Fo Wo
def aai:bw:=⟨10,[],[],0,1,.v (.c (.p .bool U0)),[],L9,735⟩
theorem adR:aai.ok Tryz.prog:=g_ Wo tq (.cons UH (.cons XB (.cons WK (.cons MJ (.cons V0 (.cons XM (.cons CW (.cons R4 (.cons Vk (.cons IM (.cons Ky .nil))))))))))) Tryz.func10 kr kr rfl
def Yo:bl:=.cA 714 LC [U0,U1] 8<|.join (.loop ([.i 0,.i 0]++w 2 8) (.bI .leq bE (.i 8)<|.ite cp (.join (.ln bT<|.loop [.i 0,.i 0] (.bI .lss cm cL<|.ite cr (.join (.rw bT cm 14<|.cl ck 0 (.int .i64)<|.cl ck 1 (.int .i64)<|.cl ck 2 (.int .i64)<|.cl ck 3 (.int .i64)<|.cl ck 4 .sl<|.cl ck 5 .sl<|.cl ck 6 .sl<|.cl ck 7 .sl<|.cl ck 8 .sl<|.cl ck 9 .sl<|.cl ck 10 .sl<|.cl ck 11 .sl<|.cl ck 12 (.int .i64)<|.cl ck 13 (.int .i64)<|.bI .eql c9 (.i 2)<|.ite jO (.bI .add cj (.i 1)<|.j [lx]) (.j [cj])) (.bI .add cm (.i 1)<|.j [ck,cf])) (.bp (.jump 1 [cj])))) (.op (.call 734 Ap (w 12 8++[.i 0,.i (-1)]) 11 [])<|.no cj<|.ite gH (.bp (.jump 2 [.b false])) (.bI .eql cL (.i 0)<|.ite gN (.join (.bI .eql eL (.i 6)<|.ite iq (.op (.call 644 G2 (w 26 4++w 15 4) 1 [])<|.ite ik (.cA 735 L9 [] 1<|.j [jD]) (.j [.b false])) (.j [.b false])) (.bp (.jump 2 [iq]))) (.join (.bI .neq eL (.i 0)<|.ite iq (.j [.b true]) (.bI .leq eh bB<|.j [ik])) (.ite iq (.bp (.jump 2 [.b false])) (.bI .add bE (.i 1)<|.bp (.jump 0 ([eh,ik]++w 23 7++[dP])))))))) (.bp (.jump 1 [])))) (.j [.b false])
def AT:=Fo Yo
def Fh:bw:=⟨5,[cs 0,cs 1],[],2,1,.v (.c (.p .bool U2)),[],AT,737⟩
theorem afM:Fh.ok Tryz.prog:=g_ Yo tq (.cons adR (.cons atC (.cons afY (.cons ayY .nil)))) Tryz.func5 kr kr rfl
namespace AI
theorem Fp(k:eX){n}(a:k.min<=n)(b:n<=k.max):k.wrap n=n:=by
 cases k<;>simp[IntKind.min,IntKind.max,IntKind.bits,IntKind.signed]at a b<;>simp[IntKind.wrap,IntKind.bits,IntKind.signed]<;> (try split)<;>omega
def amD(op:BinOp)(a b:Int):Bool:=match op with
 |.eql=>decide (a=b)
 |.neq=>decide (a≠b)
 |.lss=>decide (a<b)
 |.leq=>decide (a<=b)
 |.gtr=>decide (b<a)
 |.geq=>decide (b<=a)
 |_=>false
inductive BD where
 |cmp (op:BinOp) (x y:Li) (p:Bool)
 |n4 (b:Bool)
deriving Inhabited
def BD.val(τ:List L):BD->Bool
 |.cmp op x y p=>amD op (eZ τ x) (eZ τ y)==p
 |.n4 b=>b
def BD.in(n:Nat):BD->Bool
 |.cmp _ x y _=>il n x.1&&il n y.1
 |.n4 _=>true
def BD.neg:BD->BD
 |.cmp op x y p=>.cmp op x y (!p)
 |.n4 b=>.n4 (!b)
theorem qN{τ ys x}(h:il τ.length x.1=true):eZ (τ++ys) x=eZ τ x:=by simp only[eZ,Db h]
theorem BD.Ib{τ ys}{b:BD}(h:b.in τ.length=true):b.val (τ++ys)=b.val τ:=by
 cases b with
 |cmp op x y p=>
  simp only[BD.in,cu]at h;simp only[BD.val,qN h.1,qN h.2]
 |n4=>rfl
theorem sy{n m t}(h:il n t=true)(a:n<=m):il m t=true:=by simp only[il,eD]at h⊢;omega
theorem BD.Nb{n m}{b:BD}(h:b.in n=true)(a:n<=m):b.in m=true:=by
 cases b with
 |cmp op x y p=>
  simp only[BD.in,cu]at h⊢;exact⟨sy h.1 a,sy h.2 a⟩
 |n4=>rfl
abbrev RS:=Option (List AC)
def wU(x:RS)(rows:List (List PV)):Prop:=match x with
 |none=>rows=[]
 |some cs=>AC.rows cs rows
def lk{α:Type}:List (Nat×α)->Nat->Option α
 |[],_=>none
 |(k,x)::r,g=>cond (Nat.beq k g) (some x) (lk r g)
theorem rR{α:Type}:∀{l:List (Nat×α)}{g:Nat}{x:α},lk l g=some x->(g,x)∈l
 |[],_,_,h=>by cases h
 |(k,y)::r,g,x,h=>by
  simp only[lk]at h
  cases a:Nat.beq k g with
  |true=>
   rw[a]at h;have:=yA a;subst this;cases h;exact iA
  |false=>rw[a]at h;exact iz _ (rR h)
structure AS where
 env:List Nat
 n:Nat
 fs:List Fa
 rw:List (Nat×RS)
 cl:List (Nat×List AC)
 bd:List (Nat×BD)
 al:List (Nat×Li)
 ll:List (Nat×Li)
 sm:List ((List Nat×Nat)×Nat)
 pr:List (Nat×List Nat)
deriving Inhabited
def Qq:Nat->List L->Prop
 |0,[l]=>∃n,∀r∈l.bC,∃q,r=[.sl q]/\q.length=n
 |_,_=>True
def at'(τ:List L)(g:Nat):L:=(τ[g]?).getD (.b false)
def AW(τ:List L)(k:List Nat×Nat):Option L:=(k.1[(at' τ k.2).br.toNat]?).map (at' τ)
def tL(n:Nat)(k:List Nat×Nat):Bool:=k.1.all (λg=>decide (g<n))&&decide (k.2<n)
structure Ga(S:AS)(τ ρ:List L):Prop where
 n:τ.length=S.n
 env:ρ=S.env.map (at' τ)
 lt:∀g∈S.env,g<S.n
 fs:∀f∈S.fs,f.ok τ
 rw:∀x∈S.rw,x.1<S.n/\wU x.2 (at' τ x.1).bC
 cl:∀x∈S.cl,x.1<S.n/\AC.kG x.2 (at' τ x.1).i_
 bd:∀x∈S.bd,x.1<S.n/\x.2.in S.n=true/\(at' τ x.1).ez=x.2.val τ
 al:∀x∈S.al,x.1<S.n/\il S.n x.2.1=true/\(at' τ x.1).br=eZ τ x.2
 ll:∀x∈S.ll,x.1<S.n/\il S.n x.2.1=true/\((at' τ x.1).bC.length:Int)=eZ τ x.2
 sm:∀x∈S.sm,x.2<S.n/\tL S.n x.1=true/\AW τ x.1=some (at' τ x.2)
 pr:∀x∈S.pr,(∀g∈x.2,g<S.n)/\Qq x.1 (x.2.map (at' τ))
theorem vS{τ ys g}(h:g<τ.length):at' (τ++ys) g=at' τ g:=by
 unfold at';rw[oY h]
theorem IP{n m k}(h:tL n k=true)(a:n<=m):tL m k=true:=by
 simp only[tL,cu,cz,eD]at h⊢;exact⟨λg b=>mM (h.1 g b) a,mM h.2 a⟩
theorem HA{τ ys k}(h:tL τ.length k=true):AW (τ++ys) k=AW τ k:=by
 simp only[tL,cu,cz,eD]at h;unfold AW;rw[vS h.2]
 cases a:k.1[(at' τ k.2).br.toNat]? with
 |none=>rfl
 |some g=>simp only[b_];rw[vS (h.1 g (eb a))]
theorem apu(τ)(l):at' (τ++[l]) τ.length=l:=by simp[at']
structure pc where
 fs:List Fa:=[]
 rw:Option RS:=none
 cl:Option (List AC):=none
 bd:Option BD:=none
 al:Option Li:=none
 ll:Option Li:=none
 sm:Option (List Nat×Nat):=none
structure pc.ok(N:pc)(τ:List L)(l:L):Prop where
 fs:∀f∈N.fs,f.holds (τ++[l])
 rw:∀x,N.rw=some x->wU x l.bC
 cl:∀x,N.cl=some x->AC.kG x l.i_
 bd:∀x,N.bd=some x->l.ez=x.val τ
 al:∀x,N.al=some x->l.br=eZ τ x
 ll:∀x,N.ll=some x->(l.bC.length:Int)=eZ τ x
 sm:∀x,N.sm=some x->AW τ x=some l
def vr{α:Type}(g:Nat):Option α->List (Nat×α)->List (Nat×α)
 |some x,l=>(g,x)::l
 |none,l=>l
def Ym(n:Nat):Option Li->Bool
 |some x=>il n x.1
 |none=>true
def pc.in(n:Nat)(N:pc):Bool:=N.fs.all (Fa.in (n+1))&& (match N.bd with|some b=>b.in n|none=>true)&&Ym n N.al&&Ym n N.ll&& (match N.sm with|some k=>tL n k|none=>true)
def XE(g:Nat):Option (List Nat×Nat)->List ((List Nat×Nat)×Nat)->List ((List Nat×Nat)×Nat)
 |some k,l=>(k,g)::l
 |none,l=>l
theorem atG{g o l x}(h:x∈XE g o l):(o=some x.1/\x.2=g)\/x∈l:=by
 cases o with
 |none=>exact .inr h
 |some y=>
  rcases eG.1 h with rfl|h
  .simp_all
  .exact .inr h
def AS.push(S:AS)(N:pc):Option AS:=
 if N.in S.n=true then
  some ⟨S.env++[S.n],S.n+1,N.fs++S.fs,vr S.n N.rw S.rw,vr S.n N.cl S.cl,vr S.n N.bd S.bd,vr S.n N.al S.al,vr S.n N.ll S.ll,XE S.n N.sm S.sm,S.pr⟩
 else none
theorem zF{α g o l}{x:Nat×α}(h:x∈vr g o l):(∃y,o=some y/\x=(g,y))\/x∈l:=by
 cases o with
 |none=>exact .inr h
 |some y=>
  rcases eG.1 h with h|h
  .simp_all
  .exact .inr h
theorem Ga.push{S H τ ρ N l}(h:Ga S τ ρ)(hp:S.push N=some H)(D:N.ok τ l):Ga H (τ++[l]) (ρ++[l]):=by
 unfold AS.push at hp;split at hp
 .rename_i F;simp only[pc.in,cu,cz]at F;injection hp with hp
  subst hp;have B:=h.n;have m:∀g,g<S.n->at' (τ++[l]) g=at' τ g:=λg z=>vS om
  have d:at' (τ++[l]) S.n=l:=by rw[<-B];exact apu τ l
  exact{
   n:=by simp[B]
   env:=by
    rw[h.env,dE,List.map_singleton,d];congr 1;exact gz λg z=>(m g (h.lt g z)).symm
   lt:=λg z=>by
    rcases gI.1 z with z|z
    .have:=h.lt g z;show g<S.n+1;omega
    simp_all
   fs:=λf G=>by
    rcases gI.1 G with G|G
    .exact⟨by simp_all,D.fs f G⟩
    .exact(h.fs f G).append
   rw :=λx a=>by
    rcases zF a with⟨y,t,rfl⟩|a
    .exact⟨pV _,by simp only[d];exact D.rw y t⟩
    .obtain⟨k,q⟩:=h.rw x a;exact⟨yf k,by rw[m _ k];exact q⟩
   cl :=λx a=>by
    rcases zF a with⟨y,t,rfl⟩|a
    .exact⟨pV _,by simp only[d];exact D.cl y t⟩
    .obtain⟨k,q⟩:=h.cl x a;exact⟨yf k,by rw[m _ k];exact q⟩
   bd :=λx a=>by
    rcases zF a with⟨y,t,rfl⟩|a
    .have u:=F.1.1.1.2;rw[t]at u;exact⟨pV _,BD.Nb u (vj _),by simp only[d];rw[BD.Ib (by rw[B];exact u)];exact D.bd y t⟩
    .obtain⟨k,q,E⟩:=h.bd x a;exact⟨yf k,BD.Nb q (vj _),by rw[m _ k,BD.Ib (by rw[B];exact q)];exact E⟩
   al :=λx a=>by
    rcases zF a with⟨y,t,rfl⟩|a
    .have u:=F.1.1.2;rw[t]at u;exact⟨pV _,sy u (vj _),by simp only[d];rw[qN (by rw[B];exact u)];exact D.al y t⟩
    .obtain⟨k,q,E⟩:=h.al x a;exact⟨yf k,sy q (vj _),by rw[m _ k,qN (by rw[B];exact q)];exact E⟩
   ll :=λx a=>by
    rcases zF a with⟨y,t,rfl⟩|a
    .have u:=F.1.2;rw[t]at u;exact⟨pV _,sy u (vj _),by simp only[d];rw[qN (by rw[B];exact u)];exact D.ll y t⟩
    .obtain⟨k,q,E⟩:=h.ll x a;exact⟨yf k,sy q (vj _),by rw[m _ k,qN (by rw[B];exact q)];exact E⟩
   sm :=λx a=>by
    rcases atG a with⟨t,z⟩|a
    .have u:=F.2;rw[t]at u;exact⟨by simp_all,IP u (vj _),by rw[z,d,HA (by rw[B];exact u)];exact D.sm _ t⟩
    .obtain⟨k,q,E⟩:=h.sm x a;exact⟨yf k,IP q (vj _),by rw[m _ k,HA (by rw[B];exact q)];exact E⟩
   pr:=λx a=>by
    obtain⟨k,q⟩:=h.pr x a;exact⟨λg z=>yf (k g z),by rw[gz (g:=at' τ) λg z=>m g (k g z)];exact q⟩}
 simp_all
def AS.li(S:AS):At->Li
 |.v i=>match S.env[i]? with
  |some g=>(match lk S.al g with
   |some x=>x
   |none=>(3*g+1,0))
  |none=>(0,0)
 |.i c=>(0,c)
 |_=>(0,0)
def AS.le(S:AS):At->Li
 |.v i=>match S.env[i]? with
  |some g=>(match lk S.ll g with
   |some x=>x
   |none=>(3*g+2,0))
  |none=>(0,0)
 |_=>(0,0)
def AS.ls(S:AS):At->Option Li
 |.v i=>match S.env[i]? with
  |some g=>some (3*g+3,0)
  |none=>some (0,0)
 |.s x=>some (0,x.size)
 |_=>some (0,0)
theorem awQ(τ)(g):eY τ (3*g+1)=(at' τ g).br:=by
 simp_all[eY,at']
theorem alL(τ)(g):eY τ (3*g+2)=((at' τ g).bC.length:Int):=by
 simp only[eY,show(3*g+1) /3=g by omega,show(3*g+1)%3=1 by omega,at'];simp
theorem aqp(τ)(g):eY τ (3*g+3)=((at' τ g).fU.size:Int):=by
 simp only[eY,show(3*g+2) /3=g by omega,show(3*g+2)%3=2 by omega,at'];simp
section
variable{S:AS}{τ ρ:List L}(h:Ga S τ ρ)
include h
theorem Ga.holds{f}(a:f∈S.fs):f.holds τ:=(h.fs f a).2
theorem Ga.ev{i}:(At.v i).ev ρ=match S.env[i]? with|some g=>at' τ g|none=>.b false:=by
 simp only[At.ev,h.env,cX];cases S.env[i]? <;>rfl
theorem Ga.li(x):(x.ev ρ).br=eZ τ (S.li x):=by
 cases x with
 |v i=>
  rw[h.ev];simp only[AS.li]
  cases S.env[i]? with
  |none=>rfl
  |some g=>
   simp only;split
   .rename_i x a;exact(h.al _ (rR a)).2.2
   .simp only[eZ,awQ];omega
 |i c=>simp[At.ev,L.br,AS.li,eZ,eY]
 |b=>rfl
 |s=>rfl
 |r0=>rfl
theorem Ga.le(x):((x.ev ρ).bC.length:Int)=eZ τ (S.le x):=by
 cases x with
 |v i=>
  rw[h.ev];simp only[AS.le]
  cases S.env[i]? with
  |none=>rfl
  |some g=>
   simp only;split
   .rename_i x a;exact(h.ll _ (rR a)).2.2
   .simp only[eZ,alL];omega
 |i c=>rfl
 |b=>rfl
 |s=>rfl
 |r0=>rfl
theorem Ga.apS(x):il τ.length (S.li x).1=true:=by
 cases x with
 |v i=>
  simp only[AS.li]
  cases a:S.env[i]? with
  |none=>rfl
  |some g=>
   simp only;split
   .rename_i x d;rw[h.n];exact(h.al _ (rR d)).2.1
   .have:=h.lt g (eb a);simp only[il,h.n,eD];omega
 |_=>rfl
theorem Ga.aws(x):il τ.length (S.le x).1=true:=by
 cases x with
 |v i=>
  simp only[AS.le]
  cases a:S.env[i]? with
  |none=>rfl
  |some g=>
   simp only;split
   .rename_i x d;rw[h.n];exact(h.ll _ (rR d)).2.1
   .have:=h.lt g (eb a);simp only[il,h.n,eD];omega
 |_=>rfl
end
def y7(t:Nat)(x:Li)(c:Int):Fa:=⟨t,x.1,x.2+c⟩
def Am(t:Nat)(x:Li)(c:Int):Fa:=⟨x.1,t,c-x.2⟩
def fEq(t:Nat)(x:Li):List Fa:=[y7 t x 0,Am t x 0]
def IF(t:Nat)(lo a:Int):List Fa:=[y7 t (0,0) a,Am t (0,0) (-lo)]
theorem agy{τ t x c}(h:eY τ t-eZ τ x<=c):(y7 t x c).holds τ:=by
 unfold Fa.holds y7;unfold eZ at h;simp only;omega
theorem axu{τ t x c}(h:eZ τ x-eY τ t<=c):(Am t x c).holds τ:=by
 unfold Fa.holds Am;unfold eZ at h;simp only;omega
theorem ayk{τ t lo a}(c:lo<=eY τ t)(d:eY τ t<=a):∀f∈IF t lo a,f.holds τ:=λf b=>by
 have e:eZ τ (0,0)=0:=by rfl
 simp only[IF,eG,GA,or_false]at b;rcases b with rfl|rfl
 .simp_all[agy]
 simp_all[axu]
theorem holds_nil{τ}:∀f∈([]:List Fa),f.holds τ:=λf a=>by cases a
def kRg(k:Option eX)(t:Nat):List Fa:=match k with
 |some k=>IF t k.min k.max
 |none=>[]
def abp(k:Option eX)(n:Int):Int:=match k with
 |some k=>k.wrap n
 |none=>n
theorem avK{k τ t n}(h:eY τ t=abp k n):∀f∈kRg k t,f.holds τ:=by
 cases k with
 |none=>exact holds_nil
 |some k=>
  have:=Go.wrap_within k n;exact ayk (by rw[h];exact this.1) (by rw[h];exact this.2)
end AI
namespace AI
end AI
end
end
end Go.Proofs.YtiikkkhcolcebaaGreatDoor
