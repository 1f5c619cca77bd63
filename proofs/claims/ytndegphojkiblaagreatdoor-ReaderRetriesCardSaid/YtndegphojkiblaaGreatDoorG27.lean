/- A part of the proof. -/
import Derived.Test.YtndegphojkiblaaGreatDoorG15
import Derived.Test.YtndegphojkiblaaGreatDoorG17
import Derived.Test.YtndegphojkiblaaGreatDoorG18
import Derived.Test.YtndegphojkiblaaGreatDoorG19
import Derived.Test.YtndegphojkiblaaGreatDoorG24
import Derived.Test.YtndegphojkiblaaGreatDoorG25
import Derived.Test.YtndegphojkiblaaGreatDoorG26
import Derived.WalkKit
set_option linter.all false
set_option maxHeartbeats 4000000
set_option maxRecDepth 100000
namespace Go.Proofs.YtndegphojkiblaaGreatDoor
noncomputable section
section
attribute [local irreducible] Fo
open Go.RowKit
def aqo:ae:= .join (.cA 402 FR [U0,U1,U2,U3,U4,U5,U6,U7,U8,U9,ax] 1<|.ite aE (.ln aw<|.bI .eql aG (.i 6)<|.ite aJ (.ln aD<|.bI .eql aN (.i 6)<|.j [aM]) (.j [.b false])) (.j [.b false])) (.j [aE])
def se:=Fo aqo
def auu:au:=⟨105,[.agg (cX 0 4++ [.p (.int .u32) U4,.p (.int .u32) U5,.p (.int .u32) U6,.p (.int .u32) U7,.p (.int .u32) U8,.p (.int .u32) U9,ps 10]),cs 11,cs 12],[],13,1,.v (.c (.p .bool aE)),[],se,409⟩
theorem X_:Ok auu:=oS (.cons Qc .nil)
def J6:ae:= .cA 2000 qE [U0] 0<|.cA 62 xL [U0] 1<|.ite U1 (.j [U0]) (.cA 121 AG [U0] 1<|.ln U2<|.op (.cut U2 (.i 0) (.i 0) 4)<|.join (.ln U2<|.loop [.i 0,.i 0,U2] (.bI .lss U7 U5<|.ite U9 (.join (.rw U8 U7 4<|.op (.rc U8 U7 0 (.int .u64))<|.op (.rc U8 U7 1 (.int .u32))<|.op (.rc U8 U7 2 (.int .i64))<|.op (.rc U8 U7 3 (.int .i64))<|.join (.bI .add U7 (.i 1)<|.ln U8<|.bI .eql aJ aN<|.ite aM (.j [.b true]) (.bI .add U7 (.i 1)<|.rw U8 aL 4<|.op (.rc U8 aL 0 (.int .u64))<|.op (.bi .neq .u64 a8 aw)<|.j [bk])) (.ite aJ (.op (.lit [[((.int .u64),aw),((.int .u32),aD),((.int .i64),aE),((.int .i64),aG)]])<|.op (.ym U8 U6 aN 4)<|.j [aL,aM]) (.j [U6,U8]))) (.bI .add U7 (.i 1)<|.j [ax,aD,aw])) (.ak (.jump 1 [U6,U8])))) (.op (.tk U6 U5)<|.j [U7]))
def nF:=Fo J6
def ayO:au:=⟨218,[cs 0],[],1,1,.v (.c (.own 0)),[(0,(.row 25 U1))],nF,123⟩
theorem ZT:ayO.ok Tryz.prog:=qt J6 avT (.cons akK (.cons NW (.cons JK (.cons avY .nil)))) Tryz.func218 kr kr rfl
def Tm:ae:= .cA 123 nF [U0] 1<|.cA 90 AH [U2,U1] 2<|.no U4<|.ite U5 (.j [.b false,.i 0,.i 0,.i 0,.i 0]) (.rw U2 U3 4<|.op (.rc U2 U3 0 (.int .u64))<|.op (.rc U2 U3 1 (.int .u32))<|.op (.rc U2 U3 2 (.int .i64))<|.op (.rc U2 U3 3 (.int .i64))<|.j [.b true,U7,U8,U9,ax])
def Ci:=Fo Tm
def apH:au:=⟨170,[cs 0,.c (.p (.int .u64) U1)],[],2,5,.aj [.agg [.p (.int .u64) U3,.p (.int .u32) U4,pi 5,pi 6],.c (.p .bool U2)],[],Ci,124⟩
theorem asW:Ok apH:=oS (.cons ZT (.cons akU .nil))
def Sj:ae:= .cA 92 lP [U0,U1,U2,U3,U4,U5,U6,U7,U8,U9] 1<|.no aw<|.ite aD (.j [.b false,.i 0,.i 0,.i 0,.i 0]) (.cA 12 ua [ax] 1<|.op (.dD aE 8)<|.op (.fH [U0,U1,U2,U3,U4,U5,U6,U7] aE)<|.cA 124 Ci [aG,ax] 5<|.j [aJ,aN,aM,aL,aX])
def nN:=Fo Sj
def aek:au:=⟨113,[.agg (eo 0 8++ [pi 8,pi 9]),.c (.p (.int .u64) ax)],[],11,5,.aj [.agg [.p (.int .u64) aD,.p (.int .u32) aE,pi 14,pi 15],.c (.p .bool aw)],[],nN,125⟩
theorem ahH:Ok aek:=oS (.cons asW (.cons BR (.cons Rh .nil)))
def Tr:ae:= .cA 149 Ny [.i 1,.i 9000] 6<|.join (.loop [.i 0,U2,U3,U7,U4,U5,.b false,U6,.r0] (.join (.ln U0<|.bI .lss U8 aM<|.ite aL (.bI .lss U8 U1<|.j [aX]) (.j [.b false])) (.ite aM (.join (.rw U0 U8 4<|.cl aL 0 (.int .i64)<|.cl aL 1 .sl<|.cl aL 2 (.int .i64)<|.cl aL 3 .sl<|.bI .and aX (.i 7)<|.join (.bI .eql bp (.i 0)<|.ite bm (.j [bm]) (.bI .eql bp (.i 1)<|.ite bA (.j [bA]) (.bI .eql bp (.i 2)<|.j [bq]))) (.ite bm (.cA 2004 YW [a8,.i 4] 1<|.loop ([.i 0]++w 9 8) (.ln bA<|.bI .lss bq fT<|.ite gI (.join (.rw bA bq 4<|.cl iZ 2 .bool<|.ite j_ (.rw bA bq 4<|.cl kE 0 (.int .u64)<|.op (.call 611 G4 (w 27 8++ [gq]) 8 [])<|.ak (.jump 0 (w 42 7++ [my]))) (.bI .add bq (.i 1)<|.ln bA<|.op (.part bA bq kE 4)<|.op (.call 610 zQ (w 27 8++ [my]) 9 [])<|.ak (.jump 0 (w 43 8)))) (.bI .add bq (.i 1)<|.ak (.jump 0 ([ku]++w 37 8)))) (.ak (.jump 1 (w 27 8))))) (.join (.bI .eql bp (.i 3)<|.ite bA (.j [bA]) (.bI .eql bp (.i 4)<|.j [bq])) (.ite bA (.op (.call 619 F_ (w 9 8) 8 [])<|.ak (.jump 0 (w 27 7++ [aN]))) (.bI .eql bp (.i 5)<|.ite bq (.loop ([.i 0]++w 9 8) (.join (.ln be<|.bI .lss bw gI<|.ite iZ (.bI .lss bw (.i 3)<|.j [j_]) (.j [.b false])) (.ite gI (.rw be bw 1<|.cl iZ 0 (.int .u64)<|.op (.bi .and .u64 j_ (.i 7))<|.op (.call 611 G4 (w 28 8++ [kE]) 8 [])<|.bI .add bw (.i 1)<|.ak (.jump 0 ([mD]++w 41 7++ [gq]))) (.ak (.jump 1 (w 28 8)))))) (.join (.bI .eql bp (.i 6)<|.ite bw (.j [bw]) (.bI .eql bp (.i 7)<|.j [b9])) (.ite bw (.op (.call 617 FX (w 9 8) 8 [])<|.ak (.jump 0 (w 29 7++ [aN]))) (.ak (.jump 0 (w 9 8)))))))))) (.bI .add U8 (.i 1)<|.ak (.jump 0 ([bq]++w 18 8)))) (.ak (.jump 1 (w 9 8)))))) (.ak (.jump 0 (w 8 8)))
def Iq:=Fo Tr
def afR:au:=⟨11,[cs 0,ci 1],[],2,8,.v (.agg [pi 2,pi 3,ps 4,pi 5,pi 6,.p .bool U7,ps 8,.mp 0]),[(0,(.map U9))],Iq,156⟩
theorem amw:Ok afR:=oS (.cons aiE (.cons ayk (.cons agK (.cons SU (.cons atc (.cons aeO (.cons QL .nil)))))))
def aqw:ae:= .j []
def WH:=Fo aqw
def s15:au:=⟨89,[.agg (eo 0 8++ [pi 8,pi 9])],[],10,0,.v (.agg (eo 0 8++ [pi 8,pi 9])),[],WH,15⟩
theorem afE:Ok s15:=oS .nil
def afx:ae:= .op (.call 15 WH (w 4 10) 0 [])<|.j []
def Kb:=Fo afx
def s16:au:=⟨43,[.agg (cX 0 4++eo 4 8++ [pi 12,pi 13])],[],14,0,.v (.agg (cX 0 4++eo 4 8++ [pi 12,pi 13])),[],Kb,16⟩
theorem amj:Ok s16:=oS (.cons afE .nil)
def atp:ae:= .join (.ln U3<|.loop [.i 0,.r0] (.bI .lss U5 U4<|.ite U7 (.rw U3 U5 14<|.cl U8 0 (.int .i64)<|.cl U8 1 (.int .i64)<|.cl U8 2 (.int .i64)<|.cl U8 3 (.int .i64)<|.cl U8 4 .sl<|.cl U8 5 .sl<|.cl U8 6 .sl<|.cl U8 7 .sl<|.cl U8 8 .sl<|.cl U8 9 .sl<|.cl U8 10 .sl<|.cl U8 11 .sl<|.cl U8 12 (.int .i64)<|.cl U8 13 (.int .i64)<|.op (.call 16 Kb (w 9 14) 0 [])<|.op (.lit [[((.int .i64),U9),((.int .i64),ax),((.int .i64),aw),((.int .i64),aD),(.sl,aE),(.sl,aG),(.sl,aJ),(.sl,aN),(.sl,aM),(.sl,aL),(.sl,aX),(.sl,a8),((.int .i64),bk),((.int .i64),be)]])<|.op (.app U6 bp 14 240)<|.bI .add U5 (.i 1)<|.j [bA,bm]) (.ak (.jump 1 [U6])))) (.j [U4])
def DZ:=Fo atp
def YY:au:=⟨17,[.agg [pi 0,pi 1,.p .bool U2,ps 3]],[],4,1,.v (.agg [pi 0,pi 1,.p .bool U2,.own 0]),[(0,(.row 131 U4))],DZ,17⟩
theorem YX:Ok YY:=oS (.cons amj .nil)
noncomputable def aqp:List L→Option (List L):=DZ
def arw:au:=⟨17,[.agg [pi 0,pi 1,.p .bool U2,ps 3]],[],4,1,.v (.agg [pi 0,pi 1,.p .bool U2,ps 4]),[],DZ,2052⟩
theorem avA:arw.ok Tryz.prog:=B3 (s:=YY) YX rfl (x:=(.v 4)) (e:=131) rfl rfl 2052
def WU:ae:= .join (.ln U0<|.loop [.i 0] (.bI .lss U3 U2<|.ite U4 (.rw U0 U3 1<|.cl U5 0 (.int .u64)<|.op (.bi .eql .u64 U1 U6)<|.ite U7 (.ak (.jump 2 [U3])) (.bI .add U3 (.i 1)<|.j [U8])) (.ak (.jump 1 [])))) (.j [.i (-1)])
def Em:=Fo WU
def akM:au:=⟨266,[cs 0,.c (.p (.int .u64) U1)],[],2,1,.v (ci 2),[],Em,157⟩
theorem aji:Ok akM:=oS .nil
def Vc:ae:= .cA 157 Em [U0,U1] 1<|.bI .geq U2 (.i 0)<|.j [U3]
def Ea:=Fo Vc
def ang:au:=⟨229,[cs 0,.c (.p (.int .u64) U1)],[],2,1,.v (.c (.p .bool U2)),[],Ea,160⟩
theorem aBb:Ok ang:=oS (.cons aji .nil)
def Zy:ae:= .cA 160 Ea [U4,U0] 1<|.j [U5]
def wM:=Fo Zy
def arx:au:=⟨228,[.agg [.p (.int .u64) U0,.p (.int .u32) U1,pi 2,pi 3],.c (.ptr 0 0)],[.box [ps 4]],5,1,.v (.c (.p .bool U5)),[(0,(.box [ps 4]))],wM,161⟩
theorem Xr:Ok arx:=oS (.cons aBb .nil)
def Ry:ae:= .join (.ln U0<|.loop [.i 0] (.bI .lss U2 U1<|.ite U3 (.rw U0 U2 4<|.op (.rc U0 U2 0 (.int .u64))<|.op (.rc U0 U2 1 (.int .u32))<|.op (.rc U0 U2 2 (.int .i64))<|.op (.rc U0 U2 3 (.int .i64))<|.cA 161 wM [U5,U6,U7,U8,.r0] 1<|.ite U9 (.ak (.jump 2 [U2])) (.bI .add U2 (.i 1)<|.j [ax])) (.ak (.jump 1 [])))) (.j [.i (-1)])
def zO:=Fo Ry
def adP:au:=⟨208,[.c (.own 0),.c (.fn 228 [1])],[.row 25 U0,.box [.nil]],1,1,.v (ci 1),[(1,(.box [.p .sl .r0])),(0,(.row 25 U0))],zO,162⟩
theorem alX:Ok adP:=oS (.cons Xr .nil)
def KU:ae:= .cA 162 zO [U0] 1<|.bI .eql U1 (.i (-1))<|.ite U2 (.j []) (.join (.bI .add U1 (.i 1)<|.loop [U1,U3,U0] (.ln U6<|.bI .lss U5 U7<|.ite U8 (.join (.rw U6 U5 4<|.op (.rc U6 U5 0 (.int .u64))<|.op (.rc U6 U5 1 (.int .u32))<|.op (.rc U6 U5 2 (.int .i64))<|.op (.rc U6 U5 3 (.int .i64))<|.cA 161 wM [ax,aw,aD,aE,.r0] 1<|.no aG<|.ite aJ (.rw U6 U4 4<|.op (.set U6 U4 0 [((.int .u64),ax),((.int .u32),aw),((.int .i64),aD),((.int .i64),aE)])<|.bI .add U4 (.i 1)<|.j [aL,aM]) (.j [U4,U6])) (.bI .add U5 (.i 1)<|.j [U9,aw,ax])) (.ak (.jump 1 [U4,U6])))) (.ln U4<|.op (.cut U4 U3 U5 4)<|.op (.dD (.i 0) 0)<|.j []))
def BT:=Fo KU
def awh:au:=⟨227,[.c (.own 0),.c (.fn 228 [1])],[.row 25 U0,.box [.nil]],1,0,.v (.c (.own 0)),[(0,(.row 25 U0)),(1,(.box [.p .sl .r0]))],BT,163⟩
theorem agX:awh.ok Tryz.prog:=qt KU auV (.cons alX (.cons Xr .nil)) Tryz.func227 kr kr rfl
def XA:ae:= .cA 123 nF [.r0] 1<|.cA 163 BT [U1] 0<|.op (.call 123 nF [U0] 1 [0])<|.op (.app U1 U2 4 32)<|.op (.call 123 nF [U3] 1 [0])<|.j [U4]
def vu:=Fo XA
def alO:au:=⟨192,[.c .nil,.c (.own 0),.c .nil],[.row 25 U0],1,1,.v (.c (.own 1)),[(1,(.row 25 U1)),(0,(.row 25 U0))],vu,166⟩
theorem P3:Ok alO:=oS (.cons agX (.cons ZT .nil))
def QH:ae:= .cA 92 lP [.r0,.r0,.r0,.r0,.r0,.r0,.r0,.r0,U0,U1] 1<|.no U2<|.ite U3 (.j [.r0]) (.op (.lit [[(.sl,.r0)],[(.sl,.r0)],[(.sl,.r0)],[(.sl,.r0)],[(.sl,.r0)],[(.sl,.r0)],[(.sl,.r0)],[(.sl,.r0)]])<|.cA 64 ur [U4] 1<|.cA 166 vu [U5] 1<|.j [U6])
def EC:=Fo QH
def arK:au:=⟨143,[.agg [.nil,.nil,.nil,.nil,.nil,.nil,.nil,.nil,pi 0,pi 1]],[],2,1,.v (.c (.own 0)),[(0,(.row 25 U2))],EC,167⟩
theorem JE:Ok arK:=oS (.cons P3 (.cons BR (.cons UM .nil)))
def Yx:ae:= .join (.bI .lss U0 (.i 1)<|.ite U6 (.j [.b true]) (.bI .gtr U0 (.i 8)<|.ite U7 (.j [.b true]) (.bI .lss U1 (.i 0)<|.ite U8 (.j [.b true]) (.bI .gtr U1 (.i 4294967295)<|.ite U9 (.j [.b true]) (.bI .lss U2 (.i 1)<|.ite ax (.j [.b true]) (.bI .gtr U2 (.i 3)<|.j [aw])))))) (.ite U6 (.j [.b false]) (.join (.bI .lss U3 (.i 16)<|.ite U7 (.j [.b true]) (.bI .gtr U3 (.i 1048576)<|.ite U8 (.j [.b true]) (.bI .rem U3 (.i 8)<|.bI .neq U9 (.i 0)<|.ite ax (.j [.b true]) (.cA 92 lP [.r0,.r0,.r0,.r0,.r0,.r0,.r0,.r0,U4,U5] 1<|.no aw<|.j [aD])))) (.ite U7 (.j [.b false]) (.join (.cA 167 EC [U4,U5] 1<|.cA 186 ud [U8,U3] 2<|.ite U9 (.bI .add (.i 16) U4<|.bI .add aw U5<|.bI .eql U3 aD<|.j [aE]) (.j [.b false])) (.j [U8])))))
def C9:=Fo Yx
def atB:au:=⟨84,[.agg (cX 0 4++ [.nil,.nil,.nil,.nil,.nil,.nil,.nil,.nil,pi 4,pi 5])],[],6,1,.v (.c (.p .bool U6)),[],C9,188⟩
theorem JR:Ok atB:=oS (.cons JE (.cons BR (.cons RM .nil)))
def QO:ae:= .cA 92 lP [U0,U1,U2,U3,U4,U5,U6,U7,U8,U9] 1<|.no ax<|.ite aw (.j [.r0]) (.op (.lit [[(.sl,U0)],[(.sl,U1)],[(.sl,U2)],[(.sl,U3)],[(.sl,U4)],[(.sl,U5)],[(.sl,U6)],[(.sl,U7)]])<|.cA 64 ur [aD] 1<|.cA 166 vu [aE] 1<|.j [aG])
def vh:=Fo QO
def akX:au:=⟨143,[.agg (eo 0 8++ [pi 8,pi 9])],[],10,1,.v (.c (.own 0)),[(0,(.row 25 ax))],vh,168⟩
theorem Th:Ok akX:=oS (.cons P3 (.cons BR (.cons UM .nil)))
def Ql:ae:= .cA 10 EU [] 0<|.cA 188 C9 [U0,.i 0,.i 1,.i 16,.i 0,.i 0] 1<|.no U1<|.ite U2 (.j [.i 1,.i 0,.i 0,.i 0]) (.j [.i 0,U0,.i 1,.i 16])
def Ed:=Fo Ql
def akZ:au:=⟨71,[ci 0],[],1,4,.aj [.agg [pi 2,.p (.int .i64) (.i 0),pi 3,pi 4,.nil,.nil,.nil,.nil,.nil,.nil,.nil,.nil,.p (.int .i64) (.i 0),.p (.int .i64) (.i 0)],ci 1],[],Ed,189⟩
theorem aws:Ok akZ:=oS (.cons JR (.cons aqH .nil))
def WI:ae:= .join (.bI .lss U0 (.i 1)<|.ite aG (.j [.b true]) (.bI .gtr U0 (.i 8)<|.ite aJ (.j [.b true]) (.bI .lss U1 (.i 0)<|.ite aN (.j [.b true]) (.bI .gtr U1 (.i 4294967295)<|.ite aM (.j [.b true]) (.bI .lss U2 (.i 1)<|.ite aL (.j [.b true]) (.bI .gtr U2 (.i 3)<|.j [aX])))))) (.ite aG (.j [.b false]) (.join (.bI .lss U3 (.i 16)<|.ite aJ (.j [.b true]) (.bI .gtr U3 (.i 1048576)<|.ite aN (.j [.b true]) (.bI .rem U3 (.i 8)<|.bI .neq aM (.i 0)<|.ite aL (.j [.b true]) (.cA 92 lP [U4,U5,U6,U7,U8,U9,ax,aw,aD,aE] 1<|.no aX<|.j [a8])))) (.ite aJ (.j [.b false]) (.join (.cA 168 vh [U4,U5,U6,U7,U8,U9,ax,aw,aD,aE] 1<|.cA 186 ud [aN,U3] 2<|.ite aM (.bI .add (.i 16) aD<|.bI .add aX aE<|.bI .eql U3 a8<|.j [bk]) (.j [.b false])) (.j [aN])))))
def vA:=Fo WI
def auL:au:=⟨84,[.agg (cX 0 4++eo 4 8++ [pi 12,pi 13])],[],14,1,.v (.c (.p .bool aG)),[],vA,187⟩
theorem Xl:Ok auL:=oS (.cons Th (.cons JE (.cons BR (.cons RM .nil))))
def Sr:ae:= .cA 168 vh [U0,U1,U2,U3,U4,U5,U6,U7,U8,U9] 1<|.ln ax<|.j [aw]
def uK:=Fo Sr
def aoM:au:=⟨85,[.agg (eo 0 8++ [pi 8,pi 9])],[],10,1,.v (ci 10),[],uK,171⟩
theorem Zw:Ok aoM:=oS (.cons Th (.cons JE .nil))
end
section
open Go.RowKit Pl AI
attribute [local irreducible] ae.wp
theorem akH {ρ xs} {a}:(At.v ρ.length).ev (ρ++a::xs)=a:=by simp[At.ev]
theorem WS {ρ xs} {a} {n} (h:n=ρ.length):(At.v n).ev (ρ++a::xs)=a:=by subst h;exact akH
theorem iP {ρ} {Q} {k} {x i:At} {l:List It} {j:Nat} (hx:(x.ev ρ).az=l.map ao) (hi:(i.ev ρ).ah=j) (hj)
  (hk:k.wp (ρ++ [.c (ao l[j]),.i l[j].key,.i l[j].cookie,.i l[j].off,.i l[j].size]) Q)
  (ex:∀ys,x.ev (ρ++ys)=x.ev ρ:=by intro ys;rfl) (ei:∀ys,i.ev (ρ++ys)=i.ev ρ:=by intro ys;rfl):
  (ae.op (.row x i 4) (.op (.rc x i 0 (.int .u64)) (.op (.rc x i 1 (.int .u32)) (.op (.rc x i 2 (.int .i64)) (.op (.rc x i 3 (.int .i64)) k))))).wp ρ Q:=by
 refine aP hx hi hj rfl ?_;refine dx (f:=ao) (j:=j) (by rw[ex];exact hx) (by rw[ei];exact hi) hj rfl rfl ?_;rw[cd];refine dx (f:=ao) (j:=j) (by rw[ex];exact hx) (by rw[ei];exact hi) hj rfl rfl ?_;rw[cd];refine dx (f:=ao) (j:=j) (by rw[ex];exact hx) (by rw[ei];exact hi) hj rfl rfl ?_;rw[cd];refine dx (f:=ao) (j:=j) (by rw[ex];exact hx) (by rw[ei];exact hi) hj rfl rfl ?_;rw[cd];exact hk
theorem sb {ρ} {Q} {k} {x i:At} {l:List It} {j:Nat} {ps} {z} (hx:(x.ev ρ).az=l.map ao) (hi:(i.ev ρ).ah=j) (hj)
  (hz:cb (ρ++ [.c (ao l[j])]) ps=ao z) (hl:ps.length=4)
  (hk:k.wp (ρ++ [.c (ao l[j]),.r ((l.set j z).map ao)]) Q)
  (ex:∀ys,x.ev (ρ++ys)=x.ev ρ:=by intro ys;rfl) (ei:∀ys,i.ev (ρ++ys)=i.ev ρ:=by intro ys;rfl):
  (ae.op (.row x i 4) (.op (.set x i 0 ps) k)).wp ρ Q:=by
 refine aP hx hi hj rfl ?_;have hr:(x.ev (ρ++ [.c (ao l[j])])).az[(i.ev (ρ++ [.c (ao l[j])])).ah.toNat]? =some (ao l[j]):=by
  rw[ex,ei,hx,hi,fA,bV,bW hj];rfl
 refine I1 hr (by rw[hl];exact cn 4) ?_;rw[ex,ei,hx,hi,hz,hl,cd];have e:(l.map ao).set ((j:Int)).toNat ((ao l[j]).take 0++ao z++(ao l[j]).drop (0+4))=(l.set j z).map ao:=by
  simp[ao]
 rw[e];exact hk
theorem zC {ρ} {Q} {k} {x y:At} {i j n:Nat} (hn:n=ρ.length) (hx:(x.ev ρ).ah=i) (hy:(y.ev ρ).ah=j) (h:i+j≤4611686018427387904)
   (hk:k.wp (ρ++ [.i ((i+j:Nat):Int),.i ((i+j:Nat):Int),.i (((i+j) /2:Nat):Int),.i (((i+j) /2:Nat):Int)]) Q):
   (ae.op (.bi .add .i64 x y) (.op (.conv .u64 (.v n)) (.op (.bi .shr .u64 (.v (n+1)) (.i 1)) (.op (.conv .i64 (.v (n+2))) k)))).wp ρ Q:=by
 refine cm (n:=((i+j:Nat):Int)) om om om ?_;refine fU (n:=((i+j:Nat):Int)) (by rw[WS hn];rfl) om om ?_;rw[cd];refine cv (l:= .i (((i+j) /2:Nat):Int)) ?_ ?_
 · have e:(At.v (n+1)).ev (ρ++([L.i ((i+j:Nat):Int)]++ [.i ((i+j:Nat):Int)]))= .i ((i+j:Nat):Int):=by subst hn;simp[At.ev]
   rw[e];exact(Ll (x:=i+j) (k:=1) dc).trans (by rw[Nat.shiftRight_eq_div_pow])
 rw[cd];refine po (n:=(((i+j) /2:Nat):Int)) ?_ om om ?_
 · have e:(At.v (n+2)).ev (ρ++([L.i ((i+j:Nat):Int),.i ((i+j:Nat):Int)]++ [.i (((i+j) /2:Nat):Int)]))= .i (((i+j) /2:Nat):Int):=by subst hn;simp[At.ev]
   exact bJ L.ah e
 rw[cd];exact hk
theorem FV {α:Type} {l:List α} {i j p} (hi) (hj):((l.set i l[j]).set j l[i])[p]? =if p=j then l[i]? else if p=i then l[j]? else l[p]?:=by
 by_cases e1:p=j
 · subst e1;rw[H5 (by simpa using hj),ay rfl,bW hi]
 · rw[zm (fun h=>e1 h.symm),aC e1];by_cases e2:p=i
   · subst e2;rw[H5 hi,ay rfl,bW hj]
   · rw[zm (fun h=>e2 h.symm),aC e2]
theorem aeG {a b n i p} (hab:a+n≤b) (hi:i<n):(if p=b+i then kL a b i (a+i)else if p=a+i then kL a b i (b+i)else kL a b i p)=kL a b (i+1) p:=by
 unfold kL; (repeat' split)<;>omega
theorem Ml (l) (hl:l.length≤1000000) {a b n:Nat} (hab:a+n≤b) (hb:b+n≤l.length):
   ∃d,zT [.r (l.map ao),.i a,.i b,.i n]=some [.r (d.map ao)]∧de a (b+n) l d∧∀p,d[p]? =l[kL a b n p]?:=by
 suffices h:∃o,Fo YK [.r (l.map ao),.i a,.i b,.i n]=some o∧∃d:List It,o=[.r (d.map ao)]∧de a (b+n) l d∧∀p,d[p]? =l[kL a b n p]? by
   obtain⟨o,h1,d,rfl,h2⟩:=h;exact⟨d,h1,h2⟩
 refine iH ?_;refine wp_loop (I:=fun s=>∃(i:Nat) (d:List It),s=[.i i,.r (d.map ao)]∧i≤n∧de a (b+n) l d∧∀p,d[p]? =l[kL a b i p]?) (mu:=fun s=>match s with|[.i i,_]=>n-i.toNat|_=>0)
   ⟨0,l,rfl,om,.refl l,fun p=>by congr 1;unfold kL; (repeat' split)<;>omega⟩ ?_
 rintro s ⟨i,d,rfl,hi,hs,hd⟩;have jn:=hs.perm.length_eq;refine uR ?_;refine aI rfl (fun hc=> ?_) (fun hc=> ?_);rotate_left
 · obtain rfl:i=n:=om;exact ad ⟨d,rfl,hs,hd⟩
 have c_:i<n:=om;have ha:a+i<d.length:=om;have hb':b+i<d.length:=om;refine cm (n:=((a+i:Nat):Int)) (by rfl) om om (nW ?_);refine cm (n:=((b+i:Nat):Int)) (by rfl) om om (nW ?_);refine cm (n:=((b+i:Nat):Int)) (by rfl) om om (nW ?_);refine iP (l:=d) (j:=b+i) rfl rfl hb' (nW ?_);refine cm (n:=((a+i:Nat):Int)) (by rfl) om om (nW ?_);refine iP (l:=d) (j:=a+i) rfl rfl ha (nW ?_);refine sb (l:=d) (j:=a+i) (z:=d[b+i]) rfl rfl ha rfl rfl (nW ?_);refine sb (l:=d.set (a+i) d[b+i]) (j:=b+i) (z:=d[a+i]) rfl rfl (by simpa using hb') rfl rfl (nW ?_);refine bg (i:=i) rfl om (nW ?_);refine ad ⟨⟨i+1,_,rfl,om,hs.trans (.swap ha hb' om om om om),fun p=> ?_⟩,?_⟩
 · rw[FV ha hb',←aeG hab c_]
   (repeat' split)<;>exact hd _
 · show n- ((i+1:Nat):Int).toNat<n-i;omega
theorem amE (l) (hl:l.length≤1000000) {a m b:Nat} (h1:a<m) (h2:m<b) (hb:b≤l.length):
   ∃d,JV [.r (l.map ao),.i a,.i m,.i b]=some [.r (d.map ao)]∧de a b l d∧∀p,d[p]? =l[bN a m b p]?:=by
 suffices h:∃o,Fo Qv [.r (l.map ao),.i a,.i m,.i b]=some o∧∃d:List It,o=[.r (d.map ao)]∧de a b l d∧∀p,d[p]? =l[bN a m b p]? by
   obtain⟨o,h1,d,rfl,h2⟩:=h;exact⟨d,h1,h2⟩
 refine iH ?_;refine ck (n:=((m-a:Nat):Int)) (by show(m:Int) -a=_;omega) om om (nW ?_);refine ck (n:=((b-m:Nat):Int)) (by show(b:Int) -m=_;omega) om om (nW ?_);refine aB (fun xs=>∃(i:Nat) (d:List It),xs=[.i i,.r (d.map ao)]∧0<i∧i≤m-a∧i≤b-m∧de a b l d∧∀p,d[bN (m-i) m (m+i) p]? =l[bN a m b p]?) ?_ ?_
 · refine wp_loop (I:=fun s=>∃(i j:Nat) (d:List It),s=[.i i,.i j,.r (d.map ao)]∧0<i∧i≤m-a∧0<j∧j≤b-m∧de a b l d∧∀p,d[bN (m-i) m (m+j) p]? =l[bN a m b p]?)
     (mu:=fun s=>match s with|[.i i,.i j,_]=>i.toNat+j.toNat|_=>0) ⟨m-a,b-m,l,rfl,om,om,om,om,.refl l,fun p=>by rw[Nat.sub_sub_self om,Nat.add_sub_cancel' om]⟩ ?_
   rintro s ⟨i,j,d,rfl,i0,i1,j0,j1,hs,hd⟩;have jn:=hs.perm.length_eq;refine uR ?_;refine aI rfl (fun hc=> ?_) (fun hc=> ?_);rotate_left
   · obtain rfl:i=j:=om;exact ad ⟨i,d,rfl,i0,i1,j1,hs,hd⟩
   refine uR ?_;refine aI rfl (fun hg=> ?_) (fun hg=> ?_)
   · have jI:j<i:=om;obtain⟨e,he,eM,mc⟩:=Ml d om (a:=m-i) (b:=m) (n:=j) om om;refine ck (n:=((m-i:Nat):Int)) (by show(m:Int) -i=_;omega) om om (nW ?_);refine ag he rfl rfl (nW ?_);refine ck (n:=((i-j:Nat):Int)) (by show(i:Int) -j=_;omega) om om (nW ?_);refine ad ⟨⟨i-j,j,e,rfl,om,om,j0,j1,hs.trans (eM.mono om om),fun p=> ?_⟩,?_⟩
     · rw[mc,ahi om jI];exact hd p
     · show((i-j:Nat):Int).toNat+j<i+j;omega
   · have hij:i<j:=om;obtain⟨e,he,eM,mc⟩:=Ml d om (a:=m-i) (b:=m+j-i) (n:=i) om om;refine ck (n:=((m-i:Nat):Int)) (by show(m:Int) -i=_;omega) om om (nW ?_);refine cm (n:=((m+j:Nat):Int)) (by rfl) om om (nW ?_);refine ck (n:=((m+j-i:Nat):Int)) (by show((m+j:Nat):Int) -i=_;omega) om om (nW ?_);refine ag he rfl rfl (nW ?_);refine ck (n:=((j-i:Nat):Int)) (by show(j:Int) -i=_;omega) om om (nW ?_);refine ad ⟨⟨i,j-i,e,rfl,i0,i1,om,om,hs.trans (eM.mono om om),fun p=> ?_⟩,?_⟩
     · rw[mc,agr om hij];exact hd p
     · show i+((j-i:Nat):Int).toNat<i+j;omega
 · rintro _ ⟨i,d,rfl,i0,i1,i2,hs,hd⟩;have jn:=hs.perm.length_eq;refine nW ?_;obtain⟨e,he,eM,mc⟩:=Ml d om (a:=m-i) (b:=m) (n:=i) om om;refine ck (n:=((m-i:Nat):Int)) (by show(m:Int) -i=_;omega) om om (nW ?_);refine ag he rfl rfl (nW ?_);refine ad ⟨e,rfl,hs.trans (eM.mono om om),fun p=> ?_⟩;rw[mc,azh om];exact hd p
def bQ (l:List It):Nat→Int:=oM (·.key) l
theorem oE {l} {p} (h):bQ l p=l[p].key:=aiL h
theorem Ul (a):F0 [a]=some [.b false]:=by
 refine aH ?_;refine uR ?_;refine ad ?_;show[L.b (decide (a.ah≠a.ah))]=_;simp
theorem aAJ (a b):∃c,F1 [a,b]=some [.i c]∧(c<0 ↔ a.ah<b.ah):=by
 suffices h:∃o,Fo L2 [a,b]=some o∧∃c:Int,o=[.i c]∧(c<0 ↔ a.ah<b.ah)by
   obtain⟨o,h1,c,rfl,h2⟩:=h;exact⟨c,h1,h2⟩
 refine iH ?_;refine ag (Ul a) rfl rfl (nW ?_);refine ag (Ul b) rfl rfl (nW ?_);refine bj rfl (bj rfl ?_);refine uR ?_;refine aI rfl (fun hc=> ?_) (fun hc=> ?_)
 · exact ad ⟨-1,rfl,om⟩
 refine uR ?_;refine aI rfl (fun hc2=> ?_) (fun hc2=> ?_)
 · exact ad ⟨1,rfl,om⟩
 · exact ad ⟨0,rfl,om⟩
theorem GI (x y:It):∃c,F6 [.i x.key,.i x.cookie,.i x.off,.i x.size,.i y.key,.i y.cookie,.i y.off,.i y.size]=some [.i c]∧(c<0 ↔ x.key<y.key):=by
 obtain⟨c,h1,h2⟩:=aAJ (.i x.key) (.i y.key);refine⟨c,aH ?_,h2⟩;exact ag h1 rfl rfl (ad rfl)
def DH (F:List L→Option (List L)) (n:Nat):Prop:=∀(l:List It) (a m b:Nat),l.length≤1000000→a<m→m<b→b≤l.length→b-a≤n→cZ (bQ l) a m→cZ (bQ l) m b→
 ∃d,F [.r (l.map ao),.i a,.i m,.i b]=some [.r (d.map ao)]∧de a b l d∧cZ (bQ d) a b
theorem yE {t} {F} {n N} (hF:DH F n) (hN:N≤2*n∨N≤3):DH (Fo (kJ t F)) N:=by
  intro l a m b hl h1 h2 hb hs ha hm
  suffices h:∃o,Fo (kJ t F) [.r (l.map ao),.i a,.i m,.i b]=some o∧∃d:List It,o=[.r (d.map ao)]∧de a b l d∧cZ (bQ d) a b by
    obtain⟨o,h1,d,rfl,h2⟩:=h;exact⟨d,h1,h2⟩
  refine iH ?_;unfold kJ;have HL:a<l.length:=om;have lA:m<l.length:=om;refine ck (n:=((m-a:Nat):Int)) (by show(m:Int) -a=_;omega) om om (nW ?_);refine uR ?_;refine aI rfl (fun hc=> ?_) (fun hc=> ?_)
  ·
    obtain rfl:m=a+1:=om;refine aB (fun xs=>∃i:Nat,xs=[.i i]∧a+1≤i∧i≤b∧(i=a+1∨bQ l (i-1)≤bQ l a)∧(i=b∨bQ l a≤bQ l i)) ?_ ?_
    · refine wp_loop (I:=fun s=>∃i j:Nat,s=[.i i,.i j]∧a+1≤i∧i≤j∧j≤b∧(i=a+1∨bQ l (i-1)≤bQ l a)∧(j=b∨bQ l a≤bQ l j)) (mu:=fun s=>match s with|[.i i,.i j]=>j.toNat-i.toNat|_=>0)
        ⟨a+1,b,rfl,om,om,om,.inl rfl,.inl rfl⟩ ?_
      rintro s ⟨i,j,rfl,i0,ij,j1,k1,k2⟩;refine uR ?_;refine aI rfl (fun hc=> ?_) (fun hc=> ?_);rotate_left
      · obtain rfl:i=j:=om;exact ad ⟨i,rfl,i0,j1,k1,k2⟩
      have hh:(i+j) /2<l.length:=om;refine zC (i:=i) (j:=j) rfl rfl rfl om (nW ?_);refine iP (l:=l) (j:=(i+j) /2) rfl rfl hh (nW ?_);refine iP (l:=l) (j:=a) rfl rfl HL (nW ?_);obtain⟨c,v8,gF⟩:=GI l[(i+j) /2] l[a];refine ag v8 rfl rfl (uR ?_);rw[←oE hh,←oE HL]at gF;refine aI rfl (fun hz=> ?_) (fun hz=> ?_)
      · refine bg (i:=(i+j) /2) rfl om (nW ?_);refine ad ⟨⟨(i+j) /2+1,j,rfl,om,om,j1,.inr (by rw[PH];omega),k2⟩,?_⟩;show j- (((i+j) /2+1:Nat):Int).toNat<j-i;omega
      · refine ad ⟨⟨i,(i+j) /2,rfl,i0,om,om,k1,.inr om⟩,?_⟩;show(((i+j) /2:Nat):Int).toNat-i<j-i;omega
    · rintro _ ⟨i,rfl,i0,i1,k1,k2⟩;refine nW ?_;refine aB (fun xs=>∃d:List It,xs=[.r (d.map ao)]∧de a b l d∧cZ (bQ d) a b) ?_ ?_;rotate_left
      · rintro _ ⟨d,rfl,hd⟩;exact nW (ad ⟨d,rfl,hd⟩)
      refine wp_loop (I:=fun s=>∃(k:Nat) (d:List It),s=[.i k,.r (d.map ao)]∧a≤k∧k≤i-1∧de a b l d∧∀p,d[p]? =l[bN a (a+1) (k+1) p]?) (mu:=fun s=>match s with|[.i k,_]=>i-k.toNat|_=>0)
        ⟨a,l,rfl,om,om,.refl l,fun p=>by rw[Tc]⟩ ?_
      rintro s ⟨k,d,rfl,k0,ki,hs,hd⟩;have jn:=hs.perm.length_eq;refine ck (n:=((i-1:Nat):Int)) (by show(i:Int) -1=_;omega) om om (uR ?_);refine aI rfl (fun hc=> ?_) (fun hc=> ?_);rotate_left
      · obtain rfl:k=i-1:=om;have e:i-1+1=i:=om;rw[e]at hd;exact ad ⟨d,rfl,hs,(anh hm i0 i1 k1 k2).congr fun p _ _=>lX (hd p)⟩
      have fZ:k+1<d.length:=om;have hk:k<d.length:=om;refine bg (i:=k) rfl om (nW ?_);refine bg (i:=k) rfl om (nW ?_);refine iP (l:=d) (j:=k+1) rfl rfl fZ (nW ?_);refine iP (l:=d) (j:=k) rfl rfl hk (nW ?_);refine sb (l:=d) (j:=k) (z:=d[k+1]) rfl rfl hk rfl rfl (nW ?_);refine sb (l:=d.set k d[k+1]) (j:=k+1) (z:=d[k]) rfl rfl (by simpa using fZ) rfl rfl (nW ?_);refine bg (i:=k) rfl om (nW ?_);refine ad ⟨⟨k+1,_,rfl,om,om,hs.trans (.swap hk fZ om om om om),fun p=> ?_⟩,?_⟩
      · rw[FV hk fZ];have e:(if p=k+1 then bN a (a+1) (k+1) k else if p=k then bN a (a+1) (k+1) (k+1)else bN a (a+1) (k+1) p)=bN a (a+1) (k+1+1) p:=by unfold bN; (repeat' split)<;>omega
        rw[←e]
        (repeat' split)<;>exact hd _
      · show i- ((k+1:Nat):Int).toNat<i-k;omega
  refine ck (n:=((b-m:Nat):Int)) (by show(b:Int) -m=_;omega) om om (nW ?_);refine uR ?_;refine aI rfl (fun hc2=> ?_) (fun hc2=> ?_)
  ·
    obtain rfl:b=m+1:=om;refine aB (fun xs=>∃i:Nat,xs=[.i i]∧a≤i∧i≤m∧(i=a∨bQ l (i-1)≤bQ l m)∧(i=m∨bQ l m≤bQ l i)) ?_ ?_
    · refine wp_loop (I:=fun s=>∃i j:Nat,s=[.i i,.i j]∧a≤i∧i≤j∧j≤m∧(i=a∨bQ l (i-1)≤bQ l m)∧(j=m∨bQ l m≤bQ l j)) (mu:=fun s=>match s with|[.i i,.i j]=>j.toNat-i.toNat|_=>0)
        ⟨a,m,rfl,om,om,om,.inl rfl,.inl rfl⟩ ?_
      rintro s ⟨i,j,rfl,i0,ij,j1,k1,k2⟩;refine uR ?_;refine aI rfl (fun hc=> ?_) (fun hc=> ?_);rotate_left
      · obtain rfl:i=j:=om;exact ad ⟨i,rfl,i0,j1,k1,k2⟩
      have hh:(i+j) /2<l.length:=om;refine zC (i:=i) (j:=j) rfl rfl rfl om (nW ?_);refine iP (l:=l) (j:=m) rfl rfl lA (nW ?_);refine iP (l:=l) (j:=(i+j) /2) rfl rfl hh (nW ?_);obtain⟨c,v8,gF⟩:=GI l[m] l[(i+j) /2];refine ag v8 rfl rfl (uR ?_);rw[←oE hh,←oE lA]at gF;refine bc (fun hz=> ?_) (fun hz=> ?_)
      · have hz:(!decide (c<0))=true:=hz;have hz:¬c<0:=by simpa using hz
        refine bg (i:=(i+j) /2) rfl om (nW ?_);refine ad ⟨⟨(i+j) /2+1,j,rfl,om,om,j1,.inr (by rw[PH];omega),k2⟩,?_⟩;show j- (((i+j) /2+1:Nat):Int).toNat<j-i;omega
      · have hz:(!decide (c<0))=false:=hz;have hz:c<0:=by simpa using hz
        refine ad ⟨⟨i,(i+j) /2,rfl,i0,om,om,k1,.inr om⟩,?_⟩;show(((i+j) /2:Nat):Int).toNat-i<j-i;omega
    · rintro _ ⟨i,rfl,i0,i1,k1,k2⟩;refine nW ?_;refine aB (fun xs=>∃d:List It,xs=[.r (d.map ao)]∧de a (m+1) l d∧cZ (bQ d) a (m+1)) ?_ ?_;rotate_left
      · rintro _ ⟨d,rfl,hd⟩;exact nW (ad ⟨d,rfl,hd⟩)
      refine wp_loop (I:=fun s=>∃(k:Nat) (d:List It),s=[.i k,.r (d.map ao)]∧i≤k∧k≤m∧de a (m+1) l d∧∀p,d[p]? =l[bN k m (m+1) p]?) (mu:=fun s=>match s with|[.i k,_]=>k.toNat|_=>0)
        ⟨m,l,rfl,om,om,.refl l,fun p=>by rw[YS om]⟩ ?_
      rintro s ⟨k,d,rfl,k0,ki,hs,hd⟩;have jn:=hs.perm.length_eq;refine uR ?_;refine aI rfl (fun hc=> ?_) (fun hc=> ?_);rotate_left
      · obtain rfl:k=i:=om;exact ad ⟨d,rfl,hs,(ate ha i0 i1 k1 k2).congr fun p _ _=>lX (hd p)⟩
      have fZ:k-1<d.length:=om;have hk:k<d.length:=om;refine ck (n:=((k-1:Nat):Int)) (by show(k:Int) -1=_;omega) om om (nW ?_);refine ck (n:=((k-1:Nat):Int)) (by show(k:Int) -1=_;omega) om om (nW ?_);refine iP (l:=d) (j:=k-1) rfl rfl fZ (nW ?_);refine iP (l:=d) (j:=k) rfl rfl hk (nW ?_);refine sb (l:=d) (j:=k) (z:=d[k-1]) rfl rfl hk rfl rfl (nW ?_);refine sb (l:=d.set k d[k-1]) (j:=k-1) (z:=d[k]) rfl rfl (by simpa using fZ) rfl rfl (nW ?_);refine ck (n:=((k-1:Nat):Int)) (by show(k:Int) -1=_;omega) om om (nW ?_);refine ad ⟨⟨k-1,_,rfl,om,om,hs.trans (.swap hk fZ om om om om),fun p=> ?_⟩,?_⟩
      · rw[FV hk fZ];have e:(if p=k-1 then bN k m (m+1) k else if p=k then bN k m (m+1) (k-1)else bN k m (m+1) p)=bN (k-1) m (m+1) p:=by unfold bN; (repeat' split)<;>omega
        rw[←e]
        (repeat' split)<;>exact hd _
      · show((k-1:Nat):Int).toNat<k;omega
  have hmb:b-a≤2*n:=om;refine zC (i:=a) (j:=b) rfl rfl rfl om (nW ?_);refine cm (n:=(((a+b) /2+m:Nat):Int)) (by rfl) om om (nW ?_);generalize aFs:(a+b) /2=mid;have q1:2*mid≤a+b:=om;have q2:a+b≤2*mid+1:=om;refine aB (fun xs=>∃lo r:Nat,xs=[.i lo,.i r]∧a≤lo∧lo≤r∧r≤m∧r≤mid∧mid+m≤b+lo∧(lo=a∨mid+m=b+lo)∧(r=m∨r=mid)) ?_ ?_
  · refine uR ?_;refine aI rfl (fun hg=> ?_) (fun hg=> ?_)
    · refine ck (n:=((mid+m-b:Nat):Int)) (by show((mid+m:Nat):Int) -b=_;omega) om om (nW ?_);exact ad ⟨mid+m-b,mid,rfl,om,om,om,om,om,.inr om,.inr rfl⟩
    · exact ad ⟨a,m,rfl,om,om,om,om,om,.inl rfl,.inl rfl⟩
  rintro _ ⟨lo,r,rfl,b1,b2,b3,b4,b5,b6,b7⟩;refine nW ?_;refine ck (n:=((mid+m-1:Nat):Int)) (by show((mid+m:Nat):Int) -1=_;omega) om om (nW ?_);refine aB (fun xs=>∃s:Nat,xs=[.i s]∧lo≤s∧s≤r∧(s=lo∨bQ l (s-1)≤bQ l (mid+m-s))∧(s=r∨bQ l (mid+m-1-s)≤bQ l s)) ?_ ?_
  · refine wp_loop (I:=fun x=>∃i j:Nat,x=[.i i,.i j]∧lo≤i∧i≤j∧j≤r∧(i=lo∨bQ l (i-1)≤bQ l (mid+m-i))∧(j=r∨bQ l (mid+m-1-j)≤bQ l j)) (mu:=fun s=>match s with|[.i i,.i j]=>j.toNat-i.toNat|_=>0)
      ⟨lo,r,rfl,om,om,om,.inl rfl,.inl rfl⟩ ?_
    rintro x ⟨i,j,rfl,i0,ij,j1,k1,k2⟩;refine uR ?_;refine aI rfl (fun hc=> ?_) (fun hc=> ?_);rotate_left
    · obtain rfl:i=j:=om;exact ad ⟨i,rfl,i0,j1,k1,k2⟩
    have hh:(i+j) /2<l.length:=om;have hp:mid+m-1- (i+j) /2<l.length:=om;refine zC (i:=i) (j:=j) rfl rfl rfl om (nW ?_);refine ck (n:=((mid+m-1- (i+j) /2:Nat):Int)) (by show((mid+m-1:Nat):Int) - (((i+j) /2:Nat):Int)=_;omega) om om (nW ?_);refine iP (l:=l) (j:=mid+m-1- (i+j) /2) rfl rfl hp (nW ?_);refine iP (l:=l) (j:=(i+j) /2) rfl rfl hh (nW ?_);obtain⟨c,v8,gF⟩:=GI l[mid+m-1- (i+j) /2] l[(i+j) /2];refine ag v8 rfl rfl (uR ?_);rw[←oE hh,←oE hp]at gF;refine bc (fun hz=> ?_) (fun hz=> ?_)
    · have hz:(!decide (c<0))=true:=hz;have hz:¬c<0:=by simpa using hz
      refine bg (i:=(i+j) /2) rfl om (nW ?_);refine ad ⟨⟨(i+j) /2+1,j,rfl,om,om,j1,.inr (by rw[PH,show mid+m- ((i+j) /2+1)=mid+m-1- (i+j) /2 by omega];omega),k2⟩,?_⟩;show j- (((i+j) /2+1:Nat):Int).toNat<j-i;omega
    · have hz:(!decide (c<0))=false:=hz;have hz:c<0:=by simpa using hz
      refine ad ⟨⟨i,(i+j) /2,rfl,i0,om,om,k1,.inr om⟩,?_⟩;show(((i+j) /2:Nat):Int).toNat-i<j-i;omega
  rintro _ ⟨s,rfl,s0,s1,k1,k2⟩;refine nW ?_;obtain⟨e,he⟩:∃e,e=mid+m-s:=⟨_,rfl⟩
  refine ck (n:=(e:Int)) (by show((mid+m:Nat):Int) -s=_;omega) om om (nW ?_);have aDn:s+(e-m)=mid:=om;obtain ⟨z1,z2,z3,z4,z5⟩:=aue ha hm (show a≤s by omega) (show s≤m by omega) (show m≤e by omega) (show e≤b by omega)
    (by
        rcases k1 with k|k
        · rcases b6 with k'|k'
          · exact .inl om
          · exact .inr (.inl om)
        · exact .inr (.inr (by rw[he];exact k)))
    (by
        rcases k2 with k|k
        · rcases b7 with k'|k'
          · exact .inl om
          · exact .inr (.inl om)
        · exact .inr (.inr (by rw[he,show mid+m-s-1=mid+m-1-s by omega];exact k)))
  rw[aDn]at z2 z3 z5;refine aB (fun xs=>∃d:List It,xs=[.r (d.map ao)]∧de a b l d∧∀p,d[p]? =l[bN s m e p]?) ?_ ?_
  · refine aB (bT (s<m∧m<e)) ?_ ?_
    · refine uR ?_;refine aI rfl (fun g1=> ?_) (fun g1=> ?_)
      · refine uR (ad ?_);exact dW om
      · exact ad (dN om)
    · rintro _ ⟨t1,rfl,ht⟩;refine nW ?_;refine bc (fun g1=> ?_) (fun g1=> ?_)
      · have g1:=ht.1 g1;obtain⟨d,hd,HM,hgd⟩:=amE l hl g1.1 g1.2 (show e≤l.length by omega);refine ag hd rfl rfl (nW ?_);exact ad ⟨d,rfl,HM.mono om om,hgd⟩
      · have g1:¬(s<m∧m<e):=fun h=>by rw[ht.2 h]at g1;cases g1
        refine ad ⟨l,rfl,.refl l,fun p=> ?_⟩;by_cases c1:s=m
        · rw[c1,YS om]
        · rw[show e=m by omega,Tc]
  rintro _ ⟨d,rfl,HM,hgd⟩;refine nW ?_;have jn:=HM.perm.length_eq;have hv:∀p,bQ d p=bQ l (bN s m e p):=fun p=>lX (hgd p)
  have y1:cZ (bQ d) a s:=z1.congr fun p _ _=>hv p
  have y2:cZ (bQ d) s mid:=z2.congr fun p _ _=>hv p
  have y3:cZ (bQ d) mid e:=z3.congr fun p _ _=>hv p
  have y4:cZ (bQ d) e b:=z4.congr fun p _ _=>hv p
  have y5:∀p q,a≤p→p<mid→mid≤q→q<b→bQ d p≤bQ d q:=fun p q h1 h2 h3 h4=>by rw[hv,hv];exact z5 p q h1 h2 h3 h4
  refine aB (fun xs=>∃d2:List It,xs=[.r (d2.map ao)]∧de a mid d d2∧cZ (bQ d2) a mid) ?_ ?_
  · refine aB (bT (a<s∧s<mid)) ?_ ?_
    · refine uR ?_;refine aI rfl (fun g1=> ?_) (fun g1=> ?_)
      · refine uR (ad ?_);exact dW om
      · exact ad (dN om)
    · rintro _ ⟨t1,rfl,ht⟩;refine nW ?_;refine bc (fun g1=> ?_) (fun g1=> ?_)
      · have g1:=ht.1 g1;obtain⟨d2,v7,aDo,aDp⟩:=hF d a s mid om g1.1 g1.2 om om y1 y2;refine ag v7 rfl rfl (nW ?_);exact ad ⟨d2,rfl,aDo,aDp⟩
      · have g1:¬(a<s∧s<mid):=fun h=>by rw[ht.2 h]at g1;cases g1
        refine ad ⟨d,rfl,.refl d,?_⟩;by_cases c1:a=s
        · rw[c1];exact y2
        · rw[show mid=s by omega];exact y1
  rintro _ ⟨d2,rfl,hs2,hg2⟩;refine nW ?_;have aFt:=hs2.perm.length_eq;have hv2:∀p,mid≤p→bQ d2 p=bQ d p:=fun p hp=>lX (hs2.out p (.inr hp))
  have x3:cZ (bQ d2) mid e:=y3.congr fun p h1 _=>hv2 p h1
  have x4:cZ (bQ d2) e b:=y4.congr fun p h1 _=>hv2 p om
  have fin:∀d3:List It,de mid b d2 d3→cZ (bQ d3) mid b→de a b l d3∧cZ (bQ d3) a b:=fun d3 h3 h4=>
    ⟨HM.trans ((hs2.mono om om).trans (h3.mono om om)),cZ.join (hg2.congr fun p _ h2=>lX (h3.out p (.inl h2))) h4 (ayZ y5 hs2 h3)⟩
  refine aB (bT (mid<e∧e<b)) ?_ ?_
  · refine uR ?_;refine aI rfl (fun g1=> ?_) (fun g1=> ?_)
    · have g1:(mid:Int)<e:=g1;refine uR (ad ?_);show bT _ [L.b (decide ((e:Int)<b))];exact dW om
    · have g1:¬(mid:Int)<e:=g1;exact ad (dN om)
  · rintro _ ⟨t1,rfl,ht⟩;refine nW ?_;refine bc (fun g1=> ?_) (fun g1=> ?_)
    · have g1:=ht.1 g1;obtain⟨d3,oi,aDq,aDr⟩:=hF d2 mid e b om g1.1 g1.2 om om x3 x4;refine ag oi rfl rfl (nW ?_);exact ad ⟨d3,rfl,fin d3 aDq aDr⟩
    · have g1:¬(mid<e∧e<b):=fun h=>by rw[ht.2 h]at g1;cases g1
      refine ad ⟨d2,rfl,fin d2 (.refl d2) ?_⟩;by_cases c1:mid=e
      · rw[c1];exact x4
      · rw[show b=e by omega];exact x3
theorem amR:DH GM 0:=fun l a m b _ h1 h2 _ hs _ _=>om
theorem Z1:DH xd 96:=yE (n:=48) (yE (n:=24) (yE (n:=12) (yE (n:=6) (yE (n:=3) (yE (n:=0) amR (.inr om)) (.inl om)) (.inl om)) (.inl om)) (.inl om)) (.inl om)
end
section
attribute [local irreducible] Fo
open Go.RowKit
def adU:ae:= .join (.cA 409 se [U0,U1,U2,U3,U4,U5,U6,U7,U8,U9,ax,aw,aD] 1<|.no aN<|.ite aM (.j [.b true]) (.bI .lss aG (.i 0)<|.ite aL (.j [.b true]) (.bI .lss aJ (.i 0)<|.ite aX (.j [.b true]) (.bI .gtr aG U3<|.ite a8 (.j [.b true]) (.bI .sub U3 aG<|.bI .gtr aJ bk<|.j [be]))))) (.ite aN (.j [.b false,.r0]) (.cA 2031 W9 [U0,U1,U2,U3,U4,U5,U6,U7,U8,U9,ax,aw,aD,aE] 2<|.cA 2030 A' [aG,aJ] 2<|.join (.ln aX<|.loop [.i 0,.r0] (.bI .lss be bk<|.ite bm (.join (.rw aX be 3<|.op (.rc aX be 0 (.int .i64))<|.op (.rc aX be 1 (.int .i64))<|.op (.rc aX be 2 (.int .i64))<|.rw aL bq 1<|.cl cC 0 .bool<|.ite cP (.rw aw bq 1<|.cl dq 0 .sl<|.bI .add bw b9<|.ln cq<|.op (.part cq bw eP 1)<|.op (.app bp fT 1 1)<|.j [gI]) (.bI .geq aM (.i 4)<|.ite dq (.cA 389 Vh [aw,aL,bq,bw,b9] 1<|.op (.app bp cq 1 1)<|.j [eP]) (.ak (.jump 3 [.b false,.r0])))) (.bI .add be (.i 1)<|.j [bq,bA])) (.ak (.jump 1 [bp])))) (.j [.b true,bk])))
def KS:=Fo adU
def aeP:au:=⟨164,[.agg (cX 0 4++ [.p (.int .u32) U4,.p (.int .u32) U5,.p (.int .u32) U6,.p (.int .u32) U7,.p (.int .u32) U8,.p (.int .u32) U9,ps 10]),cs 11,cs 12,cs 13,ci 14,ci 15],[],16,2,.aj [.c (.own 0),.c (.p .bool aN)],[(0,(.row 5 aM))],KS,414⟩
theorem afd:Ok aeP:=oS (.cons X_ (.cons apE (.cons ash (.cons Uw (.cons auc .nil)))))
def anR:ae:= .cA 5 F5 [aM] 1<|.cA 414 KS [U0,U1,U2,U3,U4,U5,U6,U7,U8,U9,ax,aw,aD,aE,aN,aL] 2<|.join (.no aX<|.ite bk (.j [.b true]) (.bI .eql aL (.i 0)<|.j [be])) (.ite bk (.j [.b false,.i 0,.i 0,.b false,.r0]) (.op (.call 363 Fy [a8] 6 [5])<|.join (.bI .neq bp (.i 0)<|.ite b9 (.j [.b true]) (.bI .neq be aL<|.ite cC (.j [.b true]) (.ite bq (.j [.b true]) (.op (.bi .neq .u64 bm aG)<|.ite cP (.j [.b true]) (.op (.bi .neq .u32 bA aJ)<|.ite dq (.j [.b true]) (.ln bw<|.bI .neq cq aM<|.j [eP])))))) (.ite b9 (.j [.b false,.i 0,.i 0,.b false,.r0]) (.j [.b true,bm,bA,bq,bw]))))
def vi:=Fo anR
def adg:au:=⟨108,[.agg (cX 0 4++ [.p (.int .u32) U4,.p (.int .u32) U5,.p (.int .u32) U6,.p (.int .u32) U7,.p (.int .u32) U8,.p (.int .u32) U9,ps 10]),cs 11,cs 12,cs 13,.agg [.p (.int .u64) aG,.p (.int .u32) aJ,pi 16,pi 17]],[],18,5,.aj [.agg [.p (.int .u64) aX,.p (.int .u32) a8,.p .bool bk,.own 0],.c (.p .bool aL)],[(0,(.row 5 be))],vi,415⟩
theorem atd:Ok adg:=oS (.cons afd (.cons Um (.cons sj .nil)))
noncomputable def Tb:List L→Option (List L):=uD se tv vp vi
def avD:au:=Ey se tv vp vi 2040
theorem aiu:avD.ok Tryz.prog:=apt (F105:=se) (t105:=409) (F106:=tv) (t106:=330) (F107:=vp) (t107:=329) (F108:=vi) (t108:=415) X_ apj agM atd 2040
def aos:ae:= .bI .eql U1 (.i 0)<|.ite U9 (.j [.i 13,.i 0,.i 0,.b false,.r0]) (.cA 337 A9 [.i 4,U3,U4] 1<|.cA 379 wX [U0,U1,U2,ax] 2<|.op (.call 405 Lq [aD] 12 [11])<|.join (.no aw<|.ite bA (.j [.b true]) (.bI .neq aE (.i 0)<|.j [bq])) (.ite bA (.j [.i 11,.i 0,.i 0,.b false,.r0]) (.op (.ix (.i 6) [(.sl,.r0)] 24)<|.op (.ix (.i 6) [(.bool,(.b false))] 1)<|.join (.ln bq<|.loop [.i 0,bq,bw] (.bI .lss cC b9<|.ite cq (.cA 336 yk [.i 5,U3,U4,cC,.b false] 2<|.cA 379 wX [U0,U1,U2,eP] 2<|.rw cP cC 1<|.op (.set cP cC 0 [(.sl,gI)])<|.rw dq cC 1<|.op (.set dq cC 0 [(.bool,fT)])<|.bI .add cC (.i 1)<|.j [my,j_,gq]) (.ak (.jump 1 [cP,dq])))) (.op (.call 2040 Tb [aG,aJ,aN,aM,aL,aX,a8,bk,be,bp,bm,b9,cC,U5,U6,U7,U8] 5 [4])<|.j [eP,cP,dq,cq,eT]))))
def LR:=Fo aos
def ahM:au:=⟨26,[.agg [pi 0,pi 1,ps 2],ci 3,ci 4,.agg [.p (.int .u64) U5,.p (.int .u32) U6,pi 7,pi 8]],[],9,5,.aj [.agg [.p (.int .u64) ax,.p (.int .u32) aw,.p .bool aD,.own 0],ci 9],[(0,(.row 5 aE))],LR,416⟩
theorem aiM:Ok ahM:=oS (.cons aiu (.cons aAQ (.cons adv (.cons Qx (.cons P6 .nil)))))
def aoO:ae:= .cA 361 Ln [aM,U3,U4,U5,U6,U7,U8,U9] 1<|.join (.bI .lss aL (.i 0)<|.ite aX (.j [.b true]) (.rw aM aL 14<|.cl a8 1 (.int .i64)<|.bI .neq bk U5<|.ite be (.j [.b true]) (.rw aM aL 14<|.cl bp 2 (.int .i64)<|.bI .eql bm (.i 3)<|.ite bA (.bI .neq U4 (.i 3)<|.j [bq]) (.j [.b false])))) (.ite aX (.bI .add ax (.i 1)<|.j [.i 0,a8,.r0]) (.join (.rw aM aL 14<|.cl a8 2 (.int .i64)<|.bI .eql bk (.i 3)<|.ite be (.cA 416 LR [aw,aD,aE,aG,U3,U6,U7,U8,U9] 5<|.bI .eql bp (.i 0)<|.ite b9 (.j [bm,bA,bq,.i 0,bw]) (.j [.i 0,.i 0,.b false,.i 11,.r0])) (.cA 378 MA [aw,aD,aE,aG,U3,U6,U7,U8,U9] 5<|.ite bp (.j [bm,bA,bq,.i 0,bw]) (.j [.i 0,.i 0,.b false,.i 11,.r0]))) (.op (.lit [[((.int .u64),a8),((.int .u32),bk),(.bool,be),(.sl,bm),((.int .i64),bp)]])<|.j [U2,ax,bA])))
def Ad:=Fo aoO
def ayU:au:=⟨42,[.agg ([.p (.int .u64) U0,.p (.int .u32) U1]++cX 2 4++ [.p (.int .u64) U6,.p (.int .u32) U7,pi 8,pi 9,pi 10]),.agg [pi 11,pi 12,ps 13],.agg [pi 14,pi 15,.p .bool aN,ps 17]],[],18,3,.aj [.agg [.p (.int .u64) U0,.p (.int .u32) U1,pi 18,pi 3,pi 4,pi 5,.p (.int .u64) U6,.p (.int .u32) U7,pi 8,pi 9,pi 19],.c (.own 0)],[(0,(.row 75 a8))],Ad,1200⟩
theorem awr:Ok ayU:=oS (.cons aiM (.cons aoH (.cons asp .nil)))
end
end
end Go.Proofs.YtndegphojkiblaaGreatDoor
