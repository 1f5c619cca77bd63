/- Towards the last file's theorem: part 24. -/
import Derived.Test.YtndegphojkiblaaGreatDoorG15
import Derived.Test.YtndegphojkiblaaGreatDoorG16
import Derived.Test.YtndegphojkiblaaGreatDoorG21
import Derived.Test.YtndegphojkiblaaGreatDoorG22
import Derived.Test.YtndegphojkiblaaGreatDoorG23
import Derived.WalkKit
set_option linter.all false
set_option maxHeartbeats 4000000
set_option maxRecDepth 100000
namespace Go.Proofs.YtndegphojkiblaaGreatDoor
noncomputable section
section
open Go.RowKit
attribute [local irreducible] Fo
def Gg:ad:= .bI .eql U1 (.i 0)<|.ite U9 (.j [.i 13,.i 0,.i 0,.b false,.r0]) (.cA 337 He [.i 4,U3,U4] 1<|.cA 379 vl [U0,U1,U2,aA] 2<|.op (.call 405 MM [aN] 12 [11])<|.join (.no aF<|.ite cF (.j [.b true]) (.bI .neq aK (.i 0)<|.j [cC])) (.ite cF (.j [.i 11,.i 0,.i 0,.b false,.r0]) (.op (.rep (.i 6) [(.sl,.r0)] 24)<|.op (.rep (.i 6) [(.bool,(.b false))] 1)<|.join (.ln cC<|.loop [.i 0,cC,cL] (.bI .lss cY dE<|.ite eb (.cA 336 yR [.i 5,U3,U4,cY,.b false] 2<|.cA 379 vl [U0,U1,U2,dU] 2<|.rw ed cY 1<|.op (.set ed cY 0 [(.sl,pg)])<|.rw eU cY 1<|.op (.set eU cY 0 [(.bool,mX)])<|.bI .add cY (.i 1)<|.j [Av,oZ,qw]) (.ar (.jump 1 [ed,eU])))) (.op (.call 2040 AL [aS,aT,bq,aZ,bB,bD,bJ,cf,bZ,da,dm,dE,cY,U5,U6,U7,U8] 5 [4])<|.j [dU,ed,eU,eb,fc]))))
def Eh:=Fo Gg
def Y2:az:=⟨26,[.agg [pi 0,pi 1,ps 2],ci 3,ci 4,.agg [.p (.int .u64) U5,.p (.int .u32) U6,pi 7,pi 8]],[],9,5,.aj [.agg [.p (.int .u64) aA,.p (.int .u32) aF,.p .bool aN,.own 0],ci 9],[(0,(.row 5 aK))],Eh,416⟩
theorem Tc:Ok Y2:=oS (.cons alp (.cons alY (.cons aEx (.cons XS (.cons acf .nil)))))
def OY:=mS [] 266 [cs 0,.c (.p (.int .u64) U1)] [] 2 1 (.v (ci 2)) [] 157
def afS:=OY.F
theorem akP:Ok OY:=oS .nil
def LX:=mS [OY] 229 [cs 0,.c (.p (.int .u64) U1)] [] 2 1 (.v (.c (.p .bool U2))) [] 160
def afd:=LX.F
theorem aol:Ok LX:=oS (.cons akP .nil)
def Hz:=mS [LX] 228 [.agg [.p (.int .u64) U0,.p (.int .u32) U1,pi 2,pi 3],.c (.ptr 0 0)] [.box [ps 4]] 5 1 (.v (.c (.p .bool U5))) [(0,(.box [ps 4]))] 161
def Qd:=Hz.F
theorem abO:Ok Hz:=oS (.cons aol .nil)
def OF:=mS [Hz] 208 [.c (.own 0),.c (.fn 228 [1])] [.row 25 U0,.box [.nil]] 1 1 (.v (ci 1)) [(1,(.box [.p .sl .r0])),(0,(.row 25 U0))] 162
def XA:=OF.F
theorem alw:Ok OF:=oS (.cons abO .nil)
def MJ:ad:=xF Zn [OF,Hz,agw,Vo] Tryz.f227 1 [.c (.own 0),.c (.fn 228 [1])] [.row 25 U0,.box [.nil]]
def Po:=Fo MJ
def abD:az:=⟨227,[.c (.own 0),.c (.fn 228 [1])],[.row 25 U0,.box [.nil]],1,0,.v (.c (.own 0)),[(0,(.row 25 U0)),(1,(.box [.p .sl .r0]))],Po,163⟩
theorem ayx:abD.ok Tryz.prog:=HG MJ aEQ (.cons alw (.cons abO (.cons ack (.cons GF .nil)))) Tryz.func227 kr kr rfl
def KP:=mS [abD,acN,OS] 192 [.c .nil,.c (.own 0),.c .nil] [.row 25 U0] 1 1 (.v (.c (.own 1))) [(1,(.row 25 U1)),(0,(.row 25 U0))] 166
def aaM:=KP.F
theorem akf:Ok KP:=oS (.cons ayx (.cons ajN (.cons Zp .nil)))
def YP:List L→Option (List L):=fun _=>none
def TU:az:=⟨263,[.c (.own 0),ci 1,ci 2,ci 3,.c (.fn 190 [])],[.row 25 U0],4,0,.aj [.c (.p (.int .i64) (.i 0)),.c (.p .bool (.b false))],[(0,(.row 25 U0))],YP,1183⟩
theorem aAX:TU.ok Tryz.prog:=fun _ _ _ h=>by
 have h:(none:Option (List L))=some _:=h;cases h
def Nt:=mS [Y2,Rf,Qv] 42 [.agg ([.p (.int .u64) U0,.p (.int .u32) U1]++cK 2 4++ [.p (.int .u64) U6,.p (.int .u32) U7,pi 8,pi 9,pi 10]),.agg [pi 11,pi 12,ps 13],.agg [pi 14,pi 15,.p .bool bq,ps 17]] [] 18 3 (.aj [.agg [.p (.int .u64) U0,.p (.int .u32) U1,pi 18,pi 3,pi 4,pi 5,.p (.int .u64) U6,.p (.int .u32) U7,pi 8,pi 9,pi 19],.c (.own 0)]) [(0,(.row 75 bJ))] 1200
def arn:=Nt.F
theorem axO:Ok Nt:=oS (.cons Tc (.cons amF (.cons azc .nil)))
def zS:=mS [KP,xL,I2] 143 [.agg (eP 0 8++ [pi 8,pi 9])] [] 10 1 (.v (.c (.own 0))) [(0,(.row 25 aA))] 168
def Hd:=zS.F
theorem Qx:Ok zS:=oS (.cons akf (.cons Hn (.cons avX .nil)))
def Lp:List L→Option (List L):=fun _=>none
def TV:az:=⟨224,[.c (.own 0),ci 1,ci 2,ci 3,.c (.fn 190 [])],[.row 25 U0],4,0,.aj [],[(0,(.row 25 U0))],Lp,1811⟩
theorem anq:TV.ok Tryz.prog:=fun _ _ _ h=>by
 have h:(none:Option (List L))=some _:=h;cases h
def EF:=mS [zS] 85 [.agg (eP 0 8++ [pi 8,pi 9])] [] 10 1 (.v (ci 10)) [] 171
def LJ:=EF.F
theorem UX:Ok EF:=oS (.cons Qx .nil)
def Pa:=mS [TV,TU,acW,afe,TX,aas,N5,Fe,EO] 224 [.c (.own 0),ci 1,ci 2,ci 3,.c (.fn 190 [])] [.row 25 U0] 4 1 (.aj []) [(0,(.row 25 U4))] 177
def Td:=Pa.F
theorem aCD:Ok Pa:=oS (.cons anq (.cons aAX (.cons awn (.cons apI (.cons alu (.cons awm (.cons aFT (.cons afl (.cons afg .nil)))))))))
def Nv:=mS [Pa,JI] 189 [.c (.own 0),.c (.fn 190 [])] [.row 25 U0] 1 1 (.aj []) [(0,(.row 25 U1))] 185
def YL:=Nv.F
theorem aDD:Ok Nv:=oS (.cons aCD (.cons aEh .nil))
def ES:=mS [Nv,s5] 142 [.c (.own 0),ci 1] [.row 25 U0] 2 2 (.v (.c (.p .bool U2))) [(0,(.row 25 U3))] 186
def KG:=ES.F
theorem Tx:Ok ES:=oS (.cons aDD (.cons r6 .nil))
def BM:=mS [ES,zS,xL] 84 [.agg (cK 0 4++ [.nil,.nil,.nil,.nil,.nil,.nil,.nil,.nil,pi 4,pi 5])] [] 6 1 (.v (.c (.p .bool U6))) [] 188
def T0:=BM.F
theorem Kx:Ok BM:=oS (.cons Tx (.cons Qx (.cons Hn .nil)))
def PF:=mS [BM,sM] 71 [ci 0] [] 1 4 (.aj [.agg [pi 2,.p (.int .i64) (.i 0),pi 3,pi 4,.nil,.nil,.nil,.nil,.nil,.nil,.nil,.nil,.p (.int .i64) (.i 0),.p (.int .i64) (.i 0)],ci 1]) [] 189
def abg:=PF.F
theorem azL:Ok PF:=oS (.cons Kx (.cons aAI .nil))
def Fs:=mS [ES,zS,xL] 84 [.agg (cK 0 4++eP 4 8++ [pi 12,pi 13])] [] 14 1 (.v (.c (.p .bool aS))) [] 187
def Mc:=Fs.F
theorem WC:Ok Fs:=oS (.cons Tx (.cons Qx (.cons Hn .nil)))
def Ds:=mS [Fs,BM,EF,s5] 40 [.agg [pi 0,pi 1,.p .bool U2,ps 3]] [] 4 1 (.v (.c (.p .bool U4))) [] 190
def Bz:=Ds.F
theorem MA:Ok Ds:=oS (.cons WC (.cons Kx (.cons UX (.cons r6 .nil))))
noncomputable def abf:List L→Option (List L):=xh Bz F4 Cf 125
def acQ:az:=WU Bz F4 Cf 125 2002
theorem auN:acQ.ok Tryz.prog:=aub (F40:=Bz) (t40:=190) (F112:=F4) (t112:=4) (F113:=Cf) (t113:=125) MA ok4 aEM 2002
def PH:=mS [acQ] 29 [.agg [pi 0,pi 1,.p .bool U2,ps 3],.c (.p (.int .u64) U4)] [] 5 8 (.aj [.agg [pi 6,pi 7,pi 8,.p (.int .u64) U9,.p (.int .u32) aA,pi 11,pi 12],.c (.p .bool U5)]) [] 192
def XC:=PH.F
theorem anB:Ok PH:=oS (.cons auN .nil)
def Ei:=mS [Fs,BM,EF,s5] 40 [.agg [pi 0,pi 1,.p .bool U2,.own 0]] [.row 131 U3] 4 1 (.v (.c (.p .bool U4))) [(0,(.row 131 U3))] 418
def afP:=Ei.F
theorem adw:Ok Ei:=oS (.cons WC (.cons Kx (.cons UX (.cons r6 .nil))))
def Gq:=mS [Ei,Ds,PF] 32 [ci 0,ci 1] [] 2 4 (.aj [.agg [pi 3,pi 4,.p .bool (.b false),.own 0],ci 2]) [(0,(.row 131 U5))] 191
def J4:=Gq.F
theorem agM:Ok Gq:=oS (.cons adw (.cons MA (.cons azL .nil)))
noncomputable def S9:List L→Option (List L):=J4
def UT:az:=⟨32,[ci 0,ci 1],[],2,4,.aj [.agg [pi 3,pi 4,.p .bool (.b false),ps 5],ci 2],[],J4,2050⟩
theorem atO:UT.ok Tryz.prog:=Es (s:=Gq) agM rfl (x:=(.v 5)) (e:=131) rfl rfl 2050
def PB:=mS [PH] 41 [.agg ([.p (.int .u64) U0,.p (.int .u32) U1]++cK 2 4++ [.p (.int .u64) U6,.p (.int .u32) U7,pi 8,pi 9,pi 10]),.agg [pi 11,pi 12,.p .bool aK,ps 14]] [] 15 9 (.aj [.agg ([.p (.int .u64) U0,.p (.int .u32) U1]++cK 15 4++ [.p (.int .u64) bD,.p (.int .u32) bJ,pi 21,pi 22,pi 10]),.c (.own 0)]) [(0,(.row 75 da))] 419
def XK:=PB.F
theorem awW:Ok PB:=oS (.cons anB .nil)
end
end
end Go.Proofs.YtndegphojkiblaaGreatDoor
