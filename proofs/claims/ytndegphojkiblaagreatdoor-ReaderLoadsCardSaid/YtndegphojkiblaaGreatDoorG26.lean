/- Towards the last file's theorem: part 26. -/
import Derived.Test.YtndegphojkiblaaGreatDoorG15
import Derived.Test.YtndegphojkiblaaGreatDoorG16
import Derived.Test.YtndegphojkiblaaGreatDoorG21
import Derived.Test.YtndegphojkiblaaGreatDoorG22
import Derived.Test.YtndegphojkiblaaGreatDoorG23
import Derived.Test.YtndegphojkiblaaGreatDoorG24
import Derived.Test.YtndegphojkiblaaGreatDoorG25
import Derived.WalkKit
set_option linter.all false
set_option maxHeartbeats 4000000
set_option maxRecDepth 100000
namespace Go.Proofs.YtndegphojkiblaaGreatDoor
noncomputable section
section
open Go.RowKit
attribute [local irreducible] Fo
def LZ:=mS [PB,Ei,Ds,Nt] 15 [.agg [pi 0,pi 1,ps 2],.agg [pi 3,pi 4,.p .bool U5,ps 6],.agg ([.p (.int .u64) U7,.p (.int .u32) U8]++cK 9 4++ [.p (.int .u64) aK,.p (.int .u32) aS,pi 15,pi 16,pi 17])] [] 18 13 (.aj [.agg ([.p (.int .u64) bD,.p (.int .u32) bJ]++cK 21 4++ [.p (.int .u64) cF,.p (.int .u32) cC,pi 27,pi 28,pi 29]),.c (.own 0),ci 18]) [(0,(.row 75 ed))] 420
def LV:=LZ.F
theorem azd:Ok LZ:=oS (.cons awW (.cons adw (.cons MA (.cons axO .nil))))
def VJ:=mS [LZ,UT,Gq,DR,Xx,NT,JU] 10 [] [] 0 1 (.v (.c (.p .bool U0))) [] 195
def E8:=VJ.F
theorem aBg:Ok VJ:=oS (.cons azd (.cons atO (.cons agM (.cons aeY (.cons Yx (.cons P_ (.cons aAP .nil)))))))
def Va:ad:= .cA 339 MH [U8,U9,aA] 1<|.no aF<|.ite aN (.cA 195 E8 [] 1<|.j [aK]) (.op (.lit [])<|.op (.app aK U0 4 64)<|.op (.lit [[((.int .i64),(.i 3)),(.sl,.r0),((.int .i64),(.i 0)),(.sl,.r0)],[((.int .i64),(.i 6)),(.sl,.r0),((.int .i64),(.i 0)),(.sl,.r0)]])<|.op (.app aS aT 4 64)<|.cA 2156 M1 [bq,.i 12] 7<|.cA 365 Jn [aZ,bB,bD] 1<|.join (.ln dm<|.bI .gtr cF (.i 0)<|.ite cC (.ln dm<|.bI .rem U5 cL<|.ln dm<|.bI .add dE cY<|.ln dm<|.bI .rem ed eU<|.rw dm eb 1<|.op (.rc dm eb 0 .str)<|.bI .and U6 (.i 4095)<|.cA 364 PJ [aZ,bB,bD,fc,mX] 4<|.bI .eql pg (.i 0)<|.ite qw (.j [qD,oZ,w5]) (.cA 129 BE [aZ,bB,bD,fc] 4<|.bI .eql Av (.i 0)<|.ite Yj (.j [Cs,sX,Ly]) (.j [aZ,bB,bD]))) (.j [aZ,bB,bD])) (.op (.lit [[((.int .u64),U1),((.int .u32),U2),((.int .i64),U3),((.int .i64),U4)]])<|.join (.ln da<|.loop [.i 0,dE] (.bI .lss ed cY<|.ite eb (.join (.rw da ed 14<|.cl dU 0 (.int .i64)<|.cl dU 1 (.int .i64)<|.cl dU 2 (.int .i64)<|.cl dU 3 (.int .i64)<|.cl dU 4 .sl<|.cl dU 5 .sl<|.cl dU 6 .sl<|.cl dU 7 .sl<|.cl dU 8 .sl<|.cl dU 9 .sl<|.cl dU 10 .sl<|.cl dU 11 .sl<|.cl dU 12 (.int .i64)<|.cl dU 13 (.int .i64)<|.loop [.i 0,eU] (.op (.bi .lss .u64 mg (.i 8))<|.ite px (.join (.cA 115 K8 [bJ,cf,.b false,da,mg] 8<|.join (.ite oA (.bI .eql oh fc<|.j [Hj]) (.j [.b false])) (.ite Hj (.op (.lit [[((.int .u64),HL),((.int .u32),DU),((.int .i64),FI),((.int .i64),GD)]])<|.op (.app lT DM 4 32)<|.j [BG]) (.j [lT]))) (.op (.bi .add .u64 mg (.i 1))<|.j [oh,oA])) (.ar (.jump 1 [lT])))) (.bI .add ed (.i 1)<|.j [fc,dU])) (.ar (.jump 1 [eU])))) (.join (.bI .and U7 (.i 1)<|.cA 29 Mh [aZ,bB,bD,ed] 1<|.op (.lit [[((.int .i64),aZ),((.int .i64),bB),(.sl,bD)],[((.int .i64),cF),((.int .i64),cC),(.sl,cL)],[((.int .i64),U8),((.int .i64),U9),(.sl,aA)],[((.int .i64),aZ),((.int .i64),eU),(.sl,bD)]])<|.ln eb<|.loop [.i 0] (.bI .lss fc dU<|.ite mX (.join (.rw eb fc 3<|.op (.rc eb fc 0 (.int .i64))<|.op (.rc eb fc 1 (.int .i64))<|.op (.rc eb fc 2 .sl)<|.loop [.i 0] (.bI .lss qw (.i 4)<|.ite Av (.join (.ln cY<|.loop [.i 0] (.bI .lss sX Cs<|.ite Ly (.rw cY sX 4<|.op (.rc cY sX 0 (.int .u64))<|.op (.rc cY sX 1 (.int .u32))<|.op (.rc cY sX 2 (.int .i64))<|.op (.rc cY sX 3 (.int .i64))<|.cA 2051 Fj [qD,oZ,w5] 1<|.cA 416 Eh [qD,oZ,px,.i 1,qw,Ht,mF,mg,lT] 5<|.cA 406 EN [qD,oZ,w5,.i 1,qw,Ht,mF,mg,lT] 5<|.join (.bI .neq oA DU<|.ite BG (.j [.b true]) (.cA 338 PC [oh,sK,NW,HL,FI,GD,Hj,DM] 1<|.no rf<|.j [U63])) (.ite BG (.ar (.jump 6 [.b false])) (.bI .add sX (.i 1)<|.j [rf]))) (.ar (.jump 1 [])))) (.bI .add qw (.i 1)<|.j [Cs])) (.ar (.jump 1 [])))) (.bI .add fc (.i 1)<|.j [pg])) (.ar (.jump 1 [])))) (.cA 195 E8 [] 1<|.j [ed]))))
def zW:=Fo Va
def Gt:az:=⟨4,[cs 0,.agg [.p (.int .u64) U1,.p (.int .u32) U2,pi 3,pi 4],ci 5,ci 6,ci 7,.agg [pi 8,pi 9,ps 10]],[],11,1,.v (.c (.p .bool aF)),[],zW,421⟩
theorem aBi:Ok Gt:=oS (.cons aBg (.cons Tc (.cons avr (.cons axv (.cons Yv (.cons akR (.cons ajX (.cons azP (.cons aAi (.cons Yx (.cons P_ (.cons aFc (.cons alG .nil)))))))))))))
end
end
end Go.Proofs.YtndegphojkiblaaGreatDoor
