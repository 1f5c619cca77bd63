/- A part. -/
import Derived.Test.YtiikkkhcolcebaaGreatDoorG15
import Derived.Test.YtiikkkhcolcebaaGreatDoorG21
import Derived.Test.YtiikkkhcolcebaaGreatDoorG22
import Derived.WalkKit
set_option linter.all false
set_option maxHeartbeats 4000000
set_option maxRecDepth 100000
namespace Go.Proofs.YtiikkkhcolcebaaGreatDoor
noncomputable section
section
attribute [local irreducible] Fo
open Go.RowKit
def agZ:bl:=.cA 309 De [U0] 1<|.cA 309 De [U1] 1<|.ite U2 (.ite U3 (.j [.i 0]) (.j [.i (-1)])) (.ite U3 (.j [.i 1]) (.op (.bs .lss U0 U1)<|.ite U4 (.j [.i (-1)]) (.op (.bs .gtr U0 U1)<|.ite U5 (.j [.i 1]) (.j [.i 0]))))
def Nc:=Fo agZ
def agJ:bw:=⟨357,[.c (.p .str U0),.c (.p .str U1)],[],2,1,.v (ci 2),[],Nc,312⟩
theorem aev:Ok agJ:=oS (.cons asM .nil)
def aaM:bl:=.ite U2 (.op (.mn U3 U0)<|.j [U4]) (.ln U1<|.bI .add U0 U4<|.op (.mx U3 U5)<|.j [U6])
def yw:=Fo aaM
def azz:bw:=⟨237,[.agg [pi 0,ps 1,.p .bool U2],ci 3],[],4,1,.v (ci 4),[],yw,320⟩
theorem Hi:Ok azz:=oS .nil
def aee:bl:=.ln U1<|.bI .gtr U3 (.i 1048576)<|.ite U4 (.j [.b false]) (.join (.ln U2<|.loop [U3,.i 0] (.bI .lss U7 U5<|.ite U8 (.rw U2 U7 3<|.cl U9 0 (.int .i64)<|.cl U9 1 .sl<|.cl U9 2 .bool<|.join (.bI .lss bB (.i 0)<|.ite bN (.j [.b true]) (.bI .gtr bB (.i 1048576)<|.ite bP (.j [.b true]) (.ite bG (.ln bE<|.bI .gtr bQ (.i 0)<|.j [bU]) (.j [.b false])))) (.ite bN (.bp (.jump 2 [.b false])) (.cA 320 yw [bB,bE,bG,U6] 1<|.bI .gtr bP (.i 1048576)<|.ite bQ (.bp (.jump 2 [.b false])) (.bI .add U7 (.i 1)<|.j [bP,bU])))) (.bp (.jump 1 [])))) (.j [.b true]))
def Dy:=Fo aee
def ayU:bw:=⟨168,[.agg [.p .str U0,ps 1,ps 2]],[],3,1,.v (.c (.p .bool U3)),[],Dy,350⟩
theorem UJ:Ok ayU:=oS (.cons Hi .nil)
def asl:bl:=.join (.op (.bs .neq U0 (.s ⟨#[]⟩))<|.ite U1 (.op (.mm U0)<|.bI .leq U2 (.i 40)<|.ite U3 (.op (.call 2020 Du [U0,.s ⟨#[97,98,99,100,101,102,103,104,105,106,107,108,109,110,111,112,113,114,115,116,117,118,119,120,121,122,48,49,50,51,52,53,54,55,56,57,46,45]⟩] 1 [])<|.op (.bs .eql U4 (.s ⟨#[]⟩))<|.j [U5]) (.j [.b false])) (.j [.b false])) (.j [U1])
def yO:=Fo asl
def ajd:bw:=⟨167,[.c (.p .str U0)],[],1,1,.v (.c (.p .bool U1)),[],yO,321⟩
theorem GP:Ok ajd:=oS (.cons awg .nil)
def aoZ:bl:=.join (.bI .lss U0 (.i 0)<|.ite U3 (.j [.b true]) (.bI .lss U1 (.i (-1))<|.ite U4 (.j [.b true]) (.ln U2<|.bI .gtr U5 (.i 256)<|.j [U6]))) (.ite U3 (.j [.b false]) (.join (.ln U2<|.loop [.i 0] (.bI .lss U5 U4<|.ite U6 (.rw U2 U5 3<|.cl U7 0 .str<|.cl U7 1 .sl<|.cl U7 2 .sl<|.join (.cA 321 yO [U8] 1<|.no bE<|.ite bG (.j [.b true]) (.cA 350 Dy [U8,U9,bB] 1<|.no bN<|.ite bP (.j [.b true]) (.bI .gtr U5 (.i 0)<|.ite bQ (.bI .sub U5 (.i 1)<|.rw U2 bU 3<|.cl bW 0 .str<|.op (.bs .leq U8 bT)<|.j [cg]) (.j [.b false])))) (.ite bE (.bp (.jump 2 [.b false])) (.bI .add U5 (.i 1)<|.j [bG]))) (.bp (.jump 1 [])))) (.j [.b true])))
def Ek:=Fo aoZ
def aqL:bw:=⟨86,[.agg [pi 0,pi 1,ps 2]],[],3,1,.v (.c (.p .bool U3)),[],Ek,351⟩
theorem WJ:Ok aqL:=oS (.cons GP (.cons UJ .nil))
def TZ:bl:=.bI .eql U0 (.i 1)<|.ite U5 (.bp (.jump 0 [.s ⟨#[100,97,116]⟩])) (.bI .eql U0 (.i 2)<|.ite U6 (.bp (.jump 0 [.s ⟨#[115,104,100]⟩])) (.bI .eql U0 (.i 3)<|.ite U7 (.bp (.jump 0 [.s ⟨#[100,101,108]⟩])) (.bI .eql U0 (.i 4)<|.ite U8 (.bp (.jump 0 [.s ⟨#[105,100,120]⟩])) (.cA 2021 oo [U3] 1<|.op (.bs .add (.s ⟨#[101,99]⟩) U9)<|.j [bB]))))
def DR:=Fo TZ
def azQ:bw:=⟨142,[.agg (cI 0 4++[.p .bool U4])],[],5,1,.v (.c (.p .str U5)),[],DR,331⟩
theorem aqW:Ok azQ:=oS (.cons Xy .nil)
def V_:bl:=.join (.join (.join (.bI .eql U0 (.i 1)<|.ite U5 (.j [U5]) (.bI .eql U0 (.i 2)<|.ite U6 (.j [U6]) (.bI .eql U0 (.i 3)<|.j [U7]))) (.ite U5 (.ite U4 (.bp (.jump 2 [.b false])) (.j [])) (.bI .eql U0 (.i 4)<|.ite U6 (.j []) (.bI .eql U0 (.i 5)<|.ite U7 (.bp (.jump 1 [])) (.bp (.jump 2 [.b false])))))) (.bI .neq U3 (.i 0)<|.ite U5 (.bp (.jump 1 [.b false])) (.j []))) (.join (.bI .geq U3 (.i 0)<|.ite U5 (.bI .lss U3 (.i 6)<|.ite U6 (.bI .geq U1 (.i 0)<|.ite U7 (.bI .lss U1 (.i 4)<|.ite U8 (.bI .geq U2 (.i 1)<|.ite U9 (.bI .leq U2 (.i 8)<|.j [bB]) (.j [.b false])) (.j [.b false])) (.j [.b false])) (.j [.b false])) (.j [.b false])) (.j [U5]))
def DS:=Fo V_
def afD:bw:=⟨139,[.agg (cI 0 4++[.p .bool U4])],[],5,1,.v (.c (.p .bool U5)),[],DS,332⟩
theorem akg:Ok afD:=oS .nil
def WW:bl:=.op (.call 332 DS (w 0 5) 1 [])<|.no U5<|.ite U6 (.bp (.jump 0 [.s ⟨#[]⟩,.i 1])) (.cA 2021 oo [U1] 1<|.cA 2021 oo [U2] 1<|.op (.call 331 DR (w 0 5) 1 [])<|.op (.lit [[(.str,(.s ⟨#[118]⟩))],[(.str,U7)],[(.str,U8)],[(.str,U9)]])<|.op (.call 2022 tt [bB,.s ⟨#[46]⟩] 1 [])<|.join (.ite U4 (.op (.bs .add bE (.s ⟨#[46,116,109,112]⟩))<|.j [bG]) (.j [bE])) (.j [bG,.i 0]))
def xe:=Fo WW
def asK:bw:=⟨64,[.agg (cI 0 4++[.p .bool U4])],[],5,2,.bL [.c (.p .str U5),ci 6],[],xe,336⟩
theorem OW:Ok asK:=oS (.cons akg (.cons aqW (.cons Xy (.cons aoX .nil))))
def WV:bl:=.cA 336 xe [U0,U1,U2,.i 0,.b false] 2<|.j [U3]
def r4:=Fo WV
def aqG:bw:=⟨43,[ci 0,ci 1,ci 2],[],3,1,.v (.c (.p .str U3)),[],r4,337⟩
theorem Hg:Ok aqG:=oS (.cons OW .nil)
def VG:bl:=.bI .add (.i 48) U0<|.op (.conv .u8 U1)<|.op (.lit [[((.int .u8),U2)]])<|.op (.str U3)<|.j [U4]
def so:=Fo VG
def s53:bw:=⟨144,[ci 0],[],1,1,.v (.c (.p .str U1)),[],so,53⟩
theorem awY:Ok s53:=oS .nil
def TI:bl:=.join (.bI .lss U0 (.i 1)<|.ite U5 (.j [.b true]) (.bI .gtr U0 (.i 5)<|.ite U6 (.j [.b true]) (.bI .lss U1 (.i 0)<|.ite U7 (.j [.b true]) (.bI .geq U1 (.i 4)<|.ite U8 (.j [.b true]) (.bI .lss U2 (.i 1)<|.ite U9 (.j [.b true]) (.bI .gtr U2 (.i 8)<|.j [bB])))))) (.ite U5 (.j [.b false]) (.bI .eql U0 (.i 5)<|.ite U6 (.join (.bI .geq U3 (.i 0)<|.ite U7 (.bI .lss U3 (.i 6)<|.j [U8]) (.j [.b false])) (.j [U7])) (.join (.bI .eql U3 (.i 0)<|.ite U7 (.bI .eql U0 (.i 4)<|.ite U8 (.j [.b true]) (.no U4<|.j [U9])) (.j [.b false])) (.j [U7]))))
def BQ:=Fo TI
def s54:bw:=⟨143,[.agg (cI 0 4++[.p .bool U4])],[],5,1,.v (.c (.p .bool U5)),[],BQ,54⟩
theorem awL:Ok s54:=oS .nil
def Vs:bl:=.op (.call 54 BQ (w 0 5) 1 [])<|.no U5<|.ite U6 (.bp (.jump 0 [.s ⟨#[]⟩,.i 1])) (.cA 53 so [U3] 1<|.op (.bs .add (.s ⟨#[101,99]⟩) U7)<|.op (.lit [[(.str,(.s ⟨#[]⟩))],[(.str,(.s ⟨#[100,97,116]⟩))],[(.str,(.s ⟨#[115,104,100]⟩))],[(.str,(.s ⟨#[100,101,108]⟩))],[(.str,(.s ⟨#[105,100,120]⟩))],[(.str,U8)]])<|.cA 53 so [U1] 1<|.op (.bs .add (.s ⟨#[118,46]⟩) bB)<|.op (.bs .add bE (.s ⟨#[46]⟩))<|.cA 53 so [U2] 1<|.op (.bs .add bG bN)<|.op (.bs .add bP (.s ⟨#[46]⟩))<|.rw U9 U0 1<|.op (.rc U9 U0 0 .str)<|.op (.bs .add bQ bW)<|.join (.ite U4 (.op (.bs .add bT (.s ⟨#[46,116,109,112]⟩))<|.j [cg]) (.j [bT])) (.j [cg,.i 0]))
def xa:=Fo Vs
def s55:bw:=⟨65,[.agg (cI 0 4++[.p .bool U4])],[],5,2,.bL [.c (.p .str U5),ci 6],[],xa,55⟩
theorem RJ:Ok s55:=oS (.cons awL (.cons awY .nil))
def QC:bl:=.cA 55 xa [U0,U1,U2,.i 0,.b false] 2<|.j [U3]
def qL:=Fo QC
def s56:bw:=⟨35,[ci 0,ci 1,ci 2],[],3,1,.v (.c (.p .str U3)),[],qL,56⟩
theorem AP:Ok s56:=oS (.cons RJ .nil)
def arD:bl:=.join (.loop [U0,.i 0] (.bI .lss U2 (.i 8)<|.ite U3 (.join (.op (.bi .and .u32 U1 (.i 1))<|.op (.bi .eql .u32 U4 (.i 1))<|.ite U5 (.op (.bi .shr .u32 U1 (.i 1))<|.op (.bi .xor .u32 U6 (.i 2197175160))<|.j [U7]) (.op (.bi .shr .u32 U1 (.i 1))<|.j [U6])) (.bI .add U2 (.i 1)<|.j [U4,U5])) (.bp (.jump 1 [U1])))) (.j [U1])
def Ia:=Fo arD
def s36:bw:=⟨300,[.c (.p (.int .u32) U0)],[],1,1,.v (.c (.p (.int .u32) U1)),[],Ia,36⟩
theorem aeM:Ok s36:=oS .nil
def alx:bl:=.op (.un .xor .u32 U0)<|.join (.loop [U2,.i 0] (.ln U1<|.bI .lss U4 U5<|.ite U6 (.rw U1 U4 1<|.cl U7 0 (.int .u8)<|.op (.conv .u32 U8)<|.op (.bi .xor .u32 U3 U9)<|.cA 36 Ia [bB] 1<|.bI .add U4 (.i 1)<|.j [bE,bG]) (.bp (.jump 1 [U3])))) (.op (.un .xor .u32 U3)<|.j [U4])
def L8:=Fo alx
def s37:bw:=⟨239,[.c (.p (.int .u32) U0),cs 1],[],2,1,.v (.c (.p (.int .u32) U2)),[],L8,37⟩
theorem axo:Ok s37:=oS (.cons aeM .nil)
def aqE:bl:=.cA 37 L8 [.i 0,U0] 1<|.j [U1]
def CL:=Fo aqE
def s38:bw:=⟨171,[cs 0],[],1,1,.v (.c (.p (.int .u32) U1)),[],CL,38⟩
theorem TJ:Ok s38:=oS (.cons axo .nil)
def alB:bl:=.cA 38 CL [U0] 1<|.op (.conv .u8 U1)<|.op (.bi .shr .u32 U1 (.i 8))<|.op (.conv .u8 U3)<|.op (.bi .shr .u32 U1 (.i 16))<|.op (.conv .u8 U5)<|.op (.bi .shr .u32 U1 (.i 24))<|.op (.conv .u8 U7)<|.op (.lit [[((.int .u8),U2)],[((.int .u8),U4)],[((.int .u8),U6)],[((.int .u8),U8)]])<|.j [U9]
def sk:=Fo alB
def s41:bw:=⟨90,[cs 0],[],1,1,.v (.c (.own 0)),[(0,(.row 5 U1))],sk,41⟩
theorem vG:Ok s41:=oS (.cons TJ .nil)
def ahc:bl:=.join (.bI .sub U1 (.i 1)<|.loop [U2,.r0] (.bI .geq U3 (.i 0)<|.ite U5 (.bI .mul (.i 8) U3<|.op (.conv .u64 U6)<|.op (.bi .shr .u64 U0 U7)<|.op (.conv .u8 U8)<|.op (.lit [[((.int .u8),U9)]])<|.op (.app U4 bB 1 1)<|.bI .sub U3 (.i 1)<|.j [bG,bE]) (.bp (.jump 1 [U4])))) (.j [U2])
def je:=Fo ahc
def s42:bw:=⟨180,[.c (.p (.int .u64) U0),ci 1],[],2,1,.v (.c (.own 0)),[(0,(.row 5 U2))],je,42⟩
theorem zy:Ok s42:=oS .nil
def abD:bl:=.join (.bI .geq U0 (.i 0)<|.ite U3 (.bI .lss U0 (.i 4)<|.ite U4 (.bI .geq U1 (.i 1)<|.ite U5 (.bI .leq U1 (.i 8)<|.ite U6 (.bI .geq U2 (.i 0)<|.ite U7 (.bI .lss U2 (.i 4294967296)<|.j [U8]) (.j [.b false])) (.j [.b false])) (.j [.b false])) (.j [.b false])) (.j [.b false])) (.j [U3])
def yW:=Fo abD
def s39:bw:=⟨185,[.agg [pi 0,pi 1,pi 2]],[],3,1,.v (.c (.p .bool U3)),[],yW,39⟩
theorem Iv:Ok s39:=oS .nil
def azc:bl:=.cA 39 yW [U0,U1,U2] 1<|.no U3<|.ite U4 (.j [.i 1,.r0]) (.op (.lit [[((.int .u8),(.i 78))],[((.int .u8),(.i 86))],[((.int .u8),(.i 79))],[((.int .u8),(.i 76))]])<|.rw U5 (.i 0) 1<|.op (.conv .u64 U0)<|.cA 42 je [U7,.i 2] 1<|.op (.app U5 U8 1 1)<|.op (.conv .u64 U1)<|.cA 42 je [bB,.i 2] 1<|.op (.app U9 bE 1 1)<|.op (.conv .u64 U2)<|.cA 42 je [bN,.i 4] 1<|.op (.app bG bP 1 1)<|.op (.call 41 sk [bQ] 1 [0])<|.op (.app bQ bU 1 1)<|.j [.i 0,bW])
def Mj:=Fo azc
def s73:bw:=⟨173,[.agg [pi 0,pi 1,pi 2]],[],3,2,.bL [.c (.own 0),ci 3],[(0,(.row 5 U4))],Mj,73⟩
theorem anx:Ok s73:=oS (.cons Iv (.cons zy (.cons vG .nil)))
def amE:bl:=.op (.mx (.i 0) U0)<|.j [U1]
def I5:=Fo amE
def s35:bw:=⟨93,[ci 0],[],1,1,.v (.agg [pi 1,.p (.int .i64) (.i (-1)),.nil]),[],I5,35⟩
theorem ahr:Ok s35:=oS .nil
end
end
end Go.Proofs.YtiikkkhcolcebaaGreatDoor
