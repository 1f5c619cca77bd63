/- A part of the proof. -/
import Derived.Test.YtndegphojkiblaaGreatDoorG14
import Derived.Test.YtndegphojkiblaaGreatDoorG17
import Derived.Test.YtndegphojkiblaaGreatDoorProg
import Derived.WalkKit
import Derived.WalkSpells
import Derived.WalkLawsBesides
import Derived.RangeFuncBox
import Derived.RangeFuncCalls
import Derived.RangeFuncLeaves
import Derived.Shelf.Abstract
import Derived.OwnWalkIn
import Derived.TacticsInMore
import Derived.LoopNIn
import Derived.LoopIn
import Derived.Maps.AppendAt
import Derived.Deep.AppendLies
import Derived.Deep.Onto
import Derived.Lib.Hide
set_option linter.all false
set_option maxHeartbeats 4000000
set_option maxRecDepth 100000
namespace Go.Proofs.YtndegphojkiblaaGreatDoor
noncomputable section
section
open Go.RowKit
def dd:SV:= .v (.c .dead)
def di (n:Nat):SV:= .v (.c (.p (.int .i64) (.v n)))
def ds (n:Nat):SV:= .v (.c (.p .sl (.v n)))
def Kh:Array Oper:= #[⟨some 2,.box 64 (.tmp 0),0,"slot.go:97",#[],none⟩,⟨some 3,.box 22 (.tmp 1),0,"slot.go:97",#[],none⟩,⟨some 4,.assign (.const (.slice none 0 0)),162,"slot.go:97",#[],none⟩]
def aR1:Array Oper:= #[⟨some 10,.load 64 (.tmp 2),64,"slot.go:98",#[],none⟩,⟨some 11,.call {callee:= .value (.func 40),args:= #[.tmp 10],argTypes:= #[64]},4,"slot.go:98",#[⟨0,.data⟩],none⟩,⟨some 12,.unOp .not 4 (.tmp 11),4,"slot.go:98",#[⟨1,.data⟩],none⟩]
def aR2:Array Oper:= #[⟨some 4,.assign (.const (.slice none 0 0)),162,"slot.go:99",#[],none⟩]
def Ji:Array Oper:= #[⟨some 5,.alloc 162,0,"slot.go:101",#[],none⟩]
def Nq:Array Oper:= #[⟨some 13,.fieldAddr 64 (.tmp 2) 3,0,"slot.go:102",#[],none⟩,⟨some 14,.load 62 (.tmp 13),62,"slot.go:102",#[⟨0,.data⟩],none⟩,⟨some 15,.call {callee:= .value (.func 112),args:= #[.tmp 14],argTypes:= #[62]},226,"slot.go:102",#[⟨1,.data⟩],none⟩]
def BN:Array Oper:= #[⟨some 6,.assign (.tmp 16),3,"slot.go:102",#[],none⟩]
def Ae:Array Oper:= #[⟨some 7,.alloc 131,0,"slot.go:102",#[],none⟩,⟨none,.store 131 (.tmp 7) (.tmp 17),0,"slot.go:102",#[⟨0,.data⟩,⟨0,.phase⟩],none⟩]
def zX:Array Oper:= #[⟨some 19,.fieldAddr 131 (.tmp 7) 4,0,"slot.go:103",#[],none⟩,⟨some 20,.load 129 (.tmp 19),129,"slot.go:103",#[⟨0,.data⟩],none⟩,⟨some 21,.load 22 (.tmp 3),22,"slot.go:103",#[],none⟩,⟨some 22,.call {callee:= .value (.func 113),args:= #[.tmp 20,.tmp 21],argTypes:= #[129,22]},119,"slot.go:103",#[⟨1,.data⟩,⟨2,.data⟩],none⟩,⟨some 18,.move (.tmp 22),119,"slot.go:103",#[⟨3,.data⟩],none⟩,⟨some 23,.extract (.tmp 18) 0,25,"slot.go:103",#[⟨4,.data⟩],none⟩,⟨some 24,.extract (.tmp 18) 1,4,"slot.go:103",#[⟨4,.data⟩,{on:=8,ground:=Ground.gcOnly Departure.lateStores}],none⟩,⟨some 8,.alloc 25,0,"slot.go:103",#[],none⟩,⟨none,.store 25 (.tmp 8) (.tmp 23),0,"slot.go:103",#[⟨7,.data⟩,⟨5,.data⟩,⟨3,.chain⟩,⟨0,.phase⟩,⟨1,.phase⟩,⟨2,.phase⟩,⟨3,.phase⟩,⟨4,.phase⟩,⟨5,.phase⟩,{on:=6,ground:=Ground.textOnly Departure.lateStores},⟨7,.phase⟩],none⟩,⟨some 9,.assign (.tmp 24),4,"slot.go:103",#[⟨6,.data⟩,⟨8,.chain⟩,⟨0,.phase⟩,⟨1,.phase⟩,⟨2,.phase⟩,⟨3,.phase⟩,⟨4,.phase⟩,⟨5,.phase⟩,⟨6,.phase⟩,⟨7,.phase⟩,⟨8,.phase⟩],none⟩]
def zM:Array Oper:= #[⟨some 25,.move (.tmp 9),4,"slot.go:103",#[],none⟩]
def Ao:Array Oper:= #[⟨some 26,.load 162 (.tmp 5),162,"slot.go:104",#[],none⟩,⟨some 27,.fieldAddr 131 (.tmp 7) 0,0,"slot.go:104",#[],none⟩,⟨some 28,.load 3 (.tmp 27),3,"slot.go:104",#[⟨1,.data⟩],none⟩,⟨some 29,.fieldAddr 131 (.tmp 7) 2,0,"slot.go:104",#[],none⟩,⟨some 30,.load 3 (.tmp 29),3,"slot.go:104",#[⟨3,.data⟩],none⟩,⟨some 31,.fieldAddr 131 (.tmp 7) 1,0,"slot.go:104",#[],none⟩,⟨some 32,.load 2 (.tmp 31),2,"slot.go:104",#[⟨5,.data⟩],none⟩,⟨some 33,.load 25 (.tmp 8),25,"slot.go:104",#[],none⟩,⟨some 34,.build 51 #[(0,.tmp 28),(1,.tmp 30),(2,.tmp 32),(3,.tmp 33)],51,"slot.go:104",#[⟨2,.data⟩,⟨4,.data⟩,⟨6,.data⟩,⟨7,.data⟩],none⟩,⟨some 35,.move (.tmp 6),3,"slot.go:104",#[],none⟩,⟨some 36,.build 165 #[(0,.tmp 34),(1,.tmp 35)],165,"slot.go:104",#[⟨8,.data⟩,⟨9,.data⟩],none⟩,⟨some 37,.buildSlice 162 1 #[(0,.tmp 36)],162,"slot.go:104",#[⟨10,.data⟩],none⟩,⟨some 38,.call {callee:= .builtin .append,args:= #[.tmp 26,.tmp 37],argTypes:= #[162,162]},162,"slot.go:104",#[⟨0,.data⟩,⟨11,.data⟩],none⟩,⟨none,.store 162 (.tmp 5) (.tmp 38),0,"slot.go:104",#[⟨12,.data⟩,⟨12,.chain⟩,⟨0,.phase⟩,⟨1,.phase⟩,⟨2,.phase⟩,⟨3,.phase⟩,⟨4,.phase⟩,⟨5,.phase⟩,⟨6,.phase⟩,⟨7,.phase⟩,⟨8,.phase⟩,⟨9,.phase⟩,⟨10,.phase⟩,⟨11,.phase⟩,⟨12,.phase⟩],none⟩]
def Ee:Array Oper:= #[⟨some 39,.load 162 (.tmp 5),162,"slot.go:107",#[],none⟩,⟨some 4,.assign (.tmp 39),162,"slot.go:107",#[⟨0,.data⟩,⟨0,.phase⟩],none⟩]
def Wc:Code:=((Code.region 1 aR1 false).seq (.cond (.tmp 12) ((Code.region 2 aR2 false).seq .ret) .skip))
def ack:Code:= .rangeFunc (.tmp 15) #[16,17] ((Code.region 5 BN false).seq (.region 6 Ae false)) (.block 1 ((Code.region 7 zX false).seq ((Code.region 8 zM false).seq (.cond (.tmp 25) (.region 9 Ao false) .skip))))
def c58:Code:=(Code.region 0 Kh false).seq (Wc.seq ((Code.region 3 Ji false).seq (((Code.region 4 Nq false).seq (.block 0 ack)).seq ((Code.region 10 Ee false).seq .ret))))
theorem atu:Tryz.f58.body=some c58:=kr
theorem amm:Tryz.f58.ntmps=40:=kr
theorem auk:Tryz.f58.results= #[.tmp 4]:=kr
def Ch:List Kd:=[.int .i64,.int .i64,.int .i64,.int .i64,.sl,.sl,.sl,.sl,.sl,.sl,.sl,.sl,.int .i64,.int .i64]
def Sl (n:Nat) (ks:List Kd):SV:= .v (.agg (ks.zipIdx.map fun x=> .p x.1 (.v (n+x.2))))
def lh:af:=⟨[dd,dd,dd,.v (.c (.ptr 0 0)),dd,.v (.c (.ptr 1 0)),dd,dd,dd,dd,dd,dd,dd,dd,dd,.v (.c (.fn 169 [2])),dd,dd,dd,dd,dd,dd,dd,dd,dd,dd,dd,dd,dd,dd,dd,dd,dd,dd,dd,dd,dd,dd,dd,dd],
 [(0,.box [.p (.int .u64) (.v 4)]),(1,.box [.own 3]),(2,.box [.p .sl (.v 3)]),(3,.row 165 (.v 7))],[],4,8⟩
def K0:af:={lh with tmps:=(lh.tmps.set 16 (.v (.c (.p (.int .i64) (.v 8))))).set 17 (Sl 9 Ch),nv:=23}
def tY (F:List L→Option (List L)) (t:Nat):au:=⟨40,[.agg [.p (.int .i64) (.v 0),.p (.int .i64) (.v 1),.p .bool (.v 2),.p .sl (.v 3)]],[],4,1,.v (.c (.p .bool (.v 4))),[],F,t⟩
def ue (F:List L→Option (List L)) (t:Nat):au:=⟨112,[.c (.p .sl (.v 0))],[],1,0,.v (.c (.fn 169 [0])),[(0,(.box [.p .sl (.v 0)]))],F,t⟩
def iT (F:List L→Option (List L)) (t:Nat):au:=⟨113,[.agg [.p .sl (.v 0),.p .sl (.v 1),.p .sl (.v 2),.p .sl (.v 3),.p .sl (.v 4),.p .sl (.v 5),.p .sl (.v 6),.p .sl (.v 7),.p (.int .i64) (.v 8),.p (.int .i64) (.v 9)],.c (.p (.int .u64) (.v 10))],[],11,5,.aj [.agg [.p (.int .u64) (.v 12),.p (.int .u32) (.v 13),.p (.int .i64) (.v 14),.p (.int .i64) (.v 15)],.c (.p .bool (.v 11))],[],F,t⟩
section
variable (F40 F112 F113:List L→Option (List L)) (t40 t112 t113:Nat)
def kC:cK:=[tY F40 t40,ue F112 t112,iT F113 t113]
def WE:af:=sh 40 5 [.agg [.p (.int .i64) (.v 0),.p (.int .i64) (.v 1),.p .bool (.v 2),.p .sl (.v 3)],.c (.p (.int .u64) (.v 4))] []
def QD:af:=⟨[.v (.agg [.p (.int .i64) (.v 0),.p (.int .i64) (.v 1),.p .bool (.v 2),.p .sl (.v 3)]),.v (.c (.p (.int .u64) (.v 4))),.v (.c (.ptr 0 0)),.v (.c (.ptr 8 0)),.v (.c .nil),.aj [],.aj [],.aj [],.aj [],.aj [],.aj [],.aj [],.aj [],.aj [],.aj [],.aj [],.aj [],.aj [],.aj [],.aj [],.aj [],.aj [],.aj [],.aj [],.aj [],.aj [],.aj [],.aj [],.aj [],.aj [],.aj [],.aj [],.aj [],.aj [],.aj [],.aj [],.aj [],.aj [],.aj [],.aj []],[(8,(.box [.p (.int .u64) (.v 4)])),(0,(.box [.p (.int .i64) (.v 0),.p (.int .i64) (.v 1),.p .bool (.v 2),.p .sl (.v 3)]))],[],24,5⟩
theorem asM:dH TT (kC F40 F112 F113 t40 t112 t113) Kh false WE=some (.ak (.st .normal QD)):=kr
def z_:af:=⟨[.v (.agg [.p (.int .i64) (.v 0),.p (.int .i64) (.v 1),.p .bool (.v 2),.p .sl (.v 3)]),.v (.c (.p (.int .u64) (.v 4))),.v (.c (.ptr 0 0)),.v (.c (.ptr 8 0)),.v (.c .nil),.aj [],.aj [],.aj [],.aj [],.aj [],.v (.agg [.p (.int .i64) (.v 0),.p (.int .i64) (.v 1),.p .bool (.v 2),.p .sl (.v 3)]),.v (.c (.p .bool (.v 5))),.v (.c (.p .bool (.v 6))),.aj [],.aj [],.aj [],.aj [],.aj [],.aj [],.aj [],.aj [],.aj [],.aj [],.aj [],.aj [],.aj [],.aj [],.aj [],.aj [],.aj [],.aj [],.aj [],.aj [],.aj [],.aj [],.aj [],.aj [],.aj [],.aj [],.aj []],[(8,(.box [.p (.int .u64) (.v 4)])),(0,(.box [.p (.int .i64) (.v 0),.p (.int .i64) (.v 1),.p .bool (.v 2),.p .sl (.v 3)]))],[],48,7⟩
def Hd:af:=⟨[.v (.agg [.p (.int .i64) (.v 0),.p (.int .i64) (.v 1),.p .bool (.v 2),.p .sl (.v 3)]),.v (.c (.p (.int .u64) (.v 4))),.v (.c (.ptr 0 0)),.v (.c (.ptr 8 0)),.v (.c .nil),.aj [],.aj [],.aj [],.aj [],.aj [],.v (.agg [.p (.int .i64) (.v 0),.p (.int .i64) (.v 1),.p .bool (.v 2),.p .sl (.v 3)]),.v (.c (.p .bool (.v 5))),.v (.c (.p .bool (.v 6))),.aj [],.aj [],.aj [],.aj [],.aj [],.aj [],.aj [],.aj [],.aj [],.aj [],.aj [],.aj [],.aj [],.aj [],.aj [],.aj [],.aj [],.aj [],.aj [],.aj [],.aj [],.aj [],.aj [],.aj [],.aj [],.aj [],.aj []],[(8,(.box [.p (.int .u64) (.v 4)])),(0,(.box [.p (.int .i64) (.v 0),.p (.int .i64) (.v 1),.p .bool (.v 2),.p .sl (.v 3)]))],[],56,7⟩
theorem R9:exec TT (kC F40 F112 F113 t40 t112 t113) 0 Wc 0xFFFFFFFFFF [] 16 QD=some (.op (.call t40 F40 [(.v 0),(.v 1),(.v 2),(.v 3)] 1 []) (.op (.not (.v 5)) (.ite (.v 6) (.ak (.st .ret Hd)) (.ak (.st .normal z_))))):=kr
def Ko:af:=⟨[.v (.agg [.p (.int .i64) (.v 0),.p (.int .i64) (.v 1),.p .bool (.v 2),.p .sl (.v 3)]),.v (.c (.p (.int .u64) (.v 4))),.v (.c (.ptr 0 0)),.v (.c (.ptr 8 0)),.v (.c .nil),.v (.c (.ptr 48 0)),.aj [],.aj [],.aj [],.aj [],.v (.agg [.p (.int .i64) (.v 0),.p (.int .i64) (.v 1),.p .bool (.v 2),.p .sl (.v 3)]),.v (.c (.p .bool (.v 5))),.v (.c (.p .bool (.v 6))),.aj [],.aj [],.aj [],.aj [],.aj [],.aj [],.aj [],.aj [],.aj [],.aj [],.aj [],.aj [],.aj [],.aj [],.aj [],.aj [],.aj [],.aj [],.aj [],.aj [],.aj [],.aj [],.aj [],.aj [],.aj [],.aj [],.aj []],[(48,(.box [.nil])),(8,(.box [.p (.int .u64) (.v 4)])),(0,(.box [.p (.int .i64) (.v 0),.p (.int .i64) (.v 1),.p .bool (.v 2),.p .sl (.v 3)]))],[],56,7⟩
theorem adI:dH TT (kC F40 F112 F113 t40 t112 t113) Ji false z_=some (.ak (.st .normal Ko)):=kr
def Da:af:=⟨[.v (.agg [.p (.int .i64) (.v 0),.p (.int .i64) (.v 1),.p .bool (.v 2),.p .sl (.v 3)]),.v (.c (.p (.int .u64) (.v 4))),.v (.c (.ptr 0 0)),.v (.c (.ptr 8 0)),.v (.c .nil),.v (.c (.ptr 48 0)),.aj [],.aj [],.aj [],.aj [],.v (.agg [.p (.int .i64) (.v 0),.p (.int .i64) (.v 1),.p .bool (.v 2),.p .sl (.v 3)]),.v (.c (.p .bool (.v 5))),.v (.c (.p .bool (.v 6))),.v (.c (.ptr 0 3)),ds 3,.v (.c (.fn 169 [72])),.aj [],.aj [],.aj [],.aj [],.aj [],.aj [],.aj [],.aj [],.aj [],.aj [],.aj [],.aj [],.aj [],.aj [],.aj [],.aj [],.aj [],.aj [],.aj [],.aj [],.aj [],.aj [],.aj [],.aj []],[(72,(.box [.p .sl (.v 3)])),(48,(.box [.nil])),(8,(.box [.p (.int .u64) (.v 4)])),(0,(.box [.p (.int .i64) (.v 0),.p (.int .i64) (.v 1),.p .bool (.v 2),.p .sl (.v 3)]))],[],80,7⟩
theorem atS:dH TT (kC F40 F112 F113 t40 t112 t113) Nq false Ko=some (.op (.call t112 F112 [(.v 3)] 0 []) (.ak (.st .normal Da))):=kr
def T6:af:=⟨[dd,dd,dd,.v (.c (.ptr 0 0)),dd,.v (.c (.ptr 1 0)),di 8,dd,dd,dd,dd,dd,dd,dd,dd,.v (.c (.fn 169 [2])),di 8,.v (.agg [.p (.int .i64) (.v 9),.p (.int .i64) (.v 10),.p (.int .i64) (.v 11),.p (.int .i64) (.v 12),.p .sl (.v 13),.p .sl (.v 14),.p .sl (.v 15),.p .sl (.v 16),.p .sl (.v 17),.p .sl (.v 18),.p .sl (.v 19),.p .sl (.v 20),.p (.int .i64) (.v 21),.p (.int .i64) (.v 22)]),dd,dd,dd,dd,dd,dd,dd,dd,dd,dd,dd,dd,dd,dd,dd,dd,dd,dd,dd,dd,dd,dd],[(0,(.box [.p (.int .u64) (.v 4)])),(1,(.box [.own 3])),(2,(.box [.p .sl (.v 3)])),(3,(.row 165 (.v 7)))],[],12,23⟩
theorem ayM:dH TT (kC F40 F112 F113 t40 t112 t113) BN false K0=some (.ak (.st .normal T6)):=kr
def DD:af:=⟨[dd,dd,dd,.v (.c (.ptr 0 0)),dd,.v (.c (.ptr 1 0)),di 8,.v (.c (.ptr 12 0)),dd,dd,dd,dd,dd,dd,dd,.v (.c (.fn 169 [2])),di 8,.v (.agg [.p (.int .i64) (.v 9),.p (.int .i64) (.v 10),.p (.int .i64) (.v 11),.p (.int .i64) (.v 12),.p .sl (.v 13),.p .sl (.v 14),.p .sl (.v 15),.p .sl (.v 16),.p .sl (.v 17),.p .sl (.v 18),.p .sl (.v 19),.p .sl (.v 20),.p (.int .i64) (.v 21),.p (.int .i64) (.v 22)]),dd,dd,dd,dd,dd,dd,dd,dd,dd,dd,dd,dd,dd,dd,dd,dd,dd,dd,dd,dd,dd,dd],[(12,(.box [.p (.int .i64) (.v 9),.p (.int .i64) (.v 10),.p (.int .i64) (.v 11),.p (.int .i64) (.v 12),.p .sl (.v 13),.p .sl (.v 14),.p .sl (.v 15),.p .sl (.v 16),.p .sl (.v 17),.p .sl (.v 18),.p .sl (.v 19),.p .sl (.v 20),.p (.int .i64) (.v 21),.p (.int .i64) (.v 22)])),(12,(.box [.p (.int .i64) (.i 0),.p (.int .i64) (.i 0),.p (.int .i64) (.i 0),.p (.int .i64) (.i 0),.nil,.nil,.nil,.nil,.nil,.nil,.nil,.nil,.p (.int .i64) (.i 0),.p (.int .i64) (.i 0)])),(0,(.box [.p (.int .u64) (.v 4)])),(1,(.box [.own 3])),(2,(.box [.p .sl (.v 3)])),(3,(.row 165 (.v 7)))],[],28,23⟩
theorem aow:dH TT (kC F40 F112 F113 t40 t112 t113) Ae false T6=some (.ak (.st .normal DD)):=kr
def Gt:af:=⟨[dd,dd,dd,.v (.c (.ptr 0 0)),dd,.v (.c (.ptr 1 0)),di 8,.v (.c (.ptr 12 0)),.v (.c (.ptr 84 0)),.v (.c (.p .bool (.v 23))),dd,dd,dd,dd,dd,.v (.c (.fn 169 [2])),di 8,.v (.agg [.p (.int .i64) (.v 9),.p (.int .i64) (.v 10),.p (.int .i64) (.v 11),.p (.int .i64) (.v 12),.p .sl (.v 13),.p .sl (.v 14),.p .sl (.v 15),.p .sl (.v 16),.p .sl (.v 17),.p .sl (.v 18),.p .sl (.v 19),.p .sl (.v 20),.p (.int .i64) (.v 21),.p (.int .i64) (.v 22)]),.aj [.agg [.p (.int .u64) (.v 24),.p (.int .u32) (.v 25),.p (.int .i64) (.v 26),.p (.int .i64) (.v 27)],.c (.p .bool (.v 23))],.v (.c (.ptr 12 4)),.v (.agg [.p .sl (.v 13),.p .sl (.v 14),.p .sl (.v 15),.p .sl (.v 16),.p .sl (.v 17),.p .sl (.v 18),.p .sl (.v 19),.p .sl (.v 20),.p (.int .i64) (.v 21),.p (.int .i64) (.v 22)]),.v (.c (.p (.int .u64) (.v 4))),.aj [.agg [.p (.int .u64) (.v 24),.p (.int .u32) (.v 25),.p (.int .i64) (.v 26),.p (.int .i64) (.v 27)],.c (.p .bool (.v 23))],.v (.agg [.p (.int .u64) (.v 24),.p (.int .u32) (.v 25),.p (.int .i64) (.v 26),.p (.int .i64) (.v 27)]),.v (.c (.p .bool (.v 23))),dd,dd,dd,dd,dd,dd,dd,dd,dd,dd,dd,dd,dd,dd,dd],[(84,(.box [.p (.int .u64) (.v 24),.p (.int .u32) (.v 25),.p (.int .i64) (.v 26),.p (.int .i64) (.v 27)])),(84,(.box [.p (.int .u64) (.i 0),.p (.int .u32) (.i 0),.p (.int .i64) (.i 0),.p (.int .i64) (.i 0)])),(12,(.box [.p (.int .i64) (.v 9),.p (.int .i64) (.v 10),.p (.int .i64) (.v 11),.p (.int .i64) (.v 12),.p .sl (.v 13),.p .sl (.v 14),.p .sl (.v 15),.p .sl (.v 16),.p .sl (.v 17),.p .sl (.v 18),.p .sl (.v 19),.p .sl (.v 20),.p (.int .i64) (.v 21),.p (.int .i64) (.v 22)])),(12,(.box [.p (.int .i64) (.i 0),.p (.int .i64) (.i 0),.p (.int .i64) (.i 0),.p (.int .i64) (.i 0),.nil,.nil,.nil,.nil,.nil,.nil,.nil,.nil,.p (.int .i64) (.i 0),.p (.int .i64) (.i 0)])),(0,(.box [.p (.int .u64) (.v 4)])),(1,(.box [.own 3])),(2,(.box [.p .sl (.v 3)])),(3,(.row 165 (.v 7)))],[],108,28⟩
theorem acp:dH TT (kC F40 F112 F113 t40 t112 t113) zX false DD=some (.op (.call t113 F113 [(.v 13),(.v 14),(.v 15),(.v 16),(.v 17),(.v 18),(.v 19),(.v 20),(.v 21),(.v 22),(.v 4)] 5 []) (.ak (.st .normal Gt))):=kr
def KD:af:=⟨[dd,dd,dd,.v (.c (.ptr 0 0)),dd,.v (.c (.ptr 1 0)),di 8,.v (.c (.ptr 12 0)),.v (.c (.ptr 84 0)),.v (.c (.p .bool (.v 23))),dd,dd,dd,dd,dd,.v (.c (.fn 169 [2])),di 8,.v (.agg [.p (.int .i64) (.v 9),.p (.int .i64) (.v 10),.p (.int .i64) (.v 11),.p (.int .i64) (.v 12),.p .sl (.v 13),.p .sl (.v 14),.p .sl (.v 15),.p .sl (.v 16),.p .sl (.v 17),.p .sl (.v 18),.p .sl (.v 19),.p .sl (.v 20),.p (.int .i64) (.v 21),.p (.int .i64) (.v 22)]),.aj [.agg [.p (.int .u64) (.v 24),.p (.int .u32) (.v 25),.p (.int .i64) (.v 26),.p (.int .i64) (.v 27)],.c (.p .bool (.v 23))],.v (.c (.ptr 12 4)),.v (.agg [.p .sl (.v 13),.p .sl (.v 14),.p .sl (.v 15),.p .sl (.v 16),.p .sl (.v 17),.p .sl (.v 18),.p .sl (.v 19),.p .sl (.v 20),.p (.int .i64) (.v 21),.p (.int .i64) (.v 22)]),.v (.c (.p (.int .u64) (.v 4))),.aj [.agg [.p (.int .u64) (.v 24),.p (.int .u32) (.v 25),.p (.int .i64) (.v 26),.p (.int .i64) (.v 27)],.c (.p .bool (.v 23))],.v (.agg [.p (.int .u64) (.v 24),.p (.int .u32) (.v 25),.p (.int .i64) (.v 26),.p (.int .i64) (.v 27)]),.v (.c (.p .bool (.v 23))),.v (.c (.p .bool (.v 23))),dd,dd,dd,dd,dd,dd,dd,dd,dd,dd,dd,dd,dd,dd],[(84,(.box [.p (.int .u64) (.v 24),.p (.int .u32) (.v 25),.p (.int .i64) (.v 26),.p (.int .i64) (.v 27)])),(84,(.box [.p (.int .u64) (.i 0),.p (.int .u32) (.i 0),.p (.int .i64) (.i 0),.p (.int .i64) (.i 0)])),(12,(.box [.p (.int .i64) (.v 9),.p (.int .i64) (.v 10),.p (.int .i64) (.v 11),.p (.int .i64) (.v 12),.p .sl (.v 13),.p .sl (.v 14),.p .sl (.v 15),.p .sl (.v 16),.p .sl (.v 17),.p .sl (.v 18),.p .sl (.v 19),.p .sl (.v 20),.p (.int .i64) (.v 21),.p (.int .i64) (.v 22)])),(12,(.box [.p (.int .i64) (.i 0),.p (.int .i64) (.i 0),.p (.int .i64) (.i 0),.p (.int .i64) (.i 0),.nil,.nil,.nil,.nil,.nil,.nil,.nil,.nil,.p (.int .i64) (.i 0),.p (.int .i64) (.i 0)])),(0,(.box [.p (.int .u64) (.v 4)])),(1,(.box [.own 3])),(2,(.box [.p .sl (.v 3)])),(3,(.row 165 (.v 7)))],[],116,28⟩
theorem adu:dH TT (kC F40 F112 F113 t40 t112 t113) zM false Gt=some (.ak (.st .normal KD)):=kr
def M8:af:=⟨[dd,dd,dd,.v (.c (.ptr 0 0)),dd,.v (.c (.ptr 1 0)),di 8,.v (.c (.ptr 12 0)),.v (.c (.ptr 84 0)),.v (.c (.p .bool (.v 23))),dd,dd,dd,dd,dd,.v (.c (.fn 169 [2])),di 8,.v (.agg [.p (.int .i64) (.v 9),.p (.int .i64) (.v 10),.p (.int .i64) (.v 11),.p (.int .i64) (.v 12),.p .sl (.v 13),.p .sl (.v 14),.p .sl (.v 15),.p .sl (.v 16),.p .sl (.v 17),.p .sl (.v 18),.p .sl (.v 19),.p .sl (.v 20),.p (.int .i64) (.v 21),.p (.int .i64) (.v 22)]),.aj [.agg [.p (.int .u64) (.v 24),.p (.int .u32) (.v 25),.p (.int .i64) (.v 26),.p (.int .i64) (.v 27)],.c (.p .bool (.v 23))],.v (.c (.ptr 12 4)),.v (.agg [.p .sl (.v 13),.p .sl (.v 14),.p .sl (.v 15),.p .sl (.v 16),.p .sl (.v 17),.p .sl (.v 18),.p .sl (.v 19),.p .sl (.v 20),.p (.int .i64) (.v 21),.p (.int .i64) (.v 22)]),.v (.c (.p (.int .u64) (.v 4))),.aj [.agg [.p (.int .u64) (.v 24),.p (.int .u32) (.v 25),.p (.int .i64) (.v 26),.p (.int .i64) (.v 27)],.c (.p .bool (.v 23))],.v (.agg [.p (.int .u64) (.v 24),.p (.int .u32) (.v 25),.p (.int .i64) (.v 26),.p (.int .i64) (.v 27)]),.v (.c (.p .bool (.v 23))),.v (.c (.p .bool (.v 23))),dd,.v (.c (.ptr 12 0)),di 9,.v (.c (.ptr 12 2)),di 11,.v (.c (.ptr 12 1)),di 10,.v (.agg [.p (.int .u64) (.v 24),.p (.int .u32) (.v 25),.p (.int .i64) (.v 26),.p (.int .i64) (.v 27)]),.v (.agg [.p (.int .i64) (.v 9),.p (.int .i64) (.v 11),.p (.int .i64) (.v 10),.p (.int .u64) (.v 24),.p (.int .u32) (.v 25),.p (.int .i64) (.v 26),.p (.int .i64) (.v 27)]),di 8,.v (.agg [.p (.int .i64) (.v 9),.p (.int .i64) (.v 11),.p (.int .i64) (.v 10),.p (.int .u64) (.v 24),.p (.int .u32) (.v 25),.p (.int .i64) (.v 26),.p (.int .i64) (.v 27),.p (.int .i64) (.v 8)]),.v (.c (.own 204)),.v (.c (.own 212)),dd],[(1,(.box [.own 212])),(212,(.row 165 (.v 29))),(204,(.row 165 (.v 28))),(84,(.box [.p (.int .u64) (.v 24),.p (.int .u32) (.v 25),.p (.int .i64) (.v 26),.p (.int .i64) (.v 27)])),(84,(.box [.p (.int .u64) (.i 0),.p (.int .u32) (.i 0),.p (.int .i64) (.i 0),.p (.int .i64) (.i 0)])),(12,(.box [.p (.int .i64) (.v 9),.p (.int .i64) (.v 10),.p (.int .i64) (.v 11),.p (.int .i64) (.v 12),.p .sl (.v 13),.p .sl (.v 14),.p .sl (.v 15),.p .sl (.v 16),.p .sl (.v 17),.p .sl (.v 18),.p .sl (.v 19),.p .sl (.v 20),.p (.int .i64) (.v 21),.p (.int .i64) (.v 22)])),(12,(.box [.p (.int .i64) (.i 0),.p (.int .i64) (.i 0),.p (.int .i64) (.i 0),.p (.int .i64) (.i 0),.nil,.nil,.nil,.nil,.nil,.nil,.nil,.nil,.p (.int .i64) (.i 0),.p (.int .i64) (.i 0)])),(0,(.box [.p (.int .u64) (.v 4)])),(1,(.box [.dead])),(2,(.box [.p .sl (.v 3)]))],[],228,30⟩
theorem ahe:dH TT (kC F40 F112 F113 t40 t112 t113) Ao false KD=some (.op (.lit [[((.int .i64),(.v 9)),((.int .i64),(.v 11)),((.int .i64),(.v 10)),((.int .u64),(.v 24)),((.int .u32),(.v 25)),((.int .i64),(.v 26)),((.int .i64),(.v 27)),((.int .i64),(.v 8))]]) (.op (.app (.v 7) (.v 28) 8 64) (.ak (.st .normal M8)))):=kr
def Lt:af:=⟨[dd,dd,dd,.v (.c (.ptr 0 0)),.v (.c (.own 3)),.v (.c (.ptr 1 0)),dd,dd,dd,dd,dd,dd,dd,dd,dd,.v (.c (.fn 169 [2])),dd,dd,dd,dd,dd,dd,dd,dd,dd,dd,dd,dd,dd,dd,dd,dd,dd,dd,dd,dd,dd,dd,dd,.v (.c (.own 3))],[(0,(.box [.p (.int .u64) (.v 4)])),(1,(.box [.own 3])),(2,(.box [.p .sl (.v 3)])),(3,(.row 165 (.v 7)))],[],20,8⟩
theorem axW:dH TT (kC F40 F112 F113 t40 t112 t113) Ee false lh=some (.ak (.st .normal Lt)):=kr
def FF:af:=⟨(List.replicate 40 (.v (.c .dead))).set 4 (.v (.c (.own 0))),[(0,.row 165 (.v 5))],[],1,6⟩
theorem aiQ:jmp TT 0 7 lh 0 .normal Da=some (.ak (.jump 0 [.r0])):=kr
theorem apU:jmp TT 3 7 lh 0 .normal KD=some (.ak (.jump 0 [.v 7])):=kr
theorem aua:jmp TT 3 7 lh 0 .normal M8=some (.ak (.jump 0 [.v 29])):=kr
theorem azo:jmp TT 0 5 FF 0 .normal Hd=some (.ak (.jump 0 [.r0])):=kr
theorem aom:jmp TT 0 5 FF 0 .normal Lt=some (.ak (.jump 0 [.v 7])):=kr
end
end
section
open Go.RowKit
open Classical
def IJ (P:bB) (rs:List ResultVar) (r:V) (H':Hp) (X:Fx) (e:Exit) (a':Act) (w':a7):Prop:=
 (e= .normal∨e= .ret)∧∃st' D,Told {X with D:=D} st' a' w'∧sf P rs st'=some r∧(∀n b,H'.lookup n=some b→st'.heap.lookup n=some b)∧
  (D=[]∨∃d,D=[{target:= .collected d,args:= #[]}]∧X.w0.heap.size≤d∧w'.heap[d]? =some (.deferred (some [])))
theorem eJ.ZE {P} {f} {fn} {c} (hf:P.funcs[f]? =some fn) (hname:(fn.name== "runtime.NumGoroutine")=false) (hb:fn.body=some c) {n} (hn:fn.ntmps=n) {rs} (lE:fn.results=rs.toArray) {args} {H} {r} {H'}
  (h:∀X:Fx,X.P=P→X.k0=H.length→X.D=[]→∀a w,Told X (nR n args H) a w→c.wp P (IJ P rs r H' X) a w):eJ P f args H r H' where
 own:=⟨fn,hf,hname,by rw[hb];rfl⟩
 call :=fun w M N vals hM pI lD lG hH hsz hv=>by
  subst hn;have Ox:rs=fn.results.toList:=by rw[lE]
  subst Ox
  let X:Fx:=⟨P,M,fun g=>∃n x,N n=some x∧x.g=some g,w,N,H.length,[]⟩
  refine(callsIn_wide (n:=0)).1 (callsIn_of_wp_marks hf hb trivial (wpIn_wide.2 (wp_mono (h X rfl rfl rfl _ w ?_) ?_)) rfl)
  · refine ⟨⟨N,[]⟩,?_,rfl⟩;exact {
      defers:=rfl
      ar:=rfl
      frame:=Frame.refl _ _
      eB:=hM
      cO:=pI
      names:=fun n x g h1 h2=> ⟨(lD n x g h1 h2).1,.inl ⟨n,x,h1,h2⟩,(lD n x g h1 h2).2⟩
      inj:=lG
      dz:=fun _ _=> .inr rfl
      fq:=cn _
      fg:=fun n hn=>by cases hn
      size:=by simp[nR,hsz]
      tmps:=fun i v hi=>by
        simp only[nR]at hi;rw[mg]at hi;simp only[aA]at hi;split at hi
        · rename_i hlt;simp only[bV,aT]at hi;obtain⟨x,hx,rfl⟩:=hi;obtain⟨u,h1,h2⟩:=hv i x hx;exact⟨u,by rw[CU,ay (by rw[hsz];exact hlt)];exact h1,h2⟩
        · rename_i hlt;rw[Pw]at hi;split at hi
          · rename_i vS;simp at hi;subst hi;exact⟨undef,by simp only[CU,hsz,hlt,if_false,Array.getElem?_replicate,vS,if_true],KI _ _ _⟩
          · cases hi
      heap:=fun n b hl=>by
        simp only[nR,VE]at hl;exact .inr (hH n b hl)}
  · rintro e a' w' ⟨he,st',D,⟨E,hR,hg⟩,hr,Oy,hD⟩;have key:∀w'',Rel {X with D:=D} E st' a' w''→∃u,(results fn a'.tmps).run P w''= .ok u w''∧∃(v:bh) (E':Env),Ending.returned u= .returned v∧Frame X.K w w''∧xO N H.length w w'' E'∧(∀n b,H'.lookup n=some b→RB P M E' w'' n b)∧RV M E' w'' r v:=fun w'' hR=>by
      obtain⟨u,h1,h2⟩:=UU (X:={X with D:=D}) hR hg hr;exact⟨u,h1,u,E,rfl,hR.frame,{ar:=hR.ar.trans hg,names:=fun n x g k1 k2=> ⟨(hR.names n x g k1 k2).1,(hR.names n x g k1 k2).2.1⟩,inj:=hR.inj,dz:=hR.dz},fun n b hl=>hR.row (by rw[hg];simp) (Oy n b hl),h2⟩
    have fin:LeavesInM Fence.wide 0 P fn a'.tmps (fun e w'=>∃(v:bh) (E':Env),e= .returned v∧Frame X.K w w'∧xO N H.length w w' E'∧(∀n b,H'.lookup n=some b→RB P M E' w' n b)∧RV M E' w' r v) a'.defers .returning w':=by
      have hd:a'.defers=D:=hR.defers;rw[hd];rcases hD with rfl| ⟨d,rfl,jn,hdd⟩
      · exact key w' hR
      · refine⟨by simp,.inl ⟨d,_,rfl,run_takeDeferred hdd,?_⟩⟩;refine key _ (hR.other rfl rfl rfl (by simp) fun g o ho hi=> ?_);refine World.putObj_heap_other fun hgd=> ?_
        subst hgd;rw[hdd]at ho;cases ho;rcases hi with hi|hi| ⟨_,_,hi⟩
        · have:g<X.w0.heap.size:=hi;omega
        · cases hi
        · cases hi
    rcases he with rfl|rfl
    · exact fin
    · exact fin
def Fx.base (X:Fx) (E:Env) (w:a7):Fx:=⟨X.P,X.M,fun g=>∃n x,E.N n=some x∧x.g=some g,w,X.N0,X.k0,X.D⟩
theorem Rel.TD {X} {E} {st} {a} {w} (h:Rel X E st a w):Rel (X.base E w) E st a w:={
 defers:=h.defers
 ar:=h.ar
 frame:=Frame.refl _ _
 eB:=fun g hg=>oo (h.eB g hg) h.frame.size
 cO:=h.cO
 names:=fun n x g h1 h2=> ⟨(h.names n x g h1 h2).1,.inl ⟨n,x,h1,h2⟩,(h.names n x g h1 h2).2.2⟩
 inj:=h.inj
 dz:=h.dz
 fq:=h.fq
 fg:=h.fg
 size:=h.size
 tmps:=h.tmps
 heap:=h.heap}
theorem Rel.Qj {X} {E E'} {st st'} {a a'} {w w'} (h:Rel X E st a w) (k:Rel (X.base E w) E' st' a' w'):Rel X E' st' a' w':={
 defers:=k.defers
 ar:=k.ar
 frame:=h.frame.trans k.frame fun g hg ⟨n,x,h1,h2⟩=> (h.names n x g h1 h2).2.1.resolve_right om
 eB:=h.eB
 cO:=k.cO
 names:=fun n x g h1 h2=> ⟨(k.names n x g h1 h2).1,(by
  rcases(k.names n x g h1 h2).2.1 with⟨m,y,q1,q2⟩|q
  · exact(h.names m y g q1 q2).2.1
  · exact .inr (me h.frame.size q)),(k.names n x g h1 h2).2.2⟩
 inj:=k.inj
 dz:=k.dz
 fq:=k.fq
 fg:=k.fg
 size:=k.size
 tmps:=k.tmps
 heap:=k.heap}
def Env.off (E:Env) (S:List Nat):Prop:=∀n x g,E.N n=some x→x.g=some g→g∉S
theorem Rel.W0 {X} {E E'} {st st'} {a a'} {w w'} {S} (h:Rel X E st a w) (k:Rel (X.base E w) E' st' a' w') (hS:E.off S) (hl:∀g∈S,g<w.heap.size):
   E'.off S∧(∀g∈S,w'.heap[g]? =w.heap[g]?)∧w.heap.size≤w'.heap.size:=by
 refine⟨fun n x g h1 h2 hg=> ?_,fun g hg=>k.frame.block g (hl g hg) fun ⟨n,x,h1,h2⟩=>hS n x g h1 h2 hg,k.frame.size⟩;rcases(k.names n x g h1 h2).2.1 with⟨m,y,q1,q2⟩|q
 · exact hS m y g q1 q2 hg
 · have:=hl g hg;have:w.heap.size≤g:=q;omega
theorem G_ {l n} {X} {c} {Q} {st} (hA:∀X':Fx,X'.P=X.P→X'.k0=X.k0→iD l n X' c Q st) {E} {a} {w} (h:Rel X E st a w) (hg:st.ar=[]) {S} (hS:E.off S) (hl:∀g∈S,g<w.heap.size):
  c.wpIn (Fence.wide.inRound l) n X.P (fun e a' w'=>∃st' E',Q e st'∧st'.ar=[]∧Rel X E' st' a' w'∧E'.off S∧(∀g∈S,w'.heap[g]? =w.heap[g]?)∧w.heap.size≤w'.heap.size) a w:=by
 refine wpIn_mono (hA (X.base E w) rfl rfl a w ⟨E,h.TD,hg⟩) ?_;rintro e a' w' ⟨st',h1,E',h2,h3⟩;exact⟨st',E',h1,h3,h.Qj h2,h.W0 h2 hS hl⟩
theorem Yc {X} {c} {Q} {st} (hA:∀X':Fx,X'.P=X.P→X'.k0=X.k0→Aw X' c Q st) {E} {a} {w} (h:Rel X E st a w) (hg:st.ar=[]) {S} (hS:E.off S) (hl:∀g∈S,g<w.heap.size):
  c.wp X.P (fun e a' w'=>∃st' E',Q e st'∧st'.ar=[]∧Rel X E' st' a' w'∧E'.off S∧(∀g∈S,w'.heap[g]? =w.heap[g]?)∧w.heap.size≤w'.heap.size) a w:=by
 refine wp_mono (hA (X.base E w) rfl rfl a w ⟨E,h.TD,hg⟩) ?_;rintro e a' w' ⟨st',h1,E',h2,h3⟩;exact⟨st',E',h1,h3,h.Qj h2,h.W0 h2 hS hl⟩
theorem Lr {l n} {X} {c} {Q} {st} (h:iD l n X c (fun e st=>∃st',Le X st st'∧Q e st') st):iD l n X c Q st:=fun a w ht=>by
 refine wpIn_mono (h a w ht) ?_;rintro e a' w' ⟨st',⟨st2,h1,h2⟩,h3⟩;exact⟨st2,h2,h1 a' w' h3⟩
def V.FP (k:Nat):V→Bool
 | .v (.c .dead)=>true
 | .v (.c (.ptr n _))=>decide (n<k)
 | .v (.c (.fn _ cN))=>cN.all fun n=>decide (n<k)
 |_=>false
theorem Rel.again {X} {E0 E} {st0 st} {a0 a} {w0 w} (h0:Rel X E0 st0 a0 w0) (h:Rel X E st a w) (hN:∀m,m<X.k0→E0.N m=X.N0 m) (hg0:st0.ar=[]) (hg:st.ar=[]) (hst:st.tmps=st0.tmps) (hp:st0.tmps.all (V.FP X.k0)=true):Rel X E st a0 w:={
 defers:=h0.defers
 ar:=h.ar
 frame:=h.frame
 eB:=h.eB
 cO:=h.cO
 names:=h.names
 inj:=h.inj
 dz:=h.dz
 fq:=h.fq
 fg:=h.fg
 size:=by rw[hst];exact h0.size
 heap:=h.heap
 tmps:=fun i v hi=>by
  obtain⟨u,h1,h2⟩:=h.tmps i v hi;rw[hst]at hi;obtain⟨u0,h3,h4⟩:=h0.tmps i v hi;refine⟨u0,h3,?_⟩;have hv:=bC.1 hp v (dn hi);have name:∀n (Q:Nm→Prop) (Q':Nm→Prop),n<X.k0→bO E0 n Q→bO E n Q'→bO E n Q:=fun n Q Q' hn hq hq'=>by
   obtain⟨x,k1,k2⟩:=bO.get hq (by rw[h0.ar,hg0];simp);obtain⟨x',k3,_⟩:=bO.get hq' (by rw[h.ar,hg];simp);refine .inr ⟨x,?_,k2⟩;rcases h.dz n hn with k4|k4
   · rw[k4]at k3;cases k3
   · rw[k4,←hN n hn,k1]
  cases v with
  |aj=>cases hv
  |v x=>
   cases x with
   |agg=>cases hv
   | c c=>
     cases c<;>first
       |trivial
       | (cases hv;done)
       |skip
     · rename_i n off;exact name n _ _ (by simpa[V.FP]using hv) h4 h2
     · rename_i f cN;obtain⟨us,q1,q2,q3⟩:=h4;obtain⟨pE,_,_,q6⟩:=h2;refine⟨us,q1,q2,fun j n hj=> ?_⟩;obtain⟨u,k1,k2⟩:=q3 j n hj;obtain⟨u',k3,k4⟩:=q6 j n hj;refine⟨u,k1,name n _ _ ?_ k2 k4⟩;have:=bC.1 (show cN.all (fun n=>decide (n<X.k0))=true from hv) n (dn hj);simpa using this}
theorem piece {C} (hC:cK.ok Tryz.prog C) {c} {k0 n r} {ex} {S S'} {u} {ρ ρ'} {e} (h:exec TT C k0 c n ex r S=some u) (hg:S.ar=[]) (hl:ρ.length=S.nv) (hd:u.aa ρ=some (.st e S',ρ')) {X} (hP:X.P=Tryz.prog) (hk:X.k0=k0):
  S'.ar=[]∧S'.nv=ρ'.length∧Aw X c (fun e' st=>e'=e.to∧st=S'.aa ρ') (S.aa ρ):=by
 obtain⟨e1,S1,h1,h2,h3,h4,h5⟩:=lM fO hC BH c hg h ρ _ ρ' hl hd;cases h1;exact⟨h4,h2,h5 X hP hk _ ⟨rfl,rfl⟩⟩
theorem qy {C} (hC:cK.ok Tryz.prog C) {id} {ops} (sX:yN ops=true) {S S'} {u} {ρ ρ'} {e} (h:dH TT C ops false S=some u) (hl:ρ.length=S.nv) (hd:u.aa ρ=some (.st e S',ρ')) {X} (hP:X.P=Tryz.prog) {l n} {Q} (hQ:Q .normal (S'.aa ρ')):
  iD l n X (.region id ops false) Q (S.aa ρ):=by
 obtain⟨S1,h1,h2,h3,h4,h5⟩:=amr (k0:=0) (id:=id) fO hC sX h hl hd (l:=l) (n:=n);cases h1;exact h5 X hP _ hQ
end
section
open Go.RowKit Go.Shelf
attribute [local go_sem] Oper.semAt_some
def iU (n:Int):Int:=n/64%4
def iV (n:Int):Int:=n/64/4*64+n%64
def oQ (n:Int):Int:=if n≤0 then 0 else((n-1) /256+1)*64
def gM (e s:Int):Int:=min (64-s%64) (e-s)
def dJ (off e:Int):Nat→Int
 |0=>off
 |k+1=>dJ off e k+gM e (dJ off e k)
theorem US (e s) (h:s<e):1≤gM e s∧gM e s≤64-s%64∧gM e s≤e-s:=by unfold gM;omega
theorem Sq (e s) (h:s≤e):0≤gM e s∧gM e s≤e-s:=by unfold gM;omega
theorem DI (off e:Int) (h:off≤e):∀k,off≤dJ off e k∧dJ off e k≤e
 |0=> ⟨Int.le_refl _,h⟩
 |k+1=>by
  have h1:=DI off e h k;have h2:=Sq e (dJ off e k) h1.2;unfold dJ;omega
theorem EI (off e) (h:off≤e):∀k,dJ off e k<e→off+k≤dJ off e k
 |0,_=>by simp[dJ]
 | k+1,hk=>by
  have h1:=DI off e h k;have h2:=Sq e (dJ off e k) h1.2;have hlt:dJ off e k<e:=by
   grind[Int.lt_or_le,dJ]
  have h3:=US e (dJ off e k) hlt;have h4:=EI off e h k hlt;unfold dJ;omega
def Full (off e:Int) (K:Nat):Prop:=dJ off e K=e∧∀j,j<K→dJ off e j<e
theorem Full.uniq {off e} {K L} (h:Full off e K) (h':Full off e L):K=L:=by
 rcases HZ K L with hl|hl|hl
 · have:=h'.2 K hl;have:=h.1;omega
 · exact hl
 · have:=h.2 L hl;have:=h'.1;omega
theorem Full.le {off e} {K} (h:Full off e K) (ho:off≤e):(K:Int)≤e-off:=by
 cases K with
 |zero=>omega
 |succ k=>
  have h1:=h.2 k om;have h2:=EI off e ho k h1;omega
set_option maxHeartbeats 400000 in
theorem Wy (n) (w) (h0:0≤n) (h1:n≤9223372036854775807):
  Calls Tryz.prog 283 #[.int .i64 n] w fun e w'=>e= .returned (.tuple #[.int .i64 (iU n),.int .i64 (iV n)])∧w=w':=by
 go_wp2
 go_ret2
 exact⟨rfl,rfl⟩
def Lw (w:a7) (B:Nat):Int:=match w.cell? ⟨B,0,none⟩with|some v=>intOf v|none=>0
theorem C6 {w} {B} {t} {s} (h:Boxed w B t (.int .i64 s)):Lw w B=s:=by unfold Lw;rw[h.cell];rfl
set_option maxRecDepth 100000 in
set_option maxHeartbeats 1000000 in
theorem aAI (m) (hm:1≤m) (l Bo Bn) (off n) (h0:0≤off) (jE:0≤n) (hs:off+n≤9223372036854775807) (J:Nat→a7→Prop)
  (hst:∀k W v,J k W→J k (W.setCell ⟨Bo,0,none⟩ v))
  (hY:∀k W s p,dJ off (off+n) k=s→gM (off+n) s=p→J k W→s<off+n→YieldAt Fence.wide (m-1) Tryz.prog l
    #[.int .i64 s,.agg #[.int .i64 (iU s),.int .i64 (iV s),.int .i64 p]] W
    fun e W'=>e= .returned (.bool true)∧J (k+1) W'∧W'.heap[Bo]? =W.heap[Bo]?)
  (W) (ho:Boxed W Bo 2 (.int .i64 off)) (hn:Boxed W Bn 2 (.int .i64 n)) (hJ:J 0 W):
  CallsIn Fence.wide m Tryz.prog 282 #[.func (.yield l) #[] #[],.pointer (some ⟨Bo,0,none⟩),.pointer (some ⟨Bn,0,none⟩)] W
    fun e W'=> (∃v,e= .returned v)∧∃K,Full off (off+n) K∧J K W':=by
 have hco:=ho.cell;have f_:=hn.cell;refine callsIn_of_wp Tryz.func282 rfl trivial ?_ rfl;simp only[Tryz.ntmps282,rC,ir,nj,Nat.reduceAdd,Nat.reduceSub,PD,PE,PF,PG,mm,tg]
 gi_wp2
 gi_loopw [5] (fun _ wr=>∃(k:Nat) (s:Int),Hid (dJ off (off+n) k=s)∧Hid (∀j,j<k→dJ off (off+n) j<off+n)∧off≤s∧s≤off+n∧Boxed wr Bo 2 (.int .i64 s)∧J k wr)
  (fun _ wr=> (off+n-Lw wr Bo).toNat)
 case atStart=>exact⟨0,off,rfl,fun j hj=>absurd hj om,om,om,ho,hJ⟩
 case round=>
  obtain⟨k,s,hk,hall,hs1,hs2,hb,hJs⟩:=hrel;clear ho hn hco f_;have hcs:=hb.cell;have CA:=hb.frozen;by_cases hlt:s<off+n
  · by_cases hc:64-s%64≤off+n-s
    · have hp:gM (off+n) s=64-s%64:=by unfold gM;omega
      obtain⟨fn,tmps,assign,body,hy,hR⟩:=hY k wr s _ hk.out hp hJs hlt;have bZ:Hid (dJ off (off+n) (k+1)=s+(64-s%64)):=by
       have e:=hk.out;simp_all[dJ,gM,hp]
      have OI:Hid (∀j,j<k+1→dJ off (off+n) j<off+n):=fun j hj=>by
       rcases rz j k with h|h
       · exact hall.out j h
       · obtain rfl:j=k:=om;have e:=hk.out;omega
      clear hp
      gi_wp2_with (refine⟨trivial,?_⟩;gi_at_call 283;refine(callsIn_wide.2 (Wy s _ om om)).mono ?_;rintro e w' ⟨rfl,rfl⟩)
      refine hR.mono ?_;rintro e W3 ⟨rfl,hJ3,hk3⟩;have hb3:Boxed W3 Bo 2 (.int .i64 s):=hk3.trans hb;have hc3:=hb3.cell;have hf3:=hb3.frozen
      gi_wp2
      go_roundw
      case rel=>exact⟨k+1,_,bZ,OI,om,om,hb3.set _,hst _ _ _ hJ3⟩
      case measure=>rw[C6 hb,C6 (hb3.set _)];omega
    · have hp:gM (off+n) s=off+n-s:=by unfold gM;omega
      obtain⟨fn,tmps,assign,body,hy,hR⟩:=hY k wr s _ hk.out hp hJs hlt;have bZ:Hid (dJ off (off+n) (k+1)=s+(off+n-s)):=by
       have e:=hk.out;simp_all[dJ,gM,hp]
      have OI:Hid (∀j,j<k+1→dJ off (off+n) j<off+n):=fun j hj=>by
       rcases rz j k with h|h
       · exact hall.out j h
       · obtain rfl:j=k:=om;have e:=hk.out;omega
      clear hp
      gi_wp2_with (refine⟨trivial,?_⟩;gi_at_call 283;refine(callsIn_wide.2 (Wy s _ om om)).mono ?_;rintro e w' ⟨rfl,rfl⟩)
      refine hR.mono ?_;rintro e W3 ⟨rfl,hJ3,hk3⟩;have hb3:Boxed W3 Bo 2 (.int .i64 s):=hk3.trans hb;have hc3:=hb3.cell;have hf3:=hb3.frozen
      gi_wp2
      go_roundw
      case rel=>exact⟨k+1,_,bZ,OI,om,om,hb3.set _,hst _ _ _ hJ3⟩
      case measure=>rw[C6 hb,C6 (hb3.set _)];omega
  · obtain rfl:s=off+n:=om
    gi_wp2
    go_end0
    exact⟨⟨_,rfl⟩,k,⟨hk.out,hall.out⟩,hJs⟩
def anw (Bo:Nat) (I:a7→Prop) (W:a7) (ex:Exit) (_:Act) (W':a7):Prop:=
 ex= .normal∧KeepsOthers W W'∧W'.heap[Bo]? =W.heap[Bo]?∧I W'
theorem anD {g} {ps} {assign body} {Q} {a} {w}
   (m) (hm:2≤m) (Bo Bn) (off n) (h0:0≤off) (jE:0≤n) (hs:off+n≤9223372036854775807)
   (hg:a.eval g= .func (.func 282) #[] #[.pointer (some ⟨Bo,0,none⟩),.pointer (some ⟨Bn,0,none⟩)])
   (ho:Boxed w Bo 2 (.int .i64 off)) (hn:Boxed w Bn 2 (.int .i64 n)) (jG:ps.size=2)
   (I:Nat→a7→Prop)
   (hI:∀k W W' row,I k W→W.grownBy W' row→(∀r,row=some r→r=Bo∨(w.heap.size≤r∧∃o,W.heap[r]? =some o∧o.isCells=false))→I k W')
   (hi0:I 0 w) (Ax:Int→Int→Nat→Act)
   (aCS:∀(l) (s p) (W) (K),
     K (Ax s p W.heap.size) (W.alloc (.cells #[.int .i64 (iU s),.int .i64 (iV s),.int .i64 p] 315))→
     assign.wpIn (Fence.wide.inRound l) (m-1-1) Tryz.prog (Exit.then K (fun _ _ _=>False))
      {tmps:=(ps.zip #[.int .i64 s,.agg #[.int .i64 (iU s),.int .i64 (iV s),.int .i64 p]]).foldl (fun t (p,v)=>t.setIfInBounds p v) a.tmps,defers:=[]} W)
   (OD:∀(l k) (s p) (W) (B),dJ off (off+n) k=s→gM (off+n) s=p→off≤s→s<off+n→I k W→
     W.heap[B]? =some (.cells #[.int .i64 (iU s),.int .i64 (iV s),.int .i64 p] 315 (0,0))→w.heap.size+2≤B→
     body.wpIn (Fence.wide.inRound l) (m-1-1) Tryz.prog (anw Bo (I (k+1)) W) (Ax s p B) W)
   (hdone:∀(D K) (W),Full off (off+n) K→I K W→w.heap.size≤D→W.heap[D]? =some (.deferred (some []))→
     Q .normal {a with defers:={target:= .collected D,args:= #[]}::a.defers} W):
   (Code.rangeFunc g ps assign body).wpIn Fence.wide m Tryz.prog Q a w:=by
 have hBo:=ho.lt;refine wpIn_rangeFunc ?_;intro fn hfn;obtain⟨rec,fl⟩:∃rec:LoopState→Option Code→Loop,rec=fun st pe=> {state:=st,pending:=pe,fn,tmps:=a.tmps,params:=ps,assign,body,defers:=w.heap.size}:=⟨_,rfl⟩
 obtain⟨W1,hW1⟩:∃W1,(w.alloc (.deferred (some []))).alloc (.loop (rec .ready none))=W1:=⟨_,rfl⟩
 have hg1:w.grownBy (w.alloc (.deferred (some []))) none:=World.grownBy_alloc _ _ _;have hg2:(w.alloc (.deferred (some []))).grownBy W1 none:=by rw[←hW1];exact World.grownBy_alloc _ _ _
 have CE:W1.heap[w.heap.size+1]? =some (.loop (rec .ready none)):=by
   rw[←hW1];have:=World.alloc_heap_new (w.alloc (.deferred (some []))) (.loop (rec .ready none));simp_all
 have CF:W1.heap[w.heap.size]? =some (.deferred (some [])):=by
   rw[←hW1];exact(Below.heap_alloc _ _ _ (by simp)).trans (World.alloc_heap_new w _)
 have eR:I 0 W1:=hI _ _ _ none (hI _ _ _ none hi0 hg1 (fun r e=>by cases e)) hg2 (fun r e=>by cases e);have q_:Boxed W1 Bo 2 (.int .i64 off):=(ho.kept hg1 (by simp)).kept hg2 (by simp);have kh:Boxed W1 Bn 2 (.int .i64 n):=(hn.kept hg1 (by simp)).kept hg2 (by simp);refine⟨w.heap.size+1,[{target:= .collected w.heap.size,args:= #[]}],W1,
   {target:= .fn (.func 282) #[.pointer (some ⟨Bo,0,none⟩),.pointer (some ⟨Bn,0,none⟩)],args:= #[.func (.yield (w.heap.size+1)) #[] #[]]},W1,282,
   #[.func (.yield (w.heap.size+1)) #[] #[],.pointer (some ⟨Bo,0,none⟩),.pointer (some ⟨Bn,0,none⟩)],W1,?_,?_,?_,?_,fun _=>by omega,?_⟩
 · rw[←hW1,fl];exact run_enterLoop_outer _ _ _ _ _
 · simp only[resolve,hg];simp[go_sem]
 · intro f' _;trivial
 · rfl
 · refine(aAI (m-1) om (w.heap.size+1) Bo Bn off n h0 jE hs
     (fun k W=>I k W∧W.heap[w.heap.size+1]? =some (.loop (rec .ready none))∧W.heap[w.heap.size]? =some (.deferred (some [])))
     ?_ ?_ W1 q_ kh ⟨eR,CE,CF⟩).mono ?_
   · rintro k W v ⟨hi,hl,hd⟩;exact⟨hI _ _ _ (some Bo) hi (grownBy_setCell' W Bo v) (fun r e=>by simp_all),
      (Below.heap_setCell _ _ _ _ (by simp;omega)).trans hl,(Below.heap_setCell _ _ _ _ (by simp;omega)).trans hd⟩
   ·
     rintro k W s p hk hp ⟨hi,hl,hd⟩ hlt;have aCT:w.heap.size+1<W.heap.size:=(fc.1 hl).1;have hsb:=DI off (off+n) om k;rw[hk]at hsb;have hy:=run_yield (P:=Tryz.prog) (args:= #[.int .i64 s,.agg #[.int .i64 (iU s),.int .i64 (iV s),.int .i64 p]]) hl (by simp_all);rw[fl]at hy;refine⟨fn,_,assign,body,hy,roundIn_of_wpIn hfn (aCS _ s p W _ ?_)⟩;generalize hA:W.alloc (.cells #[.int .i64 (iU s),.int .i64 (iV s),.int .i64 p] 315)=W2;have HD:W.grownBy W2 none:=by rw[←hA];exact World.grownBy_alloc _ _ _
     have hsA:W2.heap.size=W.heap.size+1:=by rw[←hA];simp
     have hnA:W2.heap[W.heap.size]? =some (.cells #[.int .i64 (iU s),.int .i64 (iV s),.int .i64 p] 315 (0,0)):=by rw[←hA];exact World.alloc_heap_new _ _
     have hl2:W2.heap[w.heap.size+1]? =some (.loop (rec .ready none)):=(HD.block _ aCT (by simp)).trans hl;have v7:W2.heap[w.heap.size]? =some (.deferred (some [])):=(HD.block _ om (by simp)).trans hd;refine⟨_,run_beginRound hl2 (by rw[fl]),?_⟩;have lH:(W2.putObj (w.heap.size+1) (.loop {rec .ready none with state:= .busy})).heap[w.heap.size+1]? =some (.loop {rec .ready none with state:= .busy}):=World.putObj_heap_same om;have oi:(W2.putObj (w.heap.size+1) (.loop {rec .ready none with state:= .busy})).heap[w.heap.size]? =some (.deferred (some [])):=(World.putObj_heap_other om).trans v7;have hn3:(W2.putObj (w.heap.size+1) (.loop {rec .ready none with state:= .busy})).heap[W.heap.size]? =some (.cells #[.int .i64 (iU s),.int .i64 (iV s),.int .i64 p] 315 (0,0)):=(World.putObj_heap_other om).trans hnA;have hi3:I k (W2.putObj (w.heap.size+1) (.loop {rec .ready none with state:= .busy})):=
      hI _ _ _ (some (w.heap.size+1)) (hI _ _ _ none hi HD (fun r e=>by cases e)) (grownBy_putObj' _ _ _) (fun r e=>by cases e;exact .inr ⟨om,_,hl2,rfl⟩)
     have aaK:(W2.putObj (w.heap.size+1) (.loop {rec .ready none with state:= .busy})).heap[Bo]? =W.heap[Bo]?:=(World.putObj_heap_other om).trans (HD.block _ om (by simp));generalize W2.putObj (w.heap.size+1) (.loop {rec .ready none with state:= .busy})=W3 at lH oi hn3 hi3 aaK;refine wpIn_mono (OD _ k s p W3 W.heap.size hk hp hsb.1 hlt hi3 hn3 om) ?_;rintro ex a4 W4 ⟨rfl,hk4,aCV,HC⟩;have hl4:=hk4.same _ _ lH rfl;have qI:=hk4.same _ _ oi rfl;have hend:=run_endRound (P:=Tryz.prog) none hl4;refine⟨_,_,hend,rfl,⟨hI _ _ _ (some (w.heap.size+1)) HC (grownBy_putObj' _ _ _) (fun r e=>by cases e;exact .inr ⟨om,_,hl4,rfl⟩),?_,(World.putObj_heap_other om).trans qI⟩,
      ((World.putObj_heap_other om).trans aCV).trans aaK⟩
     rw[World.putObj_heap_same (fc.1 hl4).1,fl];rfl
   · rintro e W2 ⟨⟨v,rfl⟩,K,hK,hi,hl,hd⟩;have hend:=run_endLoop (P:=Tryz.prog) hl (by rw[fl];simp);refine⟨_,_,hend,?_⟩;rw[fl];exact hdone w.heap.size K _ hK (hI _ _ _ (some (w.heap.size+1)) hi (grownBy_putObj' _ _ _) (fun r e=>by cases e;exact .inr ⟨om,_,hl,rfl⟩)) (cn _) ((World.putObj_heap_other om).trans hd)
theorem aAt {W W':a7} {row} {base} {e} {size} {v} {n} {xs} (h:W.ownsRow base e size v n xs) (hg:W.grownBy W' row)
   (hr:∀r,row=some r→r<base∨∃o,W.heap[r]? =some o∧o.isCells=false):W'.ownsRow base e size v n xs:=by
 refine h.kept hg ?_;rcases h.2 with⟨rfl,_⟩| ⟨g,cap,cur,rfl,hb,hgb,_⟩
 · exact .inl rfl
 · refine .inr fun e'=> ?_
   rcases hr g (by simpa[Value.ownBlock]using e'.symm)with hlt| ⟨o,ho,hc⟩
   · omega
   · rw[hgb]at ho;cases ho;cases hc
theorem ayF {W W'} {row} {B} {t} {v} (h:Boxed W B t v) (hg:W.grownBy W' row)
   (hr:∀r,row=some r→r≠B∨∃o,W.heap[r]? =some o∧o.isCells=false):Boxed W' B t v:=by
 refine h.kept hg fun e'=> ?_
 rcases hr B e'.symm with hne| ⟨o,ho,hc⟩
 · exact hne rfl
 · rw[show W.heap[B]? =_ from h]at ho;cases ho;cases hc
theorem axc:(Tryz.prog.info? 315).map (fun i=> (i.zero,i.size,i.bytes))=some (some (.agg #[.int .i64 0,.int .i64 0,.int .i64 0]),3,24):=kr
def pc (e s:Int):List bh:=[.int .i64 (iU s),.int .i64 (iV s),.int .i64 (gM e s)]
def lQ (off e:Int):Nat→List bh
 |0=> []
 |k+1=>lQ off e k++pc e (dJ off e k)
theorem TY (off e:Int):∀k,(lQ off e k).length=k*3
 |0=>rfl
 |k+1=>by simp[lQ,pc,TY off e k];omega
def aqg (E:a6) (off n:Int) (w:a7) (e:Ending) (w':a7):Prop:=
 ∃v K,e= .returned (.tuple #[v,.int .i64 0])∧Full off (off+n) K∧w'.ownsRow w.heap.size E 3 v K (lQ off (off+n) K)∧Below w.heap.size w w'
set_option maxHeartbeats 400000 in
theorem agY (off n) (w):
  Calls Tryz.prog 242 #[.int .i64 off,.int .i64 n] w fun e w'=>e= .returned (.func (.func 282) #[] #[.pointer (some ⟨w.heap.size,0,none⟩),.pointer (some ⟨w.heap.size+1,0,none⟩)])∧
   (w.alloc (.cells #[.int .i64 off] 2)).alloc (.cells #[.int .i64 n] 2)=w':=by
 go_wp2
 go_ret
 simp_all
set_option maxRecDepth 100000 in
set_option maxHeartbeats 1000000 in
theorem axy (off n) (w) (h0:0≤off) (h1:off≤4611686018427387904) (jE:0≤n) (kh:n≤1048576):
  Calls Tryz.prog 213 #[.int .i64 off,.int .i64 n] w (aqg 315 off n w):=by
 obtain⟨i0,hi,hz0,hz1,hz2⟩:=info_parts axc;refine(callsIn_wide (n:=3)).1 ?_;refine callsIn_of_wp_marks Tryz.func213 rfl trivial ?_ rfl;simp only[Tryz.ntmps213,rC,ir,nj,Nat.reduceAdd,Nat.reduceSub,PD,PE,PF,PG,mm,tg]
 gi_wp2_with (refine⟨trivial,?_⟩;gi_at_call 242;refine(callsIn_wide.2 (agY off n _)).mono ?_;rintro e w' ⟨rfl,rfl⟩)
 rename_i kc _ _;clear kc;refine anD 3 om (w.heap.size+1) (w.heap.size+1+1) off n h0 jE om rfl ?ho ?hn rfl
  (fun k W=>∃v,Boxed W w.heap.size 311 v∧W.ownsRow (w.heap.size+3) 315 3 v k (lQ off (off+n) k)∧Below w.heap.size w W∧w.heap.size+3≤W.heap.size) ?hI ?hi0
  (fun s p B=> {tmps:= #[.int .i64 off,.int .i64 n,undef,undef,.slice none 0 0,.int .i64 0,.pointer (some {block:=w.heap.size,off:=0}),undef,.pointer (some ⟨B,0,none⟩),
      .int .i64 off,.bool (decide (off<0)),.bool (decide (off<0)),.int .i64 n,.bool (decide (n<0)),.bool (decide (off<0)||decide (n<0)),
      .bool (decide (off<0)||decide (n<0)),.int .i64 n,.bool (decide (1048576<n)),.bool (decide (off<0)||decide (n<0)||decide (1048576<n)),
      .bool (decide (off<0)||decide (n<0)||decide (1048576<n)),.int .i64 off,.bool (decide (4611686018427387904<off)),
      .bool (decide (off<0)||decide (n<0)||decide (1048576<n)||decide (4611686018427387904<off)),.int .i64 off,.int .i64 n,
      .func (.func 282) #[] #[.pointer (some {block:=w.heap.size+1,off:=0}),.pointer (some {block:=w.heap.size+1+1,off:=0})],
      .int .i64 s,.agg #[.int .i64 (iU s),.int .i64 (iV s),.int .i64 p],undef,undef,undef,undef,undef],defers:=[]}) ?assign ?body ?done
 case ho=>have:=Boxed.new (w.alloc (.cells #[.slice none 0 0] 311)) 2 (.int .i64 off);rw[World.size_alloc]at this;exact this.alloc _
 case hn=>have:=Boxed.new ((w.alloc (.cells #[.slice none 0 0] 311)).alloc (.cells #[.int .i64 off] 2)) 2 (.int .i64 n);simp_all
 case hI=>
  rintro k W W' row ⟨v,hv,hrow,hB,hsz⟩ hg hr;refine⟨v,ayF hv hg ?_,aAt hrow hg ?_,hB.grown hg hB.size ?_,me hsz hg.size⟩
  · grind
  · grind
  · intro r e;rcases hr r e with rfl| ⟨h,_⟩
    · omega
    · simp at h;omega
 case hi0=>
  exact⟨_,((Boxed.new w 311 _).alloc _).alloc _,World.ownsRow_nil _ _ _ _,(((Below.refl _ w).alloc (cn _) _).alloc (by simp) _).alloc (by simp;omega) _,by simp⟩
 case assign=>
  intro l s p W K hK
  gi_wp2
  exact hK
 case body=>
  rintro l k s p W B hk hp hs1 hlt ⟨v,hv,hrow,hB,hsz⟩ fj hBB;have jC:(k:Int)<n:=by
    have:=EI off (off+n) om k om;omega
  have aCW:lQ off (off+n) (k+1)=lQ off (off+n) k++ [.int .i64 (iU s),.int .i64 (iV s),.int .i64 p]:=by
    simp_all[lQ,pc,hp]
  have Hsnoc:=Lib.hid aCW;have hc:=hv.cell;have hb0:W.cell? ⟨B,0,none⟩=some (.int .i64 (iU s)):=cell_of_row W B 0 _ _ _ fj;have hb1:W.cell? ⟨B,1,none⟩=some (.int .i64 (iV s)):=cell_of_row W B 1 _ _ _ fj;have hb2:W.cell? ⟨B,2,none⟩=some (.int .i64 p):=cell_of_row W B 2 _ _ _ fj
  gi_wp2_with (gi_at_builtin;refine wpListIn_append_own _ rfl _ _ 311 rfl (w.heap.size+3) 315 i0 (.agg #[.int .i64 0,.int .i64 0,.int .i64 0]) 3 24 Tryz.underlying311 hi hz0 hz1 hz2 rfl dc _ _ _ rfl (hrow.alloc _) ⟨W.heap.size,0,none⟩ 1 1 [.int .i64 (iU s),.int .i64 (iV s),.int .i64 p] rfl rfl (World.news_of_block (World.alloc_heap_new W _)) (by simp[Value.oneCell']) (by unfold maxLen;omega) om (by simp;omega) ?_;intro v' w1 hown' hgrow _;obtain⟨g',cap',rfl⟩:=ownsRow_succ hown';obtain⟨s_,hv2,hr2,hk2,hb2⟩:=hv.appended dc (hrow.mono om) hB.size (cn _) (hown'.mono om) hgrow;have hc1:=s_.cell;have oc:=s_.frozen)
  have hgb:∀r,v.ownBlock=some r→w.heap.size+3≤r:=fun r e=> (hrow.lt r e).1
  refine⟨rfl,hk2,?_,_,hv2,?_,hB.trans hb2,?_⟩
  · have h1:(W.alloc (.cells #[.int .i64 (iU s),.int .i64 (iV s),.int .i64 p] 315)).heap[w.heap.size+1]? =W.heap[w.heap.size+1]?:=Below.heap_alloc _ _ _ om;have h2:=hgrow.block (w.heap.size+1) (by simp;omega) (fun e=>by have:=hgb _ e.symm;omega);simp_all[Below.heap_setCell]
  · rw[Hsnoc.out];exact hown'.kept (grownBy_setCell' w1 w.heap.size _) (.inr (s_.not_row dc hown').symm)
  · exact me hsz hk2.size
 case done=>
  rintro D K W hK ⟨v,hv,hrow,hB,hsz⟩ hD hd;have hc:=hv.cell
  gi_wp2
  refine⟨by simp,.inl ⟨_,_,rfl,run_takeDeferred hd,?_⟩⟩;exact⟨_,results_tmp2 rfl _ _ _,v,K,rfl,hK,(ownsRow_putObj hrow _ hd rfl).mono om,hB.trans (belowK_b (w:=w) (cn _) W D _ _ (by simp at hD;omega) hd rfl rfl)⟩
def qn (off n:Int):Prop:=off<0∨n<0∨1048576<n∨4611686018427387904<off
set_option maxHeartbeats 400000 in
theorem ayi (off n) (w) (h:qn off n):
   Calls Tryz.prog 213 #[.int .i64 off,.int .i64 n] w fun e w'=>e= .returned (.tuple #[.slice none 0 0,.int .i64 1])∧w=w':=by
 unfold qn at h;by_cases h1:off<0
 · go_wp2
   go_ret2
   simp_all
 · by_cases h2:n<0
   · go_wp2
     go_ret2
     simp_all
   · by_cases h3:1048576<n
     · go_wp2
       go_ret2
       simp_all
     · go_wp2
       go_ret2
       simp_all
theorem ZH (off e) (k):∀K,k<K→(lQ off e K)[k*3]? =some (.int .i64 (iU (dJ off e k)))∧(lQ off e K)[k*3+1]? =some (.int .i64 (iV (dJ off e k)))∧(lQ off e K)[k*3+2]? =some (.int .i64 (gM e (dJ off e k)))
 |K+1,h=>by
  have hl:=TY off e K;rcases rz k K with hk|hk
  · obtain⟨h1,h2,h3⟩:=ZH off e k K hk;simp only[lQ];rw[rF om,rF om,rF om];exact⟨h1,h2,h3⟩
  · obtain rfl:k=K:=om;simp only[lQ];rw[mh om,mh om,mh om,hl];rw[show k*3-k*3=0 by omega,show k*3+1-k*3=1 by omega,show k*3+2-k*3=2 by omega];exact⟨rfl,rfl,rfl⟩
def Ag (e s:Int):List PV:=[.sc (.int .i64 (iU s)),.sc (.int .i64 (iV s)),.sc (.int .i64 (gM e s))]
def mX (off e:Int) (K:Nat):List (List PV):=(List.range K).map fun k=>Ag e (dJ off e k)
instance (off n:Int):Decidable (qn off n):=inferInstanceAs (Decidable (_∨_∨_∨_))
theorem apl {w'} {B e:Nat} {v} {K} {xs} {rows} (ho:w'.ownsRow B e 3 v K xs) (hc:Tryz.prog.cellsOf e=3) (hlen:rows.length=K) (hR:eI 3 rows)
   (hx:∀(i) (r) (j) (p),rows[i]? =some r→r[j]? =some p→∃u,xs[i*3+j]? =some u∧p= .sc u∧flat u=true):
   ∃x,(∀g,x.g=some g→B≤g∧g<w'.heap.size)∧v= .slice (x.g.map fun g=> ⟨g,0,none⟩) x.len x.cap∧∀M,RB Tryz.prog M ⟨fun n=>if n=0 then some x else none,[]⟩ w' 0 (.row e rows):=by
 rcases ho.2 with⟨rfl,rfl⟩| ⟨g,cap,cur,rfl,hB,hg,h1,h2,h3,h4⟩
 · refine⟨⟨none,0,0,3⟩,fun g h=> (by cases h),rfl,fun M=> ⟨⟨none,0,0,3⟩,#[],(0,0),rfl,.inl rfl,fun g h=> (by cases h),hlen.symm,cn _,dc,by show 0<3;omega,hc.symm,rfl,hR,fun _=>rfl,?_⟩⟩;simp_all
 · refine⟨⟨some g,K,cap,3⟩,fun g' h=> ?_,rfl,fun M=> ⟨⟨some g,K,cap,3⟩,cur,(0,0),rfl,.inl rfl,fun g' h=> ?_,hlen.symm,h1,h2,by show 0<3;omega,hc.symm,h3,hR,fun h=> (by cases h),?_⟩⟩
   · grind
   · cases h;exact hg
   · intro i r j p hi hj;obtain⟨u,k1,rfl,k3⟩:=hx i r j p hi hj;refine⟨u,?_,RP.sc k3⟩;grind
theorem Y8 {off n c:Int} {w} {K} {xs} {rows} {M} (hlen:rows.length=K) (hR:eI 3 rows)
   (hx:∀(i) (r) (j) (p),rows[i]? =some r→r[j]? =some p→∃u,xs[i*3+j]? =some u∧p= .sc u∧flat u=true)
   {e:Ending} {w'} {v} (he:e= .returned (.tuple #[v,.int .i64 c])) (ho:w'.ownsRow w.heap.size 315 3 v K xs) (hb:Below w.heap.size w w'):
   ∃u E',e= .returned u∧Frame (fun g=>∃n x,(fun _=>none:Nat→Option Nm) n=some x∧x.g=some g) w w'∧xO (fun _=>none) 0 w w' E'∧
    (∀n b,List.lookup n [(0,dI.row 315 rows)]=some b→RB Tryz.prog M E' w' n b)∧RV M E' w' (.aj [.c (.own 0),.c (.p (.sc (.int .i64 c)))]) u:=by
 obtain⟨x,h1,h2,h3⟩:=apl ho kr hlen hR hx;have hN:∀{n y},(if n=0 then some x else none:Option Nm)=some y→n=0∧x=y:=fun {n y} h=>by
   simp_all
 refine⟨_,⟨fun n=>if n=0 then some x else none,[]⟩,he,Frame.Gr hb,{ar:=rfl,names:=fun n y g h k=> ?_,inj:=fun n m y z g h k _ _=> ?_,dz:=fun m hm=>by omega},fun n b h=> ?_,#[v,.int .i64 c],rfl,rfl,fun i y hi=> ?_⟩
 · grind
 · rw[(hN h).1,(hN k).1]
 · grind
 · match i with
   |0=>cases hi;exact⟨v,rfl,.inr ⟨x,rfl,h2⟩⟩
   |1=>cases hi;exact⟨_,rfl,RP.sc rfl⟩
   |i+2=>simp at hi
open Classical in
noncomputable def A':List L→Option (List L):=fun ls=>match ls with
 |[.i off,.i n]=>if qn off n then some [.r [],.i 1]else if h:∃K,Full off (off+n) K then some [.r (mX off (off+n) h.choose),.i 0]else none
 |_=>none
noncomputable def acI:au:=⟨213,[.c (.p (.int .i64) (.v 0)),.c (.p (.int .i64) (.v 1))],[],2,2,.aj [.c (.own 0),.c (.p (.int .i64) (.v 3))],[(0,.row 315 (.v 2))],A',2030⟩
theorem Re {M} {w} {N} {a b} {vals} (hs:vals.size=2) (hv:∀(i:Nat) (x),[V1.c (.p (.sc (.int .i64 a))),.c (.p (.sc (.int .i64 b)))][i]? =some x→∃u,vals[i]? =some u∧db M ⟨N,[]⟩ w x u):vals= #[.int .i64 a,.int .i64 b]:=by
 obtain⟨u0,e0,r0⟩:=hv 0 _ rfl;obtain⟨u1,e1,r1⟩:=hv 1 _ rfl;have r0:u0= .int .i64 a:=RP.dy r0;have r1:u1= .int .i64 b:=RP.dy r1;grind
theorem auc:acI.ok Tryz.prog:=by
 intro ls os hl hF cg;change A' ls=some os at hF;unfold A' at hF;split at hF
 · rename_i off n;have own:Own Tryz.prog 213:=⟨Tryz.f213,Tryz.func213,by kernel_rfl,rfl⟩
   have nn:∀{N:Nat→Option Nm},(∀n x,N n=some x→n< ([]:List dI).length)→N=fun _=>none:=fun {N} h=>by
     funext m
     cases hm:N m with
     |none=>rfl
     |some x=>simp_all
   split at hF
   · rename_i hb;cases hF;refine⟨own,fun w M N vals hM pI lD lG hH hsz hv=> ?_⟩;cases nn pI;have hv:=Re hsz hv;subst hv;refine(ayi off n w hb).mono ?_;rintro e w' ⟨rfl,rfl⟩;exact Y8 (off:=off) (n:=n) (K:=0) (xs:=[]) (rows:=[]) rfl (fun r hr=>by cases hr) (fun i r j p hi=>by simp at hi) rfl (World.ownsRow_nil _ _ _ _) (Below.refl _ _)
   · rename_i hb;split at hF
     · rename_i hK;cases hF;refine⟨own,fun w M N vals hM pI lD lG hH hsz hv=> ?_⟩;cases nn pI;have hv:=Re hsz hv;subst hv;unfold qn at hb;refine(axy off n w om om om om).mono ?_;rintro e w' ⟨v,K,rfl,hf,ho,hbl⟩;obtain rfl:=Full.uniq hf hK.choose_spec;refine Y8 (off:=off) (n:=n) (K:=hK.choose) (rows:=mX off (off+n) hK.choose) (by simp[mX]) (fun r hr=> ?_) (fun i r j p hi hj=> ?_) rfl ho hbl
       · simp only[mX,fe]at hr;obtain⟨k,_,rfl⟩:=hr;rfl
       · simp only[mX,bV,aT]at hi;obtain⟨k,h1,rfl⟩:=hi;obtain⟨h2,h3⟩:=dr.1 h1;simp at h2 h3;subst h3;obtain⟨q0,q1,q2⟩:=ZH off (off+n) i hK.choose h2
         match j with
         |0=>cases hj;exact⟨_,q0,rfl,rfl⟩
         |1=>cases hj;exact⟨_,q1,rfl,rfl⟩
         |2=>cases hj;exact⟨_,q2,rfl,rfl⟩
         |j+3=>simp[Ag]at hj
     · cases hF
 · cases hF
end
end
end Go.Proofs.YtndegphojkiblaaGreatDoor
