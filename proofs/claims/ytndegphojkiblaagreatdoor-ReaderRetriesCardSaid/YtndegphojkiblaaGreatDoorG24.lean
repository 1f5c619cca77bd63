/- A part of the proof. -/
import Derived.Test.YtndegphojkiblaaGreatDoorG14
import Derived.Test.YtndegphojkiblaaGreatDoorG15
import Derived.Test.YtndegphojkiblaaGreatDoorG16
import Derived.Test.YtndegphojkiblaaGreatDoorG17
import Derived.Test.YtndegphojkiblaaGreatDoorG20
import Derived.Test.YtndegphojkiblaaGreatDoorG21
import Derived.Test.YtndegphojkiblaaGreatDoorG22
import Derived.Test.YtndegphojkiblaaGreatDoorG23
import Derived.WalkKit
import Derived.Shelf.SlSortCmp.NoneTotal
import Derived.Shelf.SlicesG.Cmp
import Derived.Test.YtndegphojkiblaaGreatDoorProg
set_option linter.all false
set_option maxHeartbeats 4000000
set_option maxRecDepth 100000
namespace Go.Proofs.YtndegphojkiblaaGreatDoor
noncomputable section
section
open Go.RowKit
open Classical
theorem aen (i) (h:i<255):jh i=true:=by
 have e:i=15*(i/15)+i%15:=om;have h1:i/15<17:=om;have h2:i%15∈List.range 15:=lJ.2 om;rw[e];generalize i%15=b at h2;generalize i/15=a at h1
 match a,h1 with
 |0,_=>exact bC.1 arA b h2
 |1,_=>exact bC.1 ahN b h2
 |2,_=>exact bC.1 atr b h2
 |3,_=>exact bC.1 azq b h2
 |4,_=>exact bC.1 asP b h2
 |5,_=>exact bC.1 azc b h2
 |6,_=>exact bC.1 atw b h2
 |7,_=>exact bC.1 ada b h2
 |8,_=>exact bC.1 ako b h2
 |9,_=>exact bC.1 aAY b h2
 |10,_=>exact bC.1 acr b h2
 |11,_=>exact bC.1 aqc b h2
 |12,_=>exact bC.1 aoN b h2
 |13,_=>exact bC.1 adj b h2
 |14,_=>exact bC.1 adF b h2
 |15,_=>exact bC.1 azQ b h2
 |16,_=>exact bC.1 axM b h2
 |a+17,h=>omega
theorem TG {e} {c} {S S'} (h:Di e c S S'=true) (hg:S.ar=[]) (hn:S.nv=0) {X} (hP:X.P=Tryz.prog) (hk:X.k0=0):
   Aw X c (fun e' st=>e'=(if e then .exit 0 else .normal)∧st=S'.aa []) (S.aa []):=by
 unfold Di at h;split at h
 · rename_i S1 hx;simp only[bt,pN,abP]at h;obtain⟨⟨he,hg1⟩,hc⟩:=h;refine uC (lN (piece (C:=[]) .nil hx hg (ρ:=[]) hn.symm rfl hP hk).2.2 ?_);rintro e' st ⟨rfl,rfl⟩;exact⟨_,(AL (D:=[]) (ρ:=[]) (ys:=[]) fO rfl (fun z hz=>by cases hz) hc hg1).2.2 X hP hk,by rw[he];rfl,rfl⟩
 · rename_i S1 hx;simp only[bt,abP]at h;obtain⟨⟨he,hg1⟩,hc⟩:=h;refine uC (lN (piece (C:=[]) .nil hx hg (ρ:=[]) hn.symm rfl hP hk).2.2 ?_);rintro e' st ⟨rfl,rfl⟩;exact⟨_,(AL (D:=[]) (ρ:=[]) (ys:=[]) fO rfl (fun z hz=>by cases hz) hc hg1).2.2 X hP hk,by rw[he];rfl,rfl⟩
 · cases h
theorem afG:Di true Fz (nl 255) (nl 255)=true:=kr
theorem Vq {X} (hP:X.P=Tryz.prog) (hk:X.k0=0) {Q} (hQ:Q (.exit 0) ((nl 255).aa [])):∀k i,i+k=255→r7 X Fz (k+1) Q ((nl i).aa [])
 |0,i,h=>by
  obtain rfl:i=255:=om;refine lN (TG afG rfl rfl hP hk) ?_;rintro e st ⟨rfl,rfl⟩;exact hQ
 |k+1,i,h=>by
  refine lN (TG (aen i om) rfl rfl hP hk) ?_;rintro e st ⟨rfl,rfl⟩;exact Vq hP hk hQ k (i+1) om
def K3:af:=sh 29 0 [] []
def FD:af:=nx false (dH TT [] (jY 0) false K3)
def Gp:af:=nx false (dH TT [] (jY 1) false FD)
def St:af:=nx false (dH TT [] (jY 2) false Gp)
def IN:af:=nx false (dH TT [] (jY 11) true (nl 255))
theorem atD:dH TT [] (jY 0) false K3=some (.ak (.st .normal FD)):=kr
theorem apA:dH TT [] (jY 1) false FD=some (.ak (.st .normal Gp)):=kr
theorem afA:dH TT [] (jY 2) false Gp=some (.ak (.st .normal St)):=kr
theorem anS:dH TT [] (jY 11) true (nl 255)=some (.ak (.st .normal IN)):=kr
theorem ayh:uL [] TT 0 St (nl 0) 0 [] [(0,0),(8,1)] []=true:=kr
def MF:SV:= .aj [.agg (Fb 255++Fb 255),.agg (Sk 255)]
theorem arf {X} (hP:X.P=Tryz.prog) (hk:X.k0=0) {r} (hr:sf Tryz.prog [.cell 0 436,.cell 1 437] (IN.aa [])=some r):Aw X XT (MB Tryz.prog [.cell 0 436,.cell 1 437] r []) (nR 29 [] []):=by
 refine fJ (lN (piece (C:=[]) .nil (k0:=0) (n:=0) (r:=0) (ex:=[]) (show exec TT _ 0 (.region 0 (jY 0) false) 0 [] 0 K3=_ from atD) kr (ρ:=[]) kr rfl hP hk).2.2 ?_);rintro e st ⟨rfl,rfl⟩;refine fJ (lN (piece (C:=[]) .nil (k0:=0) (n:=0) (r:=0) (ex:=[]) (show exec TT _ 0 (.region 1 (jY 1) false) 0 [] 0 FD=_ from apA) kr (ρ:=[]) kr rfl hP hk).2.2 ?_);rintro e st ⟨rfl,rfl⟩;refine fJ (fJ (lN (piece (C:=[]) .nil (k0:=0) (n:=0) (r:=0) (ex:=[]) (show exec TT _ 0 (.region 2 (jY 2) false) 0 [] 0 Gp=_ from afA) kr (ρ:=[]) kr rfl hP hk).2.2 ?_));rintro e st ⟨rfl,rfl⟩;refine WV (Rc (n:=256) (P9 (st':=(nl 0).aa []) ?_ (Vq hP hk ?_ 255 0 rfl)))
 · exact(AL (D:=[]) (ρ:=[]) (ys:=[]) fO rfl (fun z hz=>by cases hz) ayh kr).2.2 X hP hk
 · refine fJ (lN (piece (C:=[]) .nil (k0:=0) (n:=0) (r:=0) (ex:=[]) (show exec TT _ 0 (.region 11 (jY 11) true) 0 [] 0 (nl 255)=_ from anS) rfl (ρ:=[]) rfl rfl hP hk).2.2 ?_);rintro e st ⟨rfl,rfl⟩;exact tN ⟨trivial,hr,fun n b h=>by cases h⟩
theorem alu:sf Tryz.prog [.cell 0 436,.cell 1 437] (IN.aa [])=some (MF.aa []):=kr
theorem akE (F) (tag):au.ok Tryz.prog ⟨333,[],[],0,0,MF,[],F,tag⟩:=by
 intro ls os hl hF cg;exact eJ.intro (H:=[]) Tryz.func333 kr adk (n:=29) kr (rs:=[.cell 0 436,.cell 1 437]) kr fun X hP hk=>arf hP hk alu
def Jf:List At:=(Ek++Ek).map fun x=> .i (x:Nat)
def E4:List At:=Zc.map fun n=> .i ((cond (Nat.blt n 255) n 0:Nat))
end
section
attribute [local irreducible] Fo
open Go.RowKit
def aus:ae:= .j []
def B4:=Fo aus
def akq:au:=⟨333,[],[],0,0,MF,[],B4,300⟩
theorem LQ:akq.ok Tryz.prog:=akE B4 300
def aif:ae:= .ln U0<|.ln U1<|.bI .neq U3 U4<|.ite U5 (.j [.i 1,.r0]) (.cA 300 B4 [] 0<|.op (.app .r0 U0 1 1)<|.join (.ln U1<|.loop [.i 0,U6] (.bI .lss U8 U7<|.ite ax (.join (.rw U1 U8 1<|.cl aw 0 (.int .u8)<|.join (.op (.bi .neq .u8 U2 (.i 0))<|.ite aE (.op (.bi .neq .u8 aD (.i 0))<|.j [aG]) (.j [.b false])) (.ite aE (.rw U9 U8 1<|.op (.rc U9 U8 0 (.int .u8))<|.op (.dD U2 256)<|.op (.fH E4 U2)<|.op (.dD aD 256)<|.op (.fH E4 aD)<|.bI .add aN aM<|.op (.dD aL 510)<|.op (.fH Jf aL)<|.op (.bi .xor .u8 aJ aX)<|.rw U9 U8 1<|.op (.set U9 U8 0 [((.int .u8),a8)])<|.j [be]) (.j [U9]))) (.bI .add U8 (.i 1)<|.j [aD,aw])) (.ak (.jump 1 [U9])))) (.j [.i 0,U7]))
def UF:=Fo aif
def awE:au:=⟨326,[cs 0,cs 1,.c (.p (.int .u8) U2)],[],3,2,.aj [.c (.own 0),ci 3],[(0,(.row 5 U4))],UF,301⟩
theorem aiA:Ok awE:=oS (.cons LQ .nil)
def arQ:ae:= .op (.conv .i64 U0)<|.join (.loop [U1,.i 0,U2] (.op (.bi .neq .u8 U3 (.i 0))<|.ite U6 (.join (.join (.op (.bi .and .u8 U3 (.i 1))<|.op (.bi .eql .u8 U7 (.i 1))<|.ite U8 (.bI .xor U4 U5<|.j [U9]) (.j [U4])) (.bI .shl U5 (.i 1)<|.bI .shr U8 (.i 8)<|.bI .eql U9 (.i 1)<|.ite ax (.bI .xor U8 (.i 285)<|.j [U7,aw]) (.j [U7,U8]))) (.op (.bi .shr .u8 U3 (.i 1))<|.j [U9,U7,U8])) (.ak (.jump 1 [U4])))) (.op (.conv .u8 U3)<|.j [U4])
def GC:=Fo arQ
def azE:au:=⟨325,[.c (.p (.int .u8) U0),.c (.p (.int .u8) U1)],[],2,1,.v (.c (.p (.int .u8) U2)),[],GC,302⟩
theorem MQ:Ok azE:=oS .nil
def ahX:ae:= .bI .mul U0 U1<|.op (.ix U2 [((.int .u8),(.i 0))] 1)<|.j [U3]
def G0:=Fo ahX
def ayR:au:=⟨324,[ci 0,ci 1],[],2,1,.v (.agg [pi 0,pi 1,.own 0]),[(0,(.row 5 U2))],G0,303⟩
theorem LG:Ok ayR:=oS .nil
def avF:ae:= .bI .mul U3 U1<|.bI .add U5 U4<|.rw U2 U6 1<|.cl U7 0 (.int .u8)<|.j [U8]
def xG:=Fo avF
def ady:au:=⟨320,[.agg [pi 0,pi 1,ps 2],ci 3,ci 4],[],5,1,.v (.c (.p (.int .u8) U5)),[],xG,304⟩
theorem KY:Ok ady:=oS .nil
def avd:ae:= .op (.bi .eql .u8 U0 (.i 0))<|.ite U1 (.j [.i 0,.i 1]) (.cA 300 B4 [] 0<|.op (.dD U0 256)<|.op (.fH E4 U0)<|.bI .sub (.i 255) U2<|.op (.dD U3 510)<|.op (.fH Jf U3)<|.j [U4,.i 0])
def Xc:=Fo avd
def axq:au:=⟨319,[.c (.p (.int .u8) U0)],[],1,2,.aj [.c (.p (.int .u8) U1),ci 2],[],Xc,305⟩
theorem agm:Ok axq:=oS (.cons LQ .nil)
def axm:ae:= .join (.bI .geq U0 (.i 1)<|.ite U1 (.bI .leq U0 (.i 16)<|.j [U2]) (.j [.b false])) (.j [U1])
def vk:=Fo axm
def auq:au:=⟨316,[ci 0],[],1,1,.v (.c (.p .bool U1)),[],vk,306⟩
theorem DS:Ok auq:=oS .nil
def ayN:ae:= .join (.cA 306 vk [U0] 1<|.ite U3 (.cA 306 vk [U1] 1<|.ite U4 (.ln U2<|.bI .mul U0 U1<|.bI .eql U5 U6<|.j [U7]) (.j [.b false])) (.j [.b false])) (.j [U3])
def w7:=Fo ayN
def anG:au:=⟨315,[.agg [pi 0,pi 1,ps 2]],[],3,1,.v (.c (.p .bool U3)),[],w7,307⟩
theorem GG:Ok anG:=oS (.cons DS .nil)
def aqt:ae:= .join (.cA 307 w7 [U0,U1,U2] 1<|.no U4<|.ite U5 (.j [.b true]) (.ln U3<|.bI .neq U6 U1<|.j [U7])) (.ite U4 (.j [.i 1,.r0]) (.join (.ln U3<|.loop [.i 0] (.bI .lss U6 U5<|.ite U7 (.rw U3 U6 1<|.cl U8 0 .sl<|.ln U9<|.rw U3 (.i 0) 1<|.cl aw 0 .sl<|.ln aD<|.bI .neq ax aE<|.ite aG (.ak (.jump 2 [.i 1,.r0])) (.bI .add U6 (.i 1)<|.j [aJ])) (.ak (.jump 1 [])))) (.op (.ix U0 [(.sl,.r0)] 24)<|.join (.ln U5<|.loop [.i 0,U5] (.bI .lss U7 U6<|.ite U9 (.join (.rw U3 (.i 0) 1<|.cl ax 0 .sl<|.ln aw<|.op (.ix aD [((.int .u8),(.i 0))] 1)<|.rw U8 U7 1<|.op (.set U8 U7 0 [(.sl,aE)])<|.ln U3<|.loop [.i 0,aJ] (.bI .lss aM aN<|.ite aX (.rw U3 aM 1<|.cl a8 0 .sl<|.rw aL U7 1<|.op (.rc aL U7 0 .sl)<|.cA 304 xG [U0,U1,U2,U7,aM] 1<|.cA 301 UF [bp,bk,bm] 2<|.rw aL U7 1<|.op (.set aL U7 0 [(.sl,bq)])<|.bI .add aM (.i 1)<|.j [cC,b9]) (.ak (.jump 1 [aL])))) (.bI .add U7 (.i 1)<|.j [aw,ax])) (.ak (.jump 1 [U8])))) (.j [.i 0,U6]))))
def Wg:=Fo aqt
def aun:au:=⟨308,[.agg [pi 0,pi 1,ps 2],cs 3],[],4,2,.aj [.c (.own 0),ci 4],[(0,(.row 71 U5))],Wg,308⟩
theorem awV:Ok aun:=oS (.cons GG (.cons KY (.cons aiA .nil)))
def arb:ae:= .op (.bs .neq U0 U0)<|.j [U1]
def EE:=Fo arb
def awO:au:=⟨301,[.c (.p .str U0)],[],1,1,.v (.c (.p .bool U1)),[],EE,309⟩
theorem aub:Ok awO:=oS .nil
def Vm:ae:= .join (.ln U0<|.loop [.i 0] (.bI .lss U3 U2<|.ite U4 (.rw U0 U3 1<|.cl U5 0 (.int .i64)<|.bI .eql U1 U6<|.ite U7 (.ak (.jump 2 [U3])) (.bI .add U3 (.i 1)<|.j [U8])) (.ak (.jump 1 [])))) (.j [.i (-1)])
def Jd:=Fo Vm
def adz:au:=⟨281,[cs 0,ci 1],[],2,1,.v (ci 2),[],Jd,311⟩
theorem afj:Ok adz:=oS .nil
def aiF:ae:= .cA 309 EE [U0] 1<|.cA 309 EE [U1] 1<|.ite U2 (.ite U3 (.j [.i 0]) (.j [.i (-1)])) (.ite U3 (.j [.i 1]) (.op (.bs .lss U0 U1)<|.ite U4 (.j [.i (-1)]) (.op (.bs .gtr U0 U1)<|.ite U5 (.j [.i 1]) (.j [.i 0]))))
def NC:=Fo aiF
def air:au:=⟨276,[.c (.p .str U0),.c (.p .str U1)],[],2,1,.v (ci 2),[],NC,312⟩
theorem agj:Ok air:=oS (.cons aub .nil)
def avx:ae:= .bI .leq U0 (.i 0)<|.ite U1 (.j [.i 0]) (.bI .sub U0 (.i 1)<|.bI .quo U2 (.i 256)<|.bI .add U3 (.i 1)<|.bI .mul U4 (.i 64)<|.j [U5])
def Nv:=Fo avx
def aAS:au:=⟨241,[ci 0],[],1,1,.v (ci 1),[],Nv,314⟩
theorem ado:Ok aAS:=oS .nil
def akW:ae:= .cA 311 Jd [U0,U1] 1<|.bI .geq U2 (.i 0)<|.j [U3]
def NT:=Fo akW
def alN:au:=⟨240,[cs 0,ci 1],[],2,1,.v (.c (.p .bool U2)),[],NT,315⟩
theorem amZ:Ok alN:=oS (.cons afj .nil)
def aop:ae:= .j []
def Rq:=Fo aop
def axz:au:=⟨233,[.agg [.p .str U0,ps 1,ps 2]],[],3,0,.v (.c (.p .str U0)),[],Rq,316⟩
theorem afy:Ok axz:=oS .nil
def aht:ae:= .op (.ix (.i 6) [(.bool,(.b false))] 1)<|.join (.ln aw<|.loop [.i 0,.i 0,aG] (.bI .lss aM aJ<|.ite aX (.join (.rw aw aM 1<|.cl a8 0 .sl<|.join (.rw aD aM 1<|.cl be 0 .bool<|.ite bp (.cA 315 NT [aE,aM] 1<|.no bm<|.ite bA (.ln bk<|.cA 314 Nv [U3] 1<|.bI .eql bq bw<|.rw aL aM 1<|.op (.set aL aM 0 [(.bool,b9)])<|.j [cP]) (.rw aL aM 1<|.op (.set aL aM 0 [(.bool,(.b false))])<|.j [bw])) (.rw aL aM 1<|.op (.set aL aM 0 [(.bool,(.b false))])<|.j [bA])) (.rw be aM 1<|.op (.rc be aM 0 .bool)<|.ite bm (.bI .add aN (.i 1)<|.j [bA,be]) (.j [aN,be]))) (.bI .add aM (.i 1)<|.j [a8,be,bk])) (.ak (.jump 1 [aN,aL])))) (.j [aJ,aN])
def Kx:=Fo aht
def Vp:au:=⟨212,[.agg (cX 0 4++ [.p (.int .u32) U4,.p (.int .u32) U5,.p (.int .u32) U6,.p (.int .u32) U7,.p (.int .u32) U8,.p (.int .u32) U9,ps 10]),cs 11,cs 12,cs 13],[],14,2,.aj [.c (.own 0),ci 14],[(0,(.row 4 aJ))],Kx,317⟩
theorem Uw:Ok Vp:=oS (.cons amZ (.cons ado .nil))
noncomputable def W9:List L→Option (List L):=Kx
def aiC:au:=⟨212,[.agg (cX 0 4++ [.p (.int .u32) U4,.p (.int .u32) U5,.p (.int .u32) U6,.p (.int .u32) U7,.p (.int .u32) U8,.p (.int .u32) U9,ps 10]),cs 11,cs 12,cs 13],[],14,2,.aj [cs 15,ci 14],[],Kx,2031⟩
theorem ash:aiC.ok Tryz.prog:=B3 (s:=Vp) Uw rfl (x:=(.v 15)) (e:=4) rfl rfl 2031
def age:ae:= .op (.un .xor .u32 U0)<|.join (.ln U1<|.loop [U2,.i 0] (.bI .lss U5 U3<|.ite U6 (.join (.rw U1 U5 1<|.cl U7 0 (.int .u8)<|.op (.conv .u32 U8)<|.op (.bi .xor .u32 U4 U9)<|.loop [ax,.i 0] (.bI .lss aD (.i 8)<|.ite aE (.join (.op (.bi .and .u32 aw (.i 1))<|.op (.bi .shr .u32 aw (.i 1))<|.op (.bi .eql .u32 aG (.i 1))<|.ite aN (.op (.bi .xor .u32 aJ (.i 2197175160))<|.j [aM]) (.j [aJ])) (.bI .add aD (.i 1)<|.j [aG,aJ])) (.ak (.jump 1 [aw])))) (.bI .add U5 (.i 1)<|.j [U7,U8])) (.ak (.jump 1 [U4])))) (.op (.un .xor .u32 U3)<|.j [U4])
def Ju:=Fo age
def aAg:au:=⟨204,[.c (.p (.int .u32) U0),cs 1],[],2,1,.v (.c (.p (.int .u32) U2)),[],Ju,318⟩
theorem azj:Ok aAg:=oS .nil
def ajn:ae:= .ln U0<|.ln U0<|.op (.part U0 U1 U2 1)<|.op (.part U0 (.i 0) U1 1)<|.j [U4]
def LB:=Fo ajn
def alk:au:=⟨203,[cs 0],[],1,1,.v (cs 1),[],LB,319⟩
theorem azL:Ok alk:=oS .nil
def acT:ae:= .ite U2 (.op (.mn U3 U0)<|.j [U4]) (.ln U1<|.bI .add U0 U4<|.op (.mx U3 U5)<|.j [U6])
def zD:=Fo acT
def aAy:au:=⟨200,[.agg [pi 0,ps 1,.p .bool U2],ci 3],[],4,1,.v (ci 4),[],zD,320⟩
theorem IE:Ok aAy:=oS .nil
def atz:ae:= .join (.op (.bs .neq U0 (.s ⟨#[]⟩))<|.ite U1 (.op (.qk U0)<|.bI .leq U2 (.i 40)<|.ite U3 (.op (.call 2020 EP [U0,.s ⟨#[97,98,99,100,101,102,103,104,105,106,107,108,109,110,111,112,113,114,115,116,117,118,119,120,121,122,48,49,50,51,52,53,54,55,56,57,46,45]⟩] 1 [])<|.op (.bs .eql U4 (.s ⟨#[]⟩))<|.j [U5]) (.j [.b false])) (.j [.b false])) (.j [U1])
def DR:=Fo atz
def akv:au:=⟨198,[.c (.p .str U0)],[],1,1,.v (.c (.p .bool U1)),[],DR,321⟩
theorem P2:Ok akv:=oS (.cons axp .nil)
def atP:ae:= .join (.ln U0<|.loop [.i 0,.i 0] (.bI .lss U3 U1<|.ite U4 (.rw U0 U3 1<|.cl U5 0 (.int .u8)<|.op (.bi .shl .u64 U2 (.i 8))<|.op (.conv .u64 U6)<|.op (.bi .or .u64 U7 U8)<|.bI .add U3 (.i 1)<|.j [U9,ax]) (.ak (.jump 1 [U2])))) (.j [U1])
def Bg:=Fo atP
def ajZ:au:=⟨194,[cs 0],[],1,1,.v (.c (.p (.int .u64) U1)),[],Bg,322⟩
theorem ayB:Ok ajZ:=oS .nil
def Ud:ae:= .join (.ln U0<|.loop [.i 0] (.bI .lss U6 U5<|.ite U7 (.rw U0 U6 4<|.cl U8 0 (.int .u64)<|.cl U8 1 (.int .u32)<|.cl U8 2 (.int .i64)<|.cl U8 3 (.int .i64)<|.op (.bi .eql .u64 U1 U9)<|.op (.bi .eql .u32 U2 ax)<|.op (.bb .and aE aG)<|.bI .eql U3 aw<|.op (.bb .and aJ aN)<|.bI .eql U4 aD<|.op (.bb .and aM aL)<|.ite aX (.ak (.jump 2 [U6])) (.bI .add U6 (.i 1)<|.j [a8])) (.ak (.jump 1 [])))) (.j [.i (-1)])
def NU:=Fo Ud
def aoI:au:=⟨162,[cs 0,.agg [.p (.int .u64) U1,.p (.int .u32) U2,pi 3,pi 4]],[],5,1,.v (ci 5),[],NU,324⟩
theorem apF:Ok aoI:=oS .nil
def aqy:ae:= .join (.bI .geq U0 (.i 0)<|.ite U3 (.bI .lss U0 (.i 4)<|.ite U4 (.bI .geq U1 (.i 1)<|.ite U5 (.bI .leq U1 (.i 8)<|.ite U6 (.bI .geq U2 (.i 0)<|.ite U7 (.bI .leq U2 (.i 4294967295)<|.j [U8]) (.j [.b false])) (.j [.b false])) (.j [.b false])) (.j [.b false])) (.j [.b false])) (.j [U3])
def LC:=Fo aqy
def aja:au:=⟨155,[.agg [pi 0,pi 1,pi 2]],[],3,1,.v (.c (.p .bool U3)),[],LC,325⟩
theorem asK:Ok aja:=oS .nil
def atH:ae:= .join (.ln U0<|.loop [.i 0,.i 0] (.bI .lss U3 U1<|.ite U4 (.rw U0 U3 1<|.cl U5 0 (.int .u8)<|.op (.bi .shl .u64 U2 (.i 8))<|.op (.conv .u64 U6)<|.op (.bi .or .u64 U7 U8)<|.bI .add U3 (.i 1)<|.j [U9,ax]) (.ak (.jump 1 [U2])))) (.j [U1])
def xn:=Fo atH
def aeH:au:=⟨153,[cs 0],[],1,1,.v (.c (.p (.int .u64) U1)),[],xn,326⟩
theorem akG:Ok aeH:=oS .nil
def adW:ae:= .cA 318 Ju [.i 0,U0] 1<|.j [U1]
def BB:=Fo adW
def akd:au:=⟨151,[cs 0],[],1,1,.v (.c (.p (.int .u32) U1)),[],BB,327⟩
theorem JZ:Ok akd:=oS (.cons azj .nil)
def aqZ:ae:= .ln U1<|.join (.ln U2<|.loop [U3,.i 0] (.bI .lss U6 U4<|.ite U7 (.rw U2 U6 3<|.cl U8 0 (.int .i64)<|.cl U8 1 .sl<|.cl U8 2 .bool<|.cA 320 zD [U9,ax,aw,U5] 1<|.bI .add U6 (.i 1)<|.j [aD,aE]) (.ak (.jump 1 [U5])))) (.j [U4])
def IK:=Fo aqZ
def aAe:au:=⟨148,[.agg [.p .str U0,ps 1,ps 2]],[],3,1,.v (ci 3),[],IK,328⟩
theorem afQ:Ok aAe:=oS (.cons IE .nil)
def asi:ae:= .j []
def vp:=Fo asi
def ajg:au:=⟨107,[],[],0,0,.v (.c (.fn 163 [])),[],vp,329⟩
theorem agM:Ok ajg:=oS .nil
def aqV:ae:= .cA 324 NU [U0,U1,U2,U3,U4] 1<|.bI .geq U5 (.i 0)<|.j [U6]
def tv:=Fo aqV
def ane:au:=⟨106,[cs 0,.agg [.p (.int .u64) U1,.p (.int .u32) U2,pi 3,pi 4]],[],5,1,.v (.c (.p .bool U5)),[],tv,330⟩
theorem apj:Ok ane:=oS (.cons apF .nil)
def Vg:ae:= .bI .eql U0 (.i 1)<|.ite U5 (.ak (.jump 0 [.s ⟨#[100,97,116]⟩])) (.bI .eql U0 (.i 2)<|.ite U6 (.ak (.jump 0 [.s ⟨#[115,104,100]⟩])) (.bI .eql U0 (.i 3)<|.ite U7 (.ak (.jump 0 [.s ⟨#[100,101,108]⟩])) (.bI .eql U0 (.i 4)<|.ite U8 (.ak (.jump 0 [.s ⟨#[105,100,120]⟩])) (.cA 2021 nE [U3] 1<|.op (.bs .add (.s ⟨#[101,99]⟩) U9)<|.j [ax]))))
def Fc:=Fo Vg
def aAM:au:=⟨104,[.agg (cX 0 4++ [.p .bool U4])],[],5,1,.v (.c (.p .str U5)),[],Fc,331⟩
theorem asw:Ok aAM:=oS (.cons YQ .nil)
def XF:ae:= .join (.join (.join (.bI .eql U0 (.i 1)<|.ite U5 (.j [U5]) (.bI .eql U0 (.i 2)<|.ite U6 (.j [U6]) (.bI .eql U0 (.i 3)<|.j [U7]))) (.ite U5 (.ite U4 (.ak (.jump 2 [.b false])) (.j [])) (.bI .eql U0 (.i 4)<|.ite U6 (.j []) (.bI .eql U0 (.i 5)<|.ite U7 (.ak (.jump 1 [])) (.ak (.jump 2 [.b false])))))) (.bI .neq U3 (.i 0)<|.ite U5 (.ak (.jump 1 [.b false])) (.j []))) (.join (.bI .geq U3 (.i 0)<|.ite U5 (.bI .lss U3 (.i 6)<|.ite U6 (.bI .geq U1 (.i 0)<|.ite U7 (.bI .lss U1 (.i 4)<|.ite U8 (.bI .geq U2 (.i 1)<|.ite U9 (.bI .leq U2 (.i 8)<|.j [ax]) (.j [.b false])) (.j [.b false])) (.j [.b false])) (.j [.b false])) (.j [.b false])) (.j [U5]))
def Fe:=Fo XF
def ahp:au:=⟨101,[.agg (cX 0 4++ [.p .bool U4])],[],5,1,.v (.c (.p .bool U5)),[],Fe,332⟩
theorem aly:Ok ahp:=oS .nil
def asD:ae:= .cA 327 BB [U0] 1<|.op (.conv .u8 U1)<|.op (.bi .shr .u32 U1 (.i 8))<|.op (.conv .u8 U3)<|.op (.bi .shr .u32 U1 (.i 16))<|.op (.conv .u8 U5)<|.op (.bi .shr .u32 U1 (.i 24))<|.op (.conv .u8 U7)<|.op (.lit [[((.int .u8),U2)],[((.int .u8),U4)],[((.int .u8),U6)],[((.int .u8),U8)]])<|.j [U9]
def K_:=Fo asD
def aeh:au:=⟨97,[cs 0],[],1,1,.v (.c (.own 0)),[(0,(.row 5 U1))],K_,333⟩
theorem afX:Ok aeh:=oS (.cons JZ .nil)
def ajA:ae:= .ln U0<|.ln U1<|.bI .neq U2 U3<|.ite U4 (.j [.b false]) (.join (.ln U0<|.loop [.i 0] (.bI .lss U6 U5<|.ite U7 (.rw U0 U6 1<|.cl U8 0 (.int .u8)<|.rw U1 U6 1<|.cl ax 0 (.int .u8)<|.op (.bi .neq .u8 U9 aw)<|.ite aD (.ak (.jump 2 [.b false])) (.bI .add U6 (.i 1)<|.j [aE])) (.ak (.jump 1 [])))) (.j [.b true]))
def B6:=Fo ajA
def anW:au:=⟨96,[cs 0,cs 1],[],2,1,.v (.c (.p .bool U2)),[],B6,334⟩
theorem Lk:Ok anW:=oS .nil
def arD:ae:= .join (.ln U0<|.loop [.i 0,.i 0] (.bI .lss U3 U1<|.ite U4 (.rw U0 U3 1<|.cl U5 0 (.int .u8)<|.bI .shl U2 (.i 8)<|.op (.conv .i64 U6)<|.bI .or U7 U8<|.bI .add U3 (.i 1)<|.j [U9,ax]) (.ak (.jump 1 [U2])))) (.j [U1])
def sK:=Fo arD
def aqq:au:=⟨95,[cs 0],[],1,1,.v (ci 1),[],sK,335⟩
theorem Zj:Ok aqq:=oS .nil
def Yk:ae:= .cA 332 Fe [U0,U1,U2,U3,U4] 1<|.no U5<|.ite U6 (.ak (.jump 0 [.s ⟨#[]⟩,.i 1])) (.cA 2021 nE [U1] 1<|.cA 2021 nE [U2] 1<|.cA 331 Fc [U0,U1,U2,U3,U4] 1<|.op (.lit [[(.str,(.s ⟨#[118]⟩))],[(.str,U7)],[(.str,U8)],[(.str,U9)]])<|.op (.call 2022 tU [ax,.s ⟨#[46]⟩] 1 [])<|.join (.ite U4 (.op (.bs .add aw (.s ⟨#[46,116,109,112]⟩))<|.j [aD]) (.j [aw])) (.j [aD,.i 0]))
def yk:=Fo Yk
def atY:au:=⟨53,[.agg (cX 0 4++ [.p .bool U4])],[],5,2,.aj [.c (.p .str U5),ci 6],[],yk,336⟩
theorem P6:Ok atY:=oS (.cons aly (.cons asw (.cons YQ (.cons aqi .nil))))
def Yj:ae:= .cA 336 yk [U0,U1,U2,.i 0,.b false] 2<|.j [U3]
def A9:=Fo Yj
def ase:au:=⟨51,[ci 0,ci 1,ci 2],[],3,1,.v (.c (.p .str U3)),[],A9,337⟩
theorem Qx:Ok ase:=oS (.cons P6 .nil)
def asQ:ae:= .join (.op (.bi .eql .u64 U0 U4)<|.ite U8 (.op (.bi .eql .u32 U1 U5)<|.ite U9 (.op (.bb .eql U2 U6)<|.ite ax (.op (.str U3)<|.op (.str U7)<|.op (.bs .eql aw aD)<|.j [aE]) (.j [.b false])) (.j [.b false])) (.j [.b false])) (.j [U8])
def GR:=Fo asQ
def aqO:au:=⟨21,[.agg [.p (.int .u64) U0,.p (.int .u32) U1,.p .bool U2,ps 3],.agg [.p (.int .u64) U4,.p (.int .u32) U5,.p .bool U6,ps 7]],[],8,1,.v (.c (.p .bool U8)),[],GR,338⟩
theorem azu:Ok aqO:=oS .nil
def P4:ae:= .op (.bi .neq .u64 U0 U0)<|.j [U1]
def F0:=Fo P4
def s0:au:=⟨290,[.c (.p (.int .u64) U0)],[],1,1,.v (.c (.p .bool U1)),[],F0,0⟩
theorem ok0:Ok s0:=oS .nil
def L2:ae:= .cA 0 F0 [U0] 1<|.cA 0 F0 [U1] 1<|.ite U2 (.ite U3 (.j [.i 0]) (.j [.i (-1)])) (.ite U3 (.j [.i 1]) (.op (.bi .lss .u64 U0 U1)<|.ite U4 (.j [.i (-1)]) (.op (.bi .gtr .u64 U0 U1)<|.ite U5 (.j [.i 1]) (.j [.i 0]))))
def F1:=Fo L2
def s1:au:=⟨249,[.c (.p (.int .u64) U0),.c (.p (.int .u64) U1)],[],2,1,.v (ci 2),[],F1,1⟩
theorem ok1:Ok s1:=oS (.cons ok0 .nil)
def Ra:ae:= .j []
def F4:=Fo Ra
def s4:au:=⟨112,[cs 0],[],1,0,.v (.c (.fn 169 [0])),[(0,(.box [ps 0]))],F4,4⟩
theorem ok4:Ok s4:=oS .nil
def YC:ae:= .join (.bI .lss U0 (.i 0)<|.ite U1 (.j [.b true]) (.bI .gtr U0 (.i 4096)<|.j [U2])) (.ite U1 (.j [.i 0]) (.bI .add (.i 20) U0<|.bI .add U2 (.i 4)<|.bI .add U3 (.i 8)<|.bI .sub U4 (.i 1)<|.bI .quo U5 (.i 8)<|.bI .mul U6 (.i 8)<|.j [U7]))
def F5:=Fo YC
def s5:au:=⟨83,[ci 0],[],1,1,.v (ci 1),[],F5,5⟩
theorem sj:Ok s5:=oS .nil
def SI:ae:= .cA 1 F1 [U0,U4] 1<|.j [U8]
def F6:=Fo SI
def s6:au:=⟨248,[.agg [.p (.int .u64) U0,.p (.int .u32) U1,pi 2,pi 3],.agg [.p (.int .u64) U4,.p (.int .u32) U5,pi 6,pi 7]],[],8,1,.v (ci 8),[],F6,6⟩
theorem uN:Ok s6:=oS (.cons ok1 .nil)
def Qm:ae:= .join (.bI .geq U2 (.i 16)<|.ite U4 (.bI .leq U2 (.i 1048576)<|.ite U5 (.bI .rem U2 (.i 8)<|.bI .eql U6 (.i 0)<|.ite U7 (.bI .geq U3 (.i 0)<|.ite U8 (.bI .leq U3 (.i 4096)<|.j [U9]) (.j [.b false])) (.j [.b false])) (.j [.b false])) (.j [.b false])) (.j [U4])
def F7:=Fo Qm
def s7:au:=⟨207,[.agg [.p (.int .u64) U0,.p (.int .u32) U1,pi 2,pi 3]],[],4,1,.v (.c (.p .bool U4)),[],F7,7⟩
theorem ok7:Ok s7:=oS .nil
def P1:ae:= .cA 7 F7 [U0,U1,U2,U3] 1<|.no U4<|.j [U5]
def F8:=Fo P1
def s8:au:=⟨206,[.agg [.p (.int .u64) U0,.p (.int .u32) U1,pi 2,pi 3]],[],4,1,.v (.c (.p .bool U4)),[],F8,8⟩
theorem ok8:Ok s8:=oS (.cons ok7 .nil)
def Tp:ae:= .join (.ln U0<|.loop [.i 0] (.bI .lss U2 U1<|.ite U3 (.rw U0 U2 4<|.cl U4 0 (.int .u64)<|.cl U4 1 (.int .u32)<|.cl U4 2 (.int .i64)<|.cl U4 3 (.int .i64)<|.join (.bI .gtr U2 (.i 0)<|.ite U9 (.bI .sub U2 (.i 1)<|.rw U0 ax 4<|.cl aw 0 (.int .u64)<|.op (.bi .leq .u64 U5 aD)<|.j [aE]) (.j [.b false])) (.ite U9 (.ak (.jump 2 [.b false])) (.bI .add U2 (.i 1)<|.j [ax]))) (.ak (.jump 1 [])))) (.j [.b true])
def F9:=Fo Tp
def s9:au:=⟨205,[cs 0],[],1,1,.v (.c (.p .bool U1)),[],F9,9⟩
theorem JK:Ok s9:=oS .nil
def W8:ae:= .j []
def EU:=Fo W8
def s10:au:=⟨135,[],[],0,0,.v (.agg [.nil,.nil,.nil,.nil,.nil,.nil,.nil,.nil,.p (.int .i64) (.i 0),.p (.int .i64) (.i 0)]),[],EU,10⟩
theorem aqH:Ok s10:=oS .nil
def SP:ae:= .cA 5 F5 [U3] 1<|.j [U4]
def AV:=Fo SP
def s11:au:=⟨188,[.agg [.p (.int .u64) U0,.p (.int .u32) U1,pi 2,pi 3]],[],4,1,.v (ci 4),[],AV,11⟩
theorem aAl:Ok s11:=oS (.cons sj .nil)
def Qd:ae:= .op (.bi .mul .u64 U0 (.i 11400714819323198485))<|.op (.bi .shr .u64 U1 (.i 61))<|.op (.conv .i64 U2)<|.j [U3]
def ua:=Fo Qd
def s12:au:=⟨171,[.c (.p (.int .u64) U0)],[],1,1,.v (ci 1),[],ua,12⟩
theorem Rh:Ok s12:=oS .nil
def Sb:ae:= .j []
def xR:=Fo Sb
def s14:au:=⟨22,[.c (.p (.int .u64) U0),.c (.p (.int .u32) U1)],[],2,0,.v (.agg [.p (.int .u64) U0,.p (.int .u32) U1,.p (.int .i64) (.i 0),.p (.int .i64) (.i 0),.p (.int .i64) (.i 0),.p (.int .i64) (.i 0),.p (.int .u64) (.i 0),.p (.int .u32) (.i 0),.p (.int .i64) (.i 0),.p (.int .i64) (.i 0),.p (.int .i64) (.i 0)]),[],xR,14⟩
theorem Rn:Ok s14:=oS .nil
end
section
open Go.Shelf
def Tryz.asx:Go.Shelf.Ren:=⟨fun|6=>189|15=>225|14=>224|28=>264|29=>265|20=>256|21=>257|22=>258|23=>259|24=>260|25=>261|26=>262|27=>263|46=>292|47=>293|48=>294|49=>295|50=>296|57=>310|n=>n,fun|22=>89|24=>25|25=>295|3=>3|39=>135|0=>0|53=>23|55=>22|4=>4|46=>363|45=>362|50=>304|5=>5|9=>9|66=>398|70=>402|76=>415|77=>416|n=>n,fun|n=>n⟩
theorem Tryz.XO:Go.Proofs.SlLaysF0.n6 Tryz.prog Tryz.asx:={
 mixed:=kr
 f6:=⟨Tryz.f189.name,dc,Tryz.func189.trans (bJ some kr)⟩
 f14:=⟨Tryz.f224.name,dc,Tryz.func224.trans (bJ some kr)⟩
 f15:=Tryz.func225.trans (bJ some kr)
 f20:=⟨Tryz.f256.name,dc,Tryz.func256.trans (bJ some kr)⟩
 f21:=⟨Tryz.f257.name,dc,Tryz.func257.trans (bJ some kr)⟩
 f22:=⟨Tryz.f258.name,dc,Tryz.func258.trans (bJ some kr)⟩
 f23:=⟨Tryz.f259.name,dc,Tryz.func259.trans (bJ some kr)⟩
 f24:=⟨Tryz.f260.name,dc,Tryz.func260.trans (bJ some kr)⟩
 f25:=⟨Tryz.f261.name,dc,Tryz.func261.trans (bJ some kr)⟩
 f26:=⟨Tryz.f262.name,dc,Tryz.func262.trans (bJ some kr)⟩
 f27:=⟨Tryz.f263.name,dc,Tryz.func263.trans (bJ some kr)⟩
 f28:=Tryz.func264.trans (bJ some kr)
 f29:=Tryz.func265.trans (bJ some kr)
 f46:=⟨Tryz.f292.name,dc,Tryz.func292.trans (bJ some kr)⟩
 f47:=Tryz.func293.trans (bJ some kr)
 f48:=Tryz.func294.trans (bJ some kr)
 f49:=⟨Tryz.f295.name,dc,Tryz.func295.trans (bJ some kr)⟩
 f50:=⟨Tryz.f296.name,dc,Tryz.func296.trans (bJ some kr)⟩
 f57:=⟨Tryz.f310.name,dc,Tryz.func310.trans (bJ some kr)⟩
 t0:=Tryz.underlying0
 a0:=Tryz.isAgg0
 z0:=Tryz.sizeOf0
 v0:=Tryz.zeroValue0
 t3:=Tryz.underlying3
 a3:=Tryz.isAgg3
 z3:=Tryz.sizeOf3
 v3:=Tryz.zeroValue3
 t4:=Tryz.underlying4
 a4:=Tryz.isAgg4
 z4:=Tryz.sizeOf4
 v4:=Tryz.zeroValue4
 t5:=Tryz.underlying5
 a5:=Tryz.isAgg5
 z5:=Tryz.sizeOf5
 v5:=Tryz.zeroValue5
 t9:=Tryz.underlying9
 a9:=Tryz.isAgg9
 z9:=Tryz.sizeOf9
 v9:=Tryz.zeroValue9
 t22:=Tryz.underlying89
 a22:=Tryz.isAgg89
 z22:=Tryz.sizeOf89
 v22:=Tryz.zeroValue89
 t25:=Tryz.underlying295
 a25:=Tryz.isAgg295
 z25:=Tryz.sizeOf295
 v25:=Tryz.zeroValue295
 t39:=Tryz.underlying135
 a39:=Tryz.isAgg135
 z39:=Tryz.sizeOf135
 v39:=Tryz.zeroValue135
 t45:=Tryz.underlying362
 a45:=Tryz.isAgg362
 z45:=Tryz.sizeOf362
 v45:=Tryz.zeroValue362
 t46:=Tryz.underlying363
 a46:=Tryz.isAgg363
 z46:=Tryz.sizeOf363
 v46:=Tryz.zeroValue363
 t50:=Tryz.underlying304
 a50:=Tryz.isAgg304
 z50:=Tryz.sizeOf304
 v50:=Tryz.zeroValue304
 t53:=Tryz.underlying23
 a53:=Tryz.isAgg23
 z53:=Tryz.sizeOf23
 v53:=Tryz.zeroValue23
 t55:=Tryz.underlying22
 a55:=Tryz.isAgg22
 z55:=Tryz.sizeOf22
 v55:=Tryz.zeroValue22
 t66:=Tryz.underlying398
 a66:=Tryz.isAgg398
 z66:=Tryz.sizeOf398
 v66:=Tryz.zeroValue398
 t70:=Tryz.underlying402
 a70:=Tryz.isAgg402
 z70:=Tryz.sizeOf402
 v70:=Tryz.zeroValue402
 t76:=Tryz.underlying415
 a76:=Tryz.isAgg415
 z76:=Tryz.sizeOf415
 v76:=Tryz.zeroValue415
 t77:=Tryz.underlying416
 a77:=Tryz.isAgg416
 z77:=Tryz.sizeOf416
 v77:=Tryz.zeroValue416}
def Tryz.avj:Go.Shelf.Ren:=⟨fun|5=>191|7=>226|n=>n,fun|22=>2|3=>3|4=>4|n=>n,fun|n=>n⟩
theorem Tryz.arJ:Go.Proofs.SlLaysC2.n5 Tryz.prog Tryz.avj:={
 mixed:=kr
 f5:=⟨Tryz.f191.name,dc,Tryz.func191.trans (bJ some kr)⟩
 f7:=⟨Tryz.f226.name,dc,Tryz.func226.trans (bJ some kr)⟩
 t3:=Tryz.underlying3
 a3:=Tryz.isAgg3
 z3:=Tryz.sizeOf3
 v3:=Tryz.zeroValue3
 t4:=Tryz.underlying4
 a4:=Tryz.isAgg4
 z4:=Tryz.sizeOf4
 v4:=Tryz.zeroValue4
 t22:=Tryz.underlying2
 a22:=Tryz.isAgg2
 z22:=Tryz.sizeOf2
 v22:=Tryz.zeroValue2}
section
open Go.RowKit Go.Lib Go.Sort
abbrev I4:=Int×Int×Int×Int
def encI (x:I4):List bh:=[.int .u64 x.1,.int .u32 x.2.1,.int .i64 x.2.2.1,.int .i64 x.2.2.2]
def pb (x y:I4):Int:=Lib.compareInt x.2.2.1 y.2.2.1
theorem GY (x y):ltOf pb x y=decide (x.2.2.1<y.2.2.1):=by
 unfold ltOf pb Lib.compareInt;by_cases h1:x.2.2.1<y.2.2.1
 · simp[h1]
 · by_cases h2:y.2.2.1<x.2.2.1<;>simp[h1,h2]
theorem Yg:SWO (ltOf pb):={
 irrefl:=fun x=>by rw[GY];simp
 trans:=fun x y z h1 h2=>by rw[GY]at*;simp at*;omega
 ntrans:=fun x y z h1 h2=>by rw[GY]at*;simp at*;omega}
set_option maxHeartbeats 1000000 in
theorem aoi (x y) (W):Calls Tryz.prog 190 #[.agg (encI x).toArray,.agg (encI y).toArray] W fun e w'=>e= .returned (.int .i64 (pb x y))∧∃q os',w'=grow (W.drewN q) os':=by
 have hcon:=fun W'=>AnyG.cmp_Compare_int Tryz.arJ x.2.2.1 y.2.2.1 W'
 unfold pb encI
 go_enter Tryz.func190,Tryz.ntmps190
 go_wp2_with (go_at_call 191;refine(hcon _).mono ?_;rintro e w' ⟨rfl,rfl⟩)
 go_ret
 exact⟨rfl,0,_,by rw[alloc_eq_grow,alloc_eq_grow,grow_grow];rfl⟩
theorem avP (blk off size) (w):CmpLays Tryz.prog 190 #[] encI 4 pb blk off size w:=fun _ _ _ _ x y=>aoi x y _
def EA:List PV→Option I4
 |[.sc (.int .u64 a),.sc (.int .u32 b),.sc (.int .i64 c),.sc (.int .i64 d)]=>some (a,b,c,d)
 |_=>none
def xX (x:I4):List PV:=[.sc (.int .u64 x.1),.sc (.int .u32 x.2.1),.sc (.int .i64 x.2.2.1),.sc (.int .i64 x.2.2.2)]
theorem auy {r} {x} (h:EA r=some x):r=xX x:=by
 unfold EA at h;split at h
 · cases h;rfl
 · cases h
def xj:List (List PV)→Option (List I4)
 |[]=>some []
 |r::rs=>match EA r,xj rs with
  |some x,some xs=>some (x::xs)
  |_,_=>none
theorem R_:∀{rows:List (List PV)} {xs:List I4},xj rows=some xs→rows=xs.map xX
 |[],xs,h=>by cases h;rfl
 |r::rs,xs,h=>by
  simp only[xj]at h;split at h
  · rename_i x ys h1 h2;cases h;rw[auy h1,R_ h2];rfl
  · cases h
def yq (x:I4) (r:List I4):List I4:=(pdq (ltOf pb) (x::r).toArray 0 (r.length+1) (Lib.bitLen (r.length+1)) true true).toList
def nf:List I4→List I4
 |[]=> []
 |x::r=>yq x r
theorem VB (xs):(nf xs).Perm xs∧(∀(i j:Nat) (a b),i<j→(nf xs)[i]? =some a→(nf xs)[j]? =some b→a.2.2.1≤b.2.2.1):=by
 cases xs with
 |nil=>exact⟨H4 _,fun i j a b _ h=>by simp[nf]at h⟩
 |cons x r=>
  obtain⟨⟨h1,_,h2⟩,h3⟩:=pdq_sorts (ltOf pb) Yg (x::r).toArray 0 (r.length+1) (Lib.bitLen (r.length+1)) true true (fm _) (by simp) (Or.inl rfl);show(yq x r).Perm (x::r)∧∀(i j:Nat) (a b:I4),i<j→(yq x r)[i]? =some a→(yq x r)[j]? =some b→_;unfold yq;refine⟨?_,fun i j a b hij ha hb=> ?_⟩
  · have e1:∀d:Array I4,d.size=r.length+1→d.extract 0 (r.length+1)=d:=fun d hd=>by rw[←hd];simp
    rw[e1 _ (by rw[h1];simp),e1 _ (by simp)]at h2;exact h2
  · rw[abB]at ha hb;have hj:=(fc.1 hb).1;have:=h3 i j (fm _) hij (by rw[h1]at hj;simpa using hj);rw[getElem!_def,getElem!_def,ha,hb,GY]at this;have:¬b.2.2.1<a.2.2.1:=eh this;omega
def qb:List L→Option (List L):=fun ls=>match ls with
 |[.r rows]=>match xj rows with
  |some xs=>if xs.length≤1048576 then some [.r ((nf xs).map xX)]else none
  |none=>none
 |_=>none
def afN:au:=⟨189,[.c (.own 0),.c (.fn 190 [])],[.row 25 (.v 0)],1,1,.aj [],[(0,.row 25 (.v 1))],qb,2060⟩
theorem azM {w} {g n} {cur} {e} {fz} {d} {os} (hg:w.heap[g]? =some (.cells cur e fz)):
  (sortWorldK encI 4 w g 0 n d os).heap[g]? =some (.cells (putCells id 0 (flatK encI 4 d) cur) e fz):=by
 have hl:g<w.heap.size:=(fc.1 hg).1;have:((mapBlock (Sort.ahead w n) g (putCells id 0 (flatK encI 4 d))).heap++os)[g]? =_:=Array.getElem?_append_left (by simpa[mapBlock,Sort.ahead]using hl);refine this.trans ?_;show((Sort.ahead w n).heap.modify g (onCells _))[g]? =_;rw[Ps,ay rfl];show Option.map _ w.heap[g]? =_;rw[hg];rfl
theorem avE {w} {g n q} {d} {os} (hq:q<w.heap.size) (hne:q≠g):(sortWorldK encI 4 w g 0 n d os).heap[q]? =w.heap[q]?:=by
 have:((mapBlock (Sort.ahead w n) g (putCells id 0 (flatK encI 4 d))).heap++os)[q]? =_:=Array.getElem?_append_left (by simpa[mapBlock,Sort.ahead]using hq);refine this.trans ?_;show((Sort.ahead w n).heap.modify g (onCells _))[q]? =_;rw[Ps,aC (fun h=>hne h.symm)];rfl
theorem V7 {w} {g n} {d} {os}:w.heap.size≤(sortWorldK encI 4 w g 0 n d os).heap.size:=by
 show _≤((mapBlock (Sort.ahead w n) g (putCells id 0 (flatK encI 4 d))).heap++os).size;simp[mapBlock,Sort.ahead]
theorem Vv {d:List I4} {i j} (hi) (hj:j<4):∃v,(xX d[i])[j]? =some (.sc v)∧flat v=true∧(flatK encI 4 d.toArray)[i*4+j]! =v:=by
 have h4:i*4+j<d.toArray.size*4:=by simp;omega
 rw[get_flatK encI 4 _ _ h4,show(i*4+j) /4=i by omega,show(i*4+j)%4=j by omega,getElem!_pos d.toArray i (by simpa using hi)]
 match j,hj with
 |0,_=>exact⟨_,rfl,rfl,rfl⟩
 |1,_=>exact⟨_,rfl,rfl,rfl⟩
 |2,_=>exact⟨_,rfl,rfl,rfl⟩
 |3,_=>exact⟨_,rfl,rfl,rfl⟩
theorem art:afN.ok Tryz.prog:=by
 intro ls os hl hF cg;change qb ls=some os at hF;unfold qb at hF;split at hF
 · rename_i rows;split at hF
   · rename_i xs qT;split at hF
     · rename_i hn;cases hF;show eJ Tryz.prog 189 [.c (.own 0),.c (.fn 190 [])] [.row 25 rows] (.aj []) [(0,.row 25 ((nf xs).map xX))];obtain rfl:=R_ qT;refine⟨⟨_,Tryz.func189,by kernel_rfl,rfl⟩,fun w M N vals hM pI lD lG hH hsz hv=> ?_⟩;obtain⟨u0,e0,r0⟩:=hv 0 _ rfl;obtain⟨u1,e1,r1⟩:=hv 1 _ rfl;obtain⟨x,cur,fz,hx,bX,aDl,hlen,jB,Hs,N_,aaQ,vK,qY,hnil,zc⟩:=hH 0 _ rfl;have hx:N 0=some x:=hx;have HJ:x.sz=4:=aaQ.trans kr;rw[aA]at hlen;obtain⟨x',hx',rfl⟩:∃y,N 0=some y∧u0= .slice (y.g.map fun g=> ⟨g,0,none⟩) y.len y.cap:=by
        rcases r0 with h|h
        · cases h
        · exact h
       obtain rfl:x'=x:=by rw[hx]at hx';cases hx';rfl
       obtain⟨us,rfl,fi,_⟩:=r1;obtain rfl:us= #[]:=Pj fi;obtain rfl:vals= #[.slice (x'.g.map fun g=> ⟨g,0,none⟩) x'.len x'.cap,.func (.func 190) #[] #[]]:=by
        obtain⟨l⟩:=vals
        match l,hsz with
        | [a,b],_=>
          simp at e0 e1;rw[e0,e1]
       have fj:∀w',w.heap.size≤w'.heap.size→xO N 1 w w' ⟨N,[]⟩:=fun w' hs=> ⟨rfl,fun n y g h1 h2=> ⟨oo (lD n y g h1 h2).1 hs,.inl ⟨n,y,h1,h2⟩⟩,lG,fun m _=> .inr rfl⟩
       have aaR:∀w',RV M ⟨N,[]⟩ w' (.aj []) (.tuple #[]):=fun w'=> ⟨#[],rfl,rfl,fun i x h=>by cases h⟩
       cases xs with
       |nil=>
        rw[show x'.len=0 from hlen];refine(AnyF.slices_SortFunc_none Tryz.XO _ _ _ w).mono ?_;rintro e w' ⟨rfl,rfl⟩;exact⟨_,⟨N,[]⟩,rfl,Frame.refl _ _,fj _ (cn _),fun n b h=>hH n b (by
          simp only[gW,oq]at h;split at h
          · rename_i jE;simp at jE;subst jE;exact h
          · cases h),aaR _⟩
       |cons y ys=>
        obtain⟨g,hg⟩:∃g,x'.g=some g:=by
          cases hg:x'.g with
          |some g=>exact⟨g,rfl⟩
          |none=>have:=hnil hg;simp at hlen;omega
        have HK:=aDl g hg;have hcs:cur.size=x'.cap*4:=by rw[vK,HJ]
        have hle:ys.length+1≤x'.cap:=by simpa[hlen]using jB
        rw[hg,hlen];have cellv:∀(i j:Nat) (v:bh) (hi:i< (y::ys).length),j<4→(xX (y::ys)[i])[j]? =some (.sc v)→cur[i*4+j]? =some v:=fun i j v hi hj hv=>by
          obtain⟨u,k1,k2⟩:=zc i _ j _ (by rw[bV,bW hi];rfl) hv;rw[HJ]at k1;rw[k1,RP.dy k2]
        have Ho:HoldsK encI 4 w g 0 (y::ys).toArray:=by
          intro t ht;have ht:t< (ys.length+1)*4:=by simpa using ht
          obtain⟨v,h1,_,h3⟩:=Vv (d:=y::ys) (i:=t/4) (j:=t%4) (by simp;omega) om;rw[show t/4*4+t%4=t by omega]at h3;have hc:=cellv _ _ _ (by simp;omega) om h1;rw[show t/4*4+t%4=t by omega]at hc;constructor
          · rw[pP];show(match w.heap[g]? with|some (.cells c _ _)=>_|_=>none)=_;rw[HK];rw[h3];exact hc
          · show(match w.heap[g]? with|some (.cells _ _ (lo,hi))=>_|_=>false)=_;rw[HK];obtain⟨lo,hi⟩:=fz;rcases bX with hf|hf
            · cases hf;simp
            · simp;omega
        have eg:∀args w,(callFunc 190 args).run Tryz.prog w= .ok (.enter 190 args) w:=enters_of Tryz.func190 kr rfl;refine(AnyQ.slices_SortFunc_eq Tryz.XO 4 Tryz.isAgg25 Tryz.sizeOf25 encI (fun _=>rfl) (fun x v hv=>by simp[encI]at hv;rcases hv with rfl|rfl|rfl|rfl<;>rfl) pb Yg 190 #[] g 0 x'.cap (y::ys).toArray w eg (avP g 0 _ w) Ho ((fc.1 HK).1) (by simp;simp at hn;omega)).mono ?_;rintro e w' ⟨rfl,n,os,rfl⟩;have hsr:pdq (ltOf pb) (y::ys).toArray 0 (y::ys).toArray.size (Lib.bitLen (y::ys).toArray.size) true true=(nf (y::ys)).toArray:=by simp[nf,yq]
        rw[hsr];have ey:(nf (y::ys)).length=ys.length+1:=by have:=(VB (y::ys)).1.length_eq;simpa using this
        have hput:∀k,k< (ys.length+1)*4→(putCells id 0 (flatK encI 4 (nf (y::ys)).toArray) cur)[k]? =some (flatK encI 4 (nf (y::ys)).toArray)[k]!:=fun k hk=>by
          have hk2:k<cur.size:=om;unfold putCells;rw[Array.getElem?_mapIdx,ry hk2];simp[ey,hk]
        refine⟨_,⟨N,[]⟩,rfl,⟨rfl,rfl,rfl,V7,fun q hq hK=>avE hq fun h=>hK ⟨0,x',hx,by rw[hg,h]⟩⟩,fj _ V7,fun m b hb=> ?_,aaR _⟩;simp only[gW,oq]at hb;split at hb
        · rename_i hm;simp at hm;subst hm;cases hb;refine⟨x',_,fz,hx,?_,fun g' hg'=>by rw[hg]at hg';cases hg';exact azM HK,by rw[aA,ey];exact hlen,jB,Hs,N_,aaQ,?_,?_,hnil,?_⟩
          · simpa[putCells]using bX
          · simpa[putCells]using vK
          · intro r hr;simp only[fe]at hr;obtain⟨z,_,rfl⟩:=hr;exact HJ.symm
          · intro i r j p hi hj;rw[bV,aT]at hi;obtain⟨z,hz,rfl⟩:=hi;obtain⟨hi,rfl⟩:=dr.1 hz;have CK:j<4:=(dr.1 hj).1;obtain⟨v,h1,h2,h3⟩:=Vv hi CK;rw[h1]at hj;cases hj;refine⟨v,?_,RP.sc h2⟩;rw[HJ,hput _ om,h3]
        · cases hb
     · cases hF
   · cases hF
 · cases hF
end
end
section
attribute [local irreducible] Fo
open Go.RowKit
def R8:ae:= .join (.ln U2<|.loop [.i 0,.r0] (.bI .lss U4 U3<|.ite U6 (.rw U2 U4 3<|.cl U7 0 .str<|.cl U7 1 .sl<|.cl U7 2 .sl<|.join (.ln ax<|.loop [.i 0,.r0] (.bI .lss aD aw<|.ite aG (.rw ax aD 3<|.cl aJ 0 (.int .i64)<|.cl aJ 1 .sl<|.cl aJ 2 .bool<|.op (.lit [[((.int .i64),aN),(.sl,aM),(.bool,aL)]])<|.op (.app aE aX 3 40)<|.bI .add aD (.i 1)<|.j [bk,a8]) (.ak (.jump 1 [aE])))) (.op (.lit [[(.str,U8),(.sl,U9),(.sl,aw)]])<|.op (.app U5 aD 3 64)<|.bI .add U4 (.i 1)<|.j [aG,aE])) (.ak (.jump 1 [U5])))) (.j [U3])
def FQ:=Fo R8
def Ym:au:=⟨16,[.agg [pi 0,pi 1,ps 2]],[],3,1,.v (.agg [pi 0,pi 1,.own 0]),[(0,(.row 127 U3))],FQ,18⟩
theorem JX:Ok Ym:=oS .nil
noncomputable def BU:List L→Option (List L):=FQ
def aoR:au:=⟨16,[.agg [pi 0,pi 1,ps 2]],[],3,1,.v (.agg [pi 0,pi 1,ps 3]),[],FQ,2051⟩
theorem WC:aoR.ok Tryz.prog:=B3 (s:=Ym) JX rfl (x:=(.v 3)) (e:=127) rfl rfl 2051
def aoZ:ae:= .join (.loop [.i 0,.i 0] (.bI .lss U3 (.i 8)<|.ite U4 (.join (.op (.conv .u64 U3)<|.op (.bi .shr .u8 U1 U5)<|.op (.bi .and .u8 U6 (.i 1))<|.op (.bi .eql .u8 U7 (.i 1))<|.ite U8 (.op (.conv .i64 U0)<|.op (.conv .u64 U3)<|.bI .shl U9 ax<|.bI .xor U2 aw<|.j [aD]) (.j [U2])) (.bI .add U3 (.i 1)<|.j [U5,U6])) (.ak (.jump 1 [U2])))) (.join (.loop [U2,.i 14] (.bI .geq U4 (.i 8)<|.ite U5 (.join (.op (.conv .u64 U4)<|.bI .shr U3 U6<|.bI .and U7 (.i 1)<|.bI .eql U8 (.i 1)<|.ite U9 (.bI .sub U4 (.i 8)<|.op (.conv .u64 ax)<|.bI .shl (.i 285) aw<|.bI .xor U3 aD<|.j [aE]) (.j [U3])) (.bI .sub U4 (.i 1)<|.j [U6,U7])) (.ak (.jump 1 [U3])))) (.op (.conv .u8 U3)<|.j [U4]))
def nO:=Fo aoZ
def s19:au:=⟨291,[.c (.p (.int .u8) U0),.c (.p (.int .u8) U1)],[],2,1,.v (.c (.p (.int .u8) U2)),[],nO,19⟩
theorem B0:Ok s19:=oS .nil
def aho:ae:= .join (.loop [.i 1] (.bI .lss U1 (.i 256)<|.ite U2 (.op (.conv .u8 U1)<|.cA 19 nO [U0,U3] 1<|.op (.bi .eql .u8 U4 (.i 1))<|.ite U5 (.op (.conv .u8 U1)<|.ak (.jump 2 [U6,.i 0])) (.bI .add U1 (.i 1)<|.j [U6])) (.ak (.jump 1 [])))) (.j [.i 0,.i 1])
def Bm:=Fo aho
def s20:au:=⟨288,[.c (.p (.int .u8) U0)],[],1,2,.aj [.c (.p (.int .u8) U1),ci 2],[],Bm,20⟩
theorem agP:Ok s20:=oS (.cons B0 .nil)
def afi:ae:= .ln U0<|.ln U1<|.bI .neq U3 U4<|.ite U5 (.j [.i 1,.r0]) (.join (.loop [.i 0,.r0] (.ln U0<|.bI .lss U6 U8<|.ite U9 (.rw U0 U6 1<|.cl ax 0 (.int .u8)<|.rw U1 U6 1<|.cl aD 0 (.int .u8)<|.cA 19 nO [U2,aE] 1<|.op (.bi .xor .u8 aw aG)<|.op (.lit [[((.int .u8),aJ)]])<|.op (.app U7 aN 1 1)<|.bI .add U6 (.i 1)<|.j [aL,aM]) (.ak (.jump 1 [U7])))) (.j [.i 0,U6]))
def LN:=Fo afi
def s21:au:=⟨253,[cs 0,cs 1,.c (.p (.int .u8) U2)],[],3,2,.aj [.c (.own 0),ci 3],[(0,(.row 5 U4))],LN,21⟩
theorem afs:Ok s21:=oS (.cons B0 .nil)
def X4:ae:= .join (.bI .geq U0 (.i 1)<|.ite U2 (.bI .leq U0 (.i 16)<|.ite U3 (.bI .geq U1 (.i 1)<|.ite U4 (.bI .leq U1 (.i 16)<|.j [U5]) (.j [.b false])) (.j [.b false])) (.j [.b false])) (.j [U2])
def mQ:=Fo X4
def s22:au:=⟨285,[ci 0,ci 1],[],2,1,.v (.c (.p .bool U2)),[],mQ,22⟩
theorem ET:Ok s22:=oS .nil
def Zt:ae:= .cA 22 mQ [U0,U1] 1<|.no U2<|.ite U3 (.j [.i 1,.i 0,.i 0,.r0]) (.join (.loop [.i 0,.r0] (.bI .lss U4 U0<|.ite U6 (.join (.loop [.i 1,.i 0,U5] (.bI .lss U8 U1<|.ite ax (.op (.lit [[((.int .u8),U7)]])<|.op (.app U9 aw 1 1)<|.op (.conv .u8 U4)<|.cA 19 nO [U7,aE] 1<|.bI .add U8 (.i 1)<|.j [aG,aJ,aD]) (.ak (.jump 1 [U9])))) (.bI .add U4 (.i 1)<|.j [U8,U7])) (.ak (.jump 1 [U5])))) (.j [.i 0,U0,U1,U4]))
def E7:=Fo Zt
def s23:au:=⟨254,[ci 0,ci 1],[],2,4,.aj [.agg [pi 3,pi 4,.own 0],ci 2],[(0,(.row 5 U5))],E7,23⟩
theorem aul:Ok s23:=oS (.cons ET (.cons B0 .nil))
def UK:ae:= .join (.cA 22 mQ [U0,U1] 1<|.ite U3 (.ln U2<|.bI .mul U0 U1<|.bI .eql U4 U5<|.j [U6]) (.j [.b false])) (.j [U3])
def mO:=Fo UK
def s24:au:=⟨252,[.agg [pi 0,pi 1,ps 2]],[],3,1,.v (.c (.p .bool U3)),[],mO,24⟩
theorem DY:Ok s24:=oS (.cons ET .nil)
def Yz:ae:= .join (.cA 24 mO [U0,U1,U2] 1<|.no U4<|.ite U5 (.j [.b true]) (.ln U3<|.cA 22 mQ [U6,U1] 1<|.no U7<|.j [U8])) (.ite U4 (.j [.i 1,.i 0,.i 0,.r0]) (.ln U3<|.join (.loop [.i 0,.r0] (.ln U3<|.bI .lss U6 U8<|.ite U9 (.join (.rw U3 U6 1<|.cl ax 0 (.int .i64)<|.bI .lss aw (.i 0)<|.ite aD (.j [.b true]) (.rw U3 U6 1<|.cl aE 0 (.int .i64)<|.bI .geq aG U0<|.j [aJ])) (.ite ax (.ak (.jump 2 [.i 1,.i 0,.i 0,.r0])) (.rw U3 U6 1<|.cl aw 0 (.int .i64)<|.bI .mul aD U1<|.rw U3 U6 1<|.cl aG 0 (.int .i64)<|.bI .add aJ (.i 1)<|.bI .mul aN U1<|.ln U2<|.op (.part U2 aE aM 1)<|.op (.app U7 aX 1 1)<|.bI .add U6 (.i 1)<|.j [bk,a8]))) (.ak (.jump 1 [U7])))) (.j [.i 0,U5,U1,U6])))
def FM:=Fo Yz
def s25:au:=⟨244,[.agg [pi 0,pi 1,ps 2],cs 3],[],4,4,.aj [.agg [pi 5,pi 6,.own 0],ci 4],[(0,(.row 5 U7))],FM,25⟩
theorem amo:Ok s25:=oS (.cons DY (.cons ET .nil))
def ahP:ae:= .ln U0<|.bI .neq U2 U1<|.ite U3 (.j [.b false]) (.join (.loop [.i 0] (.bI .lss U4 U1<|.ite U5 (.rw U0 U4 1<|.cl U6 0 .sl<|.ln U7<|.rw U0 (.i 0) 1<|.cl U9 0 .sl<|.ln ax<|.bI .neq U8 aw<|.ite aD (.ak (.jump 2 [.b false])) (.bI .add U4 (.i 1)<|.j [aE])) (.ak (.jump 1 [])))) (.j [.b true]))
def JP:=Fo ahP
def s26:au:=⟨179,[cs 0,ci 1],[],2,1,.v (.c (.p .bool U2)),[],JP,26⟩
theorem azT:Ok s26:=oS .nil
def ajp:ae:= .join (.loop [.b false,.i 0,.r0] (.ln U2<|.bI .lss U7 U9<|.ite ax (.join (.join (.join (.no U6<|.ite aw (.rw U2 U7 3<|.cl aD 0 .str<|.op (.bs .geq aE U3)<|.j [aG]) (.j [.b false])) (.ite aw (.op (.lit [[(.str,U3),(.sl,U4),(.sl,U5)]])<|.op (.app U8 aD 3 64)<|.j [.b true,aE]) (.j [U6,U8]))) (.rw U2 U7 3<|.cl aE 0 .str<|.op (.bs .neq aG U3)<|.ite aJ (.rw U2 U7 3<|.cl aN 0 .str<|.cl aN 1 .sl<|.cl aN 2 .sl<|.op (.lit [[(.str,aM),(.sl,aL),(.sl,aX)]])<|.op (.app aD a8 3 64)<|.j [aw,bk]) (.j [aw,aD]))) (.bI .add U7 (.i 1)<|.j [aw,aE,aD])) (.ak (.jump 1 [U6,U8])))) (.join (.no U6<|.ite U8 (.op (.lit [[(.str,U3),(.sl,U4),(.sl,U5)]])<|.op (.app U7 U9 3 64)<|.j [ax]) (.j [U7])) (.j [U8]))
def K2:=Fo ajp
def s30:au:=⟨172,[.agg [pi 0,pi 1,ps 2],.agg [.p .str U3,ps 4,ps 5]],[],6,1,.v (.agg [pi 0,pi 1,.own 0]),[(0,(.row 109 U6))],K2,30⟩
theorem apQ:Ok s30:=oS .nil
def aAO:ae:= .op (.lit [])<|.op (.app U3 U2 3 64)<|.join (.bI .gtr U1 (.i 0)<|.ite U5 (.bI .sub U1 (.i 1)<|.j [U6]) (.j [U1])) (.j [U5,U4])
def xH:=Fo aAO
def s31:au:=⟨49,[.agg [pi 0,pi 1,ps 2]],[],3,2,.v (.agg [pi 0,pi 3,.own 0]),[(0,(.row 109 U4))],xH,31⟩
theorem FJ:Ok s31:=oS .nil
def azw:ae:= .join (.loop [.i 0] (.ln U2<|.bI .lss U4 U5<|.ite U6 (.rw U2 U4 3<|.cl U7 0 .str<|.op (.bs .eql U8 U3)<|.ite U9 (.ak (.jump 2 [U4])) (.bI .add U4 (.i 1)<|.j [ax])) (.ak (.jump 1 [])))) (.j [.i (-1)])
def En:=Fo azw
def s32:au:=⟨47,[.agg [pi 0,pi 1,ps 2],.c (.p .str U3)],[],4,1,.v (ci 4),[],En,32⟩
theorem Za:Ok s32:=oS .nil
def ajG:ae:= .op (.lit [])<|.op (.app U4 U0 1 1)<|.ite U3 (.ln U5<|.op (.mn U6 U1)<|.ln U5<|.op (.cut U5 (.i 0) U7 1)<|.op (.tk U5 U9)<|.j [ax]) (.join (.loop [U5] (.ln U6<|.bI .lss U7 U1<|.ite U8 (.op (.lit [[((.int .u8),(.i 0))]])<|.op (.app U6 U9 1 1)<|.j [ax]) (.ak (.jump 1 [U6])))) (.ln U2<|.bI .add U1 U7<|.ln U6<|.bI .gtr U8 U9<|.ite ax (.ln U6<|.op (.cut U6 (.i 0) U1 1)<|.op (.tk U6 aD)<|.op (.app aE U2 1 1)<|.j [aG]) (.ln U6<|.op (.cut U6 U1 U8 1)<|.op (.uJ U6 U1 aD U2 1)<|.j [aE])))
def Fg:=Fo ajG
def s33:au:=⟨146,[cs 0,.agg [pi 1,ps 2,.p .bool U3]],[],4,1,.v (.c (.own 0)),[(0,(.row 5 U4))],Fg,33⟩
theorem Vs:Ok s33:=oS .nil
def amD:ae:= .join (.loop [.i 0] (.op (.qk U0)<|.bI .lss U1 U2<|.ite U3 (.op (.AU U0 U1)<|.join (.op (.bi .geq .u8 U4 (.i 97))<|.ite U5 (.op (.bi .leq .u8 U4 (.i 122))<|.ite U6 (.no (.b true)<|.j [U7]) (.op (.bi .geq .u8 U4 (.i 48))<|.ite U7 (.op (.bi .leq .u8 U4 (.i 57))<|.ite U8 (.no (.b true)<|.j [U9]) (.op (.bi .eql .u8 U4 (.i 46))<|.ite U9 (.no (.b true)<|.j [ax]) (.op (.bi .eql .u8 U4 (.i 45))<|.no ax<|.j [aw]))) (.op (.bi .eql .u8 U4 (.i 46))<|.ite U8 (.no (.b true)<|.j [U9]) (.op (.bi .eql .u8 U4 (.i 45))<|.no U9<|.j [ax])))) (.op (.bi .geq .u8 U4 (.i 48))<|.ite U6 (.op (.bi .leq .u8 U4 (.i 57))<|.ite U7 (.no (.b true)<|.j [U8]) (.op (.bi .eql .u8 U4 (.i 46))<|.ite U8 (.no (.b true)<|.j [U9]) (.op (.bi .eql .u8 U4 (.i 45))<|.no U9<|.j [ax]))) (.op (.bi .eql .u8 U4 (.i 46))<|.ite U7 (.no (.b true)<|.j [U8]) (.op (.bi .eql .u8 U4 (.i 45))<|.no U8<|.j [U9])))) (.ite U5 (.ak (.jump 2 [.b false])) (.bI .add U1 (.i 1)<|.j [U6]))) (.ak (.jump 1 [])))) (.join (.op (.qk U0)<|.bI .geq U1 (.i 1)<|.ite U2 (.op (.qk U0)<|.bI .leq U3 (.i 40)<|.j [U4]) (.j [.b false])) (.j [U1]))
def C8:=Fo amD
def s34:au:=⟨46,[.c (.p .str U0)],[],1,1,.v (.c (.p .bool U1)),[],C8,34⟩
theorem T3:Ok s34:=oS .nil
def Vi:ae:= .op (.mx (.i 0) U0)<|.j [U1]
def xq:=Fo Vi
def s35:au:=⟨33,[ci 0],[],1,1,.v (.agg [pi 1,.p (.int .i64) (.i (-1)),.nil]),[],xq,35⟩
theorem SZ:Ok s35:=oS .nil
def asZ:ae:= .join (.loop [U0,.i 0] (.bI .lss U2 (.i 8)<|.ite U3 (.join (.op (.bi .and .u32 U1 (.i 1))<|.op (.bi .eql .u32 U4 (.i 1))<|.ite U5 (.op (.bi .shr .u32 U1 (.i 1))<|.op (.bi .xor .u32 U6 (.i 2197175160))<|.j [U7]) (.op (.bi .shr .u32 U1 (.i 1))<|.j [U6])) (.bI .add U2 (.i 1)<|.j [U4,U5])) (.ak (.jump 1 [U1])))) (.j [U1])
def Js:=Fo asZ
def s36:au:=⟨223,[.c (.p (.int .u32) U0)],[],1,1,.v (.c (.p (.int .u32) U1)),[],Js,36⟩
theorem agw:Ok s36:=oS .nil
def amP:ae:= .op (.un .xor .u32 U0)<|.join (.loop [U2,.i 0] (.ln U1<|.bI .lss U4 U5<|.ite U6 (.rw U1 U4 1<|.cl U7 0 (.int .u8)<|.op (.conv .u32 U8)<|.op (.bi .xor .u32 U3 U9)<|.cA 36 Js [ax] 1<|.bI .add U4 (.i 1)<|.j [aw,aD]) (.ak (.jump 1 [U3])))) (.op (.un .xor .u32 U3)<|.j [U4])
def MM:=Fo amP
def s37:au:=⟨181,[.c (.p (.int .u32) U0),cs 1],[],2,1,.v (.c (.p (.int .u32) U2)),[],MM,37⟩
theorem ays:Ok s37:=oS (.cons agw .nil)
def asb:ae:= .cA 37 MM [.i 0,U0] 1<|.j [U1]
def D':=Fo asb
def s38:au:=⟨129,[cs 0],[],1,1,.v (.c (.p (.int .u32) U1)),[],D',38⟩
theorem UQ:Ok s38:=oS (.cons ays .nil)
def adS:ae:= .join (.bI .geq U0 (.i 0)<|.ite U3 (.bI .lss U0 (.i 4)<|.ite U4 (.bI .geq U1 (.i 1)<|.ite U5 (.bI .leq U1 (.i 8)<|.ite U6 (.bI .geq U2 (.i 0)<|.ite U7 (.bI .lss U2 (.i 4294967296)<|.j [U8]) (.j [.b false])) (.j [.b false])) (.j [.b false])) (.j [.b false])) (.j [.b false])) (.j [U3])
def Aj:=Fo adS
def s39:au:=⟨126,[.agg [pi 0,pi 1,pi 2]],[],3,1,.v (.c (.p .bool U3)),[],Aj,39⟩
theorem JH:Ok s39:=oS .nil
def ayv:ae:= .join (.loop [.i 0,.i 0] (.ln U0<|.bI .lss U2 U3<|.ite U4 (.op (.bi .shl .u64 U1 (.i 8))<|.rw U0 U2 1<|.cl U6 0 (.int .u8)<|.op (.conv .u64 U7)<|.op (.bi .or .u64 U5 U8)<|.bI .add U2 (.i 1)<|.j [U9,ax]) (.ak (.jump 1 [U1])))) (.j [U1])
def F40:=Fo ayv
def s40:au:=⟨125,[cs 0],[],1,1,.v (.c (.p (.int .u64) U1)),[],F40,40⟩
theorem aiD:Ok s40:=oS .nil
def amT:ae:= .cA 38 D' [U0] 1<|.op (.conv .u8 U1)<|.op (.bi .shr .u32 U1 (.i 8))<|.op (.conv .u8 U3)<|.op (.bi .shr .u32 U1 (.i 16))<|.op (.conv .u8 U5)<|.op (.bi .shr .u32 U1 (.i 24))<|.op (.conv .u8 U7)<|.op (.lit [[((.int .u8),U2)],[((.int .u8),U4)],[((.int .u8),U6)],[((.int .u8),U8)]])<|.j [U9]
def sE:=Fo amT
def s41:au:=⟨124,[cs 0],[],1,1,.v (.c (.own 0)),[(0,(.row 5 U1))],sE,41⟩
theorem wS:Ok s41:=oS (.cons UQ .nil)
def aiG:ae:= .join (.bI .sub U1 (.i 1)<|.loop [U2,.r0] (.bI .geq U3 (.i 0)<|.ite U5 (.bI .mul (.i 8) U3<|.op (.conv .u64 U6)<|.op (.bi .shr .u64 U0 U7)<|.op (.conv .u8 U8)<|.op (.lit [[((.int .u8),U9)]])<|.op (.app U4 ax 1 1)<|.bI .sub U3 (.i 1)<|.j [aD,aw]) (.ak (.jump 1 [U4])))) (.j [U2])
def iQ:=Fo aiG
def s42:au:=⟨132,[.c (.p (.int .u64) U0),ci 1],[],2,1,.v (.c (.own 0)),[(0,(.row 5 U2))],iQ,42⟩
theorem A4:Ok s42:=oS .nil
def avU:ae:= .join (.ln U3<|.bI .leq U4 (.i 4096)<|.ite U5 (.ite U2 (.ln U3<|.bI .gtr U6 (.i 0)<|.no U7<|.j [U8]) (.no (.b false)<|.j [U6])) (.j [.b false])) (.j [U4])
def EM:=Fo avU
def s43:au:=⟨137,[.agg [.p (.int .u64) U0,.p (.int .u32) U1,.p .bool U2,ps 3]],[],4,1,.v (.c (.p .bool U4)),[],EM,43⟩
theorem Zb:Ok s43:=oS .nil
def asE:ae:= .join (.bI .lss U0 (.i 0)<|.ite U1 (.j [.b true]) (.bI .gtr U0 (.i 4096)<|.j [U2])) (.ite U1 (.j [.i 0]) (.bI .add (.i 20) U0<|.bI .add U2 (.i 4)<|.bI .add U3 (.i 7)<|.bI .quo U4 (.i 8)<|.bI .mul U5 (.i 8)<|.j [U6]))
def kH:=Fo asE
def s44:au:=⟨79,[ci 0],[],1,1,.v (ci 1),[],kH,44⟩
theorem qd:Ok s44:=oS .nil
def adr:ae:= .join (.ln U0<|.bI .sub U2 (.i 1)<|.loop [U3] (.bI .geq U4 (.i 0)<|.ite U5 (.rw U0 U4 4<|.cl U6 0 (.int .u64)<|.op (.bi .eql .u64 U7 U1)<|.ite U8 (.rw U0 U4 4<|.cl U9 0 (.int .u64)<|.cl U9 1 (.int .u32)<|.cl U9 2 (.int .i64)<|.cl U9 3 (.int .i64)<|.ak (.jump 2 ([.b true]++w 10 4))) (.bI .sub U4 (.i 1)<|.j [U9])) (.ak (.jump 1 [])))) (.j [.b false,.i 0,.i 0,.i 0,.i 0])
def MW:=Fo adr
def s45:au:=⟨82,[cs 0,.c (.p (.int .u64) U1)],[],2,5,.aj [.agg [.p (.int .u64) U3,.p (.int .u32) U4,pi 5,pi 6],.c (.p .bool U2)],[],MW,45⟩
theorem apV:Ok s45:=oS .nil
def WX:ae:= .join (.loop [.i 0,.r0] (.ln U0<|.bI .lss U1 U3<|.ite U4 (.join (.loop [.i 0] (.join (.ln U2<|.bI .lss U5 U6<|.ite U7 (.rw U2 U5 4<|.op (.rc U2 U5 0 (.int .u64))<|.rw U0 U1 4<|.cl ax 0 (.int .u64)<|.op (.bi .lss .u64 U9 aw)<|.j [aD]) (.j [.b false])) (.ite U6 (.bI .add U5 (.i 1)<|.j [U7]) (.ak (.jump 1 [U5]))))) (.op (.lit [])<|.ln U2<|.op (.cut U2 U5 U7 4)<|.op (.vw U2 U5 U8)<|.op (.app U6 U9 4 32)<|.join (.join (.ln ax<|.bI .gtr aw (.i 0)<|.ite aD (.rw ax (.i 0) 4<|.op (.rc ax (.i 0) 0 (.int .u64))<|.rw U0 U1 4<|.cl aJ 0 (.int .u64)<|.op (.bi .eql .u64 aG aN)<|.j [aM]) (.j [.b false])) (.ite aw (.ln ax<|.op (.cut ax (.i 1) aD 4)<|.op (.vw ax (.i 1) aE)<|.j [aG]) (.j [ax]))) (.ln U2<|.op (.cut U2 (.i 0) U5 4)<|.rw U0 U1 4<|.cl aG 0 (.int .u64)<|.cl aG 1 (.int .u32)<|.cl aG 2 (.int .i64)<|.cl aG 3 (.int .i64)<|.op (.lit [[((.int .u64),aJ),((.int .u32),aN),((.int .i64),aM),((.int .i64),aL)]])<|.op (.tk U2 aE)<|.op (.app a8 aX 4 32)<|.op (.app bk aw 4 32)<|.bI .add U1 (.i 1)<|.j [bp,be]))) (.ak (.jump 1 [U2])))) (.j [U1])
def yd:=Fo WX
def s46:au:=⟨131,[cs 0],[],1,1,.v (.c (.own 0)),[(0,(.row 25 U1))],yd,46⟩
theorem CY:Ok s46:=oS .nil
def anX:ae:= .join (.bI .geq U2 (.i 16)<|.ite U4 (.bI .leq U2 (.i 1048576)<|.ite U5 (.bI .rem U2 (.i 8)<|.bI .eql U6 (.i 0)<|.ite U7 (.bI .geq U3 (.i 0)<|.ite U8 (.bI .leq U3 (.i 4096)<|.j [U9]) (.j [.b false])) (.j [.b false])) (.j [.b false])) (.j [.b false])) (.j [U4])
def AY:=Fo anX
def s47:au:=⟨186,[.agg [.p (.int .u64) U0,.p (.int .u32) U1,pi 2,pi 3]],[],4,1,.v (.c (.p .bool U4)),[],AY,47⟩
theorem Kc:Ok s47:=oS .nil
end
end
end Go.Proofs.YtndegphojkiblaaGreatDoor
