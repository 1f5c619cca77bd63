/- A part. -/
import Derived.Test.YtndegphojkiblaaGreatDoorG12
import Derived.Test.YtndegphojkiblaaGreatDoorG13
import Derived.Test.YtndegphojkiblaaGreatDoorG24
import Derived.Test.YtndegphojkiblaaGreatDoorG25
import Derived.Test.YtndegphojkiblaaGreatDoorG26
import Derived.Test.YtndegphojkiblaaGreatDoorG28
set_option linter.all false
set_option maxHeartbeats 4000000
set_option maxRecDepth 100000
namespace Go.Proofs.YtndegphojkiblaaGreatDoor
noncomputable section
section
open Go.RowKit
def TV(r:List PV):Bool:=match r with
 |[.sc (.int .u8 n)]=>decide (0<=n)&&decide (n<=255)
 |_=>false
theorem apl{rows:List (List PV)}(h:rows.all TV=true):AI.AC.rows AI.dw rows:=λr a=>by
 have:=cj.1 h r a;unfold TV at this;split at this
 .rename_i n;simp only[cd,dj]at this;exact⟨⟨n,rfl,this.1,this.2⟩,trivial⟩
 .cases this
namespace AI
def Zj:dO:=⟨0,3,{},[{fs:=[⟨1,0,6⟩,⟨0,1,-6⟩,⟨4,0,4⟩,⟨0,4,-4⟩,⟨8,0,24⟩,⟨0,8,-24⟩],rw:=[(2,some dw)]}]⟩
theorem aqM:Zj.ok vB:=by
 intro ls d hp;obtain rfl:=jX d;have e:=IA;have g:=apl (rows:=iJ.map b1) kr;have h:(iJ.map b1).length=24:=kr;refine⟨_,e,rfl,_,fO.2 rfl,⟨λf c=>?_,λx a=>?_,λx a=>(by cases a),λx a=>(by cases a)⟩⟩
 .simp at c;rcases c with rfl|rfl|rfl|rfl|rfl|rfl<;>simp[Fa.holds,cz,qj,o0,h]
 .simp at a;subst a;exact g
def Z94:So:=⟨94,vB,Zj,aqM⟩
end AI
namespace AI
theorem Q3{r}(h:AC.dS dw r):∃n,r=[.sc (.int .u8 n)]/\0<=n/\n<=255:=by
 match r,h with
 |[q],⟨⟨n,a,c,d⟩,_⟩=>exact⟨n,by rw[a],c,d⟩
theorem Vo:∀{rows},AC.rows dw rows->∃b,rows=gl b/\∀n∈b,0<=n/\n<=255
 |[],_=>⟨[],rfl,λn c=>by cases c⟩
 |r::rows,h=>by
  obtain⟨n,rfl,d,e⟩:=Q3 (h r eJ);obtain⟨b,rfl,f⟩:=Vo (rows:=rows) λr g=>h r (fp _ g)
  refine⟨n::b,rfl,λm a=>?_⟩;rcases dn.1 a with rfl|a
  .exact⟨d,e⟩
  .exact f m a
theorem ajB{b}(h:∀n∈b,0<=n/\n<=255):AC.rows dw (gl b):=λr a=>by
 simp only[gl,eV]at a;obtain⟨n,c,rfl⟩:=a;exact⟨⟨n,rfl,(h n c).1,(h n c).2⟩,trivial⟩
def CF:dO:=⟨1,1,{fs:=[⟨2,0,1048576⟩,⟨0,2,0⟩],rw:=[(0,some dw)]},[{fs:=[⟨5,0,4⟩,⟨0,5,-4⟩],rw:=[(1,some [.sl 262208 dw])],pr:=[(0,[1])]}]⟩
theorem awb:CF.ok uf:=by
 intro ls o hp
 match ls,o with
 |[l],_=>
  have g:=hp.fs ⟨2,0,1048576⟩ (by simp[CF]);have b1:=hp.rw (0,some dw) (by simp[CF]);simp[Fa.holds,cz]at g;obtain⟨b,h,p⟩:=Vo (rows:=l.bm) b1;have hlen:b.length<=1048576:=by rw[h,AE]at g;omega
  have s:uf [l]=some [.r (Sp.oF b)]:=by
   simp only[uf,h,R1,bF hlen]
  have k:∀r∈Sp.oF b,∃q,r=[.sl q]/\q.length=Sp.eu b.length/\AC.rows dw q:=λr a=>by
   simp only[Sp.oF,eV]at a;obtain⟨i,_,rfl⟩:=a;refine⟨_,rfl,by simp[AE],ajB λn u=>?_⟩;obtain⟨j,_,rfl⟩:=eV.1 u;have key:∀t:Nat,0<=(b[t]?).getD 0/\(b[t]?).getD 0<=255:=λt=>by
    cases w:b[t]? with
    |none=>simp
    |some n=>exact p n (dB w)
   simp only[Sp.fill];split
   .exact key _
   .omega
  refine⟨_,s,rfl,_,fO.2 rfl,⟨λf m=>?_,λx c=>?_,λx c=>(by cases c),λx c=>?_⟩⟩
  .simp at m;rcases m with rfl|rfl<;>simp[Fa.holds,cz,qj,Sp.oF]
  .simp at c;subst c;intro r a;obtain⟨q,rfl,d,e⟩:=k r a;refine⟨⟨q,rfl,?_,e⟩,trivial⟩;rw[d];unfold Sp.eu;omega
  .simp at c;subst c;refine⟨Sp.eu b.length,λr a=>?_⟩;obtain⟨q,d,e,_⟩:=k r a;exact⟨q,d,e⟩
def anQ:So:=⟨2003,uf,CF,awb⟩
def vS:dO:=⟨2,1,{fs:=[⟨2,4,0⟩,⟨4,2,0⟩,⟨4,0,16⟩],pr:=[(0,[0])]},[{bs:=[(2,true)]}]⟩
theorem atz(l0 l1)(n)(hp:∀r∈l0.bm,∃q,r=[.sl q]/\q.length=n)(h1:(l0.bm.length:Int)=l1.a_)(h2:l1.a_<=16):∃o,DX [l0,l1]=some o/\o=[.b true]:=by
 refine gi ?_;unfold UO;simp[eZ,dv,ek,Nd.ev,cw,At.ev,d6,d7,bS,h1];refine wp_loop (I:=λa=>∃i:Nat,a=[.i i]/\i<=l0.bm.length) (mu:=λa=>match a with|[.i i]=>l0.bm.length-i.toNat|_=>0) (by exact⟨0,rfl,om⟩) ?_;rintro a ⟨i,rfl,e1⟩;by_cases hi:(i:Int)<l1.a_
 .have hi':i<l0.bm.length:=om;have xw:0<l0.bm.length:=om;obtain⟨q,q1,q2⟩:=hp _ (cT hi');obtain⟨p,p1,p2⟩:=hp _ (cT xw);have w:IntKind.wrap .i64 ((i:Int)+1)=(i:Int)+1:=wrap64 om om;simp[eZ,dv,dq,Nd.ev,cw,At.ev,d6,d7,d8,d9,ey,ct,dp,bS,hi,hi',xw,q1,p1,Kd.of,q2,p2,w];exact⟨⟨i+1,om,om⟩,om⟩
 .simp[eZ,dv,dq,Nd.ev,cw,At.ev,d6,d7,eh,ey,dX,ct,dp,bS,hi]
theorem aoB:vS.ok DX:=by
 intro ls c hp
 match ls,c with
 |[l0,l1],_=>
  have d:=hp.fs ⟨2,4,0⟩ (by simp[vS]);have e:=hp.fs ⟨4,2,0⟩ (by simp[vS]);have g:=hp.fs ⟨4,0,16⟩ (by simp[vS]);obtain⟨n,b1⟩:=hp.pr (0,[0]) (by simp[vS]);simp[Fa.holds,cz]at d e g;obtain⟨o,h,rfl⟩:=atz l0 l1 n b1 om om;refine⟨_,h,rfl,_,fO.2 rfl,⟨λf i=>(by cases i),λx a=>(by cases a),λx a=>?_,λx a=>(by cases a)⟩⟩;simp at a;subst a;rfl
def Z26:So:=⟨26,DX,vS,aoB⟩
end AI
namespace AI
noncomputable section
def Z19:So:=⟨19,pW,⟨2,1,t0,[t0]⟩,cQ [] (.b (.l ⟨[],[(t1 [z 10])],10,true,0,7⟩ (.e)) (.b (.l ⟨[],[(t1 [y 13 14])],13,false,0,8⟩ (.e)) (.e))) kr kr⟩
def xR:dO:=⟨3,2,⟨[⟨5,0,262208⟩,⟨0,5,0⟩],[(0,some [.int .u8 0 255]),(1,some [.int .u8 0 255])],[],[]⟩,[⟨[⟨10,0,1⟩,⟨0,10,-1⟩,⟨14,0,0⟩,⟨0,14,0⟩],[(4,none)],[],[]⟩,⟨[⟨10,0,0⟩,⟨0,10,0⟩,⟨14,0,262208⟩,⟨0,14,0⟩,⟨14,2,0⟩,⟨14,5,0⟩,⟨2,5,0⟩,⟨5,2,0⟩],[(4,some [.int .u8 0 255])],[],[]⟩]⟩
theorem YT:xR.ok qD:=cQ [Z19] (.b (.e) (.b (.l ⟨[],[(t2 [z 23,f 23 13 0,f 23 19 0] [(7,some b8)])],19,true,0,262207⟩ (.e)) (.e))) kr kr
def Z21:So:=⟨21,qD,xR,YT⟩
def Z30:So:=⟨30,F30,⟨6,1,(t2 [y 8 256,z 8,y 12 9] [(2,some c1),(4,none),(5,none)]),[(t2 [x 20 (-1),f 20 8 1] [(6,some c1)])]⟩,cQ [] (.b (.l ⟨[0],[(t3 [z 26,f 26 8 0,f 26 22 0] [(8,some c1)] [(6,false)]),(t3 [x 26 (-1),f 26 8 1,f 26 22 1] [(8,some c1)] [(6,true)])],22,true,0,255⟩ (.b (.j [0] [(t3 [x 38 (-1),f 38 22 2] [(12,some c1)] [(11,true)]),(t3 [z 38,f 38 22 1] [(12,some c1)] [(11,false)])] (.e) (.e)) (.e))) (.e)) kr kr⟩
def WN:So:=⟨32,zc,⟨4,1,(t2 [y 8 256] [(2,some c5)]),[(t1 [f 13 8 (-1)]),(t1 [y 13 (-1)])]⟩,cQ [] (.b (.l ⟨[],[(t1 [z 13])],13,true,0,255⟩ (.e)) (.e)) kr kr⟩
def Od:dO:=⟨1,1,⟨[⟨3,0,9⟩],[],[],[]⟩,[⟨[],[],[(1,false)],[]⟩,⟨[⟨0,3,-1⟩],[],[(1,true)],[]⟩]⟩
theorem Sj:Od.ok rq:=jT [0] [] (.b (.l ⟨[],[(t1 [z 4])],4,true,0,8⟩ (.b (.j [] [t0] (.e) (.e)) (.e))) (.e)) kr kr
def Z34:So:=⟨34,rq,Od,Sj⟩
def Z35:So:=⟨35,F35,⟨1,1,(t1 [y 1 0]),[(t1 [y 4 0,z 4])]⟩,by rw[show F35=Fo (xF TT [] ((Tryz.prog.funcs[33]?).getD default) 1 [ci 0] [])from rfl];exact cQ [] .e kr kr⟩
def Z36:So:=⟨36,Cl,⟨1,1,(t1 [y 1 4294967295,z 1]),[t0]⟩,cQ [] (.b (.l ⟨[],[(t1 [y 4 4294967295,z 4,z 7])],7,true,0,7⟩ (.e)) (.e)) kr kr⟩
def Z37:So:=⟨37,FZ,⟨2,1,(t2 [y 5 262208] [(1,some b8)]),[(t1 [y 7 4294967295,z 7])]⟩,cQ [Z36] (.b (.l ⟨[],[(t1 [z 13])],13,true,0,262207⟩ (.e)) (.e)) kr kr⟩
def RR:So:=⟨38,FP,⟨1,1,(t2 [y 2 262208] [(0,some b8)]),[(t1 [y 4 4294967295,z 4])]⟩,cQ [Z37] .e kr kr⟩
def HH:So:=⟨39,yp,⟨3,1,t0,[(t3 [y 7 4294967295,z 7,y 4 8,x 4 (-1),y 1 3,z 1] [] [(3,true)]),(t3 [] [] [(3,false)])]⟩,jT [0] [] .e kr kr⟩
def Z40:So:=⟨40,F40,⟨1,1,(t2 [y 2 4] [(0,some b8)]),[t0]⟩,cQ [] (.b (.l ⟨[],[(t1 [z 7])],7,true,0,3⟩ (.e)) (.e)) kr kr⟩
def wW:So:=⟨41,wO,⟨1,1,(t2 [y 2 240] [(0,some b8)]),[(t2 [y 5 4,x 5 (-4)] [(1,some b8)])]⟩,cQ [RR] .e kr kr⟩
def QA:So:=⟨43,F43,⟨4,1,(t2 [] [(3,some b8)]),[(t3 [] [] [(4,true)]),(t3 [] [] [(4,false)])]⟩,jT [0] [] .e kr kr⟩
def pk:So:=⟨44,mL,⟨1,1,(t1 [y 1 4096,z 1]),[(t1 [y 4 4120])]⟩,cQ [] .e kr kr⟩
def Z45:So:=⟨45,C4,⟨2,5,(t2 [y 2 8,z 2] [(0,some c4)]),[(t3 [y 13 3,z 13,y 19 30,z 19] [] [(2,true)]),(t3 [y 13 0,z 13,y 19 0,z 19] [] [(2,false)])]⟩,jT [0] [] (.b (.l ⟨[],[(t1 [f 13 10 0])],13,false,0,0⟩ (.e)) (.e)) kr kr⟩
def Hn:So:=⟨47,Cc,⟨4,1,t0,[(t3 [z 10,y 7 1048576,x 7 (-16)] [] [(4,true)]),(t3 [] [] [(4,false)])]⟩,jT [0] [] .e kr kr⟩
def Ki:So:=⟨48,sG,⟨1,1,(t2 [y 2 8] [(0,some c4)]),[t0]⟩,cQ [Hn] (.b (.l ⟨[],[(t1 [z 4])],4,true,0,7⟩ (.e)) (.e)) kr kr⟩
def Sm:So:=⟨49,D4,⟨1,1,(t2 [y 2 8] [(0,some c4)]),[(t1 [y 4 mx,x 4 18446744073709551615])]⟩,cQ [pk] (.b (.l ⟨[],[(t1 [y 4 mx,x 4 18446744073709551615,z 7])],7,true,0,7⟩ (.e)) (.e)) kr kr⟩
def Tp:So:=⟨50,Gi,⟨1,1,t0,[(t1 [y 4 7,z 4])]⟩,cQ [] .e kr kr⟩
def Ci:So:=⟨52,zK,⟨10,1,(t2 [y 2 8,y 5 8,y 8 8,y 11 8,y 14 8,y 17 8,y 20 8,y 23 8] (g 0 8 c4)),[(t3 [] [] [(10,false)]),(t3 [y 28 1099511627776] [] [(10,true)])]⟩,jT [0] [Ki,Tp,Sm] (.b (.l ⟨[],[(t1 [z 34])],34,true,0,7⟩ (.b (.b (.e) (.b (.l ⟨[],[(t1 [z 49])],49,true,0,7⟩ (.e)) (.e))) (.e))) (.e)) kr kr⟩
def Z53:So:=⟨53,yh,⟨1,1,t0,[(t1 [y 6 1,x 6 (-1)])]⟩,cQ [] .e kr kr⟩
def Z54:So:=⟨54,Hg,⟨5,1,(t3 [] [] [(4,false)]),[(t3 [] [] [(5,false)]),(t3 [] [] [(5,true)])]⟩,jT [0] [] .e kr kr⟩
def Tv:So:=⟨55,BK,⟨5,2,(t3 [y 1 5,x 1 (-1)] [] [(4,false)]),[(t1 [y 18 9,z 18])]⟩,cQ [Z54,Z53] .e kr kr⟩
def zt:So:=⟨56,yk,⟨3,1,(t1 [y 1 4,x 1 (-1)]),[(t1 [y 12 9,z 12])]⟩,cQ [Tv] .e kr kr⟩
def Y0:So:=⟨57,F57,⟨1,4,(t1 [x 1 (-1)]),[(t1 [y 7 0,z 7,y 10 0,z 10,y 13 0,z 13,x 1 (-9)]),(t1 [x 7 (-1),y 10 1,x 10 (-1),y 13 16,x 13 (-16),f 7 1 0,y 1 8])]⟩,cQ [] .e kr kr⟩
def Z58:So:=⟨58,BU,⟨2,1,(t2 [y 2 8] [(0,some c4)]),[t0]⟩,cQ [pk] (.b (.l ⟨[],[(t1 [z 7])],7,true,0,7⟩ (.b (.b (.b (.e) (.l ⟨[],[(t1 [z 37])],37,true,0,7⟩ (.e))) (.e)) (.e))) (.e)) kr kr⟩
def Rf:So:=⟨67,AF,⟨11,1,(t2 [y 32 8] [(10,some c4)]),[(t3 [] [] [(11,false)]),(t3 [y 10 524288,x 10 (-16),x 4 (-1)] [] [(11,true)])]⟩,jT [0] [HH,Ki,pk] (.j [0] [(t3 [] [] [(11,true)]),(t3 [y 10 524288,x 10 (-16),x 4 (-1)] [] [(11,false)])] (.e) (.b (.e) (.b (.l ⟨[],[(t1 [z 37])],37,true,0,7⟩ (.e)) (.e)))) kr kr⟩
def Z68:So:=⟨68,Cd,⟨3,1,t0,[(t1 [y 12 9,z 12])]⟩,cQ [Tv] .e kr kr⟩
def Z72:So:=⟨72,F72,⟨1,4,(t2 [] [(0,some b8)]),[(t1 [y 7 3,z 7,y 10 8,y 13 4294967295,z 13])]⟩,cQ [wW,Z40,HH] .e kr kr⟩
def Z78:So:=⟨78,F78,⟨11,1,(t2 [y 2 8,y 5 8,y 8 8,y 11 8,y 14 8,y 17 8,y 20 8,y 23 8,y 28 2199023255552,z 28] (g 0 8 c4)),[(t1 [y 34 2199023255552,z 34])]⟩,cQ [Ci] .e kr kr⟩
def aft:So:=⟨31,rf,⟨3,2,(t2 [y 4 (-1),x 4 1,y 8 256,z 8] [(2,some c1)]),[(t2 [y 10 (-1),x 10 1,z 14,f 14 8 0] [(4,some c1)])]⟩,cQ [] .e kr kr⟩
def auM:So:=⟨31,rf,⟨3,2,(t2 [y 4 (-1),x 4 1,y 8 256,x 8 (-1)] [(2,some c1)]),[(t2 [y 10 (-1),x 10 1,y 14 256,f 8 14 0] [(4,some c1)])]⟩,cQ [] .e kr kr⟩
def atn:So:=⟨31,rf,⟨3,2,(t2 [y 4 (-1),x 4 1,y 8 256,x 8 (-1)] [(2,some c5)]),[(t2 [y 10 (-1),x 10 1,f 14 8 0,f 8 14 0] [(4,some c5)])]⟩,cQ [] .e kr kr⟩
def aiA:So:=⟨31,rf,⟨3,2,(t2 [y 4 (-1),x 4 1,y 8 256,x 8 (-1)] [(2,some c1)]),[(t2 [y 10 (-1),x 10 1,f 14 8 0,f 8 14 0] [(4,some c1)])]⟩,cQ [] .e kr kr⟩
def aqU:So:=⟨2004,alg,⟨2,1,(t2 [z 2,y 4 4] [(0,some c6)]),[(t2 [y 8 4] [(2,some c3)])]⟩,cQ [] (.b (.l ⟨[],[(t2 [y 11 4,z 11,f 11 7 0] [(3,some c3)])],7,true,0,3⟩ (.e)) (.e)) kr kr⟩
end
end AI
namespace AI
theorem aiZ:uo.ok uj:=by
 intro ls i hp
 match ls,i with
 |[l0,l1,l2],_=>
  have j:=hp.fs ⟨3,0,9⟩ (by simp[uo]);have k:=hp.fs ⟨5,0,4194304⟩ (by simp[uo]);have l:=hp.fs ⟨8,0,1099511627776⟩ (by simp[uo]);have b1:=hp.rw (1,some dw) (by simp[uo]);have m:=hp.rw (2,some rb) (by simp[uo]);have d:∃v,rq [l0]=some [v]:=by
   obtain⟨o,h,hlen,_⟩:=Sj [l0] rfl ⟨λf c=>(by simp[Od]at c;rcases c with rfl|rfl<;>simp[Fa.holds,cz]at j⊢<;>omega),λx a=>(by cases a),λx a=>(by cases a),λx a=>(by cases a)⟩
   match o,hlen with
   |[v],_=>exact⟨v,h⟩
  simp[Fa.holds,cz]at k l;obtain⟨o,e,b,rfl,g⟩:=ajv l0 l1 l2 d om om b1 m
  cases b with
  |true=>
   obtain⟨g,n⟩:=g rfl;refine⟨_,e,rfl,_,eJ,⟨λf c=>?_,λx a=>?_,λx a=>?_,λx a=>(by cases a)⟩⟩
   .simp at c;subst c;simp[Fa.holds,cz];omega
   .simp at a;subst a;exact n
   .simp at a;subst a;rfl
  |false=>
   refine⟨_,e,rfl,_,fp _ eJ,⟨λf c=>(by cases c),λx a=>(by cases a),λx a=>?_,λx a=>(by cases a)⟩⟩;simp at a;subst a;rfl
def Xg:So:=⟨70,uj,uo,aiZ⟩
theorem avE(l0 l1)(a:l0.a_=6)(c:l1.a_=4):nh [l0,l1]=some [.b true]:=by
 simp[nh,Fo,Jj,a8.a6,Nd.ev,cw,At.ev,o0,BP,gu,a,c]
theorem anc(l0 l1 l2)(a:l0.a_=6)(c:l1.a_=4)(d:l2.bm.length=24):nM [l0,l1,l2]=some [.b true]:=by
 have w:IntKind.wrap .i64 24=24:=by decide
 simp[nM,Fo,MN,a8.a6,Nd.ev,cw,At.ev,o0,BP,gu,a,c,d,avE,w]
def zo:List AC:=[.sl 262208 dw]
theorem agk{rows}(h:AC.rows dw rows):rows.all (·.all PV.bare)=true:=cj.2 λr a=>AC.Ou (cs:=dw) rfl (h r a)
theorem aaA{r}(h:AC.dS zo r):∃q,r=[.sl q]/\q.length<=262208/\AC.rows dw q:=by
 match r,h with
 |[x],h=>
  obtain⟨⟨q,a,d,c⟩,_⟩:=(show AC.ok (.sl 262208 dw) x/\AC.dS [] []from h)
  exact⟨q,by rw[a],om,c⟩
theorem ajS(l0 l1 l2 l3)(n)(h0:l0.a_=6)(h1:l1.a_=4)(h2:l2.bm.length=24)(r2:AC.rows dw l2.bm)(h3:l3.bm.length=4)(hp:∀r∈l3.bm,∃q,r=[.sl q]/\q.length=n)(r3:AC.rows zo l3.bm)
 (h21:∀a b c:L,b.bm.length<=262208->AC.rows dw a.bm->AC.rows dw b.bm->∃e o,qD [a,b,c]=some [e,o]/\o.bm.length<=262208/\AC.rows dw o.bm):
 ∃o,xd [l0,l1,l2,l3]=some o/\∃rows,o=[.i 0,.r rows]/\rows.length=6/\AC.rows zo rows:=by
 have hv:=anc l0 l1 l2 h0 h1 h2;refine gi ?_;unfold Yj;simp[eZ,dv,dq,ek,Nd.ev,cw,At.ev,d6,d7,eh,ct,dp,bS,hv,h1,h3];refine wp_loop (I:=λa=>∃i:Nat,a=[.i i]/\i<=4) (mu:=λa=>match a with|[.i i]=>4-i.toNat|_=>0) (by exact⟨0,rfl,om⟩) ?_;rintro a ⟨i,rfl,e1⟩;have xw:0<l3.bm.length:=om;obtain⟨p,p1,p2⟩:=hp _ (cT xw);have p3:p.length<=262208:=by
  obtain⟨q,q1,q2,q3⟩:=aaA (r3 _ (cT xw));rw[p1]at q1;cases q1;exact q2
 by_cases hi:i<4
 .have hi':i<l3.bm.length:=om;obtain⟨q,q1,q2⟩:=hp _ (cT hi');have w:IntKind.wrap .i64 ((i:Int)+1)=(i:Int)+1:=wrap64 om om;have Pz:(i:Int)<4:=om;simp[eZ,dv,dq,Nd.ev,cw,At.ev,d6,d7,d8,ey,ct,dp,bS,h3,hi,Pz,q1,p1,Kd.of,q2,p2,w];exact⟨⟨i+1,om,om⟩,om⟩
 have Pz:¬(i:Int)<4:=om;simp[eZ,dv,dq,ek,Nd.ev,cw,At.ev,d6,d7,eh,ey,dp,bS,h3,Pz];refine wp_loop (I:=λa=>∃(i:Nat)(rows:List (List PV)),a=[.i i,.r rows]/\i<=6/\rows.length=i/\AC.rows zo rows) (mu:=λa=>match a with|[.i i,_]=>6-i.toNat|_=>0) (by exact⟨0,[],rfl,om,rfl,λr hr=>by cases hr⟩) ?_;rintro a ⟨i,rows,rfl,e1,e2,e3⟩;by_cases hi:(i:Int)<6;rotate_left
 .simp[eZ,dv,dq,Nd.ev,cw,At.ev,d6,d7,eh,ey,dX,ct,dp,bS,h0,hi];exact⟨om,e3⟩
 have w:IntKind.wrap .i64 ((i:Int)+1)=(i:Int)+1:=wrap64 om om;have w4:IntKind.wrap .i64 ((i:Int)*4)=(i:Int)*4:=wrap64 om om;have n2:n<=281474976710656:=om;have n3:(n:Int)<=9223372036854775807:=om;simp[eZ,dv,ek,Nd.ev,cw,At.ev,d6,d7,d8,cH,Kd.pv,ct,dp,bS,h0,hi,xw,p1,Kd.of,p2,n2,n3];refine wp_loop (I:=λa=>∃(k:Nat)(row:L),a=[.i k,row]/\k<=4/\row.bm.length<=262208/\AC.rows dw row.bm) (mu:=λa=>match a with|[.i k,_]=>4-k.toNat|_=>0) (by exact⟨0,.r (List.replicate n [.sc (.int .u8 0)]),rfl,om,by simp only[qj,mT];omega,λr hr=>by
  rw[G0 hr];exact⟨⟨0,rfl,om,om⟩,trivial⟩⟩) ?_
 rintro a ⟨k,row,rfl,f1,f2,f3⟩;by_cases hk:(k:Int)<4
 .have lr:k<l3.bm.length:=om;obtain⟨q,q1,q2,q3⟩:=aaA (r3 _ (cT lr));have w2:IntKind.wrap .i64 ((i:Int)*4+(k:Int))=(i:Int)*4+(k:Int):=wrap64 om om;have w3:IntKind.wrap .i64 ((k:Int)+1)=(k:Int)+1:=wrap64 om om;have hm:i*4+k<l2.bm.length:=om;obtain⟨m,m1,_,_⟩:=Q3 (r2 _ (cT hm));obtain⟨e,o,k1,k2,k3⟩:=h21 row (.r q) (.i m) (by exact q2) f3 (by exact q3);have hb:∀r∈o.bm,∀x∈r,x.bare=true:=by
   have:=agk k3;simpa[cj]using this
  have hmz:((i:Int)*4+(k:Int)).toNat=i*4+k:=om;have PA:(0:Int)<=(i:Int)*4+(k:Int):=om;simp[eZ,dv,dq,Nd.ev,cw,At.ev,d6,d7,d9,ey,ct,dp,bS,h1,hk,lr,q1,Kd.of,w4,w2,hm,hmz,PA,m1,k1,w3];rw[bF hb];simp;exact⟨⟨k+1,o,⟨om,rfl⟩,om,k2,k3⟩,om⟩
 .have n4:rows.length<=9223372036854775806:=om;have n5:(rows.length+1)*24<=140737488355328:=om;have n6:cf 1 rows=true:=AC.tR (cs:=zo) e3;have n7:cf 1 [[PV.sl row.bm]]=true:=rfl;simp[eZ,dv,dq,Nd.ev,cw,At.ev,d6,d7,d8,eh,ey,cH,Kd.pv,ct,dp,bS,h1,hk,n4,n5,n6,n7,w];refine⟨⟨i+1,_,⟨om,rfl⟩,om,by simp[e2],vn e3 λr hr=>?_⟩,om⟩;rw[fO.1 hr];exact⟨⟨_,rfl,om,f3⟩,trivial⟩
def lC:dO:=⟨4,2,{fs:=[⟨1,0,6⟩,⟨0,1,-6⟩,⟨4,0,4⟩,⟨0,4,-4⟩,⟨8,0,24⟩,⟨0,8,-24⟩,⟨11,0,4⟩,⟨0,11,-4⟩],rw:=[(2,some dw),(3,some [.sl 262208 dw])],pr:=[(0,[3])]},[{fs:=[⟨13,0,0⟩,⟨0,13,0⟩,⟨17,0,6⟩,⟨0,17,-6⟩],rw:=[(5,some [.sl 262208 dw])]}]⟩
theorem auh:lC.ok xd:=by
 intro ls p hp
 match ls,p with
 |[l0,l1,l2,l3],_=>
  have q:=hp.fs ⟨1,0,6⟩ (by simp[lC]);have s:=hp.fs ⟨0,1,-6⟩ (by simp[lC]);have t:=hp.fs ⟨4,0,4⟩ (by simp[lC]);have u:=hp.fs ⟨0,4,-4⟩ (by simp[lC]);have w:=hp.fs ⟨8,0,24⟩ (by simp[lC]);have y:=hp.fs ⟨0,8,-24⟩ (by simp[lC]);have z:=hp.fs ⟨11,0,4⟩ (by simp[lC]);have A:=hp.fs ⟨0,11,-4⟩ (by simp[lC]);have b1:=hp.rw (2,some dw) (by simp[lC]);have B:=hp.rw (3,some [.sl 262208 dw]) (by simp[lC]);obtain⟨n,C⟩:=hp.pr (0,[3]) (by simp[lC]);simp[Fa.holds,cz]at q s t u w y z A;have j:∀a b c:L,b.bm.length<=262208->AC.rows dw a.bm->AC.rows dw b.bm->∃e o,qD [a,b,c]=some [e,o]/\o.bm.length<=262208/\AC.rows dw o.bm:=λa b c H D E=>by
   obtain⟨o,h,hlen,T,m,g⟩:=YT [a,b,c] rfl ⟨λf i=>(by simp[xR]at i;rcases i with rfl|rfl<;>simp[Fa.holds,cz];omega),λx d=>(by simp[xR]at d;rcases d with rfl|rfl;exact D;exact E),λx d=>(by cases d),λx d=>(by cases d)⟩
   match o,hlen with
   |[e,o],_=>
    refine⟨e,o,h,?_⟩;simp only[xR,dn,iS,or_false]at m;rcases m with rfl|rfl
    .have:=g.rw (4,none) (by simp);have this:o.bm=[]:=this;rw[this];exact⟨by simp,λr F=>by cases F⟩
    .have k:=g.fs ⟨14,0,262208⟩ (by simp);have l:=g.rw (4,some dw) (by simp[dw]);simp[Fa.holds,cz]at k;exact⟨om,l⟩
  obtain⟨o,k,rows,rfl,l,G⟩:=ajS l0 l1 l2 l3 n om om om b1 om C B j;refine⟨_,k,rfl,_,fO.2 rfl,⟨λf i=>?_,λx d=>?_,λx d=>(by cases d),λx d=>(by cases d)⟩⟩
  .simp at i;rcases i with rfl|rfl|rfl|rfl<;>simp[Fa.holds,cz,qj,o0,l]
  .simp at d;subst d;exact G
def Z60:So:=⟨60,xd,lC,auh⟩
end AI
end
section
namespace Pl
structure Mp where
 st:Nat->List It
 live:Int
 lz:Int
def ix(k:Int):Int:=k*11400714819323198485%18446744073709551616/2305843009213693952
theorem Lb(k):0<=ix k/\ix k<8:=by unfold ix;omega
def eS(l:List It):Int:=(l.map λx=>cJ x.size).sum
def cat(m:Mp):List It:=(List.range 8).flatMap m.st
def oc(m:Mp):Prop:=∀s,s<8->VL (m.st s)/\∀x∈m.st s,ix x.key=(s:Int)
def MV(m:Mp):Prop:=oc m/\m.live=eS (cat m)/\0<=m.lz/\m.lz<=1099511627776
def items(m:Mp):List It:=ji (cat m)
theorem YR(m)(h:oc m):∀n,n<=8->kz ((List.range n).flatMap m.st)
 |0,_=>by simp[kz]
 |n+1,l=>by
  rw[BB,List.flatMap_append];refine List.pairwise_append.2 ⟨YR m h n om,?_,?_⟩
  .have:=(h n om).1.1.apart;simpa[kz]using this
  .intro a c b f e;obtain⟨s,g,c⟩:=so.1 c;have i:=jZ.1 g;have d:b∈m.st n:=by simpa using f
   have j:=(h s om).2 a c;have k:=(h n om).2 b d;rw[e,k]at j;omega
theorem aca{m}(h:oc m):kz (cat m):=YR m h 8 om
theorem KD{m x}:x∈cat m↔∃s,s<8/\x∈m.st s:=by
 unfold cat;simp[so]
theorem asX{m}(h:oc m):∀x∈cat m,fe x=true:=λx a=>by
 obtain⟨s,c,a⟩:=KD.1 a;exact(h s c).1.2 x a
theorem aqT{m}(h:oc m):kz (items m):=(AO _).apart
theorem IJ{m}(h:oc m){x}:x∈items m↔x∈cat m:=(Tc (aca h)).mem_iff
theorem Xz{m}(h:oc m):∀x∈items m,fe x=true:=λx a=>asX h x ((IJ h).1 a)
theorem aen{m}(h:oc m)(k):fE (items m) k=fE (m.st (ix k).toNat) k:=by
 have j:=Lb k;have f:(ix k).toNat<8:=om
 cases g:fE (m.st (ix k).toNat) k with
 |some x=>
  obtain⟨c,rfl⟩:=ahK g;exact L8 (aqT h) ((IJ h).2 (KD.2 ⟨_,f,c⟩))
 |none=>
  refine R' λx c e=>?_
  obtain⟨s,d,a⟩:=KD.1 ((IJ h).1 c);have l:=(h s d).2 x a;have i:s=(ix k).toNat:=by rw[<-e];omega
  subst i;have:=L8 (h _ f).1.1.apart a;rw[e,g]at this;cases this
theorem ahL{l}(h:gd l)(c d)(e:∀x∈l,c<=x.key/\x.key<d):(l.length:Int)<=max 0 (d-c):=by
 induction l generalizing c with
 |nil=>simp;omega
 |cons a l ih=>
  have f:=ma.1 h;have i:=e a (by simp);have:=ih f.2 (a.key+1) λx g=>⟨by have:=f.1 x g;omega,(e x (by simp[g])).2⟩
  simp only[kH];omega
structure Gn where
 num:Int
 rev:Int
 mode:Int
 size:Int
 map:Mp
def GV(g:Gn):Prop:=
 (1<=g.num/\g.num<=8/\0<=g.rev/\g.rev<4294967296/\1<=g.mode/\g.mode<=3)/\
 (16<=g.size/\g.size<=1048576/\g.size%8=0)/\MV g.map/\
 ((items g.map).Pairwise Clear/\∀x∈items g.map,ends x<=g.size)/\g.size=16+g.map.live+g.map.lz
end Pl
end
section
open Go.RowKit Pl
def df(x:It):List It->Nat
 |[]=>0
 |a::l=>if a.key<x.key then df x l+1 else 0
theorem aaF(x:It):∀l:List It,df x l<=l.length
 |[]=>dx _
 |a::l=>by
  have:=aaF x l;simp only[df,kH];split<;>omega
theorem Zl{x}:∀{l}{k}(h:k<df x l),∃y,l[k]?=some y/\y.key<x.key
 |[],k,h=>absurd h (sD k)
 |a::l,k,h=>by
  simp only[df]at h;split at h
  .rename_i c
   cases k with
   |zero=>exact⟨a,rfl,c⟩
   |succ k=>exact Zl (l:=l) (k:=k) om
  .omega
theorem SZ{x}:∀{l}{y},l[df x l]?=some y->¬y.key<x.key
 |[],y,h=>by cases h
 |a::l,y,h=>by
  simp only[df]at h;split at h
  .exact SZ (l:=l) (by simpa using h)
  .rename_i c;cases h;exact c
theorem Vq(x):∀l:List It,ins x l=l.take (df x l)++x::(match l.drop (df x l)with|y::r=>if y.key=x.key then r else y::r|[]=>[])
 |[]=>rfl
 |a::l=>by
  simp only[df,ins];split
  .simp only[Qa,List.drop_succ_cons,gA];rw[Vq x l]
  .simp only[List.take_zero,Bu,gC];split<;>rfl
theorem Jf(x):∀l:List It,(ins x l).length<=l.length+1
 |[]=>dx _
 |a::l=>by
  have:=Jf x l;simp only[ins];split
  .simp only[kH];omega
  .split<;>simp only[kH]<;>omega
namespace AI
theorem VD(l0:L)(l:List It)(hr:l0.bm=l.map bw)(hn:l.length<=1000000):∃o,yK [l0]=some o/\o=[.r ((ji l).map bw)]:=by
 have hlen:l0.bm.length=l.length:=by rw[hr,bC]
 refine gi ?_;unfold Ur;simp only[ek];refine wp_loop (I:=λa=>∃(i:Nat)(out:List It),a=[.i i,.r (out.map bw)]/\i<=l.length/\out.length<=i/\ji l=(l.drop i).foldl (λout x=>ins x out) out) (mu:=λa=>match a with|[.i i,_]=>l.length-i.toNat|_=>0) (by exact⟨0,[],rfl,om,by simp,by simp[ji]⟩) ?_;rintro a ⟨i,out,rfl,e1,e2,e3⟩;by_cases hi:i<l.length;rotate_left
 .have hi':¬(i:Int)< (l0.bm.length:Int):=om;have:l.drop i=[]:=qv om;rw[this]at e3;simp only[List.foldl_nil]at e3;simp[je,jS,jM,j_,kt,kh,jr,jR,iK,jB,jz,ko,kj,jN,kA,ky,jv,jn,kC,kq,ka,fT,dv,dq,ek,cw,iu,At.ev,d6,d7,d8,e0,d9,eh,ey,dX,cH,Kd.pv,Kd.of,ct,dp,d1,d2,d3,d4,d5,bS,hlen,hi,e3]
 have hi0:i<l0.bm.length:=om;have hx:l0.bm[i]=bw l[i]:=by
  have:l0.bm[i]?=some (bw l[i]):=by rw[hr,cN,cW hi];rfl
  rw[cW hi0]at this;exact pf this
 have hd:l.drop i=l[i]::l.drop (i+1):=sA hi;rw[hd]at e3;simp only[acU]at e3;generalize l[i]=x at hx e3;unfold bw at hx;simp[je,jS,jM,j_,kt,kh,jr,jR,iK,jB,jz,ko,kj,jN,kA,ky,jv,jn,kC,kq,ka,fT,dv,dq,ek,cw,iu,At.ev,d6,d7,d8,e0,d9,eh,ey,dX,cH,Kd.pv,Kd.of,ct,dp,d1,d2,d3,d4,d5,bS,hlen,hi];refine wp_loop (I:=λa=>∃k:Nat,a=[.i k]/\k<=df x out) (mu:=λa=>match a with|[.i k]=>out.length-k.toNat|_=>0) (by exact⟨0,rfl,om⟩) ?_;rintro a ⟨k,rfl,f1⟩;have hc:=aaF x out;by_cases hk:k<df x out
 .obtain⟨y,y1,y2⟩:=Zl hk;have lr:k<out.length:=om;have y1':out[k]=y:=pf ((cW lr).symm.trans y1);have w:IntKind.wrap .i64 ((k:Int)+1)=(k:Int)+1:=AI.wrap64 om om;simp[je,jS,jM,j_,kt,kh,jr,jR,iK,jB,jz,ko,kj,jN,kA,ky,jv,jn,kC,kq,ka,fT,dv,dq,ek,cw,iu,At.ev,d6,d7,d8,e0,d9,eh,ey,dX,cH,Kd.pv,Kd.of,ct,dp,d1,d2,d3,d4,d5,bS,lr,y1',bw,Kd.of,hi0,hx,y2,w];exact⟨⟨k+1,om,om⟩,om⟩
 have hk0:k=df x out:=om;subst hk0;have iv:=Vq x out;have hil:=Jf x out;have hR:=jw out;have hh:=lG hR;have w:IntKind.wrap .i64 ((i:Int)+1)=(i:Int)+1:=AI.wrap64 om om;have hN:cf 4 []=true:=rfl;have GB:cf 4 (List.take (df x out) (out.map bw))=true:=by rw[<-mW];exact jw _
 have hL:cf 4 [[PV.sc (.int .u64 x.key),PV.sc (.int .u32 x.cookie),PV.sc (.int .i64 x.off),PV.sc (.int .i64 x.size)]]=true:=rfl;have n1:out.length<=9223372036854775806:=om;have n2:(out.length+1)*32<=140737488355328:=om;have n3:out.length+1<=9223372036854775807:=om;have GC:cf 4 (List.take (df x out) (out.map bw)++[[PV.sc (.int .u64 x.key),PV.sc (.int .u32 x.cookie),PV.sc (.int .i64 x.off),PV.sc (.int .i64 x.size)]])=true:=by
  have:=jw (out.take (df x out)++[x]);rw[eB,mW]at this;exact this
 by_cases lr:df x out<out.length
 .have hdr:out.drop (df x out)=out[df x out]::out.drop (df x out+1):=sA lr;have nP:=SZ (cW lr);rw[hdr]at iv;simp only at iv;have acD:List.drop (df x out) (out.map bw)=bw out[df x out]::(out.drop (df x out+1)).map bw:=by rw[<-nX,hdr,ct]
  generalize hy:out[df x out]=y at nP iv acD hdr;have uV:cf 4 (bw y::(out.drop (df x out+1)).map bw)=true:=jw (y::out.drop (df x out+1));have xx:=lG uV;have hld:(out.drop (df x out+1)).length=out.length- (df x out+1):=iw;have fI:List.take (out.length-df x out) (List.drop (df x out) (out.map bw))=bw y::(out.drop (df x out+1)).map bw:=by
   rw[gX (by rw[iw,bC];omega),acD]
  have hrl:(List.drop (df x out+1) out).length=out.length-df x out-1:=by rw[iw];omega
  have GD:List.take (out.length-df x out-1) ((out.drop (df x out+1)).map bw)=(out.drop (df x out+1)).map bw:=gX (by rw[bC];omega);have q1:out.length<=9223372036854775807+df x out:=om;have q2:(out.length-df x out)*32<=140737488355328:=om;have q3:0<out.length-df x out:=om;have q4:df x out<=9223372036854775806:=om;have q5:(df x out+1)*32<=140737488355328:=om;have q6:df x out+1+(out.length-df x out-1)<=9223372036854775807:=om;have q7:(df x out+1+(out.length-df x out-1))*32<=140737488355328:=om;have q8:(1:Int)<=((out.length-df x out:Nat):Int):=om;have q9:df x out+1+(out.length-df x out)<=9223372036854775807:=om;have BO:(df x out+1+(out.length-df x out))*32<=140737488355328:=om;have GF:=jw (out.drop (df x out+1));by_cases GG:y.key=x.key
  .rw[bF GG]at iv;have si:(ins x out).map bw=List.take (df x out) (out.map bw)++[PV.sc (.int .u64 x.key),PV.sc (.int .u32 x.cookie),PV.sc (.int .i64 x.off),PV.sc (.int .i64 x.size)]::(out.drop (df x out+1)).map bw:=by
    rw[iv,eB,mW,ct];rfl
   generalize (out.drop (df x out+1))=r at fI GD hrl GF uV xx si;simp only[bw]at fI uV xx;have htr:List.take r.length (r.map bw)=r.map bw:=gX (by rw[bC];exact dx _);simp[je,jS,jM,j_,kt,kh,jr,jR,iK,jB,jz,ko,kj,jN,kA,ky,jv,jn,kC,kq,ka,fT,dv,dq,ek,cw,iu,At.ev,d6,d7,d8,e0,d9,eh,ey,dX,cH,Kd.pv,Kd.of,ct,dp,d1,d2,d3,d4,d5,bS,lr,hy,bw,hi0,hx,nP,hh,hN,hc,fI,uV,xx,GD,GF,GB,GC,hL,q1,q2,q3,q4,q5,q6,q7,q8,GG,w,htr]
   and_intros
   all_goals first|omega|assumption|exact⟨i+1,ins x out,⟨om,si.symm⟩,om,om,e3⟩|trace_state
  .rw[bO GG]at iv;have si:(ins x out).map bw=List.take (df x out) (out.map bw)++[PV.sc (.int .u64 x.key),PV.sc (.int .u32 x.cookie),PV.sc (.int .i64 x.off),PV.sc (.int .i64 x.size)]::bw y::(out.drop (df x out+1)).map bw:=by
    rw[iv,eB,mW,ct];rfl
   generalize (out.drop (df x out+1))=r at fI GD hrl GF uV xx si;simp only[bw]at fI uV xx si;simp[je,jS,jM,j_,kt,kh,jr,jR,iK,jB,jz,ko,kj,jN,kA,ky,jv,jn,kC,kq,ka,fT,dv,dq,ek,cw,iu,At.ev,d6,d7,d8,e0,d9,eh,ey,dX,cH,Kd.pv,Kd.of,ct,dp,d1,d2,d3,d4,d5,bS,lr,hy,bw,hi0,hx,nP,hh,hN,hc,fI,uV,xx,GD,GF,GB,GC,hL,q1,q2,q3,q4,q5,q6,q7,q8,q9,BO,GG,w]
   and_intros<;>first|omega|exact⟨i+1,ins x out,⟨om,si.symm⟩,om,om,e3⟩
 .have jW:df x out=out.length:=om;rw[qv om]at iv;simp only at iv;rw[jW]at iv GB GC⊢;have si:(ins x out).map bw=List.take out.length (out.map bw)++[[PV.sc (.int .u64 x.key),PV.sc (.int .u32 x.cookie),PV.sc (.int .i64 x.off),PV.sc (.int .i64 x.size)]]:=by
   rw[iv,eB,mW];rfl
  simp[je,jS,jM,j_,kt,kh,jr,jR,iK,jB,jz,ko,kj,jN,kA,ky,jv,jn,kC,kq,ka,fT,dv,dq,ek,cw,iu,At.ev,d6,d7,d8,e0,d9,eh,ey,dX,cH,Kd.pv,Kd.of,ct,dp,d1,d2,d3,d4,d5,bS,hi0,hx,Kd.of,hh,hN,GB,hL,w,n1,n2,n3,GC];exact⟨⟨i+1,ins x out,⟨om,si.symm⟩,om,om,e3⟩,om⟩
theorem ZP:∀(l a:List It),(l.foldl (λa x=>ins x a) a).length<=l.length+a.length
 |[],a=>by simp
 |x::l,a=>by
  have c:=ZP l (ins x a);have d:=Jf x a;simp only[acU,kH];omega
theorem N'(l):(ji l).length<=l.length:=by
 have:=ZP l [];simpa[ji]using this
def xY:List AC:=[.int .u64 0 7,.int .u32 0 3,.int .i64 16 1048576,.int .i64 0 30]
def Xs(x:It):Prop:=(0<=x.key/\x.key<=7)/\(0<=x.cookie/\x.cookie<=3)/\(16<=x.off/\x.off<=1048576)/\(0<=x.size/\x.size<=30)
theorem Zs:∀{rows},AC.rows xY rows->∃l:List It,rows=l.map bw/\∀x∈l,Xs x
 |[],_=>⟨[],rfl,λx e=>by cases e⟩
 |r::rows,h=>by
  obtain⟨l,rfl,g⟩:=Zs (rows:=rows) λr i=>h r (fp _ i)
  have f:=h r eJ;have hlen:=AC.tV f
  match r,hlen,f with
  |[q0,q1,q2,q3],_,f=>
   obtain⟨⟨a,rfl,j,k⟩,⟨b,rfl,b1,m⟩,⟨c,rfl,c1,c2⟩,⟨d,rfl,d1,d2⟩,_⟩:=f;refine⟨⟨a,b,c,d⟩::l,rfl,λx e=>?_⟩;rcases dn.1 e with rfl|e
   .exact⟨⟨j,k⟩,⟨b1,m⟩,⟨c1,c2⟩,⟨d1,d2⟩⟩
   .exact g x e
theorem agf{l:List It}(h:∀x∈l,Xs x):AC.rows xY (l.map bw):=λr a=>by
 obtain⟨x,c,rfl⟩:=eV.1 a;obtain⟨⟨d,e⟩,⟨b1,f⟩,⟨c1,c2⟩,⟨d1,d2⟩⟩:=h x c;exact⟨⟨_,rfl,d,e⟩,⟨_,rfl,b1,f⟩,⟨_,rfl,c1,c2⟩,⟨_,rfl,d1,d2⟩,trivial⟩
def CZ:dO:=⟨1,1,⟨[⟨2,0,64⟩,⟨0,2,0⟩],[(0,some xY)],[],[]⟩,[⟨[⟨5,2,0⟩,⟨5,0,8⟩,⟨0,5,0⟩],[(1,some xY)],[],[]⟩]⟩
theorem arz:CZ.ok yK:=by
 intro ls h hp
 match ls,h with
 |[l0],_=>
  have d:=hp.fs ⟨2,0,64⟩ (by simp[CZ]);have b1:=hp.rw (0,some xY) (by simp[CZ]);simp[Fa.holds,cz]at d;obtain⟨l,c,e⟩:=Zs (rows:=l0.bm) b1;have j:l.length<=64:=by rw[c,bC]at d;omega
  obtain⟨o,i,rfl⟩:=VD l0 l c om;have k1:=N' l;have k2:=ahL (AO l) 0 8 λx a=>by have:=(e x (Q6 a)).1;omega
  refine⟨_,i,rfl,_,fO.2 rfl,⟨λf g=>?_,λx a=>?_,λx a=>(by cases a),λx a=>(by cases a)⟩⟩
  .simp at g;rcases g with rfl|rfl|rfl<;>simp[Fa.holds,cz,qj,c]<;>omega
  .simp at a;subst a;exact agf λx a=>e x (Q6 a)
def Gb:So:=⟨46,yK,CZ,arz⟩
end AI
end
section
open Go.RowKit Pl AI
attribute [local irreducible] a8.wp
def wH(g:Nat->Int)(a i j:Nat):Prop:=∀p q,a<=p->p<q->q<=i->q≠j->g p<=g q
theorem wH.swap{g g' a i j}(h:wH g a i j)(A:a<j)(t:j<=i)(u:g j<g (j-1))(e:∀p,g' p=if p=j-1 then g j else if p=j then g (j-1)else g p):wH g' a i (j-1):=by
 intro p q hp k m o;rw[e,e,bO o];by_cases d:q=j
 .rw[bF d];by_cases e2:p=j-1
  .omega
  .rw[bO e2,bO om];exact h p (j-1) hp om om om
 .rw[bO d];by_cases e2:p=j-1
  .rw[bF e2];exact h j q om om m d
  .rw[bO e2];by_cases e3:p=j
   .rw[bF e3];exact h (j-1) q om om m d
   .rw[bO e3];exact h p q hp k m d
theorem wH.done{g a i j}(h:wH g a i j)(m:j<=i)(d:j=a\/¬g j<g (j-1)):dM g a (i+1):=by
 intro p q hp k o;by_cases e:q=j
 .subst e;rcases d with d|d
  .omega
  .by_cases e2:p=q-1
   .subst e2;omega
   .have:=h p (q-1) hp om om om;omega
 .exact h p q hp k om e
theorem YO(l)(hl:l.length<=1000000){a b:Nat}(hab:a<=b)(hb:b<=l.length):∃d,Ep [.r (l.map bw),.i a,.i b]=some [.r (d.map bw)]/\dU a b l d/\dM (cU d) a b:=by
 suffices h:∃o,Fo If [.r (l.map bw),.i a,.i b]=some o/\∃d:List It,o=[.r (d.map bw)]/\dU a b l d/\dM (cU d) a b by
  obtain⟨o,h1,d,rfl,h2⟩:=h;exact⟨d,h1,h2⟩
 refine gi ?_;refine cm (i:=a) rfl om (nW ?_);refine wp_loop (I:=λs=>∃(i:Nat)(d:List It),s=[.i i,.r (d.map bw)]/\a+1<=i/\(i<=b\/i=a+1)/\dU a b l d/\dM (cU d) a i) (mu:=λs=>match s with|[.i i,_]=>b-i.toNat|_=>0)
  ⟨a+1,l,rfl,om,.inr rfl,.refl l,λp q h1 h2 h3=>by omega⟩ ?_
 rintro s ⟨i,d,rfl,i0,i1,hs,hd⟩;refine uR ?_;refine bG rfl (λhc=>?_) (λhc=>?_);rotate_left
 .exact a7 ⟨d,rfl,hs,λp q h1 h2 h3=>hd p q h1 h2 om⟩
 refine bE (λxs=>∃d:List It,xs=[.r (d.map bw)]/\dU a b l d/\dM (cU d) a (i+1)) ?_ ?_;rotate_left
 .rintro _ ⟨e,rfl,he,gQ⟩;refine cm (i:=i) rfl om (nW ?_);refine a7 ⟨⟨i+1,e,rfl,om,om,he,gQ⟩,?_⟩;show b- ((i+1:Nat):Int).toNat<b-i;omega
 refine wp_loop (I:=λs=>∃(j:Nat)(d:List It),s=[.i j,.r (d.map bw)]/\a<=j/\j<=i/\dU a b l d/\wH (cU d) a i j) (mu:=λs=>match s with|[.i j,_]=>j.toNat|_=>0)
  ⟨i,d,rfl,om,om,hs,λp q h1 h2 h3 h4=>hd p q h1 h2 om⟩ ?_
 rintro s ⟨j,e,rfl,j0,j1,hs,GH⟩;have jU:=hs.perm.length_eq;have hj:j<e.length:=om;refine bE (cI (a<j/\cU e j<cU e (j-1))) ?_ ?_
 .refine uR ?_;refine bG rfl (λhc=>?_) (λhc=>?_);rotate_left
  .exact a7 (d_ om)
  have uW:j-1<e.length:=om;refine iF (l:=e) (j:=j) rfl rfl hj (nW ?_);refine dk (n:=((j-1:Nat):Int)) (by show(j:Int) -1=_;omega) om om (nW ?_);refine iF (l:=e) (j:=j-1) rfl rfl uW (nW ?_);obtain⟨c,uP,jW⟩:=DR e[j] e[j-1];rw[<-oq hj,<-oq uW]at jW;refine bu uP rfl rfl (uR ?_);exact a7 (d' ⟨λh=>⟨om,jW.1 h⟩,λh=>jW.2 h.2⟩)
 .rintro _ ⟨t,rfl,ht⟩;refine nW ?_;refine bZ (λhz=>?_) (λhz=>?_);rotate_left
  .exact a7 ⟨e,rfl,hs,GH.done j1 (by
    by_cases ej:j=a
    .exact .inl ej
    .exact .inr λh=>by rw[ht.2 ⟨om,h⟩]at hz;cases hz)⟩
  obtain⟨h0,hlt⟩:=ht.1 hz;have uW:j-1<e.length:=om;refine dk (n:=((j-1:Nat):Int)) (by show(j:Int) -1=_;omega) om om (nW ?_);refine dk (n:=((j-1:Nat):Int)) (by show(j:Int) -1=_;omega) om om (nW ?_);refine iF (l:=e) (j:=j-1) rfl rfl uW (nW ?_);refine iF (l:=e) (j:=j) rfl rfl hj (nW ?_);refine qS (l:=e) (j:=j) (z:=e[j-1]) rfl rfl hj rfl rfl (nW ?_);refine qS (l:=e.set j e[j-1]) (j:=j-1) (z:=e[j]) rfl rfl (by simpa using uW) rfl rfl (nW ?_);refine dk (n:=((j-1:Nat):Int)) (by show(j:Int) -1=_;omega) om om (nW ?_);refine a7 ⟨⟨j-1,_,rfl,om,om,hs.trans (.swap hj uW om om om om),GH.swap h0 j1 hlt λp=>?_⟩,?_⟩
  .have:=Eu hj uW (p:=p)
   (repeat' split at this)<;>rename_i q1<;>first|rw[bF q1]|rw[bO q1]
   all_goals first|exact lK this|skip
   all_goals rename_i q2;first| (rw[bF q2];exact lK this)| (rw[bO q2];exact lK this)
  .show((j-1:Nat):Int).toNat< ((j:Nat):Int).toNat;omega
def oY(g:Nat->Int)(w a n:Nat):Prop:=∀p q,a<=p->p<q->q<n->p/w=q/w->g p<=g q
theorem Cx{l d a b p}(h:dU a b l d)(hp:p<a\/b<=p):cU d p=cU l p:=lK (h.out p hp)
theorem yo{e d W a b}(g:W=20\/W=40\/W=80)(l:a%W=0)(m:b<=a+W)(f:dU a b e d)(i:dM (cU d) a b)(h:oY (cU e) W 0 a):oY (cU d) W 0 b:=by
 intro p q hp c j k;by_cases c1:q<a
 .rw[Cx f (.inl om),Cx f (.inl c1)];exact h p q hp c c1 k
 .by_cases c2:a<=p
  .exact i p q c2 c j
  .rcases g with rfl|rfl|rfl<;>omega
theorem anq(l)(hl:l.length<=64){n}(hn:n=l.length):∃d,F106 [.r (l.map bw),.i n]=some [.r (d.map bw)]/\d.Perm l/\dM (cU d) 0 d.length:=by
 subst hn
 suffices h:∃o,Fo Nx [.r (l.map bw),.i (l.length:Int)]=some o/\∃d:List It,o=[.r (d.map bw)]/\d.Perm l/\dM (cU d) 0 d.length by
  obtain⟨o,h1,d,rfl,h2⟩:=h;exact⟨d,h1,h2⟩
 refine gi ?_;refine bE (λxs=>∃(a:Nat)(d:List It),xs=[.i a,.r (d.map bw)]/\a<=l.length/\l.length<a+20/\a%20=0/\dU 0 l.length l d/\oY (cU d) 20 0 a) ?_ ?_
 .refine wp_loop (I:=λs=>∃(a:Nat)(d:List It),s=[.i a,.i ((a+20:Nat):Int),.r (d.map bw)]/\a<=l.length/\a%20=0/\dU 0 l.length l d/\oY (cU d) 20 0 a) (mu:=λs=>match s with|[.i a,_,_]=>64-a.toNat|_=>0)
   ⟨0,l,rfl,om,rfl,.refl l,λp q h1 h2 h3=>by omega⟩ ?_
  rintro s ⟨a,d,rfl,a1,a2,hs,hd⟩;have jU:=hs.perm.length_eq;refine uR ?_;refine bG rfl (λhc=>?_) (λhc=>?_);rotate_left
  .exact a7 ⟨a,d,rfl,a1,om,a2,hs,hd⟩
  obtain⟨e,he,gQ,uX⟩:=YO d om (a:=a) (b:=a+20) om om;refine bu he rfl rfl (nW ?_);refine c_ (n:=((a+20+20:Nat):Int)) (by rfl) om om (nW ?_);refine a7 ⟨⟨a+20,e,rfl,om,om,hs.trans (gQ.mono om om),yo (.inl rfl) a2 om gQ uX hd⟩,?_⟩;show 64- ((a+20:Nat):Int).toNat<64- ((a:Nat):Int).toNat;omega
 .rintro _ ⟨a,d,rfl,a1,a2,a3,hs,hd⟩;have jU:=hs.perm.length_eq;refine nW ?_;obtain⟨e,he,gQ,uX⟩:=YO d om (a:=a) (b:=l.length) a1 om;refine bu he rfl rfl (nW ?_);refine wp_loop (I:=λs=>∃(w:Nat)(d:List It),s=[.i w,.r (d.map bw)]/\(w=20\/w=40\/w=80)/\dU 0 l.length l d/\oY (cU d) w 0 l.length) (mu:=λs=>match s with|[.i w,_]=>80-w.toNat|_=>0)
   ⟨20,e,rfl,.inl rfl,hs.trans (gQ.mono om om),yo (.inl rfl) a3 om gQ uX hd⟩ ?_
  rintro s ⟨w,d,rfl,hw,hs,hd⟩;have jU:=hs.perm.length_eq;refine uR ?_;refine bG rfl (λhc=>?_) (λhc=>?_);rotate_left
  .refine a7 ⟨d,rfl,hs.perm,λp q h1 h2 h3=>hd p q h1 h2 om ?_⟩;rcases hw with rfl|rfl|rfl<;>omega
  have hw:w=20\/w=40:=om;have hw2:2*w=20\/2*w=40\/2*w=80:=om;refine fZ (n:=((2*w:Nat):Int)) (by show(2:Int)*w=_;omega) om om (nW ?_);refine bE (λxs=>∃(a:Nat)(e:List It),xs=[.i a,.r (e.map bw)]/\a<=l.length/\l.length<a+2*w/\a%(2*w)=0/\dU 0 l.length l e/\oY (cU e) (2*w) 0 a/\oY (cU e) w a l.length) ?_ ?_
  .refine wp_loop (I:=λs=>∃(a:Nat)(e:List It),s=[.i a,.i ((a+2*w:Nat):Int),.r (e.map bw)]/\a<=l.length/\a%(2*w)=0/\dU 0 l.length l e/\oY (cU e) (2*w) 0 a/\oY (cU e) w a l.length) (mu:=λs=>match s with|[.i a,_,_]=>64-a.toNat|_=>0)
    ⟨0,d,by rw[mQ];rfl,om,Nat.zero_mod _,hs,λp q h1 h2 h3=>by omega,hd⟩ ?_
   rintro s ⟨a,e,rfl,a1,a2,hs,hd,hr⟩;have jU:=hs.perm.length_eq;refine uR ?_;refine bG rfl (λhc=>?_) (λhc=>?_);rotate_left
   .exact a7 ⟨a,e,rfl,a1,om,a2,hs,hd,hr⟩
   refine c_ (n:=((a+w:Nat):Int)) (by rfl) om om (nW ?_);obtain⟨e2,he,gQ,uX⟩:=V2 e a (a+w) (a+2*w) om om om om om (λp q h1 h2 h3=>hr p q h1 h2 om (by rcases hw with rfl|rfl<;>omega)) (λp q h1 h2 h3=>hr p q om h2 om (by rcases hw with rfl|rfl<;>omega));refine bu he rfl rfl (nW ?_);refine fZ (n:=((2*w:Nat):Int)) (by show(2:Int)*w=_;omega) om om (nW ?_);refine c_ (n:=((a+2*w+2*w:Nat):Int)) (by rfl) om om (nW ?_);refine a7 ⟨⟨a+2*w,e2,rfl,om,by rcases hw with rfl|rfl<;>omega,hs.trans (gQ.mono om om),yo hw2 a2 om gQ uX hd,λp q h1 h2 h3 h4=>?_⟩,?_⟩
   .rw[Cx gQ (.inr h1),Cx gQ (.inr om)];exact hr p q om h2 h3 h4
   .show 64- ((a+2*w:Nat):Int).toNat<64- ((a:Nat):Int).toNat;omega
  .rintro _ ⟨a,e,rfl,a1,a2,a3,hs,hd,hr⟩;have jU:=hs.perm.length_eq;refine nW ?_;refine bE (λxs=>∃e:List It,xs=[.r (e.map bw)]/\dU 0 l.length l e/\oY (cU e) (2*w) 0 l.length) ?_ ?_;rotate_left
   .rintro _ ⟨e,rfl,h1,h2⟩;refine nW ?_;refine fZ (n:=((2*w:Nat):Int)) (by show(w:Int)*2=_;omega) om om (nW ?_);refine a7 ⟨⟨2*w,e,rfl,hw2,h1,h2⟩,?_⟩;show 80- ((2*w:Nat):Int).toNat<80- ((w:Nat):Int).toNat;omega
   refine c_ (n:=((a+w:Nat):Int)) (by rfl) om om (uR ?_);have ra:dM (cU e) a (min (a+w) l.length):=λp q h1 h2 h3=>hr p q h1 h2 om (by rcases hw with rfl|rfl<;>omega)
   refine bG rfl (λhc=>?_) (λhc=>?_)
   .obtain⟨e2,he,gQ,uX⟩:=V2 e a (a+w) l.length om om om om om (by rw[u7 om]at ra;exact ra) (λp q h1 h2 h3=>hr p q om h2 om (by rcases hw with rfl|rfl<;>omega));refine bu he rfl rfl (nW ?_);exact a7 ⟨e2,rfl,hs.trans (gQ.mono om om),yo hw2 a3 om gQ uX hd⟩
   .rw[Nat.min_eq_right om]at ra;exact a7 ⟨e,rfl,hs,yo hw2 a3 om (.refl e) ra hd⟩
theorem afv{l d}(g:kz l)(hp:d.Perm l)(m:dM (cU d) 0 d.length):gd d/\ji l=d:=by
 have c:kz d:=(hp.pairwise_iff λh=>λe=>h e.symm).2 g;have:gd d:=mU.2 λi j k f a=>by
  have n:=m i j (gk _) a f;have o:=mU.1 c i j k f a;rw[oq k,oq f]at n;omega
 exact⟨this,QJ this hp g⟩
theorem auo{ρ Q k}{x ln y:At}{d:List It}{i:Nat}(c:(x.ev ρ).bm=d.map bw)(e:(ln.ev ρ).a_=i)(f)(a:(y.ev ρ).bm=[bw d[i]])
 (g:k.wp (ρ++[.r (d.map bw),.i ((i+1:Nat):Int)]) Q):(a8.op (.xl x ln y 4) k).wp ρ Q:=by
 refine kS (ls:=[.r (d.map bw),.i ((i+1:Nat):Int)]) ?_ g;simp only[Nd.ev];rw[bF ⟨by rw[a];rfl,by rw[a,e,c,bC];exact f⟩,e,a,c,fM];have:(d.map bw).take i++[bw d[i]]++(d.map bw).drop (i+1)=d.map bw:=by
  rw[eU,<-mW,<-nX,show[bw d[i]]++(d.drop (i+1)).map bw=(d[i]::d.drop (i+1)).map bw from rfl,<-sA f,<-eB,List.take_append_drop]
 rw[show[bw d[i]].length=1 from rfl,this]
theorem ahz(l:List It)(a:l.length<=1000):qC [.r (l.map bw)]=some []:=by
 unfold qC;simp only;rw[bF ⟨jw l,by rw[bC];omega⟩]
theorem F_(l)(ha:kz l)(hn:l.length<=64):wy [.r (l.map bw)]=some [.r ((ji l).map bw)]:=by
 refine bN ?_;refine bu (ahz l om) rfl rfl (nW ?_);obtain⟨b,hb⟩:=dC (gd l);refine bu (TO l om hb) rfl rfl (nW ?_);refine bZ (λhc=>?_) (λ_=>?_)
 .refine a7 ?_;rw[LA (hb.1 hc)];rfl
 obtain⟨d,h1,hp,hs⟩:=anq l hn rfl;obtain⟨hda,hd⟩:=afv ha hp hs;have jU:=hp.length_eq;have Gy:JH [.r (l.map bw)]=some [.r (d.map bw)]:=by
  refine bN ?_;rw[<-bC (f:=bw)]at h1;refine uR ?_;exact bu h1 rfl rfl (a7 rfl)
 refine bu Gy rfl rfl (uR ?_);refine na ⟨by show(0:Int)<=0;omega,om,gk _,by exact lG (jw d)⟩ (nW ?_);refine bE (λxs=>xs=[.i (d.length:Nat),.r (d.map bw)]) ?_ ?_;rotate_left
 .rintro _ rfl;refine uR ?_;refine a7 ?_;show[L.r ((d.map bw).take ((d.length:Nat):Int).toNat)]=_;rw[hd,fM,gX (by rw[bC];omega)]
 refine uR ?_;refine wp_loop (I:=λs=>∃i:Nat,s=[.i i,.i i,.r (d.map bw)]/\i<=d.length) (mu:=λs=>match s with|[_,.i i,_]=>d.length-i.toNat|_=>0) ⟨0,rfl,om⟩ ?_;rintro s ⟨i,rfl,e1⟩;rw[bC];refine uR ?_;refine bG rfl (λhc=>?_) (λhc=>?_);rotate_left
 .obtain rfl:i=d.length:=om;exact a7 rfl
 have hi:i<d.length:=om;refine bE (λxs=>xs=[.i ((i+1:Nat):Int),.r (d.map bw)]) ?_ ?_;rotate_left
 .rintro _ rfl;refine nW ?_;refine cm (i:=i) rfl om (nW ?_);refine a7 ⟨⟨i+1,rfl,om⟩,?_⟩;show d.length- ((i+1:Nat):Int).toNat<d.length-i;omega
 refine iF (l:=d) (j:=i) rfl rfl hi (nW ?_);refine bE (λxs=>xs=[.b true]) ?_ ?_
 .refine cm (i:=i) rfl om (uR ?_);rw[bC];refine bG rfl (λhq=>?_) (λhq=>?_)
  .exact a7 rfl
  have iv:i+1<d.length:=om;refine cm (i:=i) rfl om (nW ?_);refine bU (f:=bw) (l:=d) (j:=i+1) rfl rfl iv rfl (nW ?_);refine eb (f:=bw) (l:=d) (j:=i+1) rfl rfl iv rfl rfl (uR ?_);refine a7 ?_;have:=mU.1 hda i (i+1) hi iv om;exact dT om
 .rintro _ rfl;refine nW ?_;refine eL rfl (uR ?_);refine auo (d:=d) (i:=i) rfl rfl hi rfl (nW ?_);exact a7 rfl
theorem aqB:Hf [.r []]=some []:=by
 have h:Ja [.r []]=some [.i (-1)]:=by
  refine bN ?_;refine Dt ?_;refine uR ?_;refine wp_loop (I:=λa=>a=[.i 0]) (mu:=λ_=>0) rfl ?_;rintro a rfl;refine uR ?_;exact cZ rfl (a7 (a7 rfl))
 refine bN ?_;refine bu h rfl rfl (uR ?_);exact eL rfl (a7 rfl)
theorem IQ(l:List It):([0].all λi=>(([L.r (l.map bw)][i]?).getD (.b false)).bm.all (·.all PV.bare))=true:=by
 show([0].all λ_=>(l.map bw).all (·.all PV.bare))=true;simp[bw,PV.bare]
theorem apq(l)(c:kz l)(d:l.length<=64):Oh [.r (l.map bw)]=some [.r ((ji l).map bw)]:=by
 have e:=N' l;have a:=F_ (ji l) (AO l).apart om;rw[LA (AO l)]at a;refine bN ?_;refine bu (F_ [] List.Pairwise.nil dc) rfl rfl (nW ?_);refine bu aqB rfl rfl (nW ?_);refine bu (F_ l c d) rfl (IQ _) (nW ?_);refine fa (r:=(ji l).map bw) rfl (jw _) (by show(0:Nat)<=_;omega) (by show((ji l).map bw).length<=_;rw[bC];omega) om rfl (nW ?_);exact bu a rfl (IQ _) (a7 rfl)
section
variable{ρ:List L}{Q:Lf×List L->Prop}{P:Prop}{b v:Bool}
theorem kl(a:b=true↔P)(h:¬P):[L.b false]=[L.b b]:=by rw[ft a h]
theorem CT(a:b=true↔P)(h:P):[L.b true]=[L.b b]:=by rw[a.2 h]
theorem cB{f:a8}(h:f.wp ρ (jQ (cI P) Q):=by((repeat' first| (refine bG rfl (λa=>?_) (λa=>?_))| (refine uT rfl ?_));all_goals (refine a7 ?_;show cI _ _;try dsimp only[At.ev,d1,d2,d3,d4,d5,d6,d7,d8,d9,e0,List.map,cH,Kd.pv];first|exact cC om|exact d_ om|exact d' om|exact px om))):f.wp ρ (jQ (cI P) Q):=h
theorem rB{n}(a:b=true↔P)(c:n=ρ.length:=by rfl):∀xs,cI P xs->(a8.br (.jump 0 [.v n])).wp (ρ++xs) (dX λx=>x=[.b b]):=by
 rintro _ ⟨t,rfl,d⟩;refine a7 ?_;show[(At.v n).ev (ρ++[L.b t])]=[L.b b]
 rw[Z1 c,hZ.2 (d.trans a.symm)]
theorem ik{c f g}(a:c.ev ρ=.b v)(d:v=true↔P)(e:P->f.wp ρ Q)(i:¬P->g.wp ρ Q):(a8.ite c f g).wp ρ Q:=
 bZ (λh=>e (d.1 (by rw[a]at h;exact h))) (λh=>i λp=>by rw[a]at h;rw[d.2 p]at h;cases h)
theorem tU{c f g}(a:c.ev ρ=.b (!v))(d:v=true↔P)(e:¬P->f.wp ρ Q)(i:P->g.wp ρ Q):(a8.ite c f g).wp ρ Q:=
 bZ (λh=>e λp=>by rw[a,d.2 p]at h;cases h) (λh=>i (d.1 (by rw[a]at h;have h:(!v)=false:=h;simpa using h)))
end
abbrev oW(m:Mp):List L:=[.r ((m.st 0).map bw),.r ((m.st 1).map bw),.r ((m.st 2).map bw),.r ((m.st 3).map bw),.r ((m.st 4).map bw),.r ((m.st 5).map bw),.r ((m.st 6).map bw),.r ((m.st 7).map bw),.i m.live,.i m.lz]
structure WM(m:Mp):Prop where
 hn:∀s,(m.st s).length<=8
def zY(m:Mp)(s:Nat):Prop:=VL (m.st s)/\∀x∈m.st s,ix x.key=(s:Int)
def fY(m:Mp)(s:Nat):List It:=(List.range s).flatMap m.st
theorem pK(m)(s):fY m (s+1)=fY m s++m.st s:=by
 unfold fY;rw[BB,List.flatMap_append];simp
theorem sI{m}(h:WM m):∀s:Nat,(fY m s).length<=8*s
 |0=>dx 0
 |s+1=>by
  have:=sI h s;have:=h.hn s;rw[pK,ez];omega
theorem yd{m}(h:WM m):(cat m).length<=64:=sI h 8
theorem Ae{m}(h:WM m):(items m).length<=64:=qo (N' _) (yd h)
theorem yU(a b):eS (a++b)=eS a+eS b:=by simp[eS]
theorem B3(n):0<=cJ n/\cJ n<=4120:=by unfold cJ;split<;>omega
theorem vo:∀l:List It,0<=eS l/\eS l<=4120*l.length
 |[]=>by simp[eS]
 |x::l=>by
  have a:=vo l;have c:=B3 x.size;have e:eS (x::l)=cJ x.size+eS l:=by simp[eS]
  simp only[kH];omega
theorem th{m}{s:Nat}(c:s<8){ρ ρ' Q k xs}{i:At}(d:(i.ev ρ).a_=s)(a:ρ=oW m++ρ')(e:k.wp (ρ++[.r ((m.st s).map bw)]) Q)(f:xs=w 0 8:=by rfl):(a8.op (.fw xs i) k).wp ρ Q:=by
 subst a f;have:∃x:At,(w 0 8)[s]?=some x/\x.ev (oW m++ρ')=.r ((m.st s).map bw):=by
  match s,c with
  |0,_=>exact⟨_,rfl,rfl⟩
  |1,_=>exact⟨_,rfl,rfl⟩
  |2,_=>exact⟨_,rfl,rfl⟩
  |3,_=>exact⟨_,rfl,rfl⟩
  |4,_=>exact⟨_,rfl,rfl⟩
  |5,_=>exact⟨_,rfl,rfl⟩
  |6,_=>exact⟨_,rfl,rfl⟩
  |7,_=>exact⟨_,rfl,rfl⟩
 obtain⟨x,g,h⟩:=this;exact vE (x:=x) (by rw[d,fM];exact g) (by rw[h];exact e)
theorem XQ(k):Gi [.i k]=some [.i (ix k)]:=by
 have a:=Lb k;refine bN ?_;refine cP (l:=.i (k*11400714819323198485%18446744073709551616)) (by show some (L.i (IntKind.wrap .u64 _))=_;simp[IntKind.wrap,IntKind.bits,IntKind.signed,At.ev,L.a_]) (nW ?_);refine cP (l:=.i (ix k)) ?_ (nW ?_)
 .show(if(0:Int)<=61 then some (L.i ((k*11400714819323198485%18446744073709551616).fdiv (2^ (min (61:Int).toNat IntKind.u64.bits))))else none)=_;rw[bF om,show(2:Int) ^ (min (61:Int).toNat IntKind.u64.bits)=2305843009213693952 by simp[IntKind.bits],G1 _ om];rfl
 exact od (n:=ix k) rfl om om (a7 rfl)
theorem aeR(l)(hl:l.length<=1000000):D4 [.r (l.map bw)]=some [.i (eS l)]:=by
 refine bN ?_;refine bE (λxs=>xs=[.i (eS l)]) ?_ (by rintro _ rfl;exact a7 rfl);refine wp_loop (I:=λa=>∃i:Nat,a=[.i (eS (l.take i)),.i i]/\i<=l.length) (mu:=λa=>match a with|[_,.i i]=>l.length-i.toNat|_=>0) ⟨0,rfl,om⟩ ?_;rintro a ⟨i,rfl,e1⟩;refine uR ?_;rw[bC];refine bG rfl (λhc=>?_) (λhc=>?_);rotate_left
 .refine a7 ?_;show[L.i (eS (l.take i))]=[L.i (eS l)]
  rw[gX om]
 have hi:i<l.length:=om;have h1:=vo (l.take i);have h2:=B3 l[i].size;have h3:(l.take i).length=i:=by rw[eA];omega
 have e:eS (l.take i)+cJ l[i].size=eS (l.take (i+1)):=by rw[gW hi,yU];simp[eS]
 refine bU (f:=bw) (l:=l) (j:=i) rfl rfl hi rfl (uR ?_);refine bu (pH l[i].size) rfl rfl (nW ?_);refine c_ (n:=eS (l.take (i+1))) e om om (nW ?_);refine cm (i:=i) rfl om (nW ?_);refine a7 ⟨⟨i+1,rfl,om⟩,?_⟩;show l.length- ((i+1:Nat):Int).toNat<l.length-i;omega
theorem T3{m}(h:WM m){b}(hb:b=true↔MV m):zK (oW m)=some [.b b]:=by
 have no:∀s,s<8->¬zY m s->[L.b false]=[L.b b]:=λs hs hk=>kl hb λhv=>hk (hv.1 s hs)
 refine bN ?_;refine bE (λxs=>oc m/\xs=[.i (eS (cat m))]) ?_ ?_;rotate_left
 .rintro _ ⟨hS,rfl⟩;refine nW ?_;exact bE (cI (m.live=eS (cat m)/\0<=m.lz/\m.lz<=1099511627776)) cB (rB (hb.trans ⟨λh=>h.2,λh=>⟨hS,h⟩⟩))
 refine wp_loop (I:=λa=>∃s:Nat,a=[.i (eS (fY m s)),.i s]/\s<=8/\∀t,t<s->zY m t) (mu:=λa=>match a with|[_,.i i]=>8-i.toNat|_=>0) ⟨0,rfl,om,λt ht=>by omega⟩ ?_;rintro a ⟨s,rfl,e1,e2⟩;refine uR ?_;refine bG rfl (λhc=>?_) (λhc=>?_);rotate_left
 .obtain rfl:s=8:=om;exact a7 ⟨λt ht=>e2 t ht,rfl⟩
 have hs:s<8:=om;have hlen:=h.hn s;have GI:(0:Int)<=(s:Int)/\(s:Int)< ((8:Nat):Int):=⟨om,om⟩
 refine lD GI (nW ?_);refine th (m:=m) hs rfl rfl (nW ?_);obtain⟨v,hv⟩:=dC (VL (m.st s));refine bu (CV (m.st s) om hv) rfl rfl (uR ?_);refine tU rfl hv (λhx=>a7 (no s hs λh=>hx h.1)) λhx=>?_
 refine bE (λxs=>xs=[]/\∀x∈m.st s,ix x.key=(s:Int)) ?_ ?_
 .refine wp_loop (I:=λa=>∃j:Nat,a=[.i j]/\j<=(m.st s).length/\∀(t:Nat)(ht:t< (m.st s).length),t<j->ix (m.st s)[t].key=s) (mu:=λa=>match a with|[.i i]=>(m.st s).length-i.toNat|_=>0) ⟨0,rfl,om,λt ht h=>by omega⟩ ?_;rintro a ⟨j,rfl,f1,f2⟩;refine nW ?_;refine lD GI (nW ?_);refine th (m:=m) hs rfl rfl (uR ?_);rw[bC];refine bG rfl (λhc=>?_) (λhc=>?_);rotate_left
  .refine a7 ⟨rfl,λx hx=>?_⟩;obtain⟨t,ht,rfl⟩:=iE hx;exact f2 t ht om
  have hj:j< (m.st s).length:=om;refine lD GI (nW ?_);refine th (m:=m) hs rfl rfl (nW ?_);refine bU (f:=bw) (l:=m.st s) (j:=j) rfl rfl hj rfl (uR ?_);refine bu (XQ _) rfl rfl (uR ?_);refine bG rfl (λhq=>?_) (λhq=>?_)
  .exact a7 (no s hs λh=>hq (h.2 _ (cT hj)))
  refine cm (i:=j) rfl om (nW ?_);refine a7 ⟨⟨j+1,rfl,om,λt ht hlt=>?_⟩,?_⟩
  .by_cases e:t=j
   .subst e;omega
   .exact f2 t ht om
  .show(m.st s).length- ((j+1:Nat):Int).toNat< (m.st s).length-j;omega
 .rintro _ ⟨rfl,hst⟩;have g1:=vo (fY m s);have g2:=sI h s;have g3:=vo (m.st s);refine nW ?_;refine lD GI (nW ?_);refine th (m:=m) hs rfl rfl (nW ?_);refine bu (aeR (m.st s) om) rfl rfl (nW ?_);refine c_ (n:=eS (fY m (s+1))) (by rw[pK,yU];rfl) (by rw[pK,yU];omega) (by rw[pK,yU];omega) (nW ?_);refine cm (i:=s) rfl om (nW ?_);refine a7 ⟨⟨s+1,rfl,om,λt ht=>?_⟩,?_⟩
  .by_cases e:t=s
   .subst e;exact⟨hx,hst⟩
   .exact e2 t om
  .show 8- ((s+1:Nat):Int).toNat<8-s;omega
theorem Oj{m}(h:WM m)(hv:MV m):ve (oW m)=some [.r ((items m).map bw)]:=by
 refine bN ?_;refine bE (λxs=>xs=[.r ((cat m).map bw)]) ?_ ?_;rotate_left
 .rintro _ rfl;refine nW ?_;obtain⟨o,h1,h2⟩:=VD (.r ((cat m).map bw)) (cat m) rfl (by have:=yd h;omega);rw[h2]at h1;exact bu h1 rfl (IQ (items m)) (a7 rfl)
 refine wp_loop (I:=λa=>∃s:Nat,a=[.i s,.r ((fY m s).map bw)]/\s<=8) (mu:=λa=>match a with|[.i i,_]=>8-i.toNat|_=>0) ⟨0,rfl,om⟩ ?_;rintro a ⟨s,rfl,e1⟩;refine bE (cI (s<8)) ?_ ?_
 .refine uR ?_;refine bG rfl (λhc=>?_) (λhc=>a7 (d_ om));exact bu (T3 h (b:=true) ⟨λ_=>hv,λ_=>rfl⟩) rfl rfl (a7 (cC om))
 rintro _ ⟨t,rfl,ht⟩;refine nW ?_;refine ik rfl ht (λhs=>?_) (λhs=>?_);rotate_left
 .obtain rfl:s=8:=om;exact a7 rfl
 have g2:=sI h s;have g3:=h.hn s;refine lD ⟨by show(0:Int)<=s;omega,by show(s:Int)< (8:Nat);omega⟩ (nW ?_);refine th (m:=m) hs rfl rfl (nW ?_);refine fa (r:=(fY m (s+1)).map bw) (jw _) (jw _) (by show((fY m s).map bw).length<=_;rw[bC];omega) (by show((m.st s).map bw).length<=_;rw[bC];omega) om (by rw[pK,eB];rfl) (nW ?_);refine cm (i:=s) rfl om (nW ?_);refine a7 ⟨⟨s+1,rfl,om⟩,?_⟩;show 8- ((s+1:Nat):Int).toNat<8-s;omega
theorem apR{m}(h:WM m)(a:MV m):CE (oW m)=some [.i (items m).length]:=by
 refine bN ?_;refine bu (Oj h a) rfl rfl (uR ?_);rw[bC];exact a7 rfl
def yi:Option It->List L
 |some x=>[.b true,.i x.key,.i x.cookie,.i x.off,.i x.size]
 |none=>[.b false,.i 0,.i 0,.i 0,.i 0]
theorem aoi{l:List It}{j k}(a):fE (l.take (j+1)) k=if l[j].key=k then some l[j]else fE (l.take j) k:=by
 unfold fE;rw[gW a,List.reverse_append,List.reverse_singleton,List.singleton_append,List.find?_cons];by_cases h:l[j].key=k
 .rw[bF h,decide_eq_true h]
 .rw[bO h,decide_eq_false h]
theorem avp(l)(hl:l.length<=1000000)(key):C4 [.r (l.map bw),.i key]=some (yi (fE l key)):=by
 refine bN ?_;refine bE (λxs=>xs=[]/\fE l key=none) ?_ (by
  rintro _ ⟨rfl,h⟩;refine a7 ?_;rw[h];rfl)
 refine uR ?_;rw[bC];refine dk (n:=(l.length:Int) -1) rfl om om (nW ?_);refine wp_loop (I:=λa=>∃i:Nat,a=[.i ((i:Int) -1)]/\i<=l.length/\fE l key=fE (l.take i) key) (mu:=λa=>match a with|[.i i]=>(i+1).toNat|_=>0) ⟨l.length,rfl,om,by rw[iT]⟩ ?_;rintro a ⟨i,rfl,e1,e2⟩;refine uR ?_;refine bG rfl (λhc=>?_) (λhc=>?_);rotate_left
 .obtain rfl:i=0:=om;exact a7 ⟨rfl,e2⟩
 obtain⟨j,rfl⟩:∃j,i=j+1:=⟨i-1,om⟩
 have hj:j<l.length:=om;have ej:((j+1:Nat):Int) -1=j:=om;rw[ej];refine bU (f:=bw) (l:=l) (j:=j) rfl rfl hj rfl (uR ?_);rw[aoi hj]at e2;refine bG rfl (λhq=>?_) (λhq=>?_)
 .refine bU (f:=bw) (l:=l) (j:=j) rfl rfl hj rfl (uR ?_);refine a7 ?_;rw[e2,bF hq];rfl
 .rw[bO hq]at e2;refine dk (n:=(j:Int) -1) rfl om om (nW ?_);refine a7 ⟨⟨j,rfl,om,e2⟩,?_⟩;show((j:Int) -1+1).toNat< ((j:Int)+1).toNat;omega
theorem ahv{m}(h:WM m)(a:MV m)(key):Dd (oW m++[.i key])=some (yi (fE (items m) key)):=by
 refine bN ?_;refine bu (Oj h a) rfl rfl (nW ?_);refine bu (avp (items m) (by have:=Ae h;omega) key) (by cases fE (items m) key<;>rfl) rfl ?_;refine a7 ?_;cases fE (items m) key<;>rfl
end
end
end Go.Proofs.YtndegphojkiblaaGreatDoor
