/- A part. -/
import Derived.Test.YtiikkkhcolcebaaGreatDoorG14
import Derived.Test.YtiikkkhcolcebaaGreatDoorProg
import Derived.WalkKit
set_option linter.all false
set_option maxHeartbeats 4000000
set_option maxRecDepth 100000
namespace Go.Proofs.YtiikkkhcolcebaaGreatDoor
noncomputable section
section
open Go.RowKit
def TT:bV:=[2,3,4,5,9,23,24,25,26,28,29,31,32,33,34,36,40,42,43,45,47,48,55,57,58,60,61,63,64,78,85,86,88,90,95,97,114,117,119,133,137,139,141,142,144,146,147,148,150,157,160,164,166,170,171,175,189,190,192,193,208,209,234,257,259,269,274,279,357,360,363,380,395,396,408,416,421,455,457,460,481,484,486].map λi=>(i,eW Tryz.prog i)
theorem iB:bV.ok Tryz.prog TT:=bV.wH kr
def TTx:bV:=(999999,eW Tryz.prog 999999)::TT
theorem WU:bV.ok Tryz.prog TTx:=bV.wH kr
def TTy:bV:=(999998,eW Tryz.prog 999998)::TT
theorem atH:bV.ok Tryz.prog TTy:=bV.wH kr
def QN:bV:=(999996,eW Tryz.prog 999996)::TT
theorem zY:bV.ok Tryz.prog QN:=bV.wH kr
def TTv:bV:=(999995,eW Tryz.prog 999995)::(999998,eW Tryz.prog 999998)::QN
theorem aqx:bV.ok Tryz.prog TTv:=bV.wH kr
theorem nF:Tryz.prog.follows .mixedOrders=true:=kr
theorem eP.ok.nil:eP.ok Tryz.prog []:=λs a=>by cases a
theorem eP.ok.cons{s:bw}{C:eP}(h:s.ok Tryz.prog)(d:eP.ok Tryz.prog C):eP.ok Tryz.prog (s::C):=λx a=>by
 rcases eG.1 a with rfl|a
 .exact h
 .exact d x a
def w(a n:Nat):List At:=(List.range n).map λi=>.v (a+i)
def pi(n:Nat):SC:=.p (.int .i64) (.v n)
def ps(n:Nat):SC:=.p .sl (.v n)
def ci(n:Nat):bK:=.c (pi n)
def cs(n:Nat):bK:=.c (ps n)
def cI(a n:Nat):List SC:=(List.range n).map λi=>pi (a+i)
def dh(a n:Nat):List SC:=(List.range n).map λi=>ps (a+i)
def xF(T:bV)(C:eP)(f:Func)(n:Nat)(p:List bK)(H:List SB):bl:=match zc T C f n p H with
 |some o=>o.yY
 |none=>default
theorem g_{s:bw}(x:bl){T:bV}{C:eP}{fn:Func}(a:bV.ok Tryz.prog T)(b:eP.ok Tryz.prog C)(c:Tryz.prog.funcs[s.f]?=some fn) (hname:(fn.name== "runtime.NumGoroutine")=false) (h:zc T C fn s.gW s.params s.H=some ⟨x,s.res,s.out,s.jz⟩) (d:s.F=Fo x):s.ok Tryz.prog:=
 avx a b nF c hname h (F:=s.F) (λls=>by rw[d];rfl) s.tag
def akk:=Bt
def UD:=LA
def aCs:=B9
def LM:=MR
def KF:=TH
def anl:=V2
def YD:=Ce
def axw:=Vo
theorem oS{s:bw}{C:eP}{x:bl}(b:eP.ok Tryz.prog C)(c:s.F=Fo x:=by rfl)(d:(Tryz.prog.funcs[s.f]?).isSome=true:=by kernel_rfl) (hname:(((Tryz.prog.funcs[s.f]?).getD default).name== "runtime.NumGoroutine")=false:=by kernel_rfl) (h:zc TT C ((Tryz.prog.funcs[s.f]?).getD default) s.gW s.params s.H=some ⟨x,s.res,s.out,s.jz⟩:=by kernel_rfl):s.ok Tryz.prog:=by
 obtain⟨fn,a⟩:=rh.1 d;rw[a]at hname h;exact g_ x iB b a hname h c
def mS(C:eP)(f:FuncId)(p:List bK)(H:List SB)(a b:Nat)(c:SV)(d:List (Nat×SB))(e:Nat):bw:=⟨f,p,H,a,b,c,d,Fo (xF TT C ((Tryz.prog.funcs[f]?).getD default) a p H),e⟩
abbrev Ok(s:bw):Prop:=s.ok Tryz.prog
abbrev bl.j(l:List At):bl:=.bp (.jump 0 l)
abbrev bl.bI(o:BinOp)(a b:At)(k:bl):bl:=.op (.bi o .i64 a b) k
abbrev bl.ln(a:At)(k:bl):bl:=.op (.len a) k
abbrev bl.no(a:At)(k:bl):bl:=.op (.not a) k
abbrev bl.cA(t:Nat)(F:List L->Option (List L))(l:List At)(n:Nat)(k:bl):bl:=.op (.call t F l n []) k
abbrev bl.cl(a:At)(j:Nat)(d:Kd)(k:bl):bl:=.op (.cl a j d) k
abbrev bl.rw(a b:At)(n:Nat)(k:bl):bl:=.op (.row a b n) k
abbrev U0:At:=.v 0
abbrev U1:At:=.v 1
abbrev U2:At:=.v 2
abbrev U3:At:=.v 3
abbrev U4:At:=.v 4
abbrev U5:At:=.v 5
abbrev U6:At:=.v 6
abbrev U7:At:=.v 7
abbrev U8:At:=.v 8
abbrev U9:At:=.v 9
abbrev bB:At:=.v 10
abbrev bE:At:=.v 11
abbrev bG:At:=.v 12
abbrev bN:At:=.v 13
abbrev bP:At:=.v 14
abbrev bQ:At:=.v 15
abbrev bU:At:=.v 16
abbrev bW:At:=.v 17
abbrev bT:At:=.v 18
abbrev cg:At:=.v 19
abbrev cp:At:=.v 20
abbrev cL:At:=.v 21
abbrev cj:At:=.v 22
abbrev cm:At:=.v 23
abbrev cr:At:=.v 24
abbrev ck:At:=.v 25
abbrev cf:At:=.v 26
abbrev cw:At:=.v 27
abbrev c9:At:=.v 28
abbrev dX:At:=.v 29
abbrev eh:At:=.v 30
abbrev eL:At:=.v 31
abbrev dP:At:=.v 32
abbrev gH:At:=.v 33
abbrev gN:At:=.v 34
abbrev iq:At:=.v 35
abbrev ik:At:=.v 36
abbrev jD:At:=.v 37
abbrev iZ:At:=.v 38
abbrev jl:At:=.v 39
abbrev jO:At:=.v 40
abbrev lx:At:=.v 41
abbrev mw:At:=.v 42
abbrev ru:At:=.v 43
abbrev pd:At:=.v 44
abbrev jM:At:=.v 45
abbrev w7:At:=.v 46
abbrev yH:At:=.v 47
abbrev kb:At:=.v 48
abbrev oD:At:=.v 49
abbrev wK:At:=.v 50
abbrev rJ:At:=.v 51
abbrev mR:At:=.v 52
abbrev wG:At:=.v 53
abbrev zm:At:=.v 54
abbrev O0:At:=.v 55
abbrev G6:At:=.v 56
abbrev U57:At:=.v 57
abbrev Ix:At:=.v 58
abbrev Dj:At:=.v 59
abbrev yV:At:=.v 60
abbrev DF:At:=.v 61
abbrev uw:At:=.v 62
abbrev If:At:=.v 63
abbrev I0:At:=.v 64
abbrev Cl:At:=.v 65
abbrev BV:At:=.v 66
abbrev sZ:At:=.v 67
abbrev KD:At:=.v 68
abbrev QE:At:=.v 69
abbrev yP:At:=.v 70
abbrev OR:At:=.v 71
abbrev KM:At:=.v 72
abbrev KN:At:=.v 73
abbrev U74:At:=.v 74
abbrev U75:At:=.v 75
abbrev U76:At:=.v 76
abbrev U77:At:=.v 77
abbrev U78:At:=.v 78
abbrev U79:At:=.v 79
end
section
attribute [local irreducible] Fo
open Go.RowKit
def avy:bl:=.ln U0<|.ln U1<|.bI .neq U2 U3<|.ite U4 (.j [.b false]) (.join (.loop [.i 0] (.ln U0<|.bI .lss U5 U6<|.ite U7 (.rw U0 U5 4<|.cl U8 0 (.int .u64)<|.cl U8 1 (.int .u32)<|.cl U8 2 (.int .i64)<|.cl U8 3 (.int .i64)<|.rw U1 U5 4<|.cl bN 0 (.int .u64)<|.cl bN 1 (.int .u32)<|.cl bN 2 (.int .i64)<|.cl bN 3 (.int .i64)<|.op (.bi .eql .u64 U9 bP)<|.op (.bi .eql .u32 bB bQ)<|.op (.bb .and bT cg)<|.bI .eql bE bU<|.op (.bb .and cp cL)<|.bI .eql bG bW<|.op (.bb .and cj cm)<|.no cr<|.ite ck (.bp (.jump 2 [.b false])) (.bI .add U5 (.i 1)<|.j [cf])) (.bp (.jump 1 [])))) (.j [.b true]))
def LJ:=Fo avy
def apk:bw:=⟨138,[cs 0,cs 1],[],2,1,.v (.c (.p .bool U2)),[],LJ,641⟩
theorem aeJ:Ok apk:=oS .nil
def adq:bl:=.join (.loop [.i 0] (.bI .lss cp (.i 8)<|.ite cL (.op (.du cp 8)<|.op (.gk (w 0 8) cp)<|.op (.du cp 8)<|.op (.gk (w 10 8) cp)<|.cA 641 LJ [cj,cm] 1<|.no cr<|.ite ck (.bp (.jump 2 [.b false])) (.bI .add cp (.i 1)<|.j [cf])) (.bp (.jump 1 [])))) (.join (.bI .eql U8 bT<|.ite cp (.bI .eql U9 cg<|.j [cL]) (.j [.b false])) (.j [cp]))
def Ho:=Fo adq
def ahb:bw:=⟨136,[.agg (dh 0 8++[pi 8,pi 9]),.agg (dh 10 8++[pi 18,pi 19])],[],20,1,.v (.c (.p .bool cp)),[],Ho,642⟩
theorem adu:Ok ahb:=oS (.cons aeJ .nil)
def avq:bl:=.join (.bI .eql U0 bP<|.ite c9 (.bI .eql U1 bQ<|.ite dX (.bI .eql U2 bU<|.ite eh (.bI .eql U3 bW<|.ite eL (.op (.call 642 Ho (w 4 10++w 18 10) 1 [])<|.j [dP]) (.j [.b false])) (.j [.b false])) (.j [.b false])) (.j [.b false])) (.j [c9])
def MI:=Fo avq
def afw:bw:=⟨60,[.agg (cI 0 4++dh 4 8++[pi 12,pi 13]),.agg (cI 14 4++dh 18 8++[pi 26,pi 27])],[],28,1,.v (.c (.p .bool c9)),[],MI,643⟩
theorem aqc:Ok afw:=oS (.cons adu .nil)
def anM:bl:=.join (.bI .neq U0 U4<|.ite U8 (.j [.b true]) (.bI .neq U1 U5<|.ite U9 (.j [.b true]) (.op (.bb .neq U2 U6)<|.ite bB (.j [.b true]) (.ln U3<|.ln U7<|.bI .neq bE bG<|.j [bN])))) (.ite U8 (.j [.b false]) (.join (.loop [.i 0] (.ln U3<|.bI .lss U9 bB<|.ite bE (.rw U3 U9 14<|.cl bG 0 (.int .i64)<|.cl bG 1 (.int .i64)<|.cl bG 2 (.int .i64)<|.cl bG 3 (.int .i64)<|.cl bG 4 .sl<|.cl bG 5 .sl<|.cl bG 6 .sl<|.cl bG 7 .sl<|.cl bG 8 .sl<|.cl bG 9 .sl<|.cl bG 10 .sl<|.cl bG 11 .sl<|.cl bG 12 (.int .i64)<|.cl bG 13 (.int .i64)<|.rw U7 U9 14<|.cl cw 0 (.int .i64)<|.cl cw 1 (.int .i64)<|.cl cw 2 (.int .i64)<|.cl cw 3 (.int .i64)<|.cl cw 4 .sl<|.cl cw 5 .sl<|.cl cw 6 .sl<|.cl cw 7 .sl<|.cl cw 8 .sl<|.cl cw 9 .sl<|.cl cw 10 .sl<|.cl cw 11 .sl<|.cl cw 12 (.int .i64)<|.cl cw 13 (.int .i64)<|.op (.call 643 MI (w 13 14++w 28 14) 1 [])<|.no mw<|.ite ru (.bp (.jump 2 [.b false])) (.bI .add U9 (.i 1)<|.j [pd])) (.bp (.jump 1 [])))) (.j [.b true])))
def G2:=Fo anM
def asp:bw:=⟨20,[.agg [pi 0,pi 1,.p .bool U2,ps 3],.agg [pi 4,pi 5,.p .bool U6,ps 7]],[],8,1,.v (.c (.p .bool U8)),[],G2,644⟩
theorem ayY:Ok asp:=oS (.cons aqc .nil)
def alF:bl:=.j []
def Tc:=Fo alF
def asV:bw:=⟨137,[.agg (dh 0 8++[pi 8,pi 9])],[],10,0,.v (.agg (dh 0 8++[pi 8,pi 9])),[],Tc,645⟩
theorem ahy:Ok asV:=oS .nil
def abS:bl:=.op (.call 645 Tc (w 4 10) 0 [])<|.j []
def HV:=Fo abS
def auU:bw:=⟨61,[.agg (cI 0 4++dh 4 8++[pi 12,pi 13])],[],14,0,.v (.agg (cI 0 4++dh 4 8++[pi 12,pi 13])),[],HV,646⟩
theorem aiU:Ok auU:=oS (.cons ahy .nil)
end
section
open Go.RowKit
open Classical
theorem eC.ayA{P f args e rows}(h:eC P f args [] (.v (.c (.sub 0 0 0))) [(0,.row e rows)]):eC P f args [] (.v (.c (.own 0))) [(0,.row e [])]:=by
 refine⟨h.own,λw M N vals K O R S T U W=>(h.call w M N vals K O R S T U W).mono ?_⟩;rintro _ w' ⟨v,E',rfl,B,a,Y,Z⟩;obtain⟨x,cur,fz,k1,D,k2,k3,k4,k5,k6,k7,k8,k9,E,aa⟩:=Y 0 _ rfl;obtain⟨y,F,j2,A,G,j4⟩:=cW.get (show RC M E' w' (.sub 0 0 0) v from Z) (by rw[a.bu];simp);rw[k1]at F;cases F;have H:=j4 (.inr rfl);simp only[Bg,Oj]at H G;refine⟨v,⟨λn=>if n=0 then some {x with len:=0}else E'.N n,[]⟩,rfl,B,⟨rfl,?_,?_,λm hm=>absurd hm (rn m)⟩,?_,?_⟩
 .intro n z g k t;simp only at k;split at k
  .cases k;exact a.names 0 x g k1 t
  .exact a.names n z g k t
 .intro n m z I g k d t q;simp only at k d;split at k<;>split at d
  .omega
  .cases k;have:=a.inj 0 m x I g k1 d t q;omega
  .cases d;have:=a.inj n 0 z x g k k1 t q;omega
  .exact a.inj n m z I g k d t q
 .intro n b u;simp only[fD,jS]at u;split at u
  .rename_i J;simp at J;subst J;cases u;exact⟨{x with len:=0},cur,fz,by simp,D,k2,rfl,eM _,k5,k6,k7,k8,λr hr=>by simp at hr,E,λi r j p hi=>by simp at hi⟩
  .cases u
 .exact .inr ⟨{x with len:=0},by simp,by rw[G,H]⟩
theorem arj{P T e}(a:P.underlying T=some (.slice e))(A)(n c)(w):(Op.equal T (.slice A n c) (.slice none 0 0)).run P w=.ok A.isNone w:=by
 have key:∀d,(Op.equalIn (d+1) T (.slice A n c) (.slice none 0 0)).run P w=.ok A.isNone w:=λd=>by
  cases A<;>simp[Op.equalIn,run_underlying a]
 exact key 9999
section
variable{X:Fx}{Q:Exit->bx->Prop}{st:bx}
theorem rL{id t3 t4 i T YQ YR yT:Nat}{p3 p4 a3 a4 rows e}(hi:st.tmps[i]?=some (.v (.c (.p (.sl rows)))))(ht3:t3<st.tmps.length)(hT:X.P.underlying T=some (.slice e))
 (hQ:∀b,(b=true->rows=[])->Q .normal ((st.put (some t3) (.v (.c (.p (.sl rows))))).put (some t4) (.sc (.bool b)))):
 Aw X (.region id #[{dst:=some t3,op:=.move (.tmp i),type:=YQ,pos:=p3,after:=a3,guard:=none},{dst:=some t4,op:=.binOp .eql T (.tmp t3) (.const (.slice none 0 0)) yT,type:=YR,pos:=p4,after:=a4,guard:=none}] false) Q st:=λa w ht=>by
 obtain⟨E,hR,hg⟩:=ht;obtain⟨u,h1,h2⟩:=hR.tmps i _ hi;have hlt:t3<a.tmps.size:=by rw[hR.size];exact ht3
 refine wp_region ?_;have hu:∃A n c,u=.slice A n c/\(A=none->rows=[]):=by
  cases h2 with
  |nil=>exact⟨_,_,_,rfl,λ_=>rfl⟩
  |row=>exact⟨_,_,_,rfl,λh=>by cases h⟩
 obtain⟨A,n,c,rfl,hn⟩:=hu;have FT:∀b,(b=true->rows=[])->∃st',Q .normal st'/\Told X st' ((a.put (some t3) (.slice A n c)).put (some t4) (.bool b)) w:=λb hb=>
  ⟨_,hQ b hb,E,(hR.put (some t3) (v:=.v (.c (.p (.sl rows)))) h2).put (some t4) (v:=.sc (.bool b)) (RP.sc rfl),hg⟩
 have e1:a.eval (.tmp i)=.slice A n c:=by simp[Act.eval,h1]
 have e2:(a.put (some t3) (.slice A n c)).eval (.tmp t3)=.slice A n c:=by simp[Act.eval,Act.put,rf,hlt]
 have e3:∀a':Act,a'.eval (.const (.slice none 0 0))=.slice none 0 0:=λ_=>rfl
 have hq:(Op.equal T (.slice A n c) (.slice none 0 0)).run X.P w=.ok A.isNone w:=arj hT A n c w;have hb:(binOp .eql T (.slice A n c) (.slice none 0 0)).run X.P w=.ok (.bool A.isNone) w:=by
  simp only[binOp];rw[Sem.run_bind,hq];rfl
 have hgd:(eqGuard .eql T (.tmp t3) (.const (.slice none 0 0)) (.slice A n c) (.slice none 0 0)).run X.P w=.ok () w:=by
  simp[eqGuard]
 rw[show(List.range (#[({dst:=some t3,op:=.move (.tmp i),type:=YQ,pos:=p3,after:=a3,guard:=none}:Oper),{dst:=some t4,op:=.binOp .eql T (.tmp t3) (.const (.slice none 0 0)) yT,type:=YR,pos:=p4,after:=a4,guard:=none}]).size)=[0,1]from rfl];simp only[wpOps,Region.wanted,pT,oZ,Bi,if_true];refine .inl (iI (u:=.slice A n c) (w':=w) ?_ (.inl ?_))
 .simp only[execOp,e1];rfl
 .refine iI (u:=.bool A.isNone) (w':=w) ?_ ?_
  .simp only[execOp,e2,e3,Sem.run_bind,hgd,hb,Result.andThen_ok];rfl
  .exact FT _ (λh=>hn (by simpa using h))
end
def qp(T:bV)(C:eP)(c:Code)(k0:Nat)(rs:List ResultVar)(S:bq):Option vE:=
 match exec T C k0 c (n9 rs) [] (n9 rs) S with
 |some t=>match(merge (n9 rs) k0 S.nv t.p8).map (bq.order k0)with
  |some a=>match t.bind (fin T k0 S.nv a) 0,yS T rs a with
   |some u,some r=>some ⟨u,r,a.heap.filter (λx=>(reach a.heap 4 (List.range k0++r.names)).contains x.1),a.nv-S.nv⟩
   |_,_=>none
  |none=>none
 |none=>none
theorem uo{P T C}(j:bV.ok P T)(B:eP.ok P C)(D:P.follows .mixedOrders=true){c k0 rs S o}(l:S.bu=[])(h:qp T C c k0 rs S=some o)
 {ls os} (m:ls.length=S.nv) (i:fQ (o.yY.a_ ls)=some os) {X} (w:X.P=P) (f:X.k0=k0):Aw X c (nD P rs (o.res.a_ (ls++os)) (o.out.a_ (ls++os))) (S.a_ ls):=by
 unfold qp at h;split at h
 .rename_i t y;split at h
  .rename_i E F;split at h
   .rename_i u r G H;cases h;have g:=lB j B D c (S:=S) l y;simp only[fQ]at i;split at i
    .rename_i k I p J;cases i;obtain⟨e,z,ρ1,v,K,A,L⟩:=pX (λx ρ1 M=>(g ls x ρ1 m M).bare) (λe z ρ1 y d u1 N=>OU N) G J;obtain⟨e',O,R,U,⟨ys,V⟩,W,Y⟩:=g ls _ _ m K;cases R;subst V;have key:(e=.normal\/e=.ret)/\∀X:Fx,X.P=P->X.k0=k0->Le X (z.a_ (ls++ys)) (E.a_ (ls++I.map (At.ev p))):=by
      cases e with
      |exit=>cases A
      |_=>
       obtain⟨Z,zs,j1,_,_,j4⟩:=sW j m U W A L;cases j1;exact⟨by simp,j4⟩
     obtain⟨he,q⟩:=key;refine mr (Y X w f _ ⟨_,q X w f,?_⟩);refine⟨?_,J1 j H,λn b a=>?_⟩;rotate_left
     .rw[eK];rw[cU.qs]at a;simp only[bY]at a;obtain⟨b0,s,rfl⟩:=a;rw[zh s];rfl
     rcases he with rfl|rfl<;>trivial
    .cases i
   .cases h
  .cases h
 .cases h
def uC(b:Bool):bq:=⟨[.v (.c (.p .sl (.v 0))),.bL [],.v (.c .nil),.v (.c (.p .sl (.v 0))),.v (.c (.p .bool (.b b))),.bL [],.bL [],.bL []],[],[],8,1⟩
def tB(T : cd)(pos:String):Code:=
          (Code.region 3
                #[{ dst :=some 5,op:=Op.buildSlice T 0 #[],type:=T,pos:=pos,after:= #[],
                    guard:=none},
                 { dst:=some 6,op:=Op.move (Operand.tmp 0),type:=T,pos:=pos,after:= #[],
                   guard:=none},
                 { dst :=some 7,
                   op:=
                    Op.call
                     { callee:=Callee.builtin Builtin.append,args:= #[Operand.tmp 5,Operand.tmp 6],
                       argTypes:= #[T,T]},
                   type:=T,pos:=pos,
                   after:= #[{on:=0,ground:=Ground.data},{on:=1,ground:=Ground.data}],guard:=none},
                 { dst :=some 2,op:=Op.assign (Operand.tmp 7),type:=T,pos:=pos,
                   after:=
                    #[{on:=2,ground:=Ground.data},{on:=2,ground:=Ground.chain},
                     {on:=0,ground:=Ground.phase},{on:=1,ground:=Ground.phase},
                     {on:=2,ground:=Ground.phase}],
                   guard:=none}]
                false).seq
           Code.ret
def iF(n z:Nat):bl:=.op (.lit []) (.op (.app (.v 1) (.v 0) n z) (.bp (.jump 0 [(.v 2)])))
def iv(n z:Nat):List L->Option (List L):=λls=>match ls with
 |[.r rows]=>if ct n rows=true/\rows.length*z<=140737488355328 then some []else none
 |_=>none
def tV(f e n z t:Nat):bw:=⟨f,[.c (.p .sl (.v 0))],[],1,0,.v (.c (.own 0)),[(0,.row e (.v 0))],iv n z,t⟩
theorem azX(rows)(hR:ct 4 rows=true)(k:rows.length*32<=140737488355328):
 eC Tryz.prog 124 [.c (.p (.sl rows))] [] (.v (.c (.own 0))) [(0,.row 164 rows)]:=by
 refine eC.intro Tryz.func124 kr rfl rfl rfl λX f a=>mr ?_
 refine ei ?_;refine kg (Sp:=λ_=>none) rfl rfl ?_;refine ei ?_;refine ei ?_;refine rL (rows:=rows) (e:=164) rfl (by show 3<8;decide) (by rw[f];exact Tryz.underlying26) ?_;intro b g;refine nC (t:=b) rfl (λh=>?_) (λh=>?_)
 .subst h;cases g rfl;refine ei (kg (Sp:=λ_=>none) rfl rfl (nZ ?_));refine⟨⟨[.v (.c .dead),.v (.c .dead),.v (.c (.own 0)),.v (.c .dead),.v (.c .dead),.v (.c .dead),.v (.c .dead),.v (.c .dead)],[(0,.row 164 [])],[],16⟩,kP.le (ι:=[]) (Z:=[0]) rfl ?_,trivial,rfl,λn b h=>h⟩;have c:X.k0=0:=a;rw[c,f];exact{
          bu:=rfl,old:=by simp[Ren.old],new:=by simp[Ren.new],zs:=λn d=>by
           simp at d;subst d;exact⟨by simp[Ren.new],eM _,by simp,164,rfl,eE kr⟩
          lt:=λx i=>by simp at i
          k0:=eM _
          tmps:=by
           refine⟨trivial,trivial,?_,trivial,trivial,trivial,trivial,trivial,trivial⟩;exact jX.2 rfl
          heap:=λn b h=>.inl (by
           simp only[fD,jS]at h;split at h
           .rename_i d;simp at d;subst d;simp
           .cases h)}
 .subst h;refine qa ?_;have j:fQ ((iF 4 32).a_ [.r rows])=some [.r rows]:=by
   simp[iF,bl.a_,Nd.ev,At.ev,L.bC,fQ];rw[bA ⟨om,om,rfl,hR⟩];rfl
  refine kO (uo iB .nil nF rfl (show qp TT [] (tB 26 "slices.go:362") 0 [.tmp 2] (uC false)=some ⟨iF 4 32,(.v (.c (.own 0))),[(0,(.row 164 (.v 1)))],1⟩by kernel_rfl) (ls:=[.r rows]) (os:=[.r rows]) rfl j f a) λe st h=>⟨st,λ_ _ h=>h,h⟩
def kU:=iv 4 32
def akW:bw:=tV 124 164 4 32 2000
theorem Al:akW.ok Tryz.prog:=by
 intro ls os d a c;have a:iv 4 32 ls=some os:=a;unfold iv at a;split at a
 .split at a
  .rename_i b;cases a;exact azX _ b.1 b.2
  .cases a
 .cases a
theorem alY(rows)(hR:ct 1 rows=true)(k:rows.length*1<=140737488355328):
 eC Tryz.prog 285 [.c (.p (.sl rows))] [] (.v (.c (.own 0))) [(0,.row 5 rows)]:=by
 refine eC.intro Tryz.func285 kr rfl rfl rfl λX f a=>mr ?_
 refine ei ?_;refine kg (Sp:=λ_=>none) rfl rfl ?_;refine ei ?_;refine ei ?_;refine rL (rows:=rows) (e:=5) rfl (by show 3<8;decide) (by rw[f];exact Tryz.underlying95) ?_;intro b g;refine nC (t:=b) rfl (λh=>?_) (λh=>?_)
 .subst h;cases g rfl;refine ei (kg (Sp:=λ_=>none) rfl rfl (nZ ?_));refine⟨⟨[.v (.c .dead),.v (.c .dead),.v (.c (.own 0)),.v (.c .dead),.v (.c .dead),.v (.c .dead),.v (.c .dead),.v (.c .dead)],[(0,.row 5 [])],[],16⟩,kP.le (ι:=[]) (Z:=[0]) rfl ?_,trivial,rfl,λn b h=>h⟩;have c:X.k0=0:=a;rw[c,f];exact{
          bu:=rfl,old:=by simp[Ren.old],new:=by simp[Ren.new],zs:=λn d=>by
           simp at d;subst d;exact⟨by simp[Ren.new],eM _,by simp,5,rfl,eE kr⟩
          lt:=λx i=>by simp at i
          k0:=eM _
          tmps:=by
           refine⟨trivial,trivial,?_,trivial,trivial,trivial,trivial,trivial,trivial⟩;exact jX.2 rfl
          heap:=λn b h=>.inl (by
           simp only[fD,jS]at h;split at h
           .rename_i d;simp at d;subst d;simp
           .cases h)}
 .subst h;refine qa ?_;have j:fQ ((iF 1 1).a_ [.r rows])=some [.r rows]:=by
   simp[iF,bl.a_,Nd.ev,At.ev,L.bC,fQ];rw[bA ⟨om,om,rfl,hR⟩];rfl
  refine kO (uo iB .nil nF rfl (show qp TT [] (tB 95 "slices.go:362") 0 [.tmp 2] (uC false)=some ⟨iF 1 1,(.v (.c (.own 0))),[(0,(.row 5 (.v 1)))],1⟩by kernel_rfl) (ls:=[.r rows]) (os:=[.r rows]) rfl j f a) λe st h=>⟨st,λ_ _ h=>h,h⟩
def C2:=iv 1 1
def ajt:bw:=tV 285 5 1 1 2010
theorem abv:ajt.ok Tryz.prog:=by
 intro ls os d a c;have a:iv 1 1 ls=some os:=a;unfold iv at a;split at a
 .split at a
  .rename_i b;cases a;exact alY _ b.1 b.2
  .cases a
 .cases a
theorem afg(rows)(hR:ct 1 rows=true)(k:rows.length*1<=140737488355328):
 eC Tryz.prog 121 [.c (.p (.sl rows))] [] (.v (.c (.own 0))) [(0,.row 5 rows)]:=by
 refine eC.intro Tryz.func121 kr rfl rfl rfl λX f a=>mr ?_
 refine ei ?_;refine kg (Sp:=λ_=>none) rfl rfl ?_;refine ei ?_;refine ei ?_;refine rL (rows:=rows) (e:=5) rfl (by show 3<8;decide) (by rw[f];exact Tryz.underlying95) ?_;intro b g;refine nC (t:=b) rfl (λh=>?_) (λh=>?_)
 .subst h;cases g rfl;refine ei (kg (Sp:=λ_=>none) rfl rfl (nZ ?_));refine⟨⟨[.v (.c .dead),.v (.c .dead),.v (.c (.own 0)),.v (.c .dead),.v (.c .dead),.v (.c .dead),.v (.c .dead),.v (.c .dead)],[(0,.row 5 [])],[],16⟩,kP.le (ι:=[]) (Z:=[0]) rfl ?_,trivial,rfl,λn b h=>h⟩;have c:X.k0=0:=a;rw[c,f];exact{
          bu:=rfl,old:=by simp[Ren.old],new:=by simp[Ren.new],zs:=λn d=>by
           simp at d;subst d;exact⟨by simp[Ren.new],eM _,by simp,5,rfl,eE kr⟩
          lt:=λx i=>by simp at i
          k0:=eM _
          tmps:=by
           refine⟨trivial,trivial,?_,trivial,trivial,trivial,trivial,trivial,trivial⟩;exact jX.2 rfl
          heap:=λn b h=>.inl (by
           simp only[fD,jS]at h;split at h
           .rename_i d;simp at d;subst d;simp
           .cases h)}
 .subst h;refine qa ?_;have j:fQ ((iF 1 1).a_ [.r rows])=some [.r rows]:=by
   simp[iF,bl.a_,Nd.ev,At.ev,L.bC,fQ];rw[bA ⟨om,om,rfl,hR⟩];rfl
  refine kO (uo iB .nil nF rfl (show qp TT [] (tB 95 "bytes.go:1395") 0 [.tmp 2] (uC false)=some ⟨iF 1 1,(.v (.c (.own 0))),[(0,(.row 5 (.v 1)))],1⟩by kernel_rfl) (ls:=[.r rows]) (os:=[.r rows]) rfl j f a) λe st h=>⟨st,λ_ _ h=>h,h⟩
def pj:=iv 1 1
def azq:bw:=tV 121 5 1 1 2011
theorem uM:azq.ok Tryz.prog:=by
 intro ls os d a c;have a:iv 1 1 ls=some os:=a;unfold iv at a;split at a
 .split at a
  .rename_i b;cases a;exact afg _ b.1 b.2
  .cases a
 .cases a
theorem avj(rows)(hR:ct 3 rows=true)(k:rows.length*64<=140737488355328):
 eC Tryz.prog 120 [.c (.p (.sl rows))] [] (.v (.c (.own 0))) [(0,.row 144 rows)]:=by
 refine eC.intro Tryz.func120 kr rfl rfl rfl λX f a=>mr ?_
 refine ei ?_;refine kg (Sp:=λ_=>none) rfl rfl ?_;refine ei ?_;refine ei ?_;refine rL (rows:=rows) (e:=144) rfl (by show 3<8;decide) (by rw[f];exact Tryz.underlying55) ?_;intro b g;refine nC (t:=b) rfl (λh=>?_) (λh=>?_)
 .subst h;cases g rfl;refine ei (kg (Sp:=λ_=>none) rfl rfl (nZ ?_));refine⟨⟨[.v (.c .dead),.v (.c .dead),.v (.c (.own 0)),.v (.c .dead),.v (.c .dead),.v (.c .dead),.v (.c .dead),.v (.c .dead)],[(0,.row 144 [])],[],16⟩,kP.le (ι:=[]) (Z:=[0]) rfl ?_,trivial,rfl,λn b h=>h⟩;have c:X.k0=0:=a;rw[c,f];exact{
          bu:=rfl,old:=by simp[Ren.old],new:=by simp[Ren.new],zs:=λn d=>by
           simp at d;subst d;exact⟨by simp[Ren.new],eM _,by simp,144,rfl,eE kr⟩
          lt:=λx i=>by simp at i
          k0:=eM _
          tmps:=by
           refine⟨trivial,trivial,?_,trivial,trivial,trivial,trivial,trivial,trivial⟩;exact jX.2 rfl
          heap:=λn b h=>.inl (by
           simp only[fD,jS]at h;split at h
           .rename_i d;simp at d;subst d;simp
           .cases h)}
 .subst h;refine qa ?_;have j:fQ ((iF 3 64).a_ [.r rows])=some [.r rows]:=by
   simp[iF,bl.a_,Nd.ev,At.ev,L.bC,fQ];rw[bA ⟨om,om,rfl,hR⟩];rfl
  refine kO (uo iB .nil nF rfl (show qp TT [] (tB 55 "slices.go:362") 0 [.tmp 2] (uC false)=some ⟨iF 3 64,(.v (.c (.own 0))),[(0,(.row 144 (.v 1)))],1⟩by kernel_rfl) (ls:=[.r rows]) (os:=[.r rows]) rfl j f a) λe st h=>⟨st,λ_ _ h=>h,h⟩
def Fe:=iv 3 64
def ayz:bw:=tV 120 144 3 64 2070
theorem Kt:ayz.ok Tryz.prog:=by
 intro ls os d a c;have a:iv 3 64 ls=some os:=a;unfold iv at a;split at a
 .split at a
  .rename_i b;cases a;exact avj _ b.1 b.2
  .cases a
 .cases a
theorem awX(rows)(hR:ct 3 rows=true)(k:rows.length*40<=140737488355328):
 eC Tryz.prog 122 [.c (.p (.sl rows))] [] (.v (.c (.own 0))) [(0,.row 147 rows)]:=by
 refine eC.intro Tryz.func122 kr rfl rfl rfl λX f a=>mr ?_
 refine ei ?_;refine kg (Sp:=λ_=>none) rfl rfl ?_;refine ei ?_;refine ei ?_;refine rL (rows:=rows) (e:=147) rfl (by show 3<8;decide) (by rw[f];exact Tryz.underlying142) ?_;intro b g;refine nC (t:=b) rfl (λh=>?_) (λh=>?_)
 .subst h;cases g rfl;refine ei (kg (Sp:=λ_=>none) rfl rfl (nZ ?_));refine⟨⟨[.v (.c .dead),.v (.c .dead),.v (.c (.own 0)),.v (.c .dead),.v (.c .dead),.v (.c .dead),.v (.c .dead),.v (.c .dead)],[(0,.row 147 [])],[],16⟩,kP.le (ι:=[]) (Z:=[0]) rfl ?_,trivial,rfl,λn b h=>h⟩;have c:X.k0=0:=a;rw[c,f];exact{
          bu:=rfl,old:=by simp[Ren.old],new:=by simp[Ren.new],zs:=λn d=>by
           simp at d;subst d;exact⟨by simp[Ren.new],eM _,by simp,147,rfl,eE kr⟩
          lt:=λx i=>by simp at i
          k0:=eM _
          tmps:=by
           refine⟨trivial,trivial,?_,trivial,trivial,trivial,trivial,trivial,trivial⟩;exact jX.2 rfl
          heap:=λn b h=>.inl (by
           simp only[fD,jS]at h;split at h
           .rename_i d;simp at d;subst d;simp
           .cases h)}
 .subst h;refine qa ?_;have j:fQ ((iF 3 40).a_ [.r rows])=some [.r rows]:=by
   simp[iF,bl.a_,Nd.ev,At.ev,L.bC,fQ];rw[bA ⟨om,om,rfl,hR⟩];rfl
  refine kO (uo iB .nil nF rfl (show qp TT [] (tB 142 "slices.go:362") 0 [.tmp 2] (uC false)=some ⟨iF 3 40,(.v (.c (.own 0))),[(0,(.row 147 (.v 1)))],1⟩by kernel_rfl) (ls:=[.r rows]) (os:=[.r rows]) rfl j f a) λe st h=>⟨st,λ_ _ h=>h,h⟩
def JB:=iv 3 40
def ajm:bw:=tV 122 147 3 40 2071
theorem VA:ajm.ok Tryz.prog:=by
 intro ls os d a c;have a:iv 3 40 ls=some os:=a;unfold iv at a;split at a
 .split at a
  .rename_i b;cases a;exact awX _ b.1 b.2
  .cases a
 .cases a
theorem aci(rows)(hR:ct 14 rows=true)(k:rows.length*240<=140737488355328):
 eC Tryz.prog 123 [.c (.p (.sl rows))] [] (.v (.c (.own 0))) [(0,.row 150 rows)]:=by
 refine eC.intro Tryz.func123 kr rfl rfl rfl λX f a=>mr ?_
 refine ei ?_;refine kg (Sp:=λ_=>none) rfl rfl ?_;refine ei ?_;refine ei ?_;refine rL (rows:=rows) (e:=150) rfl (by show 3<8;decide) (by rw[f];exact Tryz.underlying58) ?_;intro b g;refine nC (t:=b) rfl (λh=>?_) (λh=>?_)
 .subst h;cases g rfl;refine ei (kg (Sp:=λ_=>none) rfl rfl (nZ ?_));refine⟨⟨[.v (.c .dead),.v (.c .dead),.v (.c (.own 0)),.v (.c .dead),.v (.c .dead),.v (.c .dead),.v (.c .dead),.v (.c .dead)],[(0,.row 150 [])],[],16⟩,kP.le (ι:=[]) (Z:=[0]) rfl ?_,trivial,rfl,λn b h=>h⟩;have c:X.k0=0:=a;rw[c,f];exact{
          bu:=rfl,old:=by simp[Ren.old],new:=by simp[Ren.new],zs:=λn d=>by
           simp at d;subst d;exact⟨by simp[Ren.new],eM _,by simp,150,rfl,eE kr⟩
          lt:=λx i=>by simp at i
          k0:=eM _
          tmps:=by
           refine⟨trivial,trivial,?_,trivial,trivial,trivial,trivial,trivial,trivial⟩;exact jX.2 rfl
          heap:=λn b h=>.inl (by
           simp only[fD,jS]at h;split at h
           .rename_i d;simp at d;subst d;simp
           .cases h)}
 .subst h;refine qa ?_;have j:fQ ((iF 14 240).a_ [.r rows])=some [.r rows]:=by
   simp[iF,bl.a_,Nd.ev,At.ev,L.bC,fQ];rw[bA ⟨om,om,rfl,hR⟩];rfl
  refine kO (uo iB .nil nF rfl (show qp TT [] (tB 58 "slices.go:362") 0 [.tmp 2] (uC false)=some ⟨iF 14 240,(.v (.c (.own 0))),[(0,(.row 150 (.v 1)))],1⟩by kernel_rfl) (ls:=[.r rows]) (os:=[.r rows]) rfl j f a) λe st h=>⟨st,λ_ _ h=>h,h⟩
def Cj:=iv 14 240
def abk:bw:=tV 123 150 14 240 2072
theorem Yu:abk.ok Tryz.prog:=by
 intro ls os d a c;have a:iv 14 240 ls=some os:=a;unfold iv at a;split at a
 .split at a
  .rename_i b;cases a;exact aci _ b.1 b.2
  .cases a
 .cases a
theorem ajR(rows)(hR:ct 1 rows=true)(k:rows.length*24<=140737488355328):
 eC Tryz.prog 125 [.c (.p (.sl rows))] [] (.v (.c (.own 0))) [(0,.row 95 rows)]:=by
 refine eC.intro Tryz.func125 kr rfl rfl rfl λX f a=>mr ?_
 refine ei ?_;refine kg (Sp:=λ_=>none) rfl rfl ?_;refine ei ?_;refine ei ?_;refine rL (rows:=rows) (e:=95) rfl (by show 3<8;decide) (by rw[f];exact Tryz.underlying29) ?_;intro b g;refine nC (t:=b) rfl (λh=>?_) (λh=>?_)
 .subst h;cases g rfl;refine ei (kg (Sp:=λ_=>none) rfl rfl (nZ ?_));refine⟨⟨[.v (.c .dead),.v (.c .dead),.v (.c (.own 0)),.v (.c .dead),.v (.c .dead),.v (.c .dead),.v (.c .dead),.v (.c .dead)],[(0,.row 95 [])],[],16⟩,kP.le (ι:=[]) (Z:=[0]) rfl ?_,trivial,rfl,λn b h=>h⟩;have c:X.k0=0:=a;rw[c,f];exact{
          bu:=rfl,old:=by simp[Ren.old],new:=by simp[Ren.new],zs:=λn d=>by
           simp at d;subst d;exact⟨by simp[Ren.new],eM _,by simp,95,rfl,eE kr⟩
          lt:=λx i=>by simp at i
          k0:=eM _
          tmps:=by
           refine⟨trivial,trivial,?_,trivial,trivial,trivial,trivial,trivial,trivial⟩;exact jX.2 rfl
          heap:=λn b h=>.inl (by
           simp only[fD,jS]at h;split at h
           .rename_i d;simp at d;subst d;simp
           .cases h)}
 .subst h;refine qa ?_;have j:fQ ((iF 1 24).a_ [.r rows])=some [.r rows]:=by
   simp[iF,bl.a_,Nd.ev,At.ev,L.bC,fQ];rw[bA ⟨om,om,rfl,hR⟩];rfl
  refine kO (uo iB .nil nF rfl (show qp TT [] (tB 29 "slices.go:362") 0 [.tmp 2] (uC false)=some ⟨iF 1 24,(.v (.c (.own 0))),[(0,(.row 95 (.v 1)))],1⟩by kernel_rfl) (ls:=[.r rows]) (os:=[.r rows]) rfl j f a) λe st h=>⟨st,λ_ _ h=>h,h⟩
def PS:=iv 1 24
def avu:bw:=tV 125 95 1 24 2073
theorem anJ:avu.ok Tryz.prog:=by
 intro ls os d a c;have a:iv 1 24 ls=some os:=a;unfold iv at a;split at a
 .split at a
  .rename_i b;cases a;exact ajR _ b.1 b.2
  .cases a
 .cases a
theorem anK{s:bw}(h:s.ok Tryz.prog)(f:s.H=[])(g:s.res=.v (.c (.sub 0 (.i 0) (.i 0)))){e x}(i:s.out=[(0,.row e x)])(b):
 bw.ok Tryz.prog ⟨s.f,s.params,[],s.gW,0,.v (.c (.own 0)),[(0,.row e .r0)],λls=>match s.F ls with|some os=>if os.length=s.jz then some []else none|none=>none,b⟩:=by
 intro ls os j a k;have a:(match s.F ls with|some os=>if os.length=s.jz then some []else none|none=>none)=some os:=a;split at a
 .rename_i c d;split at a
  .rename_i hlen;cases a;have:=h ls c j d hlen;rw[f,g,i]at this;exact eC.ayA this
  .cases a
 .cases a
def C.eR(rows:List (List PV)):C->Option C
 |.own 0=>some (.p (.sl rows))
 |.p q=>some (.p q)
 |.nil=>some .nil
 |_=>none
def V1.eR(rows:List (List PV)):V1->Option V1
 |.c y=>(y.eR rows).map .c
 |.agg cs=>(cs.mapM (C.eR rows)).map .agg
def V.eR(rows:List (List PV)):V->Option V
 |.v x=>(x.eR rows).map .v
 |.bL xs=>(xs.mapM (V1.eR rows)).map .bL
theorem mapM_at{α g:Type}{f}:∀{l:List α}{m},l.mapM f=some m->m.length=l.length/\∀(i:Nat)(y:g),m[i]?=some y->∃x,l[i]?=some x/\f x=some y
 |[],m,h=>by simp at h;subst h;simp
 |a::l,m,h=>by
  cases c:f a with
  |none=>simp[c]at h
  |some b=>
   cases d:l.mapM f with
   |none=>simp[c,d]at h
   |some bs=>
    simp[c,d]at h;subst h;obtain⟨k1,k2⟩:=mapM_at d;refine⟨by simp[k1],λi y e=>?_⟩
    match i with
    |0=>simp at e;subst e;exact⟨a,rfl,c⟩
    |i+1=>simpa using k2 i y e
theorem eC.eR{P f args e rows r r'}(h:eC P f args [] r [(0,.row e rows)])(k:r.eR rows=some r'):eC P f args [] r' []:=by
 refine⟨h.own,λw M N vals h1 h2 h3 h4 h5 h6 h7=>(h.call w M N vals h1 h2 h3 h4 h5 h6 h7).mono ?_⟩;rintro _ w' ⟨v,E',rfl,K,G,hH,hv⟩;obtain⟨x,cur,fz,k1,aa,k2,k3,k4,k5,k6,k7,k8,k9,O,R⟩:=hH 0 _ rfl;have S:iK (bad M E') (bad M ⟨λ_=>none,[]⟩) w' w':=λg o u q1 q2=>⟨q1,λq3=>q2 (by
  rcases q3 with q3| ⟨n,z,q4,_⟩
  .exact .inl q3
  .cases q4)⟩
 have hC :∀c t u,RC M E' w' c u->c.eR rows=some t->RC M ⟨λ_=>none,[]⟩ w' t u:=λc t v F a=>by
  unfold C.eR at a;split at a
  .cases a;obtain⟨y,j1,j2⟩:=cW.get (show RC M E' w' (.own 0) v from F) (by rw[G.bu];simp);rw[k1]at j1;cases j1;rw[j2];by_cases h0:rows=[]
   .subst h0;rw[k3];exact .nil
   .cases T:x.g with
    |none=>
     have:=O T;have:rows.length=0:=om;exact absurd (mN this) h0
    |some g=>
     have hr:=LP (M:=bad M E') (o:=0) (k2 g T) om k5 k9 (λi r j p H hj=>by simpa using R i r j p H hj);rw[k3];refine Rows.rp hr (λg' U=>by
      rcases U with q| ⟨n,z,q,_⟩
      .exact .inl q
      .cases q) ?_
     rintro g' o n c he I;obtain⟨⟨rfl,rfl⟩,_⟩:=he;rcases I with I| ⟨n,z,q,_⟩
     .have:=h1 g I;rcases(G.names 0 x g k1 T).2 with⟨m,z,q,_⟩|q
      .exact absurd (h2 m z q) (rn m)
      .omega
     .cases q
  .cases a;exact RP.trans F S
  .cases a;exact F
  .cases a
 have J:∀c t u,eB M E' w' c u->c.eR rows=some t->eB M ⟨λ_=>none,[]⟩ w' t u:=λc t v F a=>by
  cases c with
  |c c=>
   simp only[V1.eR,bY]at a;obtain⟨d,B,rfl⟩:=a;exact hC _ _ _ F B
  |agg cs=>
   simp only[V1.eR,bY]at a;obtain⟨d,B,rfl⟩:=a;obtain⟨us,rfl,D,E⟩:=F;obtain⟨W,Y⟩:=mapM_at B;refine⟨us,rfl,by rw[W];exact D,λi c H=>?_⟩;obtain⟨c0,e0,Z⟩:=Y i c H;obtain⟨u,q1,q2,q3⟩:=E i c0 e0;exact⟨u,q1,hC _ _ _ q2 Z,q3⟩
 refine⟨v,⟨λ_=>none,[]⟩,rfl,K,⟨rfl,λn z g k=>(by cases k),λn m z z' g k=>(by cases k),λm hm=>absurd hm (rn m)⟩,λn b I=>(by cases I),?_⟩
 cases r with
 |v c=>
  simp only[V.eR,bY]at k;obtain⟨d,B,rfl⟩:=k;exact J _ _ _ hv B
 |bL xs=>
  simp only[V.eR,bY]at k;obtain⟨d,B,rfl⟩:=k;obtain⟨us,rfl,D,E⟩:=hv;obtain⟨W,Y⟩:=mapM_at B;refine⟨us,rfl,by rw[W];exact D,λi c H=>?_⟩;obtain⟨c0,e0,Z⟩:=Y i c H;obtain⟨u,q1,q2⟩:=E i c0 e0;exact⟨u,q1,J _ _ _ q2 Z⟩
def SC.eR(x:At):SC->SC
 |.own 0=>.p .sl x
 |c=>c
def bK.eR(x:At):bK->bK
 |.c y=>.c (y.eR x)
 |.agg cs=>.agg (cs.map (SC.eR x))
def SV.eR(x:At):SV->SV
 |.v y=>.v (y.eR x)
 |.bL ys=>.bL (ys.map (bK.eR x))
def SC.og:SC->Bool
 |.own 0=>true| .p _ _=>true| .nil=>true|_=>false
def bK.og:bK->Bool
 |.c y=>y.og| .agg cs=>cs.all SC.og
def SV.og:SV->Bool
 |.v y=>y.og| .bL ys=>ys.all bK.og
theorem mapM_map{α c e d:Type}{g g'}{F:e->Option d}{s:α->c}{l:List α}(h:∀a∈l,F (g a)=some (g' (s a))):(l.map g).mapM F=some ((l.map s).map g'):=by
 induction l with
 |nil=>rfl
 |cons a l ih=>simp[rk,h a iA,ih λb f=>h b (iz _ f)]
theorem SC.tu{ρ x}{c:SC}(h:c.og=true):(c.a_ ρ).eR (x.ev ρ).bC=some ((c.eR x).a_ ρ):=by
 unfold SC.og at h;split at h<;>first|rfl|cases h
theorem bK.tu{ρ x}{c:bK}(h:c.og=true):(c.a_ ρ).eR (x.ev ρ).bC=some ((c.eR x).a_ ρ):=by
 cases c with
 |c c=>show(C.eR _ _).map _=_;rw[SC.tu h];rfl
 |agg cs=>show Option.map _ (List.mapM _ (List.map _ _))=_;rw[mapM_map (s:=SC.eR x) (g':=SC.a_ ρ) λa d=>SC.tu (cz.1 h a d)];rfl
theorem SV.tu{ρ x}{c:SV}(h:c.og=true):(c.a_ ρ).eR (x.ev ρ).bC=some ((c.eR x).a_ ρ):=by
 cases c with
 |v c=>show(V1.eR _ _).map _=_;rw[bK.tu h];rfl
 |bL cs=>show Option.map _ (List.mapM _ (List.map _ _))=_;rw[mapM_map (s:=bK.eR x) (g':=bK.a_ ρ) λa d=>bK.tu (cz.1 h a d)];rfl
theorem mJ{P}{s:bw}(h:s.ok P)(c:s.H=[]){x e}(d:s.res.og=true)(f:s.out=[(0,.row e x)])(a):
 bw.ok P ⟨s.f,s.params,[],s.gW,s.jz,s.res.eR x,[],s.F,a⟩:=by
 intro ls os g i b;have:=h ls os g i b;rw[c,f]at this;exact eC.eR this (SV.tu d)
end
section
attribute [local irreducible] Fo
open Go.RowKit
def amf:bl:=.join (.ln U3<|.loop [.i 0] (.bI .lss U5 U4<|.ite U6 (.rw U3 U5 14<|.cl U7 0 (.int .i64)<|.cl U7 1 (.int .i64)<|.cl U7 2 (.int .i64)<|.cl U7 3 (.int .i64)<|.cl U7 4 .sl<|.cl U7 5 .sl<|.cl U7 6 .sl<|.cl U7 7 .sl<|.cl U7 8 .sl<|.cl U7 9 .sl<|.cl U7 10 .sl<|.cl U7 11 .sl<|.cl U7 12 (.int .i64)<|.cl U7 13 (.int .i64)<|.bI .eql bB (.i 2)<|.ite cj (.bp (.jump 2 ([.b true]++w 8 14))) (.bI .add U5 (.i 1)<|.j [cm])) (.bp (.jump 1 [])))) (.j [.b false,.i 0,.i 0,.i 0,.i 0,.r0,.r0,.r0,.r0,.r0,.r0,.r0,.r0,.i 0,.i 0])
def yo:=Fo amf
def anX:bw:=⟨126,[.agg [pi 0,pi 1,.p .bool U2,ps 3]],[],4,15,.bL [.agg (cI 5 4++dh 9 8++[pi 17,pi 18]),.c (.p .bool U4)],[],yo,661⟩
theorem Vz:Ok anX:=oS .nil
def Qj:bl:=.cA 2072 Cj [U3] 0<|.join (.ln U3<|.loop [.i 0,U3] (.bI .lss U5 U4<|.ite U7 (.rw U6 U5 14<|.op (.rc U6 U5 4 .sl)<|.cA 2000 kU [U9] 0<|.op (.set U6 U5 4 [(.sl,U9)])<|.op (.rc bB U5 5 .sl)<|.cA 2000 kU [bE] 0<|.op (.set bB U5 5 [(.sl,bE)])<|.op (.rc bG U5 6 .sl)<|.cA 2000 kU [bN] 0<|.op (.set bG U5 6 [(.sl,bN)])<|.op (.rc bP U5 7 .sl)<|.cA 2000 kU [bQ] 0<|.op (.set bP U5 7 [(.sl,bQ)])<|.op (.rc bU U5 8 .sl)<|.cA 2000 kU [bW] 0<|.op (.set bU U5 8 [(.sl,bW)])<|.op (.rc bT U5 9 .sl)<|.cA 2000 kU [cg] 0<|.op (.set bT U5 9 [(.sl,cg)])<|.op (.rc cp U5 10 .sl)<|.cA 2000 kU [cL] 0<|.op (.set cp U5 10 [(.sl,cL)])<|.op (.rc cj U5 11 .sl)<|.cA 2000 kU [cm] 0<|.op (.set cj U5 11 [(.sl,cm)])<|.bI .add U5 (.i 1)<|.j [ck,cr]) (.bp (.jump 1 [U6])))) (.j [U4])
def Ly:=Fo Qj
def Xk:bw:=⟨56,[.agg [pi 0,pi 1,.p .bool U2,ps 3]],[],4,1,.v (.agg [pi 0,pi 1,.p .bool U2,.own 0]),[(0,(.row 150 U4))],Ly,662⟩
theorem GX:Ok Xk:=oS (.cons Al (.cons Yu .nil))
def JK:List L->Option (List L):=Ly
def afK:bw:=⟨56,[.agg [pi 0,pi 1,.p .bool U2,ps 3]],[],4,1,.v (.agg [pi 0,pi 1,.p .bool U2,ps 4]),[],Ly,2053⟩
theorem Yg:afK.ok Tryz.prog:=mJ (s:=Xk) GX rfl (x:=(.v 4)) (e:=150) rfl rfl 2053
def Rt:bl:=.cA 2070 Fe [U2] 0<|.join (.ln U2<|.loop [.i 0,U2] (.bI .lss U4 U3<|.ite U6 (.rw U5 U4 3<|.op (.rc U5 U4 0 .str)<|.op (.rc U5 U4 1 .sl)<|.op (.rc U5 U4 2 .sl)<|.cA 2011 pj [U9] 0<|.cA 2071 JB [bB] 0<|.join (.ln bB<|.loop [.i 0,bB] (.bI .lss bG bE<|.ite bP (.rw bN bG 3<|.op (.rc bN bG 0 (.int .i64))<|.op (.rc bN bG 1 .sl)<|.op (.rc bN bG 2 .bool)<|.cA 2011 pj [bW] 0<|.rw bN bG 3<|.op (.set bN bG 1 [(.sl,bW)])<|.bI .add bG (.i 1)<|.j [cL,cp]) (.bp (.jump 1 [bN])))) (.rw U5 U4 3<|.op (.set U5 U4 0 [(.str,U8),(.sl,U9),(.sl,bE)])<|.bI .add U4 (.i 1)<|.j [bP,bN])) (.bp (.jump 1 [U5])))) (.j [U3])
def Nv:=Fo Rt
def RD:bw:=⟨55,[.agg [pi 0,pi 1,ps 2]],[],3,1,.v (.agg [pi 0,pi 1,.own 0]),[(0,(.row 144 U3))],Nv,663⟩
theorem ML:Ok RD:=oS (.cons uM (.cons Kt (.cons VA .nil)))
def LV:List L->Option (List L):=Nv
def akl:bw:=⟨55,[.agg [pi 0,pi 1,ps 2]],[],3,1,.v (.agg [pi 0,pi 1,ps 3]),[],Nv,2054⟩
theorem S7:akl.ok Tryz.prog:=mJ (s:=RD) ML rfl (x:=(.v 3)) (e:=144) rfl rfl 2054
def aqY:bl:=.join (.bI .geq U0 (.i 1)<|.ite bQ (.bI .leq U0 (.i 8)<|.j [bU]) (.j [.b false])) (.j [bQ])
def uJ:=Fo aqY
def arP:bw:=⟨26,[.agg (cI 0 7++[.p (.int .u32) U7,.p (.int .u32) U8,.p (.int .u32) U9,.p (.int .u32) bB,.p (.int .u32) bE,.p (.int .u32) bG,ps 13,ps 14])],[],15,1,.v (.c (.p .bool bQ)),[],uJ,664⟩
theorem Ky:Ok arP:=oS .nil
def aau:bl:=.op (.bi .neq .u64 U0 U0)<|.j [U1]
def F0:=Fo aau
def s0:bw:=⟨380,[.c (.p (.int .u64) U0)],[],1,1,.v (.c (.p .bool U1)),[],F0,0⟩
theorem ok0:Ok s0:=oS .nil
def Vq:bl:=.cA 0 F0 [U0] 1<|.cA 0 F0 [U1] 1<|.ite U2 (.ite U3 (.j [.i 0]) (.j [.i (-1)])) (.ite U3 (.j [.i 1]) (.op (.bi .lss .u64 U0 U1)<|.ite U4 (.j [.i (-1)]) (.op (.bi .gtr .u64 U0 U1)<|.ite U5 (.j [.i 1]) (.j [.i 0]))))
def F1:=Fo Vq
def s1:bw:=⟨350,[.c (.p (.int .u64) U0),.c (.p (.int .u64) U1)],[],2,1,.v (ci 2),[],F1,1⟩
theorem ok1:Ok s1:=oS (.cons ok0 .nil)
def agS:bl:=.cA 1 F1 [U0,U4] 1<|.j [U8]
def F6:=Fo agS
def s6:bw:=⟨349,[.agg [.p (.int .u64) U0,.p (.int .u32) U1,pi 2,pi 3],.agg [.p (.int .u64) U4,.p (.int .u32) U5,pi 6,pi 7]],[],8,1,.v (ci 8),[],F6,6⟩
theorem ud:Ok s6:=oS (.cons ok1 .nil)
def aaV:bl:=.op (.bi .mul .u64 U0 (.i 11400714819323198485))<|.op (.bi .shr .u64 U1 (.i 61))<|.op (.conv .i64 U2)<|.j [U3]
def IU:=Fo aaV
def s12:bw:=⟨253,[.c (.p (.int .u64) U0)],[],1,1,.v (ci 1),[],IU,12⟩
theorem aec:Ok s12:=oS .nil
def abq:bl:=.join (.bI .geq U2 (.i 16)<|.ite U4 (.bI .leq U2 (.i 1048576)<|.ite U5 (.bI .rem U2 (.i 8)<|.bI .eql U6 (.i 0)<|.ite U7 (.bI .geq U3 (.i 0)<|.ite U8 (.bI .leq U3 (.i 4096)<|.j [U9]) (.j [.b false])) (.j [.b false])) (.j [.b false])) (.j [.b false])) (.j [U4])
def F7:=Fo abq
def s7:bw:=⟨226,[.agg [.p (.int .u64) U0,.p (.int .u32) U1,pi 2,pi 3]],[],4,1,.v (.c (.p .bool U4)),[],F7,7⟩
theorem ok7:Ok s7:=oS .nil
def aao:bl:=.cA 7 F7 [U0,U1,U2,U3] 1<|.no U4<|.j [U5]
def F8:=Fo aao
def s8:bw:=⟨225,[.agg [.p (.int .u64) U0,.p (.int .u32) U1,pi 2,pi 3]],[],4,1,.v (.c (.p .bool U4)),[],F8,8⟩
theorem ok8:Ok s8:=oS (.cons ok7 .nil)
def aiq:bl:=.join (.ln U0<|.loop [.i 0] (.bI .lss U2 U1<|.ite U3 (.rw U0 U2 4<|.cl U4 0 (.int .u64)<|.cl U4 1 (.int .u32)<|.cl U4 2 (.int .i64)<|.cl U4 3 (.int .i64)<|.join (.bI .gtr U2 (.i 0)<|.ite U9 (.bI .sub U2 (.i 1)<|.rw U0 bB 4<|.cl bE 0 (.int .u64)<|.op (.bi .leq .u64 U5 bG)<|.j [bN]) (.j [.b false])) (.ite U9 (.bp (.jump 2 [.b false])) (.bI .add U2 (.i 1)<|.j [bB]))) (.bp (.jump 1 [])))) (.j [.b true])
def F9:=Fo aiq
def s9:bw:=⟨224,[cs 0],[],1,1,.v (.c (.p .bool U1)),[],F9,9⟩
theorem QS:Ok s9:=oS .nil
def avv:bl:=.join (.bI .lss U0 (.i 0)<|.ite U1 (.j [.b true]) (.bI .gtr U0 (.i 4096)<|.j [U2])) (.ite U1 (.j [.i 0]) (.bI .add (.i 20) U0<|.bI .add U2 (.i 4)<|.bI .add U3 (.i 8)<|.bI .sub U4 (.i 1)<|.bI .quo U5 (.i 8)<|.bI .mul U6 (.i 8)<|.j [U7]))
def F5:=Fo avv
def s5:bw:=⟨117,[ci 0],[],1,1,.v (ci 1),[],F5,5⟩
theorem D2:Ok s5:=oS .nil
def QG:bl:=.join (.ln U2<|.loop [.i 0,.r0] (.bI .lss U4 U3<|.ite U6 (.rw U2 U4 3<|.cl U7 0 .str<|.cl U7 1 .sl<|.cl U7 2 .sl<|.join (.ln bB<|.loop [.i 0,.r0] (.bI .lss bG bE<|.ite bP (.rw bB bG 3<|.cl bQ 0 (.int .i64)<|.cl bQ 1 .sl<|.cl bQ 2 .bool<|.op (.lit [[((.int .i64),bU),(.sl,bW),(.bool,bT)]])<|.op (.app bN cg 3 40)<|.bI .add bG (.i 1)<|.j [cL,cp]) (.bp (.jump 1 [bN])))) (.op (.lit [[(.str,U8),(.sl,U9),(.sl,bE)]])<|.op (.app U5 bG 3 64)<|.bI .add U4 (.i 1)<|.j [bP,bN])) (.bp (.jump 1 [U5])))) (.j [U3])
def Lw:=Fo QG
def WY:bw:=⟨15,[.agg [pi 0,pi 1,ps 2]],[],3,1,.v (.agg [pi 0,pi 1,.own 0]),[(0,(.row 144 U3))],Lw,18⟩
theorem IM:Ok WY:=oS .nil
def Mm:List L->Option (List L):=Lw
def anI:bw:=⟨15,[.agg [pi 0,pi 1,ps 2]],[],3,1,.v (.agg [pi 0,pi 1,ps 3]),[],Lw,2051⟩
theorem Vk:anI.ok Tryz.prog:=mJ (s:=WY) IM rfl (x:=(.v 3)) (e:=144) rfl rfl 2051
def atj:bl:=.cA 2000 kU [bN] 0<|.cA 2073 PS [bP] 0<|.join (.ln bP<|.loop [.i 0,bP] (.bI .lss bU bQ<|.ite bT (.rw bW bU 1<|.op (.rc bW bU 0 .sl)<|.cA 2011 pj [cp] 0<|.rw bW bU 1<|.op (.set bW bU 0 [(.sl,cp)])<|.bI .add bU (.i 1)<|.j [cm,cj]) (.bp (.jump 1 [bW])))) (.j [bQ])
def zj:=Fo atj
def ayZ:bw:=⟨57,[.agg (cI 0 7++[.p (.int .u32) U7,.p (.int .u32) U8,.p (.int .u32) U9,.p (.int .u32) bB,.p (.int .u32) bE,.p (.int .u32) bG,ps 13,ps 14])],[],15,1,.v (.agg (cI 0 7++[.p (.int .u32) U7,.p (.int .u32) U8,.p (.int .u32) U9,.p (.int .u32) bB,.p (.int .u32) bE,.p (.int .u32) bG,.own 0,.own 1])),[(0,(.row 164 bN)),(1,(.row 95 bQ))],zj,665⟩
theorem Kr:Ok ayZ:=oS (.cons Al (.cons uM (.cons anJ .nil)))
def aqJ:bl:=.op (.call 665 zj (w 0 15) 1 [])<|.join (.bI .eql U0 (.i 0)<|.ite bU (.j [.i 1]) (.j [U0])) (.j [bU,bQ])
def EK:=Fo aqJ
def aap:bw:=⟨24,[.agg (cI 0 7++[.p (.int .u32) U7,.p (.int .u32) U8,.p (.int .u32) U9,.p (.int .u32) bB,.p (.int .u32) bE,.p (.int .u32) bG,ps 13,ps 14])],[],15,2,.v (.agg ([pi 15]++cI 1 6++[.p (.int .u32) U7,.p (.int .u32) U8,.p (.int .u32) U9,.p (.int .u32) bB,.p (.int .u32) bE,.p (.int .u32) bG,.own 0,.own 1])),[(0,(.row 164 bN)),(1,(.row 95 bU))],EK,666⟩
theorem R4:Ok aap:=oS (.cons Kr .nil)
def axR:bl:=.j []
def my:=Fo axR
def alw:bw:=⟨30,[],[],0,0,.v (.agg [.p (.int .i64) (.i 0),.p (.int .i64) (.i 0),.p (.int .i64) (.i 0),.p (.int .i64) (.i 0),.p (.int .i64) (.i 0),.p (.int .i64) (.i 0),.p (.int .i64) (.i 0),.p (.int .u32) (.i 0),.p (.int .u32) (.i 0),.p (.int .u32) (.i 0),.p (.int .u32) (.i 0),.p (.int .u32) (.i 0),.p (.int .u32) (.i 0),.nil,.nil]),[],my,667⟩
theorem CW:Ok alw:=oS .nil
def anS:bl:=.join (.loop [.i 0,.i 0] (.bI .lss U3 (.i 8)<|.ite U4 (.join (.op (.conv .u64 U3)<|.op (.bi .shr .u8 U1 U5)<|.op (.bi .and .u8 U6 (.i 1))<|.op (.bi .eql .u8 U7 (.i 1))<|.ite U8 (.op (.conv .i64 U0)<|.op (.conv .u64 U3)<|.bI .shl U9 bB<|.bI .xor U2 bE<|.j [bG]) (.j [U2])) (.bI .add U3 (.i 1)<|.j [U5,U6])) (.bp (.jump 1 [U2])))) (.join (.loop [U2,.i 14] (.bI .geq U4 (.i 8)<|.ite U5 (.join (.op (.conv .u64 U4)<|.bI .shr U3 U6<|.bI .and U7 (.i 1)<|.bI .eql U8 (.i 1)<|.ite U9 (.bI .sub U4 (.i 8)<|.op (.conv .u64 bB)<|.bI .shl (.i 285) bE<|.bI .xor U3 bG<|.j [bN]) (.j [U3])) (.bI .sub U4 (.i 1)<|.j [U6,U7])) (.bp (.jump 1 [U3])))) (.op (.conv .u8 U3)<|.j [U4]))
def oE:=Fo anS
def s19:bw:=⟨370,[.c (.p (.int .u8) U0),.c (.p (.int .u8) U1)],[],2,1,.v (.c (.p (.int .u8) U2)),[],oE,19⟩
theorem AA:Ok s19:=oS .nil
def Wv:bl:=.join (.bI .geq U0 (.i 1)<|.ite U2 (.bI .leq U0 (.i 16)<|.ite U3 (.bI .geq U1 (.i 1)<|.ite U4 (.bI .leq U1 (.i 16)<|.j [U5]) (.j [.b false])) (.j [.b false])) (.j [.b false])) (.j [U2])
def lR:=Fo Wv
def s22:bw:=⟨369,[ci 0,ci 1],[],2,1,.v (.c (.p .bool U2)),[],lR,22⟩
theorem zt:Ok s22:=oS .nil
def X_:bl:=.cA 22 lR [U0,U1] 1<|.no U2<|.ite U3 (.j [.i 1,.i 0,.i 0,.r0]) (.join (.loop [.i 0,.r0] (.bI .lss U4 U0<|.ite U6 (.join (.loop [.i 1,.i 0,U5] (.bI .lss U8 U1<|.ite bB (.op (.lit [[((.int .u8),U7)]])<|.op (.app U9 bE 1 1)<|.op (.conv .u8 U4)<|.cA 19 oE [U7,bN] 1<|.bI .add U8 (.i 1)<|.j [bP,bQ,bG]) (.bp (.jump 1 [U9])))) (.bI .add U4 (.i 1)<|.j [U8,U7])) (.bp (.jump 1 [U5])))) (.j [.i 0,U0,U1,U4]))
def DM:=Fo X_
def s23:bw:=⟨334,[ci 0,ci 1],[],2,4,.bL [.agg [pi 3,pi 4,.own 0],ci 2],[(0,(.row 5 U5))],DM,23⟩
theorem ata:Ok s23:=oS (.cons zt (.cons AA .nil))
def agj:bl:=.ln U0<|.bI .neq U2 U1<|.ite U3 (.j [.b false]) (.join (.loop [.i 0] (.bI .lss U4 U1<|.ite U5 (.rw U0 U4 1<|.cl U6 0 .sl<|.ln U7<|.rw U0 (.i 0) 1<|.cl U9 0 .sl<|.ln bB<|.bI .neq U8 bE<|.ite bG (.bp (.jump 2 [.b false])) (.bI .add U4 (.i 1)<|.j [bN])) (.bp (.jump 1 [])))) (.j [.b true]))
def ID:=Fo agj
def s26:bw:=⟨250,[cs 0,ci 1],[],2,1,.v (.c (.p .bool U2)),[],ID,26⟩
theorem ayT:Ok s26:=oS .nil
def axr:bl:=.join (.loop [.i 0,.i 0] (.ln U0<|.bI .lss U2 U3<|.ite U4 (.op (.bi .shl .u64 U1 (.i 8))<|.rw U0 U2 1<|.cl U6 0 (.int .u8)<|.op (.conv .u64 U7)<|.op (.bi .or .u64 U5 U8)<|.bI .add U2 (.i 1)<|.j [U9,bB]) (.bp (.jump 1 [U1])))) (.j [U1])
def AX:=Fo axr
def s40:bw:=⟨91,[cs 0],[],1,1,.v (.c (.p (.int .u64) U1)),[],AX,40⟩
theorem agW:Ok s40:=oS .nil
def auI:bl:=.join (.ln U3<|.bI .leq U4 (.i 4096)<|.ite U5 (.ite U2 (.ln U3<|.bI .gtr U6 (.i 0)<|.no U7<|.j [U8]) (.no (.b false)<|.j [U6])) (.j [.b false])) (.j [U4])
def Ds:=Fo auI
def s43:bw:=⟨176,[.agg [.p (.int .u64) U0,.p (.int .u32) U1,.p .bool U2,ps 3]],[],4,1,.v (.c (.p .bool U4)),[],Ds,43⟩
theorem XX:Ok s43:=oS .nil
def abf:bl:=.join (.ln U0<|.bI .sub U2 (.i 1)<|.loop [U3] (.bI .geq U4 (.i 0)<|.ite U5 (.rw U0 U4 4<|.cl U6 0 (.int .u64)<|.op (.bi .eql .u64 U7 U1)<|.ite U8 (.rw U0 U4 4<|.cl U9 0 (.int .u64)<|.cl U9 1 (.int .u32)<|.cl U9 2 (.int .i64)<|.cl U9 3 (.int .i64)<|.bp (.jump 2 ([.b true]++w 10 4))) (.bI .sub U4 (.i 1)<|.j [U9])) (.bp (.jump 1 [])))) (.j [.b false,.i 0,.i 0,.i 0,.i 0])
def Mn:=Fo abf
def s45:bw:=⟨219,[cs 0,.c (.p (.int .u64) U1)],[],2,5,.bL [.agg [.p (.int .u64) U3,.p (.int .u32) U4,pi 5,pi 6],.c (.p .bool U2)],[],Mn,45⟩
theorem aoH:Ok s45:=oS .nil
def Sa:bl:=.join (.loop [.i 0,.r0] (.join (.ln U0<|.bI .lss U2 U4<|.ite U5 (.bI .lss U2 U1<|.j [U6]) (.j [.b false])) (.ite U4 (.rw U0 U2 4<|.cl U5 0 (.int .u64)<|.cl U5 1 (.int .u32)<|.cl U5 2 .bool<|.cl U5 3 .sl<|.join (.ln U9<|.bI .gtr bB (.i 30)<|.ite bE (.ln U9<|.op (.part U9 (.i 0) (.i 30) 1)<|.j [bN]) (.j [U9])) (.join (.ite U8 (.j [.r0]) (.j [bB])) (.op (.bi .and .u64 U6 (.i 7))<|.op (.bi .and .u32 U7 (.i 3))<|.op (.lit [[((.int .u64),bG),((.int .u32),bN),(.bool,U8),(.sl,bE)]])<|.op (.app U3 bP 4 40)<|.bI .add U2 (.i 1)<|.j [bU,bQ]))) (.bp (.jump 1 [U3]))))) (.j [U2])
def Jt:=Fo Sa
def Ry:bw:=⟨48,[cs 0,ci 1],[],2,1,.v (.c (.own 0)),[(0,(.row 97 U2))],Jt,59⟩
theorem Hr:Ok Ry:=oS .nil
def MH:List L->Option (List L):=Jt
def aky:bw:=⟨48,[cs 0,ci 1],[],2,1,.v (cs 2),[],Jt,2004⟩
theorem PI:aky.ok Tryz.prog:=mJ (s:=Ry) Hr rfl (x:=(.v 2)) (e:=97) rfl rfl 2004
def ahW:bl:=.join (.loop [.b false,.i 0,.r0] (.ln U2<|.bI .lss U7 U9<|.ite bB (.join (.join (.join (.no U6<|.ite bE (.rw U2 U7 3<|.cl bG 0 .str<|.op (.bs .geq bN U3)<|.j [bP]) (.j [.b false])) (.ite bE (.op (.lit [[(.str,U3),(.sl,U4),(.sl,U5)]])<|.op (.app U8 bG 3 64)<|.j [.b true,bN]) (.j [U6,U8]))) (.rw U2 U7 3<|.cl bN 0 .str<|.op (.bs .neq bP U3)<|.ite bQ (.rw U2 U7 3<|.cl bU 0 .str<|.cl bU 1 .sl<|.cl bU 2 .sl<|.op (.lit [[(.str,bW),(.sl,bT),(.sl,cg)]])<|.op (.app bG cp 3 64)<|.j [bE,cL]) (.j [bE,bG]))) (.bI .add U7 (.i 1)<|.j [bE,bN,bG])) (.bp (.jump 1 [U6,U8])))) (.join (.no U6<|.ite U8 (.op (.lit [[(.str,U3),(.sl,U4),(.sl,U5)]])<|.op (.app U7 U9 3 64)<|.j [bB]) (.j [U7])) (.j [U8]))
def JV:=Fo ahW
def s30:bw:=⟨192,[.agg [pi 0,pi 1,ps 2],.agg [.p .str U3,ps 4,ps 5]],[],6,1,.v (.agg [pi 0,pi 1,.own 0]),[(0,(.row 141 U6))],JV,30⟩
theorem aoE:Ok s30:=oS .nil
def azS:bl:=.op (.lit [])<|.op (.app U3 U2 3 64)<|.join (.bI .gtr U1 (.i 0)<|.ite U5 (.bI .sub U1 (.i 1)<|.j [U6]) (.j [U1])) (.j [U5,U4])
def wy:=Fo azS
def s31:bw:=⟨191,[.agg [pi 0,pi 1,ps 2]],[],3,2,.v (.agg [pi 0,pi 3,.own 0]),[(0,(.row 141 U4))],wy,31⟩
theorem Eo:Ok s31:=oS .nil
end
section
open Go.RowKit
open Classical
theorem piece{C}(d:eP.ok Tryz.prog C){c k0 n r ex S b u ρ a e}(h:exec TT C k0 c n ex r S=some u)(f:S.bu=[])(g:ρ.length=S.nv)(i:u.a_ ρ=some (.st e b,a)){X}(j:X.P=Tryz.prog)(k:X.k0=k0):
 b.bu=[]/\b.nv=a.length/\Aw X c (λl st=>l=e.to/\st=b.a_ a) (S.a_ ρ):=by
 obtain⟨s,t,m,o,v,p,q⟩:=lB iB d nF c f h ρ _ a g i;cases m;exact⟨p,o,q X j k _ ⟨rfl,rfl⟩⟩
end
end
end Go.Proofs.YtiikkkhcolcebaaGreatDoor
