/- A part. -/
import Derived.Test.YtndegphojkiblaaGreatDoorG16
set_option linter.all false
set_option maxHeartbeats 4000000
set_option maxRecDepth 100000
namespace Go.Proofs.YtndegphojkiblaaGreatDoor
noncomputable section
section
open Go.RowKit
open Classical
def pS:Code->Nat->Option (Array Oper)
 |.region id ops _,k=>if id=k then some ops else none
 |.seq a b,k=>(pS a k).or (pS b k)
 |.cond _ a b,k=>(pS a k).or (pS b k)
 |.block _ c,k=>pS c k
 |.rangeFunc _ _ a b,k=>(pS a k).or (pS b k)
 |_,_=>none
def a54(k:Nat):Array Oper:=(Tryz.f54.body.bind λc=>pS c k).getD #[]
def vj:Code:=(Code.region 1 (a54 1) false).seq (.cond (.tmp 24) ((Code.region 2 (a54 2) false).seq .ret) .skip)
def B0:Code:=.block 1 ((Code.region 5 (a54 5) false).seq ((Code.region 6 (a54 6) false).seq (.cond (.tmp 37) ((Code.region 7 (a54 7) false).seq .ret) .skip)))
def adN:Code:=.rangeFunc (.tmp 26) #[27] (.region 4 (a54 4) false) B0
def c54:Code:=(Code.region 0 (a54 0) false).seq (vj.seq (((Code.region 3 (a54 3) false).seq (.block 0 adN)).seq ((Code.region 8 (a54 8) false).seq .ret)))
theorem aoA:Tryz.f54.body=some c54:=kr
def zL:SV:=.v (.c .dead)
def pR:List SC:=[0,1,2,3].map (λn=>SC.p (.int .i64) (.v n))++[4,5,6,7,8,9].map (λn=>SC.p (.int .u32) (.v n))++[.p .sl (.v 10)]
def x4(n:Nat):List SC:=[.p (.int .u64) (.v n),.p (.int .u32) (.v (n+1)),.p (.int .i64) (.v (n+2)),.p (.int .i64) (.v (n+3))]
def aae(F:List L->Option (List L))(t:Nat):bB:=⟨105,[.agg pR,.c (.p .sl (.v 11)),.c (.p .sl (.v 12))],[],13,1,.v (.c (.p .bool (.v 13))),[],F,t⟩
def acb(F:List L->Option (List L))(t:Nat):bB:=⟨106,[.c (.p .sl (.v 0)),.agg (x4 1)],[],5,1,.v (.c (.p .bool (.v 5))),[],F,t⟩
def aaH(F:List L->Option (List L))(t:Nat):bB:=⟨107,[],[],0,0,.v (.c (.fn 163 [])),[],F,t⟩
def QC(F:List L->Option (List L))(t:Nat):bB:=⟨108,[.agg pR,.c (.p .sl (.v 11)),.c (.p .sl (.v 12)),.c (.p .sl (.v 13)),.agg (x4 14)],[],18,5,.bq [.agg [.p (.int .u64) (.v 19),.p (.int .u32) (.v 20),.p .bool (.v 21),.own 0],.c (.p .bool (.v 18))],[(0,.row 5 (.v 22))],F,t⟩
def kM(F105 F106 F107 F108:List L->Option (List L))(t105 t106 t107 t108:Nat):dt:=[aae F105 t105,acb F106 t106,aaH F107 t107,QC F108 t108]
def p_:dt:=kM (λ_=>none) (λ_=>none) (λ_=>none) (λ_=>none) 0 0 0 0
def vv:List SV:=List.replicate 4 zL++([.v (.c (.ptr 0 0)),.v (.c (.ptr 1 0)),.v (.c (.ptr 2 0)),.v (.c (.ptr 3 0)),.v (.c (.ptr 4 0)),.v (.c (.ptr 5 0))]++(List.replicate 16 zL++(.v (.c (.fn 163 []))::List.replicate 13 zL)))
def Vx:dh:=[(0,.box pR),(1,.box [.p .sl (.v 11)]),(2,.box [.p .sl (.v 12)]),(3,.box (x4 13))]
def jF:bp:=⟨vv,Vx++[(4,.box [.p (.int .u64) (.i 0),.p (.int .u32) (.i 0),.p .bool (.b false),.nil]),(5,.box [.p (.int .i64) (.i 0)])],[],6,17⟩
def w8:bp:=⟨vv.set 27 (.v (.c (.p .sl (.v 17)))),jF.heap,[],6,18⟩
def zE:bp:=⟨vv,Vx++[(4,.box [.p (.int .u64) (.v 17),.p (.int .u32) (.v 18),.p .bool (.v 19),.own 6]),(5,.box [.p (.int .i64) (.i 0)]),(6,.row 5 (.v 20))],[],7,21⟩
def zl:bp:=⟨List.replicate 8 zL++(.v (.c (.ptr 1 0)):: .v (.c (.ptr 2 0))::List.replicate 30 zL),[(1,.box [.p (.int .u64) (.v 17),.p (.int .u32) (.v 18),.p .bool (.v 19),.own 0]),(2,.box [.p (.int .i64) (.v 20)]),(0,.row 5 (.v 21))],[],3,22⟩
def a8.nx(e:Bool):a8->Option bp
 |.br (.st .normal S)=>if e then none else some S
 |.br (.st .ret S)=>if e then some S else none
 |.br _=>none
 |.op _ k=>k.nx e
 |.ite _ a b=>(a.nx e).or (b.nx e)
 |.join _ b=>b.nx e
 |.loop _ _=>none
def nx(e:Bool)(o:Option a8):bp:=(o.bind (a8.nx e)).getD default
def xS:bp:=rF 40 17 [.agg pR,.c (.p .sl (.v 11)),.c (.p .sl (.v 12)),.agg (x4 13)] []
def yC:bp:=nx false (er TT p_ (a54 0) false xS)
def Ag:bp:=nx false (exec TT p_ 0 vj 0xFFFFFFFFFF [] 768 yC)
def zV:bp:=nx true (exec TT p_ 0 vj 0xFFFFFFFFFF [] 768 yC)
def DL:bp:=nx false (er TT p_ (a54 3) false Ag)
def wV:bp:=nx false (er TT p_ (a54 4) false w8)
def Aj:bp:=nx false (er TT p_ (a54 5) false wV)
def yq:bp:=nx false (er TT p_ (a54 6) false Aj)
def RN:bp:=nx false (er TT p_ (a54 7) false yq)
def O3:bp:=nx false (er TT p_ (a54 8) false jF)
section
variable(F105 F106 F107 F108:List L->Option (List L))(t105 t106 t107 t108:Nat)
theorem ajK:er TT (kM F105 F106 F107 F108 t105 t106 t107 t108) (a54 0) false xS=some (.br (.st .normal yC)):=kr
def sZ:a8:=.join (.op (.call t105 F105 [.v 0,.v 1,.v 2,.v 3,.v 4,.v 5,.v 6,.v 7,.v 8,.v 9,.v 10,.v 11,.v 12] 1 []) (.op (.not (.v 17)) (.ite (.v 18) (.br (.jump 0 [.v 17,.v 18,.b true,.b true])) (.op (.call t106 F106 [.v 10,.v 13,.v 14,.v 15,.v 16] 1 []) (.op (.not (.v 19)) (.br (.jump 0 [.v 17,.v 18,.b false,.v 20]))))))) (.ite (.v 20) (.br (.st .ret zV)) (.br (.st .normal Ag)))
theorem abU:exec TT (kM F105 F106 F107 F108 t105 t106 t107 t108) 0 vj 0xFFFFFFFFFF [] 768 yC=some (sZ F105 F106 t105 t106):=kr
theorem aeS:er TT (kM F105 F106 F107 F108 t105 t106 t107 t108) (a54 3) false Ag=some (.op (.call t107 F107 [] 0 []) (.br (.st .normal DL))):=kr
theorem amo:er TT (kM F105 F106 F107 F108 t105 t106 t107 t108) (a54 4) false w8=some (.br (.st .normal wV)):=kr
def MT:Nd:=.call t108 F108 [.v 0,.v 1,.v 2,.v 3,.v 4,.v 5,.v 6,.v 7,.v 8,.v 9,.v 10,.v 11,.v 12,.v 17,.v 13,.v 14,.v 15,.v 16] 5 []
theorem avi:er TT (kM F105 F106 F107 F108 t105 t106 t107 t108) (a54 5) false wV=some (.op (MT F108 t108) (.br (.st .normal Aj))):=kr
theorem avo:er TT (kM F105 F106 F107 F108 t105 t106 t107 t108) (a54 6) false Aj=some (.br (.st .normal yq)):=kr
theorem anu:er TT (kM F105 F106 F107 F108 t105 t106 t107 t108) (a54 7) false yq=some (.br (.st .normal RN)):=kr
theorem agV:er TT (kM F105 F106 F107 F108 t105 t106 t107 t108) (a54 8) false jF=some (.br (.st .normal O3)):=kr
end
theorem auc:jmp TT 0 17 jF 0 .normal DL=some (.br (.jump 0 [])):=kr
theorem akB:jmp TT 6 17 jF 0 .normal yq=some (.br (.jump 0 [])):=kr
theorem ajg:jmp TT 6 17 zE 0 .normal RN=some (.br (.jump 0 [.v 19,.v 20,.v 21,.v 22])):=kr
theorem arq:jmp TT 0 17 zl 0 .normal zV=some (.br (.jump 0 [.i 0,.i 0,.b false,.i 1,.r0])):=kr
theorem afL:jmp TT 0 17 zl 0 .normal O3=some (.br (.jump 0 [.i 0,.i 0,.b false,.i 11,.r0])):=kr
theorem aiN:jmp TT 0 17 zl 0 .normal zE=some (.br (.jump 0 [.v 17,.v 18,.v 19,.i 0,.v 20])):=kr
def y6(ls:List L)(sk:List (List PV)):List L:=ls.take 13++ .r sk::ls.drop 13
def mZ:List (List Nat):=[[],[0],[1],[2],[3],[4],[5],[0,1],[0,2],[0,3],[0,4],[0,5],[1,2],[1,3],[1,4],[1,5],[2,3],[2,4],[2,5],[3,4],[3,5],[4,5]]
def kv(k:Nat):List (List PV):=(mZ.getD k []).map λa=>[.sc (.int .i64 (a:Nat))]
theorem apM:∀a,a<6->mZ.getD (1+a) []=[a]:=by decide
theorem afK:∀b,b<6->∀a,a<b->mZ.getD (tb a+(b-a-1)) []=[a,b]/\tb a+(b-a-1)<22:=by decide
def kP(F108:List L->Option (List L))(ls:List L):Nat->Nat->Option (List L)
 |0,_=>some [.i 0,.i 0,.b false,.i 11,.r []]
 |n+1,k=>match F108 (y6 ls (kv k))with
  |some [ok,a,b,c,r]=>if ok.ck=true then some [a,b,c,.i 0,r]else kP F108 ls n (k+1)
  |_=>none
def wm(F105 F106 F107 F108:List L->Option (List L)):List L->Option (List L):=λls=>
 if ls.length=17 then match F105 (ls.take 13)with
  |some [ok]=>if ok.ck=true then match F106 (ls.drop 10|>.take 1|>.append (ls.drop 13))with
   |some [c]=>if c.ck=true then(if F107 []=some []then kP F108 ls 22 0 else none)else some [.i 0,.i 0,.b false,.i 1,.r []]
   |_=>none
   else some [.i 0,.i 0,.b false,.i 1,.r []]
  |_=>none
 else none
def Gg(F105 F106 F107 F108:List L->Option (List L))(tag:Nat):bB:=⟨54,[.agg pR,.c (.p .sl (.v 11)),.c (.p .sl (.v 12)),.agg (x4 13)],[],17,5,.bq [.agg [.p (.int .u64) (.v 17),.p (.int .u32) (.v 18),.p .bool (.v 19),.own 0],.c (.p (.int .i64) (.v 20))],[(0,.row 5 (.v 21))],wm F105 F106 F107 F108,tag⟩
variable{F105 F106 F107 F108:List L->Option (List L)}{t105 t106 t107 t108:Nat}
theorem alx{l n X Q st}(h:Q .ret st):iz l n X .ret Q st:=λ_ _ a=>wpIn_ret ⟨st,h,a⟩
theorem Dr{ρ o t n F xs}(h:F (xs.map (At.ev ρ))=some o)(a:o.length=n):Nd.ev ρ (.call t F xs n [])=some o:=by
 simp only[Nd.ev];simp_all
theorem aiK(j:dt.ok Tryz.prog (kM F105 F106 F107 F108 t105 t106 t107 t108)){ls}(k:ls.length=17){sk ok a b c r}(s:F108 (y6 ls sk)=some [ok,a,b,c,r]){X}(i:X.P=Tryz.prog)(q:X.k0=6){l d}:
 iz l d X B0 (λe st=>(ok.ck=false/\e=.normal/\st=jF.a6 ls)\/(ok.ck=true/\e=.ret/\st=zE.a6 (ls++[a,b,c,r]))) (wV.a6 (ls++[.r sk])):=by
 match ls,k with
 |[l0,l1,l2,l3,l4,l5,l6,l7,l8,l9,l10,l11,l12,l13,f,g,h],_=>
  have u:(a8.op (MT F108 t108) (.br (.st .normal Aj))).a6 ([l0,l1,l2,l3,l4,l5,l6,l7,l8,l9,l10,l11,l12,l13,f,g,h]++[.r sk])=some (.st .normal Aj,[l0,l1,l2,l3,l4,l5,l6,l7,l8,l9,l10,l11,l12,l13,f,g,h,.r sk,ok,a,b,c,r]):=by
   rw[a8.a6,show Nd.ev ([l0,l1,l2,l3,l4,l5,l6,l7,l8,l9,l10,l11,l12,l13,f,g,h]++[.r sk]) (MT F108 t108)=some [ok,a,b,c,r]from Dr (F:=F108) (n:=5) (xs:=[.v 0,.v 1,.v 2,.v 3,.v 4,.v 5,.v 6,.v 7,.v 8,.v 9,.v 10,.v 11,.v 12,.v 17,.v 13,.v 14,.v 15,.v 16]) s rfl];rfl
  refine OU (Zx (wK (pJ j kr (avi F105 F106 F107 F108 t105 t106 t107 t108) kr u i ?_)));refine wK (pJ j kr (avo F105 F106 F107 F108 t105 t106 t107 t108) kr (ρ':=[l0,l1,l2,l3,l4,l5,l6,l7,l8,l9,l10,l11,l12,l13,f,g,h,.r sk,ok,a,b,c,r]) rfl i ?_);refine UA (t:=ok.ck) ((bp.cL _ (show yq.arg (.tmp 37)=some (.v (.c (.p .bool (.v 18))))by kernel_rfl)).trans rfl) (λm=>?_) (λm=>?_)
  .refine wK (pJ j kr (anu F105 F106 F107 F108 t105 t106 t107 t108) kr (ρ':=[l0,l1,l2,l3,l4,l5,l6,l7,l8,l9,l10,l11,l12,l13,f,g,h,.r sk,ok,a,b,c,r]) rfl i ?_);refine alx ?_;obtain⟨o,v,j1,_,_,p⟩:=kB gf (ρ:=[l0,l1,l2,l3,l4,l5,l6,l7,l8,l9,l10,l11,l12,l13,f,g,h]) (ys:=[.r sk,ok,a,b,c,r]) rfl kr kr ajg rfl;cases j1;exact⟨_,p X i q,.inr ⟨m,rfl,rfl⟩⟩
  .refine abV ?_;obtain⟨o,v,j1,_,_,p⟩:=kB gf (ρ:=[l0,l1,l2,l3,l4,l5,l6,l7,l8,l9,l10,l11,l12,l13,f,g,h]) (ys:=[.r sk,ok,a,b,c,r]) rfl kr kr akB rfl;cases j1;exact⟨_,p X i q,.inl ⟨m,rfl,rfl⟩⟩
def Io(F108:List L->Option (List L))(ls os:List L)(Xb:Fx)(a:Act)(l D:Nat)(rec:Loop)(k:Nat)(W:cp):Prop:=
 ∃E,kP F108 ls (22-k) k=some os/\Rel Xb E (jF.a6 ls) a W/\E.off [l,D]/\W.heap[l]?=some (.loop rec)/\W.heap[D]?=some (.deferred (some []))
def WA(ls os:List L)(Xb:Fx)(d:Act)(l D:Nat)(rec:Loop)(W:cp):Prop:=
 ∃E a b c r,os=[a,b,c,.i 0,r]/\Rel Xb E (zE.a6 (ls++[a,b,c,r])) d W/\E.off [l,D]/\W.heap[l]?=some (.loop {rec with state:=.done,pending:=some .ret})/\W.heap[D]?=some (.deferred (some []))
theorem als(b:dt.ok Tryz.prog (kM F105 F106 F107 F108 t105 t106 t107 t108)){ls}(a:ls.length=17)(sk){X}(c:X.P=Tryz.prog){l d}:
 iz l d X (.region 4 (a54 4) false) (λe st=>e=.normal/\st=wV.a6 (ls++[.r sk])) (w8.a6 (ls++[.r sk])):=by
 have f:(ls++[L.r sk]).length=w8.nv:=by
  rw[ez,a];rfl
 refine pJ b kr (amo F105 F106 F107 F108 t105 t106 t107 t108) f (ρ':=ls++[.r sk]) (S':=wV) (e:=.normal) ?_ c ?_
 .rfl
 simp_all
theorem tJ(ls):(jF.a6 ls).tmps=vv.map (SV.a6 []):=kr
theorem tX(ls):(zE.a6 ls).tmps=vv.map (SV.a6 []):=kr
theorem tP0:(vv.map (SV.a6 [])).all (V.Fg 6)=true:=by rfl
theorem tP(ls):(jF.a6 ls).tmps.all (V.Fg 6)=true:=by exact tP0
theorem adK{ls}(a:ls.length=17)(sk):(jF.a6 ls).put (some 27) (.v (.c (.p (.sl sk))))=w8.a6 (ls++[.r sk]):=by
 match ls,a with
 |[l0,l1,l2,l3,l4,l5,l6,l7,l8,l9,l10,l11,l12,l13,b,c,d],_=>rfl
set_option maxHeartbeats 1000000 in
theorem anp(hC:dt.ok Tryz.prog (kM F105 F106 F107 F108 t105 t106 t107 t108)){ls os:List L}(y:ls.length=17)
 {Xb:Fx} (R:Xb.P=Tryz.prog) (U:Xb.k0=6) {E0:Env} {j:Act} {w0:cp} (h0:Rel Xb E0 (jF.a6 ls) j w0) (H:∀k,k<Xb.k0->E0.N k=Xb.N0 k) (V:j.defers=[])
 {l D:Nat} (al:D<l) (am:Xb.w0.heap.size<=l) {rec:Loop} (fn:FuncId)
 (i:rec={state:=.ready,pending:=none,fn,tmps:=j.tmps,params:= #[27],assign:=.region 4 (a54 4) false,body:=B0,defers:=D})
 (k:Nat) (hk:k<22) (E:Env) (W:cp) (v:cr) (Y:kP F108 ls (22-k) k=some os) (hR:Rel Xb E (jF.a6 ls) j W) (I:E.off [l,D]) (Z:W.heap[l]?=some (.loop rec)) (hd:W.heap[D]?=some (.deferred (some [])))
 (hv:RP (bad Xb.M E) W (.sl (kv k)) v):
 YieldAt Fence.wide 1 Tryz.prog l #[v] W (λe m=>(e=.returned (.bool true)/\Io F108 ls os Xb j l D rec (k+1) m)\/(e=.returned (.bool false)/\WA ls os Xb j l D rec m)):=by
 obtain⟨ok,a,b,c,r,z,f⟩:∃ok a b c r,F108 (y6 ls (kv k))=some [ok,a,b,c,r]/\(if ok.ck=true then some [a,b,c,.i 0,r]else kP F108 ls (22- (k+1)) (k+1))=some os:=by
  rw[show 22-k=(22- (k+1))+1 by omega,kP]at Y;grind
 have hy:=run_yield (P:=Tryz.prog) (args:= #[v]) Z (by rw[i];rfl);rw[i]at hy;refine⟨fn,_,_,_,hy,roundIn_of_wpIn trivial ?_⟩;have J:j=⟨j.tmps,[]⟩:=by
  cases j;subst V;rfl
 have hS:Rel Xb E (w8.a6 (ls++[.r (kv k)])) {tmps:=j.tmps.setIfInBounds 27 v,defers:=[]} W:=by
  rw[J]at hR;rw[<-adK y];exact hR.put (some 27) (v:=.v (.c (.p (.sl (kv k))))) hv
 have u:∀{m:cp},l<m.heap.size->∀g∈ [l,D],g<m.heap.size:=λh g hg=>by
  simp at hg;omega
 have aa:l<W.heap.size:=(fx.1 Z).1;have hput:∀(m:cp)(r1 r2:Loop),m.heap[l]?=some (.loop r1)->∀g o,m.heap[g]?=some o->(g<Xb.w0.heap.size\/o.isCells=true\/∃en c,o=.map en c)->(m.putObj l (.loop r2)).heap[g]?=m.heap[g]?:=λm r1 r2 h g o ho G=>by
  refine World.putObj_heap_other λab=>?_
  subst ab;rw[h]at ho;cases ho;rcases G with G|G| ⟨_,_,G⟩
  .omega
  .cases G
  .cases G
 have ad:=λ(S:Fx)(T:S.P=Xb.P)(_:S.k0=Xb.k0)=>als (X:=S) (l:=l) (d:=1) hC y (kv k) (T.trans R)
 have h1:=FW (l:=l) (n:=1) ad hS rfl I (u aa);rw[R]at h1;have A:((#[27]:Array Tmp).zip #[v]).foldl (λt(p,v)=>t.setIfInBounds p v) j.tmps=j.tmps.setIfInBounds 27 v:=by
  simp[Array.zip,Array.zipWith,Array.zipWithMAux]
 rw[A];refine wpIn_mono h1 ?_;rintro T a1 B ⟨an,E1,⟨rfl,rfl⟩,ae,af,C,K,ao⟩;have F:B.heap[l]?=some (.loop rec):=(K l (by simp)).trans Z;have ag:B.heap[D]?=some (.deferred (some [])):=(K D (by simp)).trans hd;have w:l<B.heap.size:=(fx.1 F).1;refine⟨_,run_beginRound F (by rw[i]),?_⟩;have ah:(B.putObj l (.loop {rec with state:=.busy})).heap[l]?=some (.loop {rec with state:=.busy}):=World.putObj_heap_same w;have ai:(B.putObj l (.loop {rec with state:=.busy})).heap[D]?=some (.deferred (some [])):=(World.putObj_heap_other om).trans ag;have aj:=af.other (w':=B.putObj l (.loop {rec with state:=.busy})) rfl rfl rfl (by simp) (hput _ _ _ F);have M:l< (B.putObj l (.loop {rec with state:=.busy})).heap.size:=by simpa using w
 have h2:=FW (l:=l) (n:=1) (λS T e2=>aiK (l:=l) (d:=1) hC y z (T.trans R) (e2.trans U)) aj ae C (u M);rw[R]at h2;refine wpIn_mono h2 ?_;rintro e3 a3 w3 ⟨ap,E3,ak,aq,N,q,O,ar⟩;have s:w3.heap[l]?=some (.loop {rec with state:=.busy}):=(O l (by simp)).trans ah;have Q:w3.heap[D]?=some (.deferred (some [])):=(O D (by simp)).trans ai;have x:=(fx.1 s).1;rcases ak with⟨hb,rfl,rfl⟩| ⟨hb,rfl,rfl⟩
 .rw[bO (by rw[hb];decide)]at f;refine⟨_,_,run_endRound none s,.inl ⟨rfl,E3,f,(h0.again N H rfl rfl ((tJ _).trans (tJ ls).symm) (by grind[tP])).other rfl rfl rfl (by simp) (hput _ _ _ s),q,?_,(World.putObj_heap_other om).trans Q⟩⟩;rw[World.putObj_heap_same x,i];rfl
 .rw[bF hb]at f;cases f;refine⟨_,_,run_endRound (some .ret) s,.inr ⟨rfl,E3,a,b,c,r,rfl,(h0.again N H rfl rfl ((tX _).trans (tJ ls).symm) (by grind[tP])).other rfl rfl rfl (by simp) (hput _ _ _ s),q,?_,(World.putObj_heap_other om).trans Q⟩⟩;rw[World.putObj_heap_same x,i];rfl
theorem aqO{ls}(f:ls.length=17){ok}(j:F105 (ls.take 13)=some [ok]):
 (ok.ck=false->∃ys,ys.length=4/\(sZ F105 F106 t105 t106).a6 ls=some (.st .ret zV,ls++ys))/\
 (ok.ck=true->∀c,F106 (ls.drop 10|>.take 1|>.append (ls.drop 13))=some [c]->(c.ck=false->∃ys,ys.length=4/\(sZ F105 F106 t105 t106).a6 ls=some (.st .ret zV,ls++ys))/\
  (c.ck=true->∃ys,ys.length=4/\(sZ F105 F106 t105 t106).a6 ls=some (.st .normal Ag,ls++ys))):=by
 match ls,f with
 |[l0,l1,l2,l3,l4,l5,l6,l7,l8,l9,l10,l11,l12,l13,a,b,d],_=>
  have h:Nd.ev [l0,l1,l2,l3,l4,l5,l6,l7,l8,l9,l10,l11,l12,l13,a,b,d] (.call t105 F105 [.v 0,.v 1,.v 2,.v 3,.v 4,.v 5,.v 6,.v 7,.v 8,.v 9,.v 10,.v 11,.v 12] 1 [])=some [ok]:=Dr (F:=F105) (n:=1) (xs:=[.v 0,.v 1,.v 2,.v 3,.v 4,.v 5,.v 6,.v 7,.v 8,.v 9,.v 10,.v 11,.v 12]) j rfl;have e2:∀k:a8,(a8.op (.not (.v 17)) k).a6 ([l0,l1,l2,l3,l4,l5,l6,l7,l8,l9,l10,l11,l12,l13,a,b,d]++[ok])=k.a6 [l0,l1,l2,l3,l4,l5,l6,l7,l8,l9,l10,l11,l12,l13,a,b,d,ok,.b (!ok.ck)]:=λk=>by
   rfl
  refine⟨λe=>⟨[ok,.b (!ok.ck),.b true,.b true],rfl,?_⟩,λe c l=>?_⟩
  .rw[sZ,a8.a6,a8.a6,h];simp only[];rw[e2,a8.a6,show((At.v 18).ev [l0,l1,l2,l3,l4,l5,l6,l7,l8,l9,l10,l11,l12,l13,a,b,d,ok,.b (!ok.ck)]).ck= !ok.ck from rfl,e];rfl
  .have e3:Nd.ev [l0,l1,l2,l3,l4,l5,l6,l7,l8,l9,l10,l11,l12,l13,a,b,d,ok,.b (!ok.ck)] (.call t106 F106 [.v 10,.v 13,.v 14,.v 15,.v 16] 1 [])=some [c]:=Dr (F:=F106) (n:=1) (xs:=[.v 10,.v 13,.v 14,.v 15,.v 16]) l rfl;have g:∀k:a8,(a8.op (.not (.v 19)) k).a6 ([l0,l1,l2,l3,l4,l5,l6,l7,l8,l9,l10,l11,l12,l13,a,b,d,ok,.b (!ok.ck)]++[c])=k.a6 [l0,l1,l2,l3,l4,l5,l6,l7,l8,l9,l10,l11,l12,l13,a,b,d,ok,.b (!ok.ck),c,.b (!c.ck)]:=λk=>by
    rfl
   refine⟨λi=>⟨[ok,.b (!ok.ck),.b false,.b (!c.ck)],rfl,?_⟩,λi=>⟨[ok,.b (!ok.ck),.b false,.b (!c.ck)],rfl,?_⟩⟩
   all_goals
    rw[sZ,a8.a6,a8.a6,h];simp only[];rw[e2,a8.a6,show((At.v 18).ev [l0,l1,l2,l3,l4,l5,l6,l7,l8,l9,l10,l11,l12,l13,a,b,d,ok,.b (!ok.ck)]).ck= !ok.ck from rfl];simp only[e,Bool.not_true,qp,if_false];rw[e]at e3 g;simp only[Bool.not_true]at e3 g;rw[a8.a6,e3];simp only[];rw[g];simp only[i];rfl
theorem T7{M w g l}(d:l≠ [])(e:w.heap[g]?=some (.cells (l.map λa=>Value.int .i64 ((a:Nat):Int)).toArray 3 (0,0)))(n:¬M g)(h:l.length<=maxLen):RP M w (.sl (l.map λa=>[.sc (.int .i64 (a:Nat))])) (.slice (some ⟨g,0,none⟩) l.length l.length):=by
 have key:∀(i:Nat)(r:List PV)(j:Nat)(p:PV),(l.map λa=>[PV.sc (.int .i64 (a:Nat))])[i]?=some r->r[j]?=some p->j=0/\w.cell? ⟨g,i,none⟩=some (.int .i64 ((l.getD i 0:Nat):Int))/\p=.sc (.int .i64 ((l.getD i 0:Nat):Int)):=λi r j p b c=>by
  simp only[cN,bY]at b;obtain⟨a,k,rfl⟩:=b
  match j with
  |j+1=>simp at c
  |0=>
   cases c;have m:l.getD i 0=a:=by simp_all
   rw[m];refine⟨rfl,?_,rfl⟩;rw[cell_of_row w g i _ 3 (0,0) e];simp[k]
 have:=RP.row (M:=M) (w:=w) (rows:=l.map λa=>[.sc (.int .i64 (a:Nat))]) (g:=g) (o:=0) (cap:=l.length) (sz:=1) (f:=λi _=>.int .i64 ((l.getD i 0:Nat):Int)) (by simpa using d) (by simp) h
  (λr q=>by grind)
  (λi r j p b c=>by
   grind)
  (λi r j p b c=>by
   obtain⟨_,_,rfl⟩:=key i r j p b c;exact .sc rfl)
 grind
theorem Yz{Xb E st a W}(h:Rel Xb E st a W)(o):Rel Xb E st a (W.alloc o)/\¬bad Xb.M E W.heap.size/\∀g,g<W.heap.size->(W.alloc o).heap[g]?=W.heap[g]?:=by
 have b:∀g,g<W.heap.size->(W.alloc o).heap[g]?=W.heap[g]?:=λg c=>Below.heap_alloc _ _ _ c
 refine⟨h.other rfl rfl rfl (by simp) λg j d _=>b g (fx.1 d).1,?_,b⟩;rintro(e| ⟨n,x,f,i⟩)
 .have:=h.eW _ e;have:=h.frame.size;omega
 .have:=(h.names n x _ f i).1;omega
theorem aeI:Tryz.f54.ntmps=40:=kr
theorem asZ:Tryz.f54.results= #[.cell 8 73,.cell 9 55]:=kr
theorem JK{X:Fx}(k:X.P=Tryz.prog)(l:X.k0=0){S:bp}{ls ys xs:List L}{bs:List At}(c:ls.length=17)(m:S.nv=17+ys.length)(o:S.bt=[])(p:jmp TT 0 17 zl 0 .normal S=some (.br (.jump 0 bs)))(z:bs.map (At.ev (ls++ys))=xs)
 {D:List Deferred} (A:X.D=D) {i:Hp} (q:i=[(0,.row 5 ((At.v 21).ev (ls++xs)).bm)]) {a:Act} {w:cp} (r:Told X (S.a6 (ls++ys)) a w) {f:Fx} (s:X={f with D:=D})
 (t:D=[]\/∃d,D=[{target:=.collected d,args:= #[]}]/\f.w0.heap.size<=d/\w.heap[d]?=some (.deferred (some []))) {e:Exit} (u:e=.normal\/e=.ret):
 NF Tryz.prog [.cell 8 73,.cell 9 55] ((SV.bq [.agg [.p (.int .u64) (.v 17),.p (.int .u32) (.v 18),.p .bool (.v 19),.own 0],.c (.p (.int .i64) (.v 20))]).a6 (ls++xs)) i f e a w:=by
 obtain⟨g,v,j1,_,_,j⟩:=kB gf (ρ:=ls) (ys:=ys) c (by rw[m,ez,c]) o p rfl;have x:v=[]:=by simp_all
 have y:bs=g:=by simp_all
 subst x y;rw[ju]at j;refine⟨u,zl.a6 (ls++xs),D,?_,by kernel_rfl,λn b h=>?_,t⟩
 .subst s;have:=j _ k l a w r;simp_all
 .subst q
  match n with
  |0=>exact h
  |n+1=>grind
set_option maxHeartbeats 1000000 in
theorem aiv(azO:(aae F105 t105).ok Tryz.prog)(azP:(acb F106 t106).ok Tryz.prog)(azQ:(aaH F107 t107).ok Tryz.prog)(azR:(QC F108 t108).ok Tryz.prog)(tag):(Gg F105 F106 F107 F108 tag).ok Tryz.prog:=by
 have hC:dt.ok Tryz.prog (kM F105 F106 F107 F108 t105 t106 t107 t108):=λs hs=>by
  simp only[kM,dn,iS,or_false]at hs;grind
 intro ls os kF hF xo;have kF:ls.length=17:=kF;have hF:wm F105 F106 F107 F108 ls=some os:=hF;unfold wm at hF;rw[bF kF]at hF;refine fg.Za (H:=[]) Tryz.func54 kr aoA aeI (rs:=[.cell 8 73,.cell 9 55]) (by rw[asZ]) ?_;intro X hP hk hD a w ht;have hk:X.k0=0:=hk;have Pg:X={X with D:=[]}:=by
  cases X;simp_all
 have ht:Told X (xS.a6 ls) a w:=by
  rw[xS,Td];exact ht
 have A0:=(piece hC (k0:=0) (n:=0) (r:=0) (ex:=[]) (show exec TT _ 0 (.region 0 (a54 0) false) 0 [] 0 xS=_ from ajK F105 F106 F107 F108 t105 t106 t107 t108) kr kF (ρ:=ls) rfl hP hk).2.2 a w ht;rw[hP]at A0;refine wp_seq (wp_mono A0 ?_);clear A0;rintro e1 a1 w1 ⟨st1,⟨rfl,rfl⟩,A4⟩;show(vj.seq _).wp _ _ _ _;have h17:ls.length=yC.nv:=kF.trans kr;have err:∀{os},some [.i 0,.i 0,.b false,.i 1,.r []]=some os->(∃ys,ys.length=4/\(sZ F105 F106 t105 t106).a6 ls=some (.st .ret zV,ls++ys))->
  ∀K,(vj.seq K).wp Tryz.prog (NF Tryz.prog [.cell 8 73,.cell 9 55] ((Gg F105 F106 F107 F108 tag).res.a6 (ls++os)) ((Gg F105 F106 F107 F108 tag).out.a6 (ls++os)) X) a1 w1:=by
  rintro os hos ⟨ys,hy,sb⟩ K;cases hos;have A1:=(piece hC (abU F105 F106 F107 F108 t105 t106 t107 t108) kr h17 sb hP hk).2.2 a1 w1 A4;rw[hP]at A1;refine wp_seq (wp_mono A1 ?_);rintro e2 a2 w2 ⟨st2,⟨rfl,rfl⟩,uN⟩;exact JK hP hk kF (by rw[hy];kernel_rfl) kr arq rfl hD rfl uN Pg (.inl rfl) (.inr rfl)
 split at hF;rotate_left
 .cases hF
 rename_i ok h1;have Ph:=aqO (F105:=F105) (F106:=F106) (t105:=t105) (t106:=t106) kF h1;by_cases dm:ok.ck=true;rotate_left
 .grind
 rw[bF dm]at hF;split at hF;rotate_left
 .cases hF
 rename_i c h2;have Ph:=Ph.2 dm c h2;by_cases hc:c.ck=true;rotate_left
 .grind
 rw[bF hc]at hF;split at hF;rotate_left
 .cases hF
 rename_i h3;obtain⟨ys,hy,sb⟩:=Ph.2 hc;have A1:=(piece hC (abU F105 F106 F107 F108 t105 t106 t107 t108) kr h17 sb hP hk).2.2 a1 w1 A4;rw[hP]at A1;refine wp_seq (wp_mono A1 ?_);rintro e2 a2 w2 ⟨st2,⟨rfl,rfl⟩,uN⟩;have xt:(a8.op (.call t107 F107 [] 0 []) (.br (.st .normal DL))).a6 (ls++ys)=some (.st .normal DL,ls++ys):=by
  rw[a8.a6,Dr (F:=F107) (n:=0) (xs:=[]) (ρ:=ls++ys) h3 rfl];simp only[ju];rfl
 have A3:=(piece hC (k0:=0) (n:=0) (r:=0) (ex:=[]) (show exec TT _ 0 (.region 3 (a54 3) false) 0 [] 0 Ag=_ from aeS F105 F106 F107 F108 t105 t106 t107 t108) kr (by rw[ez,kF,hy];kernel_rfl) xt hP hk).2.2 a2 w2 uN;rw[hP]at A3;refine wp_seq (wp_seq (wp_mono A3 ?_));rintro e4 a4 w4 ⟨st4,⟨rfl,rfl⟩,Pj⟩;have Pk:Told X (jF.a6 ls) a4 w4:=by
  obtain⟨xs1,zs,j1,_,_,j4⟩:=kB gf (ρ:=ls) (ys:=ys) kF (by rw[ez,kF,hy];kernel_rfl) kr auc rfl;have hz:zs=[]:=by simpa using cO (·.2) j1
  have hb:[]=xs1:=by grind
  subst hz hb;simpa using j4 X hP hk a4 w4 Pj
 obtain⟨E0,R0,hg0⟩:=Pk;have Pm:a4.defers=[]:=R0.defers.trans hD;obtain⟨u26,h26,axI⟩:=R0.tmps 26 (.v (.c (.fn 163 []))) (by rw[tJ];rfl);obtain⟨us,rfl,gP,_⟩:=(show RC X.M E0 w4 (.fn 163 []) u26 from axI)
 obtain rfl:us= #[]:=P3 gP;have Pn:a4.eval (.tmp 26)=.func (.func 163) #[] #[]:=by
  simp[Act.eval,u5,h26]
 refine wp_block ((wpIn_wide (n:=3)).1 (wpIn_rangeFunc ?_));intro fn hfn;obtain⟨rec,jV⟩:∃rec:Loop,rec={state:=.ready,pending:=none,fn,tmps:=a4.tmps,params:= #[27],assign:=.region 4 (a54 4) false,body:=B0,defers:=w4.heap.size}:=⟨_,rfl⟩
 obtain⟨W1,hW1⟩:∃W1,(w4.alloc (.deferred (some []))).alloc (.loop rec)=W1:=⟨_,rfl⟩
 have hs1:W1.heap.size=w4.heap.size+2:=by rw[<-hW1];simp
 have AY:W1.heap[w4.heap.size+1]?=some (.loop rec):=by
  rw[<-hW1];have:=World.alloc_heap_new (w4.alloc (.deferred (some []))) (.loop rec);rwa [World.size_alloc]at this
 have AZ:W1.heap[w4.heap.size]?=some (.deferred (some [])):=by
  rw[<-hW1];exact(Below.heap_alloc _ _ _ (by simp)).trans (World.alloc_heap_new w4 _)
 have hold:∀g,g<w4.heap.size->W1.heap[g]?=w4.heap[g]?:=λg hg=>by
  grind[Below.heap_alloc]
 let Xb:Fx:=⟨X.P,X.M,X.K,X.w0,E0.N,6,[]⟩
 have h0:Rel Xb E0 (jF.a6 ls) ⟨a4.tmps,[]⟩ w4:={
  defers:=rfl,bt:=R0.bt,frame:=R0.frame,eW:=R0.eW,dD:=R0.dD,names:=R0.names,inj:=R0.inj,ec:=λ_ _=>.inr rfl
  fQ:=by show 6<=6;omega
  fK:=R0.fK,size:=R0.size,tmps:=R0.tmps,heap:=R0.heap}
 have hW0:X.w0.heap.size<=w4.heap.size:=R0.frame.size;have Po:Io F108 ls os Xb ⟨a4.tmps,[]⟩ (w4.heap.size+1) w4.heap.size rec 0 W1:=by
  refine⟨E0,hF,h0.other ?_ ?_ ?_ om λg o ho _=>hold g (fx.1 ho).1,λn x g h1 h2 hg=>?_,AY,AZ⟩
  .rw[<-hW1];rfl
  .rw[<-hW1];rfl
  .rw[<-hW1];rfl
  .have:=(R0.names n x g h1 h2).1;simp at hg;omega
 have Pp:∀k,k<22->∀E W v,kP F108 ls (22-k) k=some os->Rel Xb E (jF.a6 ls) ⟨a4.tmps,[]⟩ W->E.off [w4.heap.size+1,w4.heap.size]->W.heap[w4.heap.size+1]?=some (.loop rec)->W.heap[w4.heap.size]?=some (.deferred (some []))->RP (bad Xb.M E) W (.sl (kv k)) v->_:=
  λk hk E W v=>anp (l:=w4.heap.size+1) (D:=w4.heap.size) hC kF (Xb:=Xb) hP rfl h0 (λ_ _=>rfl) rfl om (by grind) fn jV k hk E W v
 refine⟨w4.heap.size+1,[{target:=.collected w4.heap.size,args:= #[]}],W1,{target:=.fn (.func 163) #[],args:= #[.func (.yield (w4.heap.size+1)) #[] #[]]},W1,163,
  #[.func (.yield (w4.heap.size+1)) #[] #[]],W1,?_,?_,?_,?_,λ_=>by omega,?_⟩
 .rw[<-hW1,jV];exact run_enterLoop_outer _ _ _ _ _
 .simp only[resolve,Pn];simp[go_sem]
 .intro f' _;trivial
 .rfl
 have hX2:∀{E5:Env}{st:bz}{W6:cp},Rel Xb E5 st ⟨a4.tmps,[]⟩ W6->6<=st.next->Rel {X with D:=[{target:=.collected w4.heap.size,args:= #[]}]} E5 st {a4 with defers:=[{target:=.collected w4.heap.size,args:= #[]}]++a4.defers} W6:=λfH hn=> {
  defers:=by rw[Pm];rfl
  bt:=fH.bt,frame:=fH.frame,eW:=fH.eW,dD:=fH.dD,names:=fH.names,inj:=fH.inj
  ec:=λk lX=>absurd (show k<X.k0 from lX) om
  fQ:=by grind
  fK:=fH.fK,size:=fH.size,tmps:=fH.tmps,heap:=fH.heap}
 refine(aqH 2 om (w4.heap.size+1) (Io F108 ls os Xb ⟨a4.tmps,[]⟩ (w4.heap.size+1) w4.heap.size rec) (WA ls os Xb ⟨a4.tmps,[]⟩ (w4.heap.size+1) w4.heap.size rec) ?_ ?_ ?_ W1 Po).mono ?_
 .rintro W ⟨E,uO,hR,A5,hl,hd⟩;exact Pp 0 om E W _ uO hR A5 hl hd .nil
 .rintro b W hb ⟨E,uO,hR,A5,hl,hd⟩;obtain⟨Pq,Pr,uK⟩:=Yz hR (.cells #[.int .i64 b] 3);refine Pp (1+b) om E _ _ uO Pq A5 ((uK _ (fx.1 hl).1).trans hl) ((uK _ (fx.1 hd).1).trans hd) ?_;rw[kv,apM b hb];exact T7 (l:=[b]) (by simp) (World.alloc_heap_new W _) Pr (by unfold maxLen;simp)
 .rintro b d W hb1 hb2 ⟨E,uO,hR,A5,hl,hd⟩;obtain⟨Pq,Pr,uK⟩:=Yz hR (.cells #[.int .i64 b,.int .i64 d] 3);obtain⟨q1,q2⟩:=afK d hb2 b hb1;refine Pp _ q2 E _ _ uO Pq A5 ((uK _ (fx.1 hl).1).trans hl) ((uK _ (fx.1 hd).1).trans hd) ?_;rw[kv,q1];exact T7 (l:=[b,d]) (by simp) (World.alloc_heap_new W _) Pr (by unfold maxLen;simp)
 have hput:∀(W5:cp)(r1 r2:Loop),W5.heap[w4.heap.size+1]?=some (.loop r1)->∀g o,W5.heap[g]?=some o->(g<Xb.w0.heap.size\/o.isCells=true\/∃en c,o=.map en c)->(W5.putObj (w4.heap.size+1) (.loop r2)).heap[g]?=W5.heap[g]?:=λW5 r1 r2 o6 g o ho hi=>World.putObj_heap_other λA6=>by
  subst A6;rw[o6]at ho;cases ho;rcases hi with hi|hi| ⟨_,_,hi⟩
  .grind
  .cases hi
  .cases hi
 rintro e5 W5 ⟨⟨v,rfl⟩,⟨E5,axJ,A7,Gw,o6,A8⟩| ⟨E5,xa,xb,xc,xr,rfl,A7,Gw,o6,A8⟩⟩
 .cases axJ;refine⟨_,_,run_endLoop o6 (by rw[jV];simp),?_⟩;have fH:=A7.other (w':=W5.putObj (w4.heap.size+1) (.loop {rec with state:=.exhausted})) rfl rfl rfl (by simp) (hput _ _ _ o6);have sd:(W5.putObj (w4.heap.size+1) (.loop {rec with state:=.exhausted})).heap[w4.heap.size]?=some (.deferred (some [])):=(World.putObj_heap_other om).trans A8;generalize W5.putObj (w4.heap.size+1) (.loop {rec with state:=.exhausted})=W6 at fH sd⊢;rw[show rec.pending=none by rw[jV]];show((Code.region 8 (a54 8) false).seq .ret).wp _ _ _ _;have h8:=ZS (X:={X with D:=[{target:=.collected w4.heap.size,args:= #[]}]}) (c:=(Code.region 8 (a54 8) false).seq .ret) (Q:=λe st=>e=.ret/\st=O3.a6 ls) (λX' e1 e2=>by
   have:=(piece hC (k0:=0) (n:=0) (r:=0) (ex:=[]) (show exec TT _ 0 (.region 8 (a54 8) false) 0 [] 0 jF=_ from agV F105 F106 F107 F108 t105 t106 t107 t108) kr kF (ρ:=ls) rfl (e1.trans hP) (e2.trans hk)).2.2;refine gg (lB this ?_);rintro e st ⟨rfl,rfl⟩;exact tB ⟨rfl,rfl⟩) (hX2 fH (by show 6<=6;omega)) hg0 (S:=[w4.heap.size]) (λn x g h1 h2 hg=>Gw n x g h1 h2 (by grind)) (λg hg=>by
   grind)
  rw[show({X with D:=[{target:=.collected w4.heap.size,args:= #[]}]}:Fx).P=Tryz.prog from hP]at h8;refine wp_mono h8 ?_;rintro e9 a9 w9 ⟨st9,E9,⟨rfl,rfl⟩,hg9,Ps,axM,Pt,hs9⟩;exact JK (X:={X with P:=Tryz.prog,D:=[{target:=.collected w4.heap.size,args:= #[]}]}) (ys:=[]) rfl hk kF kr kr afL rfl rfl rfl (by rw[ju];exact⟨E9,Ps,hg9⟩) (by rw[hP]) (.inr ⟨_,rfl,hW0,(Pt _ (by simp)).trans sd⟩) (.inr rfl)
 .refine⟨_,_,run_endLoop o6 (by simp),?_⟩;have fH:=A7.other (w':=W5.putObj (w4.heap.size+1) (.loop {{rec with state:=.done,pending:=some .ret}with state:=.exhausted})) rfl rfl rfl (by simp) (hput _ _ _ o6);have sd:(W5.putObj (w4.heap.size+1) (.loop {{rec with state:=.done,pending:=some .ret}with state:=.exhausted})).heap[w4.heap.size]?=some (.deferred (some [])):=(World.putObj_heap_other om).trans A8;generalize W5.putObj (w4.heap.size+1) (.loop {{rec with state:=.done,pending:=some .ret}with state:=.exhausted})=W6 at fH sd⊢;refine wpIn_ret ?_;exact JK (X:={X with D:=[{target:=.collected w4.heap.size,args:= #[]}]}) (ys:=[xa,xb,xc,xr]) hP hk kF kr kr aiN (by
   match ls,kF with
   |[l0,l1,l2,l3,l4,l5,l6,l7,l8,l9,l10,l11,l12,l13,l14,l15,l16],_=>rfl) rfl rfl ⟨E5,hX2 fH (by show 6<=7;omega),by rfl⟩ rfl (.inr ⟨_,rfl,hW0,sd⟩) (.inr rfl)
end
section
open Go.RowKit
def la:List Nat:=[1,2,4,8,16,32,64,128,29,58,116,232,205,135,19,38,76,152,45,90,180,117,234,201,143,3,6,12,24,48,96,192,157,39,78,156,37,74,148,53,106,212,181,119,238,193,159,35,70,140,5,10,20,40,80,160,93,186,105,210,185,111,222,161,95,190,97,194,153,47,94,188,101,202,137,15,30,60,120,240,253,231,211,187,107,214,177,127,254,225,223,163,91,182,113,226,217,175,67,134,17,34,68,136,13,26,52,104,208,189,103,206,129,31,62,124,248,237,199,147,59,118,236,197,151,51,102,204,133,23,46,92,184,109,218,169,79,158,33,66,132,21,42,84,168,77,154,41,82,164,85,170,73,146,57,114,228,213,183,115,230,209,191,99,198,145,63,126,252,229,215,179,123,246,241,255,227,219,171,75,150,49,98,196,149,55,110,220,165,87,174,65,130,25,50,100,200,141,7,14,28,56,112,224,221,167,83,166,81,162,89,178,121,242,249,239,195,155,43,86,172,69,138,9,18,36,72,144,61,122,244,245,247,243,251,235,203,139,11,22,44,88,176,125,250,233,207,131,27,54,108,216,173,71,142]
def vH:List Nat:=[255,0,1,25,2,50,26,198,3,223,51,238,27,104,199,75,4,100,224,14,52,141,239,129,28,193,105,248,200,8,76,113,5,138,101,47,225,36,15,33,53,147,142,218,240,18,130,69,29,181,194,125,106,39,249,185,201,154,9,120,77,228,114,166,6,191,139,98,102,221,48,253,226,152,37,179,16,145,34,136,54,208,148,206,143,150,219,189,241,210,19,92,131,56,70,64,30,66,182,163,195,72,126,110,107,58,40,84,250,133,186,61,202,94,155,159,10,21,121,43,78,212,229,172,115,243,167,87,7,112,192,247,140,128,99,13,103,74,222,237,49,197,254,24,227,165,153,119,38,184,180,124,17,68,146,217,35,32,137,46,55,63,209,91,149,188,207,205,144,135,151,178,220,252,190,97,242,86,211,171,20,42,93,158,132,60,57,83,71,109,65,162,31,45,67,216,183,123,164,118,196,23,73,236,127,12,111,246,108,161,59,82,41,157,85,170,251,96,134,177,187,204,62,90,203,89,95,176,156,169,160,81,11,245,22,235,122,117,44,215,79,174,213,233,230,231,173,232,116,214,244,234,168,80,88,175]
def Fi:Code->Option Code
 |.seq a b=>(Fi a).or (Fi b)
 |.block _ c=>Fi c
 |.loop c=>some c
 |_=>none
def Di:Code:=(Tryz.f333.body.bind Fi).getD .skip
def jI(k:Nat):Array Oper:=(Tryz.f333.body.bind λc=>pS c k).getD #[]
def YU:Code:=(Code.region 0 (jI 0) false).seq ((Code.region 1 (jI 1) false).seq (((Code.region 2 (jI 2) false).seq (.block 0 (.loop Di))).seq ((Code.region 11 (jI 11) true).seq .ret)))
theorem aml:Tryz.f333.body=some YU:=kr
def Dl(i:Nat):List SC:=(la.take i++List.replicate (255-i) 0).map λx=>.p (.int .u8) (.i (x:Nat))
def WE(i:Nat):List SC:=vH.map λn=>.p (.int .i64) (.i ((cond (Nat.blt n i) n 0:Nat)))
def nA(i:Nat):bp:=⟨.v (.c (.ptr 0 0)):: .v (.c (.ptr 1 0)):: .v (.c (.p (.int .i64) (.i ((la.getD i 1:Nat))))):: .v (.c .dead):: .v (.c (.p (.int .i64) (.i (i:Nat))))::List.replicate 24 (.v (.c .dead)),[(0,.box (Dl i++Dl i)),(1,.box (WE i))],[],2,0⟩
def QU:List (Nat×Nat):=[(0,0),(1,1)]
def Fm(e:Bool)(c:Code)(S S':bp):Bool:=match exec TT [] 0 c 0xFFFFFFFFFF [] 3 S with
 |some (.br (.st .normal a))=> !e&&a.bt.isEmpty&&uy [] TT 0 a S' 0 [] QU []
 |some (.br (.st (.exit 0) a))=>e&&a.bt.isEmpty&&uy [] TT 0 a S' 0 [] QU []
 |_=>false
def iZ(i:Nat):Bool:=Fm false Di (nA i) (nA (i+1))
end
end
end Go.Proofs.YtndegphojkiblaaGreatDoor
