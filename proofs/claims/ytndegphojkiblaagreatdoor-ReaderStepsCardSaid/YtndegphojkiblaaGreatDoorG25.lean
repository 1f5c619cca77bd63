/- A part. -/
import Derived.Test.YtndegphojkiblaaGreatDoorG12
import Derived.Test.YtndegphojkiblaaGreatDoorG13
import Derived.Test.YtndegphojkiblaaGreatDoorG15
import Derived.Test.YtndegphojkiblaaGreatDoorG16
import Derived.Test.YtndegphojkiblaaGreatDoorG22
import Derived.Test.YtndegphojkiblaaGreatDoorG23
import Derived.Test.YtndegphojkiblaaGreatDoorG24
import Derived.WalkKit
set_option linter.all false
set_option maxHeartbeats 4000000
set_option maxRecDepth 100000
namespace Go.Proofs.YtndegphojkiblaaGreatDoor
noncomputable section
section
open Go.RowKit
open Classical
theorem Y4:∀{ks}{r}{cs},ks.length=r.length->(ks.zip r).mapM (λx=>x.1.of x.2)=some cs->cs.length=ks.length/\r=List.zipWith Kd.pv ks cs
 |[],[],cs,_,h=>by simp_all
 |k::ks,q::r,cs,c,h=>by
  cases a:k.of q with
  |none=>simp[a]at h
  |some x=>
   cases b:(ks.zip r).mapM (λx=>x.1.of x.2)with
   |none=>simp[a,b]at h
   |some ys=>
    simp[a,b]at h;subst h;obtain⟨k1,k2⟩:=Y4 (by simpa using c) b;exact⟨by simp[k1],by rw[List.zipWith_cons_cons,Kd.BN a,<-k2]⟩
def AM(r:List PV):Option (List L):=if r.length=14 then(Aa.zip r).mapM (λx=>x.1.of x.2)else none
theorem asu{r cs}(h:AM r=some cs):cs.length=14/\r.length=14/\r=List.zipWith Kd.pv Aa cs:=by
 unfold AM at h;split at h
 .rename_i a;obtain⟨b,c⟩:=Y4 (by rw[a];rfl) h;simp_all
 .cases h
def r_(F113:List L->Option (List L))(t113:Nat):a8:=
 .op (.call t113 F113 [(.v 13),(.v 14),(.v 15),(.v 16),(.v 17),(.v 18),(.v 19),(.v 20),(.v 21),(.v 22),(.v 4)] 5 [])<|
 .ite (.v 23)
  (.op (.lit [[((.int .i64),(.v 9)),((.int .i64),(.v 11)),((.int .i64),(.v 10)),((.int .u64),(.v 24)),((.int .u32),(.v 25)),((.int .i64),(.v 26)),((.int .i64),(.v 27)),((.int .i64),(.v 8))]])<|
   .op (.app (.v 7) (.v 28) 8 64)<|
   .br (.jump 0 [.v 29]))
  (.br (.jump 0 [.v 7]))
def tx(F113:List L->Option (List L))(t113:Nat)(ρ:List L)(acc:List (List PV))(k:Nat)(r:List PV):Option (List (List PV)):=
 match AM r with
 |some cs=>match(r_ F113 t113).a6 (ρ++[.r acc,.i k]++cs)with
  |some (.jump 0 [a],ρ')=>some (a.ev ρ').bm
  |_=>none
 |none=>none
def ku(F113:List L->Option (List L))(t113:Nat)(ρ:List L)(gens:List (List PV)):Nat->Option (List (List PV))
 |0=>some []
 |k+1=>match ku F113 t113 ρ gens k,gens[gens.length-1-k]? with
  |some acc,some g=>tx F113 t113 ρ acc (gens.length-1-k) g
  |_,_=>none
theorem arL{F113:List L->Option (List L)}{t113:Nat}{ρ:List L}{gens acc:List (List PV)}{n:Nat}(h:ku F113 t113 ρ gens n=some acc){k:Nat}(b:k<=n):∃a,ku F113 t113 ρ gens k=some a:=by
 induction n generalizing acc with
 |zero=>simp_all
 |succ n ih=>
  grind[ku]
def sO(F40 F112 F113:List L->Option (List L))(t113:Nat):List L->Option (List L):=λls=>match ls with
 |[n,r,m,.r gens,key]=>match F40 [n,r,m,.r gens]with
  |some [ok]=>if ok.ck=true then
   (if gens.length<=4611686018427387904 then match F112 [.r gens]with
    |some []=>(ku F113 t113 [n,r,m,.r gens,key,ok,.b (!ok.ck)] gens gens.length).map λacc=>[.r acc]
    |_=>none
   else none)else some [.r []]
  |_=>none
 |_=>none
def R8(F40 F112 F113:List L->Option (List L))(t113 tag:Nat):bB:=⟨58,[.agg [.p (.int .i64) (.v 0),.p (.int .i64) (.v 1),.p .bool (.v 2),.p .sl (.v 3)],.c (.p (.int .u64) (.v 4))],[],5,1,.v (.c (.own 0)),[(0,.row 165 (.v 5))],sO F40 F112 F113 t113,tag⟩
section
variable{F40 F112 F113:List L->Option (List L)}{t40 t112 t113:Nat}
theorem ahJ(s:dt.ok Tryz.prog (kg F40 F112 F113 t40 t112 t113)){n r m key ok nok:L}{gens:List (List PV)}{acc:List (List PV)}{k:Nat}{l0 l1 l2 l3 l4 l5 l6 l7 l8 l9 l10 l11 l12 l13:L}{a:At}{ρ':List L}
 (b:(r_ F113 t113).a6 [n,r,m,.r gens,key,ok,nok,.r acc,.i k,l0,l1,l2,l3,l4,l5,l6,l7,l8,l9,l10,l11,l12,l13]=some (.jump 0 [a],ρ')) {X:Fx} (q:X.P=Tryz.prog) (z:X.k0=3) {l d:Nat}:
 iz l d X (.block 1 ((Code.region 7 Ap false).seq ((Code.region 8 zy false).seq (.cond (.tmp 25) (.region 9 yW false) .skip)))) (λe st=>e=.normal/\st=lq.a6 [n,r,m,.r gens,key,ok,nok,.r (a.ev ρ').bm])
  (Cq.a6 [n,r,m,.r gens,key,ok,nok,.r acc,.i k,l0,l1,l2,l3,l4,l5,l6,l7,l8,l9,l10,l11,l12,l13]):=by
 rw[r_,a8.a6]at b;split at b
 .rename_i o B;have u:o.length=5:=by
   grind[Nd.ev]
  match o,u with
  |[j,f,g,h,i],_=>
   have C:(a8.op (.call t113 F113 [(.v 13),(.v 14),(.v 15),(.v 16),(.v 17),(.v 18),(.v 19),(.v 20),(.v 21),(.v 22),(.v 4)] 5 []) (.br (.st .normal BT))).a6 [n,r,m,.r gens,key,ok,nok,.r acc,.i k,l0,l1,l2,l3,l4,l5,l6,l7,l8,l9,l10,l11,l12,l13]=
    some (.st .normal BT,[n,r,m,.r gens,key,ok,nok,.r acc,.i k,l0,l1,l2,l3,l4,l5,l6,l7,l8,l9,l10,l11,l12,l13,j,f,g,h,i]):=by
    rw[a8.a6,B];rfl
   refine Zx (wK (pJ s (by rfl) (aum F40 F112 F113 t40 t112 t113) rfl C q ?_));refine wK (pJ s (by rfl) (amW F40 F112 F113 t40 t112 t113) rfl (ρ':=[n,r,m,.r gens,key,ok,nok,.r acc,.i k,l0,l1,l2,l3,l4,l5,l6,l7,l8,l9,l10,l11,l12,l13,j,f,g,h,i]) rfl q ?_);refine UA (t:=j.ck) rfl (λv=>?_) (λv=>?_)
   .rw [a8.a6,show(At.v 23).ev ([n,r,m,.r gens,key,ok,nok,.r acc,.i k,l0,l1,l2,l3,l4,l5,l6,l7,l8,l9,l10,l11,l12,l13]++[j,f,g,h,i])=j from rfl,bF v]at b;have A:=b;rw[a8.a6]at b;split at b
    .rename_i lt p;have D:lt=[.r [[.sc (.int .i64 l0.a_),.sc (.int .i64 l2.a_),.sc (.int .i64 l1.a_),.sc (.int .u64 f.a_),.sc (.int .u32 g.a_),.sc (.int .i64 h.a_),.sc (.int .i64 i.a_),.sc (.int .i64 (k:Int))]]]:=by
      simp only[Nd.ev,iQ]at p;rw[<-p];rfl
     rw[a8.a6]at b;split at b
     .rename_i E c;have e2:∃x,E=[x]:=by
       simp only[Nd.ev]at c;grind
      obtain⟨x,rfl⟩:=e2;subst D;rw[a8.a6]at b;have e3:a=.v 29/\ρ'=[n,r,m,.r gens,key,ok,nok,.r acc,.i k,l0,l1,l2,l3,l4,l5,l6,l7,l8,l9,l10,l11,l12,l13,j,f,g,h,i,.r [[.sc (.int .i64 l0.a_),.sc (.int .i64 l2.a_),.sc (.int .i64 l1.a_),.sc (.int .u64 f.a_),.sc (.int .u32 g.a_),.sc (.int .i64 h.a_),.sc (.int .i64 i.a_),.sc (.int .i64 (k:Int))]],x]:=by
       simp_all
      obtain⟨rfl,rfl⟩:=e3;have G:x=.r x.bm:=by
       simp only[Nd.ev]at c;split at c
       .cases c;rfl
       .cases c
      refine OU ?_;refine pJ (e:=.normal) (S':=NA) s (by rfl) (atW F40 F112 F113 t40 t112 t113) rfl (ρ':=[n,r,m,.r gens,key,ok,nok,.r acc,.i k,l0,l1,l2,l3,l4,l5,l6,l7,l8,l9,l10,l11,l12,l13,j,f,g,h,i,.r [[.sc (.int .i64 l0.a_),.sc (.int .i64 l2.a_),.sc (.int .i64 l1.a_),.sc (.int .u64 f.a_),.sc (.int .u32 g.a_),.sc (.int .i64 h.a_),.sc (.int .i64 i.a_),.sc (.int .i64 (k:Int))]],x]) ?_ q ?_
      .simp only[gA,gC]at p c;rw[a8.a6,p];simp only[gA,gC];rw[a8.a6,c];rfl
      .obtain⟨w,F,j1,_,_,y⟩:=kB gf (ρ:=[n,r,m,.r gens,key,ok,nok]) (ys:=[.r acc,.i k,l0,l1,l2,l3,l4,l5,l6,l7,l8,l9,l10,l11,l12,l13,j,f,g,h,i,.r [[.sc (.int .i64 l0.a_),.sc (.int .i64 l2.a_),.sc (.int .i64 l1.a_),.sc (.int .u64 f.a_),.sc (.int .u32 g.a_),.sc (.int .i64 h.a_),.sc (.int .i64 i.a_),.sc (.int .i64 (k:Int))]],x]) rfl rfl rfl adz rfl;cases j1;refine⟨_,y X q z,rfl,?_⟩;rfl
     .cases b
    .cases b
   .rw[a8.a6,show(At.v 23).ev ([n,r,m,.r gens,key,ok,nok,.r acc,.i k,l0,l1,l2,l3,l4,l5,l6,l7,l8,l9,l10,l11,l12,l13]++[j,f,g,h,i])=j from rfl,v]at b;simp only[qp,if_false,a8.a6]at b;cases b;refine OU (abV ?_);obtain⟨w,F,j1,_,_,y⟩:=kB gf (ρ:=[n,r,m,.r gens,key,ok,nok]) (ys:=[.r acc,.i k,l0,l1,l2,l3,l4,l5,l6,l7,l8,l9,l10,l11,l12,l13,j,f,g,h,i]) rfl rfl rfl ajy rfl;cases j1;exact⟨_,y X q z,rfl,rfl⟩
 .cases b
theorem akU(a:dt.ok Tryz.prog (kg F40 F112 F113 t40 t112 t113)){n r m key ok nok gens acc}{k:Nat}{l0 l1 l2 l3 l4 l5 l6 l7 l8 l9 l10 l11 l12 l13 X}(b:X.P=Tryz.prog){l d}:
 iz l d X ((Code.region 5 xX false).seq (.region 6 zq false)) (λe st=>e=.normal/\st=Cq.a6 [n,r,m,.r gens,key,ok,nok,.r acc,.i k,l0,l1,l2,l3,l4,l5,l6,l7,l8,l9,l10,l11,l12,l13])
  (Ip.a6 [n,r,m,.r gens,key,ok,nok,.r acc,.i k,l0,l1,l2,l3,l4,l5,l6,l7,l8,l9,l10,l11,l12,l13]):=by
 refine wK (pJ a (by rfl) (aoJ F40 F112 F113 t40 t112 t113) rfl (ρ':=[n,r,m,.r gens,key,ok,nok,.r acc,.i k,l0,l1,l2,l3,l4,l5,l6,l7,l8,l9,l10,l11,l12,l13]) rfl b ?_);exact pJ a (by rfl) (auJ F40 F112 F113 t40 t112 t113) rfl (ρ':=[n,r,m,.r gens,key,ok,nok,.r acc,.i k,l0,l1,l2,l3,l4,l5,l6,l7,l8,l9,l10,l11,l12,l13]) rfl b ⟨rfl,rfl⟩
def Fc(F113:List L->Option (List L))(t113:Nat)(ρ:List L)(gens:List (List PV))(Xb:Fx)(a:Act)(l D:Nat)(rec:Loop)(k:Nat)(W:cp):Prop:=
 ∃E acc,ku F113 t113 ρ gens k=some acc/\Rel Xb E (lq.a6 (ρ++[.r acc])) a W/\E.off [l,D]/\W.heap[l]?=some (.loop rec)/\W.heap[D]?=some (.deferred (some []))
theorem aiL{ρ gens acc}(h:ku F113 t113 ρ gens gens.length=some acc){k}(c:k<gens.length):
 ∃a g b,ku F113 t113 ρ gens k=some a/\gens[gens.length-1-k]?=some g/\tx F113 t113 ρ a (gens.length-1-k) g=some b/\ku F113 t113 ρ gens (k+1)=some b:=by
 grind[arL,ku]
theorem Zm(ρ):(lq.a6 ρ).bt=[]:=rfl
theorem age(hC:dt.ok Tryz.prog (kg F40 F112 F113 t40 t112 t113)){n r m key ok nok:L}{gens N:List (List PV)}(hN:ku F113 t113 [n,r,m,.r gens,key,ok,nok] gens gens.length=some N)
 {Xb:Fx} (hP:Xb.P=Tryz.prog) (O:Xb.k0=3) {E0:Env} {s:Act} {w0:cp} {Q:List (List PV)} (h0:Rel Xb E0 (lq.a6 [n,r,m,.r gens,key,ok,nok,.r Q]) s w0) (aa:∀k,k<Xb.k0->E0.N k=Xb.N0 k) (ab:s.defers=[])
 {l D gB:Nat} (az:D<l) (aA:Xb.w0.heap.size<=l) {rec:Loop} (ad:∃x,E0.N 2=some x/\x.g=some gB) (fn:FuncId)
 (a:rec={state:=.ready,pending:=none,fn,tmps:=s.tmps,params:= #[16,17],assign:=(Code.region 5 xX false).seq (.region 6 zq false),body:=.block 1 ((Code.region 7 Ap false).seq ((Code.region 8 zy false).seq (.cond (.tmp 25) (.region 9 yW false) .skip))),defers:=D})
 (k:Nat) (W:cp) (hJ:Fc F113 t113 [n,r,m,.r gens,key,ok,nok] gens Xb s l D rec k W) (hk:k<=gens.length):
 ∃A cap,W.cell? ⟨gB,0,none⟩=some (.slice A gens.length cap)/\(k<gens.length->∃(g o:Nat)(f:Nat->cr),A=some ⟨g,o,none⟩/\(∀j,j<14->W.cell? ⟨g,o+(gens.length-1-k)*14+j,none⟩=some (f j))/\
  YieldAt Fence.wide 1 Tryz.prog l #[.int .i64 ((gens.length-1-k:Nat):Int),.agg #[f 0,f 1,f 2,f 3,f 4,f 5,f 6,f 7,f 8,f 9,f 10,f 11,f 12,f 13]] W
   (λe w=>e=.returned (.bool true)/\Fc F113 t113 [n,r,m,.r gens,key,ok,nok] gens Xb s l D rec (k+1) w)):=by
 obtain⟨E,acc,R,hR,S,hl,hd⟩:=hJ;obtain⟨xB,aB,ae⟩:=ad;obtain⟨x,g,af,e,q1,q2,q3,q4,q5⟩:=hR.row (n:=2) (b:=.box [.p (.sl gens)]) (by simp[Zm]) rfl;have ag:x=xB:=by
  rcases hR.ec 2 om with h|h
  .simp_all
  simp_all
 subst ag;rw[ae]at q2;cases q2;obtain⟨u,q6,q7,_⟩:=q5 0 (.p (.sl gens)) rfl;have hcell:W.cell? ⟨gB,0,none⟩=some u:=by rw[cell_of_row W gB 0 af e (0,0) q3];exact q6
 rcases RP.rows q7 with⟨hnil,A,cap,rfl⟩| ⟨g,o,cap,sz,f,rfl,aC,aD,aE,ah,hf⟩
 .simp_all
 .refine ⟨_,cap,hcell,λai=>?_⟩;obtain⟨a1,gr,b,k1,k2,F,k4⟩:=aiL hN ai;rw[R]at k1;cases k1;obtain⟨p,hp⟩:∃p,gens.length-1-k=p:=⟨_,rfl⟩
  rw[hp]at k2 F⊢;unfold tx at F;split at F;rotate_left
  .cases F
  rename_i cs aj;obtain⟨c1,c2,c3⟩:=asu aj;have ak:sz=14:=by rw[<-ah gr (dB k2),c2]
  subst ak
  match cs,c1 with
  |[l0,l1,l2,l3,l4,l5,l6,l7,l8,l9,l10,l11,l12,l13],_=>
   split at F;rotate_left
   .cases F
   rename_i aF ρ' T;cases F;have y:∀j q,gr[j]?=some q->W.cell? ⟨g,o+p*14+j,none⟩=some (f p j)/\RP (bad Xb.M E) W q (f p j):=λj q hj=>hf p gr j q k2 hj
   refine⟨g,o,f p,rfl,λj hj=>?_,?_⟩
   .simp_all
   .have hy:=run_yield (P:=Tryz.prog) (args:= #[.int .i64 (p:Int),.agg #[f p 0,f p 1,f p 2,f p 3,f p 4,f p 5,f p 6,f p 7,f p 8,f p 9,f p 10,f p 11,f p 12,f p 13]]) hl (by rw[a];rfl);rw[a]at hy;refine⟨fn,_,_,_,hy,roundIn_of_wpIn trivial ?_⟩;have U:s=⟨s.tmps,[]⟩:=by
     cases s;subst ab;rfl
    have hS:Rel Xb E (Ip.a6 [n,r,m,.r gens,key,ok,nok,.r acc,.i p,l0,l1,l2,l3,l4,l5,l6,l7,l8,l9,l10,l11,l12,l13])
     {tmps:=(s.tmps.setIfInBounds 16 (.int .i64 (p:Int))).setIfInBounds 17 (.agg #[f p 0,f p 1,f p 2,f p 3,f p 4,f p 5,f p 6,f p 7,f p 8,f p 9,f p 10,f p 11,f p 12,f p 13]),defers:=[]} W:=by
     rw[U]at hR;have al:RV Xb.M E W ((TR 9 Aa).a6 [n,r,m,.r gens,key,ok,nok,.r acc,.i p,l0,l1,l2,l3,l4,l5,l6,l7,l8,l9,l10,l11,l12,l13]) (.agg #[f p 0,f p 1,f p 2,f p 3,f p 4,f p 5,f p 6,f p 7,f p 8,f p 9,f p 10,f p 11,f p 12,f p 13]):=by
      refine⟨_,rfl,rfl,λi c z=>?_⟩;have ay:i<14:=(dW.1 z).1;have V:∀q,(List.zipWith Kd.pv Aa [l0,l1,l2,l3,l4,l5,l6,l7,l8,l9,l10,l11,l12,l13])[i]?=some q->RP (bad Xb.M E) W q (f p i):=λq hq=>(y i q (by rw[c3];exact hq)).2
      have am:i=0\/i=1\/i=2\/i=3\/i=4\/i=5\/i=6\/i=7\/i=8\/i=9\/i=10\/i=11\/i=12\/i=13:=om;rcases am with rfl|rfl|rfl|rfl|rfl|rfl|rfl|rfl|rfl|rfl|rfl|rfl|rfl|rfl<;>
       (cases z;exact⟨_,rfl,V _ rfl,(V _ rfl).rh⟩)
     exact(hR.put (some 16) (v:=.v (.c (.p (.sc (.int .i64 (p:Int)))))) (u:=.int .i64 (p:Int)) (RP.sc rfl)).put (some 17) al
    have B:∀{w:cp},l<w.heap.size->∀g∈ [l,D],g<w.heap.size:=λh g hg=>by
     simp at hg;omega
    have an:l<W.heap.size:=(fx.1 hl).1;have hput:∀(w:cp)(r1 r2:Loop),w.heap[l]?=some (.loop r1)->∀g o,w.heap[g]?=some o->(g<Xb.w0.heap.size\/o.isCells=true\/∃en c,o=.map en c)->(w.putObj l (.loop r2)).heap[g]?=w.heap[g]?:=λw r1 r2 h g o ho z=>by
     refine World.putObj_heap_other λao=>?_
     subst ao;rw[h]at ho;cases ho;rcases z with z|z| ⟨_,_,z⟩
     .omega
     .cases z
     .cases z
    have h1:=FW (l:=l) (n:=1) (λX' e1 e2=>akU (n:=n) (r:=r) (m:=m) (key:=key) (ok:=ok) (nok:=nok) (gens:=gens) (acc:=acc) (k:=p) (l0:=l0) (l1:=l1) (l2:=l2) (l3:=l3) (l4:=l4) (l5:=l5) (l6:=l6) (l7:=l7) (l8:=l8) (l9:=l9) (l10:=l10) (l11:=l11) (l12:=l12) (l13:=l13) (l:=l) (d:=1) hC (e1.trans hP)) hS rfl S (B an);rw[hP]at h1;have G:∀v1 v2:cr,((#[16,17]:Array Tmp).zip #[v1,v2]).foldl (λt(p,v)=>t.setIfInBounds p v) s.tmps=(s.tmps.setIfInBounds 16 v1).setIfInBounds 17 v2:=λv1 v2=>by
     simp[Array.zip,Array.zipWith,Array.zipWithMAux]
    rw[G];refine wpIn_mono h1 ?_;rintro e1 a1 H ⟨aG,E1,⟨rfl,rfl⟩,_,ap,I,X,aH⟩;have J:H.heap[l]?=some (.loop rec):=(X l (by simp)).trans hl;have aq:H.heap[D]?=some (.deferred (some [])):=(X D (by simp)).trans hd;have C:l<H.heap.size:=(fx.1 J).1;refine⟨_,run_beginRound J (by rw[a]),?_⟩;have ar:(H.putObj l (.loop {rec with state:=.busy})).heap[l]?=some (.loop {rec with state:=.busy}):=World.putObj_heap_same C;have au:(H.putObj l (.loop {rec with state:=.busy})).heap[D]?=some (.deferred (some [])):=(World.putObj_heap_other om).trans aq;have av:=ap.other (w':=H.putObj l (.loop {rec with state:=.busy})) rfl rfl rfl (by simp) (hput _ _ _ J);have Y:l< (H.putObj l (.loop {rec with state:=.busy})).heap.size:=by simpa using C
    have h2:=FW (l:=l) (n:=1) (λX' e1 e2=>ahJ (l:=l) (d:=1) hC T (e1.trans hP) (e2.trans O)) av rfl I (B Y);rw[hP]at h2;refine wpIn_mono h2 ?_;rintro e3 a3 w3 ⟨aI,E3,⟨rfl,rfl⟩,_,aw,K,Z,aJ⟩;have M:w3.heap[l]?=some (.loop {rec with state:=.busy}):=(Z l (by simp)).trans ar;have ax:w3.heap[D]?=some (.deferred (some [])):=(Z D (by simp)).trans au;refine⟨_,_,run_endRound none M,rfl,E3,_,k4,?_,K,?_,?_⟩
    .exact(h0.again aw aa rfl rfl rfl (by rw[O];rfl)).other rfl rfl rfl (by simp) (hput _ _ _ M)
    .rw[World.putObj_heap_same (fx.1 M).1,a];rfl
    .exact(World.putObj_heap_other om).trans ax
theorem asO{n r m key ok gens}(a:F40 [n,r,m,.r gens]=some [ok]):
 (a8.op (.call t40 F40 [(.v 0),(.v 1),(.v 2),(.v 3)] 1 []) (.op (.not (.v 5)) (.ite (.v 6) (.br (.st .ret Cg)) (.br (.st .normal yO))))).a6 [n,r,m,.r gens,key]=
  some (if ok.ck=true then .st .normal yO else .st .ret Cg,[n,r,m,.r gens,key,ok,.b (!ok.ck)]):=by
 have b:Nd.ev [n,r,m,.r gens,key] (.call t40 F40 [(.v 0),(.v 1),(.v 2),(.v 3)] 1 [])=some [ok]:=by
  simp only[Nd.ev];rw[show[At.v 0,.v 1,.v 2,.v 3].map (At.ev [n,r,m,.r gens,key])=[n,r,m,.r gens]from rfl,a];rfl
 rw[a8.a6,b];show(match Nd.ev [n,r,m,.r gens,key,ok] (.not (.v 5))with|some ls=>a8.a6 _ ([n,r,m,.r gens,key,ok]++ls)|none=>none)=_;rw[show Nd.ev [n,r,m,.r gens,key,ok] (.not (.v 5))=some [.b (!ok.ck)]from rfl];cases ok.ck<;>rfl
set_option maxRecDepth 100000 in
theorem akC(Pu:(uA F40 t40).ok Tryz.prog)(Pv:(uF F112 t112).ok Tryz.prog)(A_:(iI F113 t113).ok Tryz.prog)(tag):(R8 F40 F112 F113 t113 tag).ok Tryz.prog:=by
 have hC:dt.ok Tryz.prog (kg F40 F112 F113 t40 t112 t113):=λs hs=>by
  simp only[kg,dn,iS,or_false]at hs;grind
 intro ls os hl hF xo;have hF:sO F40 F112 F113 t113 ls=some os:=hF;unfold sO at hF;split at hF;rotate_left
 .cases hF
 rename_i n r m gens key _;split at hF;rotate_left
 .cases hF
 rename_i ok axU;have sb:=asO (F40:=F40) (t40:=t40) (key:=key) axU;refine fg.Za (H:=[]) Tryz.func58 kr afs ajI (rs:=[.tmp 4]) (by rw[atE]) ?_;intro X hP hk hD a w ht;have hk:X.k0=0:=hk;have A0:=(piece hC (k0:=0) (n:=0) (r:=0) (ex:=[]) (show exec TT _ 0 (.region 0 JQ false) 0 [] 0 abm=_ from asA F40 F112 F113 t40 t112 t113) rfl rfl (ρ:=[n,r,m,.r gens,key]) rfl hP hk).2.2 a w ht;rw[hP]at A0;refine wp_seq (wp_mono A0 ?_);rintro e1 a1 w1 ⟨st1,⟨rfl,rfl⟩,A4⟩;by_cases dm:ok.ck=true
 .rw [bF dm]at hF sb;split at hF;rotate_left
  .cases hF
  rename_i hlen;split at hF;rotate_left
  .cases hF
  rename_i axV;simp only[bY]at hF;obtain⟨accN,acy,rfl⟩:=hF;have A1:=(piece hC (Wm F40 F112 F113 t40 t112 t113) rfl rfl sb hP hk).2.2 a1 w1 A4;rw[hP]at A1;refine wp_seq (wp_mono A1 ?_);rintro e2 a2 w2 ⟨st2,⟨rfl,rfl⟩,uN⟩;generalize (L.b (!ok.ck))=nok at*;have A2:=(piece hC (k0:=0) (n:=0) (r:=0) (ex:=[]) (show exec TT _ 0 (.region 3 HC false) 0 [] 0 yO=_ from ahN F40 F112 F113 t40 t112 t113) rfl rfl (ρ:=[n,r,m,.r gens,key,ok,nok]) rfl hP hk).2.2 a2 w2 uN;rw[hP]at A2;refine wp_seq (wp_mono A2 ?_);rintro e3 a3 w3 ⟨st3,⟨rfl,rfl⟩,O'⟩;have pR:(a8.op (.call t112 F112 [(.v 3)] 0 []) (.br (.st .normal DK))).a6 [n,r,m,.r gens,key,ok,nok]=some (.st .normal DK,[n,r,m,.r gens,key,ok,nok]):=by
   have e1:Nd.ev [n,r,m,.r gens,key,ok,nok] (.call t112 F112 [(.v 3)] 0 [])=some []:=by
    simp only[Nd.ev];rw[show[At.v 3].map (At.ev [n,r,m,.r gens,key,ok,nok])=[.r gens]from rfl,axV];rfl
   rw[a8.a6,e1];rfl
  have A3:=(piece hC (k0:=0) (n:=0) (r:=0) (ex:=[]) (show exec TT _ 0 (.region 4 Ks false) 0 [] 0 Jv=_ from amQ F40 F112 F113 t40 t112 t113) rfl rfl (ρ:=[n,r,m,.r gens,key,ok,nok]) pR hP hk).2.2 a3 w3 O';rw[hP]at A3;refine wp_seq (wp_seq (wp_mono A3 ?_));rintro e4 a4 w4 ⟨st4,⟨rfl,rfl⟩,Pj⟩;have Pk:Told X (lq.a6 [n,r,m,.r gens,key,ok,nok,.r []]) a4 w4:=by
   obtain⟨xs1,zs,j1,_,_,j4⟩:=kB gf (ρ:=[n,r,m,.r gens,key,ok,nok]) (ys:=[]) rfl rfl rfl aup rfl;cases j1;exact j4 X hP hk a4 w4 Pj
  obtain⟨E0,R0,_⟩:=Pk;have Pm:a4.defers=[]:=R0.defers.trans hD;obtain⟨u15,h15,axY⟩:=R0.tmps 15 _ rfl;obtain⟨us,rfl,gP,axZ⟩:=(show RC X.M E0 w4 (.fn 169 [2]) u15 from axY)
  obtain⟨u,hu,hNu⟩:=axZ 0 2 rfl;obtain⟨xB,hxB,gB,hgB,rfl⟩:=cS.get hNu (by rw[R0.bt];simp[Zm]);obtain rfl:us= #[.pointer (some ⟨gB,0,none⟩)]:=by
   grind
  have Pn:a4.eval (.tmp 15)=.func (.func 169) #[] #[.pointer (some ⟨gB,0,none⟩)]:=by
   simp[Act.eval,u5,h15]
  refine wp_block ((wpIn_wide (n:=3)).1 (wpIn_rangeFunc ?_));intro fn hfn;obtain⟨rec,jV⟩:∃rec:Loop,rec={state:=.ready,pending:=none,fn,tmps:=a4.tmps,params:= #[16,17],assign:=(Code.region 5 xX false).seq (.region 6 zq false),body:=.block 1 ((Code.region 7 Ap false).seq ((Code.region 8 zy false).seq (.cond (.tmp 25) (.region 9 yW false) .skip))),defers:=w4.heap.size}:=⟨_,rfl⟩
  obtain⟨W1,hW1⟩:∃W1,(w4.alloc (.deferred (some []))).alloc (.loop rec)=W1:=⟨_,rfl⟩
  have hs1:W1.heap.size=w4.heap.size+2:=by rw[<-hW1];simp
  have AY:W1.heap[w4.heap.size+1]?=some (.loop rec):=by
   rw[<-hW1];have:=World.alloc_heap_new (w4.alloc (.deferred (some []))) (.loop rec);simp_all
  have AZ:W1.heap[w4.heap.size]?=some (.deferred (some [])):=by
   rw[<-hW1];exact(Below.heap_alloc _ _ _ (by simp)).trans (World.alloc_heap_new w4 _)
  have hold:∀g,g<w4.heap.size->W1.heap[g]?=w4.heap[g]?:=λg hg=>by
   grind[Below.heap_alloc]
  let Xb:Fx:=⟨X.P,X.M,X.K,X.w0,E0.N,3,[]⟩
  have h0:Rel Xb E0 (lq.a6 [n,r,m,.r gens,key,ok,nok,.r []]) ⟨a4.tmps,[]⟩ w4:={
   defers:=rfl,bt:=R0.bt,frame:=R0.frame,eW:=R0.eW,dD:=R0.dD,names:=R0.names,inj:=R0.inj,ec:=λ_ _=>.inr rfl
   fQ:=by show 3<=4;omega
   fK:=R0.fK,size:=R0.size,tmps:=R0.tmps,heap:=R0.heap}
  have hW0:X.w0.heap.size<=w4.heap.size:=R0.frame.size;have Po:Fc F113 t113 [n,r,m,.r gens,key,ok,nok] gens Xb ⟨a4.tmps,[]⟩ (w4.heap.size+1) w4.heap.size rec 0 W1:=by
   refine⟨E0,[],rfl,h0.other ?_ ?_ ?_ om λg o ho _=>hold g (fx.1 ho).1,λn x g h1 h2 hg=>?_,AY,AZ⟩
   .rw[<-hW1];rfl
   .rw[<-hW1];rfl
   .rw[<-hW1];rfl
   .have:=(R0.names n x g h1 h2).1;simp at hg;omega
  refine⟨w4.heap.size+1,[{target:=.collected w4.heap.size,args:= #[]}],W1,{target:=.fn (.func 169) #[.pointer (some ⟨gB,0,none⟩)],args:= #[.func (.yield (w4.heap.size+1)) #[] #[]]},W1,169,
   #[.func (.yield (w4.heap.size+1)) #[] #[],.pointer (some ⟨gB,0,none⟩)],W1,?_,?_,?_,?_,λ_=>by omega,?_⟩
  .rw[<-hW1,jV];exact run_enterLoop_outer _ _ _ _ _
  .simp only[resolve,Pn];simp[go_sem]
  .intro f' _;trivial
  .rfl
  .refine(anU 2 om (w4.heap.size+1) gB gens.length hlen (Fc F113 t113 [n,r,m,.r gens,key,ok,nok] gens Xb ⟨a4.tmps,[]⟩ (w4.heap.size+1) w4.heap.size rec)
    (λk W hJ hk=>age hC acy (Xb:=Xb) hP rfl h0 (λ_ _=>rfl) rfl om (by grind) ⟨xB,hxB,hgB⟩ fn jV k W hJ hk) W1 Po).mono ?_
   rintro e5 W5 ⟨⟨v,rfl⟩,E5,azZ,acz,A7,Gw,o6,A8⟩;rw[acy]at acz;cases acz;refine⟨_,_,run_endLoop o6 (by rw[jV];simp),?_⟩;have fH:=A7.other (w':=W5.putObj (w4.heap.size+1) (.loop {rec with state:=.exhausted})) rfl rfl rfl (by simp) (λg o ho hi=>World.putObj_heap_other λA6=>by
    subst A6;rw[o6]at ho;cases ho;rcases hi with hi|hi| ⟨_,_,hi⟩
    .grind
    .cases hi
    .cases hi)
   have sd:(W5.putObj (w4.heap.size+1) (.loop {rec with state:=.exhausted})).heap[w4.heap.size]?=some (.deferred (some [])):=(World.putObj_heap_other om).trans A8;generalize W5.putObj (w4.heap.size+1) (.loop {rec with state:=.exhausted})=W6 at fH sd⊢;rw[show rec.pending=none by rw[jV]]
   let X2:Fx:=⟨X.P,X.M,X.K,X.w0,X.N0,X.k0,[{target:=.collected w4.heap.size,args:= #[]}]⟩
   have h7:Rel X2 E5 (lq.a6 [n,r,m,.r gens,key,ok,nok,.r accN]) {a4 with defers:=[{target:=.collected w4.heap.size,args:= #[]}]++a4.defers} W6:={
    defers:=by rw[Pm];rfl
    bt:=fH.bt,frame:=fH.frame,eW:=fH.eW,dD:=fH.dD,names:=fH.names,inj:=fH.inj
    ec:=λk lX=>absurd (show k<X.k0 from lX) om
    fQ:=by grind
    fK:=fH.fK,size:=fH.size,tmps:=fH.tmps,heap:=fH.heap}
   have h8:=ZS (X:=X2) (c:=(Code.region 10 B1 false).seq .ret) (Q:=λe st=>e=.ret/\st=Jt.a6 [n,r,m,.r gens,key,ok,nok,.r accN]) (λX' e1 e2=>by
    have:=(piece hC (k0:=0) (n:=0) (r:=0) (ex:=[]) (show exec TT _ 0 (.region 10 B1 false) 0 [] 0 lq=_ from avO F40 F112 F113 t40 t112 t113) rfl rfl (ρ:=[n,r,m,.r gens,key,ok,nok,.r accN]) rfl (e1.trans hP) (e2.trans hk)).2.2;refine gg (lB this ?_);rintro e st ⟨rfl,rfl⟩;exact tB ⟨rfl,rfl⟩) h7 rfl (S:=[w4.heap.size]) (λn x g h1 h2 hg=>Gw n x g h1 h2 (by simp_all)) (λg hg=>by
    grind)
   rw[show X2.P=Tryz.prog from hP]at h8;refine wp_mono h8 ?_;rintro e9 a9 w9 ⟨st9,E9,⟨rfl,rfl⟩,_,Ps,axM,Pt,hs9⟩;refine⟨.inr rfl,Gm.a6 [n,r,m,.r gens,key,.r accN],[{target:=.collected w4.heap.size,args:= #[]}],?_,rfl,λ_ _ h=>h,.inr ⟨_,rfl,hW0,(Pt _ (by simp)).trans sd⟩⟩;obtain⟨xs1,zs,j1,_,_,j4⟩:=kB gf (ρ:=[n,r,m,.r gens,key]) (ys:=[ok,nok,.r accN]) rfl rfl rfl afz rfl;cases j1;exact j4 X2 hP hk a9 w9 ⟨E9,Ps,rfl⟩
 .rw[bO dm]at hF sb;cases hF;have A1:=(piece hC (Wm F40 F112 F113 t40 t112 t113) rfl rfl sb hP hk).2.2 a1 w1 A4;rw[hP]at A1;refine wp_seq (wp_mono A1 ?_);rintro e2 a2 w2 ⟨st2,⟨rfl,rfl⟩,uN⟩;refine⟨.inr rfl,Gm.a6 [n,r,m,.r gens,key,.r []],[],?_,rfl,λ_ _ h=>h,.inl rfl⟩;have Pg:({X with D:=[]}:Fx)=X:=by
   cases X;subst hD;rfl
  rw[Pg];obtain⟨xs1,zs,j1,_,_,j4⟩:=kB gf (ρ:=[n,r,m,.r gens,key]) (ys:=[ok,.b (!ok.ck)]) rfl rfl rfl alV rfl;cases j1;exact j4 X hP hk a2 w2 uN
end
end
section
attribute [local irreducible] Fo
open Go.RowKit
def Uc:a8:=.join (.bI .lss U0 (.i 0)<|.ite U4 (.j [.b true]) (.bI .geq U0 (.i 4)<|.ite U5 (.j [.b true]) (.cA 5 F5 [.i 4096] 1<|.bI .add (.i 16) U6<|.bI .lss U1 U7<|.ite U8 (.j [.b true]) (.bI .gtr U1 (.i 262144)<|.j [U9])))) (.ite U4 (.j [.b false]) (.join (.ln U3<|.bI .lss U5 (.i 1)<|.ite U6 (.j [.b true]) (.ln U3<|.bI .gtr U7 (.i 8)<|.j [U8])) (.ite U5 (.j [.b false]) (.join (.ln U3<|.loop [.i 0] (.bI .lss U7 U6<|.ite U8 (.rw U3 U7 14<|.cl U9 0 (.int .i64)<|.cl U9 1 (.int .i64)<|.cl U9 2 (.int .i64)<|.cl U9 3 (.int .i64)<|.cl U9 4 .sl<|.cl U9 5 .sl<|.cl U9 6 .sl<|.cl U9 7 .sl<|.cl U9 8 .sl<|.cl U9 9 .sl<|.cl U9 10 .sl<|.cl U9 11 .sl<|.cl U9 12 (.int .i64)<|.cl U9 13 (.int .i64)<|.ln U3<|.bI .sub cX (.i 1)<|.bI .eql U7 cG<|.join (.cA 187 No [bA,bD,bJ,bH,bM,bL,bV,bR,bW,bX,b9,cu,cq,cv] 1<|.no c9<|.ite dJ (.j [.b true]) (.bI .gtr U7 (.i 0)<|.ite dI (.bI .sub U7 (.i 1)<|.rw U3 eo 14<|.cl fm 0 (.int .i64)<|.bI .leq bA e_<|.ite eH (.j [.b true]) (.bI .eql bJ (.i 1)<|.op (.bb .neq gG cK)<|.ite fv (.j [.b true]) (.bI .mul (.i 2) U1<|.bI .gtr bH mb<|.j [oP]))) (.bI .eql bJ (.i 1)<|.op (.bb .neq eo cK)<|.ite fm (.j [.b true]) (.bI .mul (.i 2) U1<|.bI .gtr bH e_<|.j [eH])))) (.ite c9 (.br (.jump 2 [.b false])) (.bI .add U7 (.i 1)<|.j [dJ]))) (.br (.jump 1 [])))) (.ln U3<|.bI .sub U6 (.i 1)<|.rw U3 U7 14<|.cl U8 0 (.int .i64)<|.cl U8 1 (.int .i64)<|.cl U8 2 (.int .i64)<|.cl U8 3 (.int .i64)<|.cl U8 4 .sl<|.cl U8 5 .sl<|.cl U8 6 .sl<|.cl U8 7 .sl<|.cl U8 8 .sl<|.cl U8 9 .sl<|.cl U8 10 .sl<|.cl U8 11 .sl<|.cl U8 12 (.int .i64)<|.cl U8 13 (.int .i64)<|.cA 171 Hq [bH,bM,bL,bV,bR,bW,bX,b9,cu,cq] 1<|.cA 5 F5 [.i 0] 1<|.bI .mul cv cX<|.bI .add bJ cG<|.bI .mul (.i 2) U1<|.bI .leq cK c9<|.j [dJ])))))
def wi:=Fo Uc
def Gl:bB:=⟨40,[.agg [pi 0,pi 1,.p .bool U2,ps 3]],[],4,1,.v (.c (.p .bool U4)),[],wi,190⟩
instance:Ok Gl:=oS [Oa,LB,yB,s5]
def CD:List L->Option (List L):=sO wi F4 oh 125
def Ov:bB:=R8 wi F4 oh 125 2002
theorem avd:Ov.ok Tryz.prog:=akC (F40:=wi) (t40:=190) (F112:=F4) (t112:=4) (F113:=oh) (t113:=125) (Ok.j Gl) (Ok.j s4) (Ok.j YV) 2002
instance:Ok Ov:=⟨avd⟩
def Yw:a8:=.cA 2002 CD [U0,U1,U2,U3,U4] 1<|.ln U5<|.bI .eql U6 (.i 0)<|.ite U7 (.j [.b false,.i 0,.i 0,.i 0,.i 0,.i 0,.i 0,.i 0]) (.rw U5 (.i 0) 8<|.op (.rc U5 (.i 0) 0 (.int .i64))<|.op (.rc U5 (.i 0) 1 (.int .i64))<|.op (.rc U5 (.i 0) 2 (.int .i64))<|.op (.rc U5 (.i 0) 3 (.int .u64))<|.op (.rc U5 (.i 0) 4 (.int .u32))<|.op (.rc U5 (.i 0) 5 (.int .i64))<|.op (.rc U5 (.i 0) 6 (.int .i64))<|.j [.b true,U9,bA,bD,bJ,bH,bM,bL])
def Oi:=Fo Yw
def QB:bB:=⟨29,[.agg [pi 0,pi 1,.p .bool U2,ps 3],.c (.p (.int .u64) U4)],[],5,8,.bq [.agg [pi 6,pi 7,pi 8,.p (.int .u64) U9,.p (.int .u32) bA,pi 11,pi 12],.c (.p .bool U5)],[],Oi,192⟩
instance:Ok QB:=oS [Ov]
def CM:=mS [Oa,LB,yB,s5] 40 [.agg [pi 0,pi 1,.p .bool U2,.own 0]] [.row 131 U3] 4 1 (.v (.c (.p .bool U4))) [(0,(.row 131 U3))] 418
def azr:=CM.F
instance:Ok CM:=oM
def AJ:=mS [CM,Gl,L7] 32 [ci 0,ci 1] [] 2 4 (.bq [.agg [pi 3,pi 4,.p .bool (.b false),.own 0],ci 2]) [(0,(.row 131 U5))] 191
def ZK:=AJ.F
instance:Ok AJ:=oM
def alC:List L->Option (List L):=ZK
def Kc:bB:=⟨32,[ci 0,ci 1],[],2,4,.bq [.agg [pi 3,pi 4,.p .bool (.b false),ps 5],ci 2],[],ZK,2050⟩
theorem avS:Kc.ok Tryz.prog:=Da (s:=AJ) (Ok.j AJ) rfl (x:=(.v 5)) (e:=131) rfl rfl 2050
instance:Ok Kc:=⟨avS⟩
def T2:a8:=.cA 192 Oi [bD,bJ,bH,bM,U0] 8<|.join (.no bL<|.ite cv (.j [.b true]) (.op (.bi .neq .u32 b9 U1)<|.j [cX])) (.ite cv (.op (.lit [[((.int .u64),(.i 0)),((.int .u32),(.i 0)),(.bool,(.b false)),(.sl,.r0),((.int .i64),(.i 6))]])<|.j [U2,U3,U4,U5,U6,U7,U8,U9,cX]) (.j [.i 1,bV,bR,bW,bX,b9,cu,cq,.r0]))
def Kj:=Fo T2
def Vj:bB:=⟨41,[.agg ([.p (.int .u64) U0,.p (.int .u32) U1]++de 2 4++[.p (.int .u64) U6,.p (.int .u32) U7,pi 8,pi 9,pi 10]),.agg [pi 11,pi 12,.p .bool bH,ps 14]],[],15,9,.bq [.agg ([.p (.int .u64) U0,.p (.int .u32) U1]++de 15 4++[.p (.int .u64) bX,.p (.int .u32) b9,pi 21,pi 22,pi 10]),.c (.own 0)],[(0,(.row 75 cv))],Kj,419⟩
instance:Ok Vj:=oS [QB]
def Oq:a8:=.join (.cA 190 wi [U3,U4,U5,U6] 1<|.no bW<|.ite bX (.j [.i 1]) (.join (.bI .neq U9 (.i 0)<|.ite b9 (.bI .neq U9 (.i 1)<|.j [cu]) (.j [.b false])) (.ite b9 (.j [.i 12]) (.join (.bI .eql U9 (.i 1)<|.ite cu (.bI .eql U1 (.i 0)<|.j [cq]) (.j [.b false])) (.ite cu (.j [.i 13]) (.j [.i 0])))))) (.bI .neq bW (.i 0)<|.ite bX (.j [bW,.i 0,.i 0,.i 0,.i 0,.i 0,.i 0,.i 0,.i 0,.i 0,.i 0,.i 0,.r0]) (.join (.bI .eql U9 (.i 0)<|.ite b9 (.cA 419 Kj [U7,U8,U9,bA,bD,bJ,bH,bM,bL,bV,bR,U3,U4,U5,U6] 9<|.j [cu,cq,cv,cX,cG,cK,c9,dJ,bR,dI]) (.cA 1200 Iv [U7,U8,U9,bA,bD,bJ,bH,bM,bL,bV,bR,U0,U1,U2,U3,U4,U5,U6] 3<|.j [cu,bA,bD,bJ,bH,bM,bL,bV,cq,cv])) (.j [.i 0,U7,U8,b9,cu,cq,cv,cX,cG,cK,c9,dJ,dI])))
def CJ:=Fo Oq
def OA:bB:=⟨15,[.agg [pi 0,pi 1,ps 2],.agg [pi 3,pi 4,.p .bool U5,ps 6],.agg ([.p (.int .u64) U7,.p (.int .u32) U8]++de 9 4++[.p (.int .u64) bH,.p (.int .u32) bM,pi 15,pi 16,pi 17])],[],18,13,.bq [.agg ([.p (.int .u64) bX,.p (.int .u32) b9]++de 21 4++[.p (.int .u64) cG,.p (.int .u32) cK,pi 27,pi 28,pi 29]),.c (.own 0),ci 18],[(0,(.row 75 eo))],CJ,420⟩
instance:Ok OA:=oS [Vj,CM,Gl,Um]
def OY:=mS [OA,Kc,AJ,Ee,Gd,Ai,IZ] 10 [] [] 0 1 (.v (.c (.p .bool U0))) [] 195
def NT:=OY.F
instance:Ok OY:=oM
def asL:a8:=.j []
def Gp:=Fo asL
def QM:bB:=⟨12,[.c (.p (.int .u64) U0),.c (.p (.int .u32) U1)],[],2,0,.v (.agg [.p (.int .u64) U0,.p (.int .u32) U1,.p (.int .i64) (.i 0),.p (.int .i64) (.i 0),.p (.int .i64) (.i 0),.p (.int .i64) (.i 0),.p (.int .u64) (.i 0),.p (.int .u32) (.i 0),.p (.int .i64) (.i 0),.p (.int .i64) (.i 0),.p (.int .i64) (.i 0)]),[],Gp,522⟩
instance:Ok QM:=oS []
def ann:a8:=.j []
def Yx:=Fo ann
def s15:bB:=⟨89,[.agg (eT 0 8++[pi 8,pi 9])],[],10,0,.v (.agg (eT 0 8++[pi 8,pi 9])),[],Yx,15⟩
instance:Ok s15:=oS []
def akN:a8:=.op (.call 15 Yx (w 4 10) 0 [])<|.j []
def I3:=Fo akN
def VX:bB:=⟨43,[.agg (de 0 4++eT 4 8++[pi 12,pi 13])],[],14,0,.v (.agg (de 0 4++eT 4 8++[pi 12,pi 13])),[],I3,16⟩
instance:Ok VX:=oS [s15]
def amA:a8:=.join (.ln U3<|.loop [.i 0,.r0] (.bI .lss U5 U4<|.ite U7 (.rw U3 U5 14<|.cl U8 0 (.int .i64)<|.cl U8 1 (.int .i64)<|.cl U8 2 (.int .i64)<|.cl U8 3 (.int .i64)<|.cl U8 4 .sl<|.cl U8 5 .sl<|.cl U8 6 .sl<|.cl U8 7 .sl<|.cl U8 8 .sl<|.cl U8 9 .sl<|.cl U8 10 .sl<|.cl U8 11 .sl<|.cl U8 12 (.int .i64)<|.cl U8 13 (.int .i64)<|.op (.call 16 I3 (w 9 14) 0 [])<|.op (.lit [[((.int .i64),U9),((.int .i64),bA),((.int .i64),bD),((.int .i64),bJ),(.sl,bH),(.sl,bM),(.sl,bL),(.sl,bV),(.sl,bR),(.sl,bW),(.sl,bX),(.sl,b9),((.int .i64),cu),((.int .i64),cq)]])<|.op (.app U6 cv 14 240)<|.bI .add U5 (.i 1)<|.j [cG,cX]) (.br (.jump 1 [U6])))) (.j [U4])
def KS:=Fo amA
def RW:bB:=⟨17,[.agg [pi 0,pi 1,.p .bool U2,ps 3]],[],4,1,.v (.agg [pi 0,pi 1,.p .bool U2,.own 0]),[(0,(.row 131 U4))],KS,17⟩
instance:Ok RW:=oS [VX]
def ahD:a8:=.j []
def IL:=Fo ahD
def Vp:bB:=⟨18,[.agg ([.p (.int .u64) U0,.p (.int .u32) U1]++de 2 4++[.p (.int .u64) U6,.p (.int .u32) U7,pi 8,pi 9,pi 10])],[],11,0,.v (.agg ([.p (.int .u64) U0,.p (.int .u32) U1]++de 2 4++[.p (.int .u64) U6,.p (.int .u32) U7,pi 8,pi 9,pi 10])),[],IL,523⟩
instance:Ok Vp:=oS []
def ajf:a8:=.cA 56 yk [.i 1,U3,U4] 1<|.cA 44 mL [U8] 1<|.cA 127 nZ [U0,U1,U2,U9,U7,bA] 2<|.bI .neq bJ (.i 0)<|.ite bH (.j [.i 11,.i 0,.i 0,.b false,.r0]) (.cA 354 CU [bD] 6<|.join (.bI .neq bL (.i 0)<|.ite b9 (.j [.b true]) (.ite bW (.j [.b true]) (.op (.bi .neq .u64 bV U5)<|.ite cu (.j [.b true]) (.op (.bi .neq .u32 bR U6)<|.ite cq (.j [.b true]) (.ln bX<|.bI .neq cv U8<|.j [cX]))))) (.ite b9 (.j [.i 11,.i 0,.i 0,.b false,.r0]) (.j [.i 0,bV,bR,bW,bX])))
def Nv:=Fo ajf
def abw:bB:=⟨90,[.agg [pi 0,pi 1,ps 2],ci 3,ci 4,.agg [.p (.int .u64) U5,.p (.int .u32) U6,pi 7,pi 8]],[],9,5,.bq [.agg [.p (.int .u64) bA,.p (.int .u32) bD,.p .bool bJ,.own 0],ci 9],[(0,(.row 5 bH))],Nv,524⟩
instance:Ok abw:=oS [Lu,My,qG,kX]
def Xm:a8:=.join (.loop [.i 0,.b false,.i 0] (.ln U6<|.bI .lss b9 cu<|.ite cq (.join (.rw U6 b9 14<|.cl cv 0 (.int .i64)<|.cl cv 1 (.int .i64)<|.cl cv 2 (.int .i64)<|.cl cv 3 (.int .i64)<|.cl cv 4 .sl<|.cl cv 5 .sl<|.cl cv 6 .sl<|.cl cv 7 .sl<|.cl cv 8 .sl<|.cl cv 9 .sl<|.cl cv 10 .sl<|.cl cv 11 .sl<|.cl cv 12 (.int .i64)<|.cl cv 13 (.int .i64)<|.bI .eql cX bA<|.ite lx (.bI .eql cG bJ<|.ite nz (.bI .neq cK (.i 3)<|.ite nH (.j [cK,.b true]) (.bI .eql bD (.i 3)<|.j [cK,ou])) (.j [cK,.b false])) (.j [bW,bX])) (.bI .add b9 (.i 1)<|.j [cv,cX,cG])) (.br (.jump 1 [bW,bX])))) (.no bX<|.ite b9 (.bI .add bR (.i 1)<|.j [.i 0,cu,.r0]) (.join (.bI .eql bW (.i 3)<|.ite cu (.cA 406 Ey [U0,U1,U2,U3,bA,bH,bM,bL,bV] 5<|.j [cq,cv,cX,cG,cK]) (.cA 524 Nv [U0,U1,U2,U3,bA,bH,bM,bL,bV] 5<|.j [cq,cv,cX,cG,cK])) (.bI .neq cu (.i 0)<|.ite cK (.op (.lit [[((.int .u64),(.i 0)),((.int .u32),(.i 0)),(.bool,(.b false)),(.sl,.r0),((.int .i64),(.i 11))]])<|.j [U9,bR,c9]) (.op (.lit [[((.int .u64),cq),((.int .u32),cv),(.bool,cX),(.sl,cG),((.int .i64),(.i 0))]])<|.j [U9,bR,c9]))))
def Ml:=Fo Xm
def Sw:bB:=⟨44,[.agg [pi 0,pi 1,ps 2],.agg [pi 3,pi 4,.p .bool U5,ps 6],.agg ([.p (.int .u64) U7,.p (.int .u32) U8]++de 9 4++[.p (.int .u64) bH,.p (.int .u32) bM,pi 15,pi 16,pi 17])],[],18,3,.bq [.agg [.p (.int .u64) U7,.p (.int .u32) U8,pi 18,pi 10,pi 11,pi 12,.p (.int .u64) bH,.p (.int .u32) bM,pi 15,pi 16,pi 19],.c (.own 0),.c (.p (.int .i64) (.i 0))],[(0,(.row 76 b9))],Ml,525⟩
instance:Ok Sw:=oS [abw,QI]
def ahS:a8:=.cA 103 zM [U3,U4,U5,U6] 1<|.no bW<|.ite bX (.j [.i 1,.i 0,.i 0,.i 0,.i 0,.i 0,.i 0,.i 0,.i 0,.i 0,.i 0,.i 0,.r0]) (.bI .eql U9 (.i 0)<|.ite b9 (.cA 115 v_ [U3,U4,U5,U6,U7] 8<|.join (.no cu<|.ite dI (.j [.b true]) (.op (.bi .neq .u32 cK U8)<|.j [eo])) (.ite dI (.op (.lit [[((.int .u64),(.i 0)),((.int .u32),(.i 0)),(.bool,(.b false)),(.sl,.r0),((.int .i64),(.i 6))]])<|.j [.i 0,U7,U8,U9,bA,bD,bJ,bH,bM,bL,bV,bR,eo]) (.j [.i 0,U7,U8,.i 1,cq,cv,cX,cG,cK,c9,dJ,bR,.r0]))) (.bI .eql U9 (.i 1)<|.ite cu (.bI .eql U1 (.i 0)<|.ite cq (.j [.i 13,.i 0,.i 0,.i 0,.i 0,.i 0,.i 0,.i 0,.i 0,.i 0,.i 0,.i 0,.r0]) (.cA 525 Ml [U0,U1,U2,U3,U4,U5,U6,U7,U8,U9,bA,bD,bJ,bH,bM,bL,bV,bR] 3<|.j [.i 0,U7,U8,cv,bA,bD,bJ,bH,bM,bL,bV,cX,cG])) (.j [.i 12,.i 0,.i 0,.i 0,.i 0,.i 0,.i 0,.i 0,.i 0,.i 0,.i 0,.i 0,.r0])))
def H2:=Fo ahS
def Xr:bB:=⟨19,[.agg [pi 0,pi 1,ps 2],.agg [pi 3,pi 4,.p .bool U5,ps 6],.agg ([.p (.int .u64) U7,.p (.int .u32) U8]++de 9 4++[.p (.int .u64) bH,.p (.int .u32) bM,pi 15,pi 16,pi 17])],[],18,13,.bq [.agg ([.p (.int .u64) bX,.p (.int .u32) b9]++de 21 4++[.p (.int .u64) cG,.p (.int .u32) cK,pi 27,pi 28,pi 29]),.c (.own 0),ci 18],[(0,(.row 76 eo))],H2,526⟩
instance:Ok Xr:=oS [Sw,Ny,po,py]
def adT:a8:=.j []
def Ch:=Fo adT
def YW:bB:=⟨20,[.agg ([.p (.int .u64) U0,.p (.int .u32) U1]++de 2 4++[.p (.int .u64) U6,.p (.int .u32) U7,pi 8,pi 9,pi 10])],[],11,0,.v (.agg ([.p (.int .u64) U0,.p (.int .u32) U1]++de 2 4++[.p (.int .u64) U6,.p (.int .u32) U7,pi 8,pi 9,pi 10])),[],Ch,527⟩
instance:Ok YW:=oS []
end
section

end
section
open Go.RowKit AI
attribute [local irreducible] a8.wp
def b1(n:Nat):List PV:=[.sc (.int .u8 (n:Int))]
def rI(o:Option L):Int:=match o with|some (.i n)=>n|_=>0
def pD(r:Int):Int:=if rI (cw .and .u32 r 1)=1 then rI (cw .xor .u32 (rI (cw .shr .u32 r 1)) 2197175160)else rI (cw .shr .u32 r 1)
def iD(r:Int):Nat->Int
 |0=>r
 |n+1=>pD (iD r n)
def jO(r:Int)(x:Nat):Int:=iD (rI (cw .xor .u32 r (IntKind.wrap .u32 (x:Int)))) 8
def gJ(r:Int):Int:=rI (unI .xor .u32 r)
def gj(l:List Nat):Int:=gJ (l.foldl jO (gJ 0))
theorem asp(r):Cl [.i r]=some [.i (iD r 8)]:=by
 refine bN ?_;refine bE (λxs=>xs=[.i (iD r 8)]) ?_ ?_;rotate_left
 .rintro _ rfl;refine nW ?_;exact a7 rfl
 refine wp_loop (I:=λa=>∃i:Nat,a=[.i (iD r i),.i i]/\i<=8) (mu:=λa=>match a with|[_,.i i]=>8-i.toNat|_=>0) ⟨0,rfl,om⟩ ?_;rintro a ⟨i,rfl,e1⟩;refine uR ?_;refine bG rfl (λhc=>?_) (λhc=>?_)
 .refine bE (λxs=>xs=[.i (iD r (i+1))]) ?_ ?_
  .refine cP (l:=.i (rI (cw .and .u32 (iD r i) 1))) rfl (uR ?_);refine bG rfl (λhx=>?_) (λhx=>?_)
   .refine cP (l:=.i (rI (cw .shr .u32 (iD r i) 1))) rfl (nW ?_);refine cP (l:=.i (rI (cw .xor .u32 (rI (cw .shr .u32 (iD r i) 1)) 2197175160))) rfl (nW ?_);refine a7 ?_;show[L.i _]=[L.i (pD (iD r i))]
    unfold pD;rw[bF hx]
   .refine cP (l:=.i (rI (cw .shr .u32 (iD r i) 1))) rfl (nW ?_);refine a7 ?_;show[L.i _]=[L.i (pD (iD r i))]
    unfold pD;rw[bO hx]
  .rintro _ rfl;refine nW ?_;refine cm (i:=i) rfl om (nW ?_);refine a7 ⟨⟨i+1,rfl,om⟩,?_⟩;show 8- ((i+1:Nat):Int).toNat<8-i;omega
 .obtain rfl:i=8:=om;exact a7 rfl
theorem adv(c)(l:List Nat)(hl:l.length<=4294967296):FZ [.i c,.r (l.map b1)]=some [.i (gJ (l.foldl jO (gJ c)))]:=by
 refine bN ?_;refine kS (ls:=[.i (gJ c)]) rfl (nW ?_);refine bE (λxs=>xs=[.i (l.foldl jO (gJ c))]) ?_ ?_;rotate_left
 .rintro _ rfl;refine nW ?_;refine kS (ls:=[.i (gJ (l.foldl jO (gJ c)))]) rfl (nW ?_);exact a7 rfl
 refine wp_loop (I:=λa=>∃i:Nat,a=[.i ((l.take i).foldl jO (gJ c)),.i i]/\i<=l.length) (mu:=λa=>match a with|[_,.i i]=>l.length-i.toNat|_=>0) ⟨0,rfl,om⟩ ?_;rintro a ⟨i,rfl,e1⟩;refine uR ?_;refine bG rfl (λhc=>?_) (λhc=>?_)
 .rw[bC]at hc;have hi:i<l.length:=om;refine bU (f:=b1) (j:=i) rfl rfl hi rfl (uR ?_);refine jo (nW ?_);refine cP (l:=.i (rI (cw .xor .u32 ((l.take i).foldl jO (gJ c)) (IntKind.wrap .u32 (l[i]:Int))))) rfl (nW ?_);refine bu (asp _) rfl rfl (nW ?_);refine cm (i:=i) rfl om (nW ?_);refine a7 ⟨⟨i+1,?_,om⟩,?_⟩
  .rw[gW hi,Qf];rfl
  .show l.length- ((i+1:Nat):Int).toNat<l.length-i;omega
 .rw[bC]at hc;obtain rfl:i=l.length:=om;refine a7 ?_;show[L.i ((l.take l.length).foldl jO (gJ c))]=_;rw[iT]
theorem agi(l)(a:l.length<=4294967296):FP [.r (l.map b1)]=some [.i (gj l)]:=by
 refine bN ?_;refine bu (adv 0 l a) rfl rfl (nW ?_);exact a7 rfl
theorem asl(c)(l:List Nat)(hl:l.length<=4294967296):MY [.i c,.r (l.map b1)]=some [.i (gJ (l.foldl jO (gJ c)))]:=by
 refine bN ?_;refine kS (ls:=[.i (gJ c)]) rfl (nW ?_);refine bE (λxs=>xs=[.i (l.foldl jO (gJ c))]) ?_ ?_;rotate_left
 .rintro _ rfl;refine nW ?_;refine kS (ls:=[.i (gJ (l.foldl jO (gJ c)))]) rfl (nW ?_);exact a7 rfl
 refine uR ?_;refine wp_loop (I:=λa=>∃i:Nat,a=[.i ((l.take i).foldl jO (gJ c)),.i i]/\i<=l.length) (mu:=λa=>match a with|[_,.i i]=>l.length-i.toNat|_=>0) ⟨0,rfl,om⟩ ?_;rintro a ⟨i,rfl,e1⟩;refine uR ?_;refine bG rfl (λhc=>?_) (λhc=>?_)
 .rw [bC]at hc;have hi:i<l.length:=om;refine bE (λxs=>xs=[.i ((l.take (i+1)).foldl jO (gJ c))]) ?_ ?_;rotate_left
  .rintro _ rfl;refine nW ?_;refine cm (i:=i) rfl om (nW ?_);refine a7 ⟨⟨i+1,rfl,om⟩,?_⟩;show l.length- ((i+1:Nat):Int).toNat<l.length-i;omega
  refine bU (f:=b1) (j:=i) rfl rfl hi rfl (uR ?_);refine jo (nW ?_);refine cP (l:=.i (rI (cw .xor .u32 ((l.take i).foldl jO (gJ c)) (IntKind.wrap .u32 (l[i]:Int))))) rfl ?_;rw[gW hi,Qf];generalize (l.take i).foldl jO (gJ c)=r;show a8.wp _ _ (jQ (λxs=>xs=[.i (iD (rI (cw .xor .u32 r (IntKind.wrap .u32 (l[i]:Int)))) 8)]) _);generalize rI (cw .xor .u32 r (IntKind.wrap .u32 (l[i]:Int)))=r';refine nW ?_;refine wp_loop (I:=λa=>∃i:Nat,a=[.i (iD r' i),.i i]/\i<=8) (mu:=λa=>match a with|[_,.i i]=>8-i.toNat|_=>0) ⟨0,rfl,om⟩ ?_;rintro a ⟨j,rfl,e1⟩;refine uR ?_;refine bG rfl (λhc=>?_) (λhc=>?_)
  .refine bE (λxs=>xs=[.i (iD r' (j+1))]) ?_ ?_
   .refine cP (l:=.i (rI (cw .and .u32 (iD r' j) 1))) rfl (nW ?_);refine cP (l:=.i (rI (cw .shr .u32 (iD r' j) 1))) rfl (uR ?_);refine bG rfl (λhx=>?_) (λhx=>?_)
    .refine cP (l:=.i (rI (cw .xor .u32 (rI (cw .shr .u32 (iD r' j) 1)) 2197175160))) rfl (nW ?_);refine a7 ?_;show[L.i _]=[L.i (pD (iD r' j))]
     unfold pD;rw[bF hx]
    .refine a7 ?_;show[L.i _]=[L.i (pD (iD r' j))]
     unfold pD;rw[bO hx]
   .rintro _ rfl;refine nW ?_;refine cm (i:=j) rfl om (nW ?_);refine a7 ⟨⟨j+1,rfl,om⟩,?_⟩;show 8- ((j+1:Nat):Int).toNat<8-j;omega
  .obtain rfl:j=8:=om;exact a7 rfl
 .rw[bC]at hc;obtain rfl:i=l.length:=om;refine a7 ?_;show[L.i ((l.take l.length).foldl jO (gJ c))]=_;rw[iT]
theorem Tx(l)(a:l.length<=4294967296):E4 [.r (l.map b1)]=some [.i (gj l)]:=by
 refine bN ?_;refine bu (asl 0 l a) rfl rfl (nW ?_);exact a7 rfl
theorem auN(l):0<=gj l/\gj l<=4294967295:=by
 have:=QZ .u32 (((BitVec.ofInt 32 (4294967295:Int) ^^^BitVec.ofInt 32 (l.foldl jO (gJ 0))).toNat:Nat):Int);exact this
def rM(c:Int)(k:Nat):Nat:=(c/2^k%256).toNat
theorem qb(c)(k):[PV.sc (.int .u8 (IntKind.wrap .u8 (c.fdiv (2^k))))]=b1 (rM c k):=by
 unfold b1 rM;have h:(0:Int)<=c/2^k%256:=Int.emod_nonneg _ dc;rw[G1 _ (Int.pow_nonneg dc),Br h];congr 3
def eC(l:List Nat):List Nat:=[rM (gj l) 0,rM (gj l) 8,rM (gj l) 16,rM (gj l) 24]
theorem II(l)(b:l.length<=4294967296):wO [.r (l.map b1)]=some [.r ((eC l).map b1)]:=by
 refine bN ?_;refine bu (agi l b) rfl rfl (nW ?_);refine jo (nW ?_);refine cP (l:=.i ((gj l).fdiv (2^8))) rfl (nW ?_);refine jo (nW ?_);refine cP (l:=.i ((gj l).fdiv (2^16))) rfl (nW ?_);refine jo (nW ?_);refine cP (l:=.i ((gj l).fdiv (2^24))) rfl (nW ?_);refine jo (uR ?_);refine a7 ?_;have a:=qb (gj l) 0;rw[show(gj l).fdiv (2^0)=gj l by simp]at a;show[L.r [[PV.sc _],[PV.sc _],[PV.sc _],[PV.sc _]]]=[L.r [b1 _,b1 _,b1 _,b1 _]]
 rw[<-a,<-qb,<-qb,<-qb]
theorem QK(l)(b:l.length<=4294967296):JF [.r (l.map b1)]=some [.r ((eC l).map b1)]:=by
 refine bN ?_;refine bu (Tx l b) rfl rfl (nW ?_);refine jo (nW ?_);refine cP (l:=.i ((gj l).fdiv (2^8))) rfl (nW ?_);refine jo (nW ?_);refine cP (l:=.i ((gj l).fdiv (2^16))) rfl (nW ?_);refine jo (nW ?_);refine cP (l:=.i ((gj l).fdiv (2^24))) rfl (nW ?_);refine jo (uR ?_);refine a7 ?_;have a:=qb (gj l) 0;rw[show(gj l).fdiv (2^0)=gj l by simp]at a;show[L.r [[PV.sc _],[PV.sc _],[PV.sc _],[PV.sc _]]]=[L.r [b1 _,b1 _,b1 _,b1 _]]
 rw[<-a,<-qb,<-qb,<-qb]
theorem awc(l)(a:l.length<=4294967296):aaE [.r (l.map b1)]=some [.r ((eC l).map b1)]:=by
 rw[<-QK l a];rfl
def val(l:List Nat):BitVec 64:=l.foldl (λv x=>(v<<<8)|||BitVec.ofNat 64 x) 0
theorem Uz(n):IntKind.wrap .u64 n=((BitVec.ofInt 64 n).toNat:Int):=by
 simp[IntKind.wrap,IntKind.bits,IntKind.signed,Bz];omega
theorem MQ(n):IntKind.wrap .i64 n=(BitVec.ofInt 64 n).toInt:=by
 simp[IntKind.wrap,IntKind.bits,IntKind.signed,Int.bmod];split<;>split<;>omega
theorem Av(v):BitVec.ofInt 64 (v.toNat:Int)=v:=by
 simp
theorem ofInt_toInt(v):BitVec.ofInt 64 v.toInt=v:=BitVec.ofInt_toInt
theorem aaJ(v)(n)(h:BitVec.ofInt 64 n=v):BitVec.ofInt 64 (n*256)=v<<<8:=by
 subst h;apply BitVec.eq_of_toNat_eq;rw[BitVec.toNat_shiftLeft,Bz,Bz,adn];omega
theorem VE(v:BitVec 64):cw .shl .u64 v.toNat 8=some (.i ((v<<<8).toNat:Int)):=by
 show some (L.i (IntKind.wrap .u64 ((v.toNat:Int)*2^8)))=_;rw[show(2:Int) ^8=256 by decide,Uz,aaJ v _ (Av v)]
theorem aqQ(v:BitVec 64):cw .shl .i64 v.toInt 8=some (.i ((v<<<8).toInt)):=by
 show some (L.i (IntKind.wrap .i64 (v.toInt*2^8)))=_;rw[show(2:Int) ^8=256 by decide,MQ,aaJ v _ (ofInt_toInt v)]
theorem Ti(x:Nat):BitVec.ofInt 64 (x:Int)=BitVec.ofNat 64 x:=by
 simp
theorem S0(v)(x:Nat):cw .or .u64 v.toNat (x:Int)=some (.i ((v|||BitVec.ofNat 64 x).toNat:Int)):=by
 show some (L.i (IntKind.wrap .u64 ((BitVec.ofInt 64 _|||BitVec.ofInt 64 _).toNat:Int)))=_;rw[Av,Ti,Uz,Av]
theorem anZ(v)(x:Nat):cw .or .i64 v.toInt (x:Int)=some (.i ((v|||BitVec.ofNat 64 x).toInt)):=by
 show some (L.i (IntKind.wrap .i64 ((BitVec.ofInt 64 _|||BitVec.ofInt 64 _).toNat:Int)))=_;rw[ofInt_toInt,Ti,MQ,Av]
theorem Jd{l:List Nat}{i}(a):val (l.take (i+1))=(val (l.take i)<<<8)|||BitVec.ofNat 64 l[i]:=by
 unfold val;rw[gW a,Qf];rfl
def B8(l:List Nat):Prop:=∀x∈l,x<256
theorem lM(l)(hb:B8 l)(hl:l.length<=4294967296):F40 [.r (l.map b1)]=some [.i ((val l).toNat:Int)]:=by
 refine bN ?_;refine bE (λxs=>xs=[.i ((val l).toNat:Int)]) ?_ ?_;rotate_left
 .rintro _ rfl;refine nW ?_;exact a7 rfl
 refine wp_loop (I:=λa=>∃i:Nat,a=[.i ((val (l.take i)).toNat:Int),.i i]/\i<=l.length) (mu:=λa=>match a with|[_,.i i]=>l.length-i.toNat|_=>0) ⟨0,rfl,om⟩ ?_;rintro a ⟨i,rfl,e1⟩;refine uR ?_;refine bG rfl (λhc=>?_) (λhc=>?_)
 .rw[bC]at hc;have hi:i<l.length:=om;have hx:=hb _ (cT hi);refine cP (VE _) (nW ?_);refine bU (f:=b1) (j:=i) rfl rfl hi rfl (uR ?_);refine qe (n:=(l[i]:Int)) rfl om om (nW ?_);refine cP (S0 _ _) (nW ?_);refine cm (i:=i) rfl om (nW ?_);refine a7 ⟨⟨i+1,?_,om⟩,?_⟩
  .show[L.i _,L.i _]=_;rw[Jd hi]
  .show l.length- ((i+1:Nat):Int).toNat<l.length-i;omega
 .rw[bC]at hc;obtain rfl:i=l.length:=om;refine a7 ?_;show[L.i ((val (l.take l.length)).toNat:Int)]=_;rw[iT]
theorem zm(l)(hb:B8 l)(hl:l.length<=4294967296):vX [.r (l.map b1)]=some [.i ((val l).toNat:Int)]:=by
 refine bN ?_;refine bE (λxs=>xs=[.i ((val l).toNat:Int)]) ?_ ?_;rotate_left
 .rintro _ rfl;refine nW ?_;exact a7 rfl
 refine uR ?_;refine wp_loop (I:=λa=>∃i:Nat,a=[.i ((val (l.take i)).toNat:Int),.i i]/\i<=l.length) (mu:=λa=>match a with|[_,.i i]=>l.length-i.toNat|_=>0) ⟨0,rfl,om⟩ ?_;rintro a ⟨i,rfl,e1⟩;refine uR ?_;refine bG rfl (λhc=>?_) (λhc=>?_)
 .rw[bC]at hc;have hi:i<l.length:=om;have hx:=hb _ (cT hi);refine bU (f:=b1) (j:=i) rfl rfl hi rfl (uR ?_);refine cP (VE _) (nW ?_);refine qe (n:=(l[i]:Int)) rfl om om (nW ?_);refine cP (S0 _ _) (nW ?_);refine cm (i:=i) rfl om (nW ?_);refine a7 ⟨⟨i+1,?_,om⟩,?_⟩
  .show[L.i _,L.i _]=_;rw[Jd hi]
  .show l.length- ((i+1:Nat):Int).toNat<l.length-i;omega
 .rw[bC]at hc;obtain rfl:i=l.length:=om;refine a7 ?_;show[L.i ((val (l.take l.length)).toNat:Int)]=_;rw[iT]
theorem L3(l)(a:B8 l)(b:l.length<=4294967296):DF [.r (l.map b1)]=some [.i ((val l).toNat:Int)]:=by
 rw[<-zm l a b];rfl
theorem vq(l)(hb:B8 l)(hl:l.length<=4294967296):rS [.r (l.map b1)]=some [.i (val l).toInt]:=by
 refine bN ?_;refine bE (λxs=>xs=[.i (val l).toInt]) ?_ ?_;rotate_left
 .rintro _ rfl;refine nW ?_;exact a7 rfl
 refine uR ?_;refine wp_loop (I:=λa=>∃i:Nat,a=[.i (val (l.take i)).toInt,.i i]/\i<=l.length) (mu:=λa=>match a with|[_,.i i]=>l.length-i.toNat|_=>0) ⟨0,rfl,om⟩ ?_;rintro a ⟨i,rfl,e1⟩;refine uR ?_;refine bG rfl (λhc=>?_) (λhc=>?_)
 .rw[bC]at hc;have hi:i<l.length:=om;have hx:=hb _ (cT hi);refine bU (f:=b1) (j:=i) rfl rfl hi rfl (uR ?_);refine cP (aqQ _) (nW ?_);refine od (n:=(l[i]:Int)) rfl om om (nW ?_);refine cP (anZ _ _) (nW ?_);refine cm (i:=i) rfl om (nW ?_);refine a7 ⟨⟨i+1,?_,om⟩,?_⟩
  .show[L.i _,L.i _]=_;rw[Jd hi]
  .show l.length- ((i+1:Nat):Int).toNat<l.length-i;omega
 .rw[bC]at hc;obtain rfl:i=l.length:=om;refine a7 ?_;show[L.i (val (l.take l.length)).toInt]=_;rw[iT]
theorem Ic(a b)(ha:B8 a)(hb:B8 b)(hl:a.length<=4294967296){t}(ht:t=true↔a=b):Ar [.r (a.map b1),.r (b.map b1)]=some [.b t]:=by
 refine bN ?_;refine uR ?_;refine bG rfl (λhc=>?_) (λhc=>?_)
 .refine a7 ?_;show[L.b false]=[.b t]
  rw[ft ht λh=>hc (by rw[h])]
 rw[bC,bC]at hc;have hlen:a.length=b.length:=om;refine bE (λxs=>xs=[]/\t=true) ?_ ?_;rotate_left
 .rintro _ ⟨rfl,h⟩;refine nW ?_;refine a7 ?_;show[L.b true]=[.b t]
  rw[h]
 refine uR ?_;refine wp_loop (I:=λx=>∃i:Nat,x=[.i i]/\i<=a.length/\∀(j:Nat)(h:j<a.length),j<i->a[j]=b[j]'om) (mu:=λx=>match x with|[.i i]=>a.length-i.toNat|_=>0) ⟨0,rfl,om,λj _ hj=>by omega⟩ ?_;rintro x ⟨i,rfl,e1,e2⟩;refine uR ?_;refine bG rfl (λhx=>?_) (λhx=>?_)
 .rw [bC]at hx;have hi:i<a.length:=om;refine bU (f:=b1) (j:=i) rfl rfl hi rfl (uR ?_);refine bU (f:=b1) (j:=i) rfl rfl (show i<b.length by omega) rfl (uR ?_);refine bG rfl (λhy=>?_) (λhy=>?_)
  .refine a7 ?_;show[L.b false]=[.b t]
   rw[ft ht λh=>hy (by subst h;rfl)]
  .have heq:a[i]=b[i]'om:=om;refine cm (i:=i) rfl om (nW ?_);refine a7 ⟨⟨i+1,rfl,om,λj hj kG=>?_⟩,?_⟩
   .by_cases he:j=i
    .subst he;exact heq
    .exact e2 j hj om
   .show a.length- ((i+1:Nat):Int).toNat<a.length-i;omega
 .rw[bC]at hx;exact a7 ⟨rfl,ht.2 (Ql hlen λj h1 h2=>e2 j h1 om)⟩
theorem lO(l:List Nat):cf 1 (l.map b1)=true:=by
 unfold cf;rw[cj];intro r a;obtain⟨n,_,rfl⟩:=eV.1 a;rfl
theorem atj(l:List Nat):lh (l.map b1)=some (l.map λn=>((n:Nat):Int)):=by
 have:=R1 (l.map λn=>((n:Nat):Int));rw[<-this,gl,h_];rfl
theorem afj(l):Of [.i (gj l),.i 4]=some [.r ((eC l).map b1)]:=by
 refine bN ?_;have key:∀i:Nat,i<=4->((eC l).take i).length=i:=λi h=>by rw[eA];show min i 4=i;omega
 refine wp_loop (I:=λa=>∃i:Nat,a=[.i i,.r (((eC l).take i).map b1)]/\i<=4) (mu:=λa=>match a with|[.i i,_]=>4-i.toNat|_=>0) ⟨0,rfl,om⟩ ?_;rintro a ⟨i,rfl,e1⟩;refine uR ?_;refine bG rfl (λhc=>?_) (λhc=>?_)
 .have hi:i<4:=om;refine fZ (n:=8*(i:Int)) rfl om om (nW ?_);refine cP (l:=.i ((gj l).fdiv (2^ (8*i)))) (by
   show(if(0:Int)<=8*(i:Int)then some (L.i ((gj l).fdiv (2^min (8*(i:Int)).toNat 64)))else none)=_;rw[bF om,show min (8*(i:Int)).toNat 64=8*i by omega]) ?_
  refine nW ?_;refine jo (uR ?_);have hrow:[PV.sc (.int .u8 (IntKind.wrap .u8 ((gj l).fdiv (2^ (8*i)))))]=b1 ((eC l)[i]'(by show i<4;omega)):=by
   rw[qb]
   match i,hi with
   |0,_=>rfl
   |1,_=>rfl
   |2,_=>rfl
   |3,_=>rfl
  have Pb:((eC l).take i).map b1++[b1 ((eC l)[i]'(by show i<4;omega))]=((eC l).take (i+1)).map b1:=by
   rw[gW (show i< (eC l).length from hi),eB];rfl
  refine fa (r:=((eC l).take (i+1)).map b1) (lO _) rfl (by show(((eC l).take i).map b1).length<=_;rw[bC,key i om];omega) oO om (by rw[<-Pb,<-hrow];rfl) (nW ?_);refine cm (i:=i) rfl om (nW ?_);refine a7 ⟨⟨i+1,rfl,om⟩,?_⟩;show 4- ((i+1:Nat):Int).toNat<4-i;omega
 .obtain rfl:i=4:=om;exact a7 rfl
end
section
open Go.RowKit Pl AI
attribute [local irreducible] a8.wp
theorem pH(n):mL [.i n]=some [.i (cJ n)]:=by
 refine bN ?_;refine bE (cI (n<0\/4096<n)) ?_ ?_
 . (repeat' first| (refine bG rfl (λa=>?_) (λa=>?_))| (refine uT rfl ?_));all_goals (refine a7 ?_;show cI _ _;try dsimp only[At.ev,d1,d2,d3,d4,d5,d6,d7,d8,d9,e0,List.map,cH,Kd.pv];first|exact cC om|exact d_ om|exact d' om|exact px om)
 rintro _ ⟨t,rfl,b⟩;refine nW ?_;refine bZ (λa=>?_) (λa=>?_)
 .refine a7 ?_;show[L.i 0]=[L.i (cJ n)]
  unfold cJ;rw[bF (b.1 a)]
 .have c:¬(n<0\/4096<n):=λh=>by rw[b.2 h]at a;cases a
  refine c_ (n:=20+n) (by rfl) om om (nW ?_);refine c_ (n:=24+n) oO om om (nW ?_);refine c_ (n:=n+31) oO om om (nW ?_);refine cP (l:=.i ((n+31) /8)) (by
   show(if(8:Int)≠0 then some (L.i (IntKind.wrap .i64 ((n+31).tdiv 8)))else none)=_;rw[bF dc,Bw om,wrap64 om om]) ?_
  refine nW ?_;refine fZ (n:=(n+31) /8*8) (by rfl) om om (nW ?_);refine a7 ?_;show[L.i _]=[L.i (cJ n)]
  unfold cJ;rw[bO c]
theorem qQ(n):F5 [.i n]=some [.i (cJ n)]:=by
 refine bN ?_;refine bE (cI (n<0\/4096<n)) ?_ ?_
 . (repeat' first| (refine bG rfl (λa=>?_) (λa=>?_))| (refine uT rfl ?_));all_goals (refine a7 ?_;show cI _ _;try dsimp only[At.ev,d1,d2,d3,d4,d5,d6,d7,d8,d9,e0,List.map,cH,Kd.pv];first|exact cC om|exact d_ om|exact d' om|exact px om)
 rintro _ ⟨t,rfl,b⟩;refine nW ?_;refine bZ (λa=>?_) (λa=>?_)
 .refine a7 ?_;show[L.i 0]=[L.i (cJ n)]
  unfold cJ;rw[bF (b.1 a)]
 .have c:¬(n<0\/4096<n):=λh=>by rw[b.2 h]at a;cases a
  refine c_ (n:=20+n) (by rfl) om om (nW ?_);refine c_ (n:=24+n) oO om om (nW ?_);refine c_ (n:=n+32) oO om om (nW ?_);refine dk (n:=n+31) oO om om (nW ?_);refine cP (l:=.i ((n+31) /8)) (by
   show(if(8:Int)≠0 then some (L.i (IntKind.wrap .i64 ((n+31).tdiv 8)))else none)=_;rw[bF dc,Bw om,wrap64 om om]) ?_
  refine nW ?_;refine fZ (n:=(n+31) /8*8) (by rfl) om om (nW ?_);refine a7 ?_;show[L.i _]=[L.i (cJ n)]
  unfold cJ;rw[bO c]
theorem Z0(x){b}(c:b=true↔fe x=true):Cc [.i x.key,.i x.cookie,.i x.off,.i x.size]=some [.b b]:=by
 have a:fe x=true↔16<=x.off/\x.off<=1048576/\x.off%8=0/\0<=x.size/\x.size<=4096:=by
  simp only[fe,cd,dj,and_assoc]
 rw[a]at c;refine bN ?_;refine bE (cI (16<=x.off/\x.off<=1048576/\x.off%8=0/\0<=x.size/\x.size<=4096)) ?_ ?_
 .refine uR ?_;refine bG rfl (λd=>?_) (λd=>?_)
  .refine uR ?_;refine bG rfl (λe=>?_) (λe=>?_)
   .refine cP (l:=.i (x.off%8)) (by
     show(if(8:Int)≠0 then some (L.i (x.off.tmod 8))else none)=_;rw[bF dc,Bx om]) ?_
    refine nW ?_
    (repeat' first| (refine bG rfl (λf=>?_) (λf=>?_))| (refine uT rfl ?_));all_goals (refine a7 ?_;show cI _ _;try dsimp only[At.ev,d1,d2,d3,d4,d5,d6,d7,d8,d9,e0,List.map,cH,Kd.pv];first|exact cC om|exact d_ om|exact d' om|exact px om)
   .exact a7 (d_ om)
  .exact a7 (d_ om)
 rintro _ ⟨t,rfl,g⟩;refine nW ?_;refine a7 ?_;show[L.b t]=[L.b b];rw[hZ.2 (g.trans c.symm)]
theorem asa(x){b}(a:b=true↔fe x=true):F7 [.i x.key,.i x.cookie,.i x.off,.i x.size]=some [.b b]:=by
 rw[<-Z0 x a];rfl
theorem ahF(x){b}(d:b=true↔¬fe x=true):F8 [.i x.key,.i x.cookie,.i x.off,.i x.size]=some [.b b]:=by
 obtain⟨c,a⟩:=dC (fe x=true);refine bN ?_;refine bu (asa x a) rfl rfl (uR ?_);refine a7 ?_;show[L.b (!c)]=[L.b b]
 have:(!c)=b:=by
  rw[hZ,d,<-a];cases c<;>simp
 rw[this]
theorem UX(a g r){b}(c:b=true↔0<=a/\a<4/\1<=g/\g<=8/\0<=r/\r<4294967296):yp [.i a,.i g,.i r]=some [.b b]:=by
 refine bN ?_;refine bE (cI (0<=a/\a<4/\1<=g/\g<=8/\0<=r/\r<4294967296)) ?_ ?_
 . (repeat' first| (refine bG rfl (λd=>?_) (λd=>?_))| (refine uT rfl ?_));all_goals (refine a7 ?_;show cI _ _;try dsimp only[At.ev,d1,d2,d3,d4,d5,d6,d7,d8,d9,e0,List.map,cH,Kd.pv];first|exact cC om|exact d_ om|exact d' om|exact px om)
 rintro _ ⟨t,rfl,e⟩;refine nW ?_;refine a7 ?_;show[L.b t]=[L.b b];rw[hZ.2 (e.trans c.symm)]
theorem aoN(a g r){b}(c:b=true↔0<=a/\a<4/\1<=g/\g<=8/\0<=r/\r<4294967296):NM [.i a,.i g,.i r]=some [.b b]:=by
 refine bN ?_;refine bE (cI (0<=a/\a<4/\1<=g/\g<=8/\0<=r/\r<4294967296)) ?_ ?_
 . (repeat' first| (refine bG rfl (λd=>?_) (λd=>?_))| (refine uT rfl ?_));all_goals (refine a7 ?_;show cI _ _;try dsimp only[At.ev,d1,d2,d3,d4,d5,d6,d7,d8,d9,e0,List.map,cH,Kd.pv];first|exact cC om|exact d_ om|exact d' om|exact px om)
 rintro _ ⟨t,rfl,e⟩;refine nW ?_;refine a7 ?_;show[L.b t]=[L.b b];rw[hZ.2 (e.trans c.symm)]
def nN(l:List It)(i:Nat):Prop:=∀(h:i<l.length)(_:0<i),(l[i-1]'om).key<l[i].key
theorem Iz{l}:gd l↔∀i,nN l i:=by
 constructor
 .intro h i a f;exact mU.1 h (i-1) i om a om
 .intro h;refine mU.2 λi j a c d=>?_
  induction j with
  |zero=>omega
  |succ j ih=>
   have b:=h (j+1) c om;simp only[Qk]at b;by_cases e:i=j
   .subst e;exact b
   .have:=ih om om;omega
def vt(l:List It)(i:Nat):Prop:=∀h:i<l.length,fe l[i]=true
theorem alo{l}:VL l↔∀i,i<l.length->vt l i/\nN l i:=by
 unfold VL;rw[Iz];constructor
 .rintro⟨b,c⟩ i _;exact⟨λa=>c _ (cT a),b i⟩
 .intro h;refine⟨λi a=>(h i a).2 a,λx d=>?_⟩;obtain⟨i,a,rfl⟩:=iE d;exact(h i a).1 a
theorem CV(l)(hl:l.length<=4294967296){b}(hb:b=true↔VL l):sG [.r (l.map bw)]=some [.b b]:=by
 rw[alo]at hb;refine bN ?_;refine bE (λxs=>xs=[]/\b=true) ?_ ?_;rotate_left
 .rintro _ ⟨rfl,h⟩;refine nW ?_;refine a7 ?_;show[L.b true]=[.b b]
  rw[h]
 refine wp_loop (I:=λa=>∃i:Nat,a=[.i i]/\i<=l.length/\∀j,j<i->vt l j/\nN l j) (mu:=λa=>match a with|[.i i]=>l.length-i.toNat|_=>0) ⟨0,rfl,om,λj hj=>by omega⟩ ?_;rintro a ⟨i,rfl,e1,e2⟩;refine uR ?_;refine bG rfl (λhc=>?_) (λhc=>?_);rotate_left
 .rw[bC]at hc;exact a7 ⟨rfl,hb.2 λj hj=>e2 j om⟩
 rw[bC]at hc;have hi:i<l.length:=om;refine bE (cI (¬(vt l i/\nN l i))) ?_ ?_;rotate_left
 .rintro _ ⟨u,rfl,hu⟩;refine nW ?_;refine bZ (λhy=>?_) (λhy=>?_)
  .refine a7 ?_;show[L.b false]=[.b b]
   rw[ft hb λh=>hu.1 hy (h i hi)]
  have hg:vt l i/\nN l i:=eM.1 λh=>by
   rw[hu.2 h]at hy;cases hy
  refine cm (i:=i) rfl om (nW ?_);refine a7 ⟨⟨i+1,rfl,om,λj hj=>?_⟩,?_⟩
  .by_cases he:j=i
   .subst he;exact hg
   .exact e2 j om
  .show l.length- ((i+1:Nat):Int).toNat<l.length-i;omega
 refine bU (f:=bw) (j:=i) rfl rfl hi rfl (uR ?_);obtain⟨c,hc1⟩:=dC (fe l[i]=true);refine bu (Z0 l[i] hc1) rfl rfl (uR ?_);refine bZ (λhy=>?_) (λhy=>?_)
 .exact a7 (cC λh=>by rw[hc1.2 (h.1 hi)]at hy;cases hy)
 have hy:(!c)=false:=hy;have dm:=hc1.1 (by simpa using hy);refine uR ?_;refine bG rfl (λhz=>?_) (λhz=>?_)
 .have h0:0<i:=om;refine bU (f:=bw) (j:=i) rfl rfl hi rfl (uR ?_);refine dk (n:=((i-1:Nat):Int)) oO om om (nW ?_);refine bU (f:=bw) (j:=i-1) rfl rfl om rfl (uR ?_);exact a7 (d' (show l[i].key<=(l[i-1]'om).key↔_ from⟨λh k=>by have:=k.2 hi h0;omega,λh=>lu λk=>h ⟨λ_=>dm,λ_ _=>by omega⟩⟩))
 .exact a7 (d_ λh=>h ⟨λ_=>dm,λ_ k=>absurd k om⟩)
theorem afJ(l)(hl:l.length<=4294967296){b}(hb:b=true↔gd l):F9 [.r (l.map bw)]=some [.b b]:=by
 rw[Iz]at hb;refine bN ?_;refine bE (λxs=>xs=[]/\b=true) ?_ ?_;rotate_left
 .rintro _ ⟨rfl,h⟩;refine nW ?_;refine a7 ?_;show[L.b true]=[.b b]
  rw[h]
 refine uR ?_;refine wp_loop (I:=λa=>∃i:Nat,a=[.i i]/\i<=l.length/\∀j,j<i->nN l j) (mu:=λa=>match a with|[.i i]=>l.length-i.toNat|_=>0) ⟨0,rfl,om,λj hj=>by omega⟩ ?_;rintro a ⟨i,rfl,e1,e2⟩;refine uR ?_;refine bG rfl (λhc=>?_) (λhc=>?_);rotate_left
 .rw[bC]at hc;exact a7 ⟨rfl,hb.2 λj=>by
   by_cases hj:j<i
   .exact e2 j hj
   .exact λh _=>by omega⟩
 rw[bC]at hc;have hi:i<l.length:=om;refine bU (f:=bw) (j:=i) rfl rfl hi rfl (uR ?_);refine bE (cI (¬nN l i)) ?_ ?_;rotate_left
 .rintro _ ⟨u,rfl,hu⟩;refine nW ?_;refine bZ (λhy=>?_) (λhy=>?_)
  .refine a7 ?_;show[L.b false]=[.b b]
   rw[ft hb λh=>hu.1 hy (h i)]
  have hg:nN l i:=eM.1 λh=>by
   rw[hu.2 h]at hy;cases hy
  refine cm (i:=i) rfl om (nW ?_);refine a7 ⟨⟨i+1,rfl,om,λj hj=>?_⟩,?_⟩
  .by_cases he:j=i
   .subst he;exact hg
   .exact e2 j om
  .show l.length- ((i+1:Nat):Int).toNat<l.length-i;omega
 refine uR ?_;refine bG rfl (λhz=>?_) (λhz=>?_)
 .have h0:0<i:=om;refine dk (n:=((i-1:Nat):Int)) oO om om (nW ?_);refine bU (f:=bw) (j:=i-1) rfl rfl om rfl (uR ?_);exact a7 (d' (show l[i].key<=(l[i-1]'om).key↔_ from⟨λh k=>by have:=k hi h0;omega,λh=>lu λk=>h λ_ _=>by omega⟩))
 .exact a7 (d_ λh=>h λ_ k=>absurd k om)
theorem RY(l:List It)(hl:l.length<=4294967296):∃r,EE [.r (l.map bw)]=some [.i r]/\(0<=r↔¬∀x∈l,fe x=true):=by
 have run:a8.wp L6 [.r (l.map bw)] (dX λx=>∃r:Int,x=[.i r]/\(0<=r↔¬∀x∈l,fe x=true)):=by
  refine bE (λxs=>xs=[]/\∀x∈l,fe x=true) ?_ ?_;rotate_left
  .rintro _ ⟨rfl,h⟩;refine nW ?_;exact a7 ⟨-1,rfl,λh=>by omega,λh'=>absurd h h'⟩
  refine uR ?_;refine wp_loop (I:=λa=>∃i:Nat,a=[.i i]/\i<=l.length/\∀j,j<i->vt l j) (mu:=λa=>match a with|[.i i]=>l.length-i.toNat|_=>0) ⟨0,rfl,om,λj hj=>by omega⟩ ?_;rintro a ⟨i,rfl,e1,e2⟩;refine uR ?_;refine bG rfl (λhc=>?_) (λhc=>?_);rotate_left
  .rw[bC]at hc;refine a7 ⟨rfl,λx hx=>?_⟩;obtain⟨j,hj,rfl⟩:=iE hx;exact e2 j om hj
  rw[bC]at hc;have hi:i<l.length:=om;refine bU (f:=bw) (j:=i) rfl rfl hi rfl (uR ?_);obtain⟨c,hc1⟩:=dC (¬fe l[i]=true);refine bu (ahF l[i] hc1) rfl rfl (nW ?_);refine bZ (λhy=>?_) (λhy=>?_)
  .exact a7 ⟨i,rfl,λ_ h=>hc1.1 hy (h _ (cT hi)),λ_=>by omega⟩
  .have hg:vt l i:=λ_=>eM.1 λh=>by
    rw[hc1.2 h]at hy;cases hy
   refine cm (i:=i) rfl om (nW ?_);refine a7 ⟨⟨i+1,rfl,om,λj hj=>?_⟩,?_⟩
   .by_cases he:j=i
    .subst he;exact hg
    .exact e2 j om
   .show l.length- ((i+1:Nat):Int).toNat<l.length-i;omega
 obtain⟨o,h1,r,rfl,h2⟩:=gi run;exact⟨r,h1,h2⟩
theorem aan(l)(g:l.length<=4294967296){b}(i:b=true↔VL l):EX [.r (l.map bw)]=some [.b b]:=by
 obtain⟨r,d,j⟩:=RY l g;have e:H7 [.r (l.map bw)]=some [.b (decide (0<=r))]:=by
  refine bN ?_;refine bu d rfl rfl (uR ?_);exact a7 rfl
 obtain⟨c,f⟩:=dC (gd l);refine bN ?_;refine bE (cI (VL l)) ?_ ?_
 .refine bu (afJ l g f) rfl rfl (nW ?_);refine bZ (λa=>?_) (λa=>?_)
  .refine bu e rfl rfl (uR ?_);exact a7 (px (show¬0<=r↔_ by rw[j,eM];exact⟨λh=>⟨f.1 a,h⟩,λh=>h.2⟩))
  .exact a7 (d_ λh=>by rw[f.2 h.1]at a;cases a)
 rintro _ ⟨t,rfl,k⟩;refine nW ?_;refine a7 ?_;show[L.b t]=[L.b b];rw[hZ.2 (k.trans i.symm)]
end
end
end Go.Proofs.YtndegphojkiblaaGreatDoor
