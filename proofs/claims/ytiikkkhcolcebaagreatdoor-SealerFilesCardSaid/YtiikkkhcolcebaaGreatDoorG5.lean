/- A part. -/
import Derived.Test.YtiikkkhcolcebaaGreatDoorG1
import Derived.Test.YtiikkkhcolcebaaGreatDoorG4
import Derived.Deep.Slices
import Derived.OpenShut
set_option linter.all false
set_option maxHeartbeats 4000000
set_option maxRecDepth 100000
namespace Go.Proofs.YtiikkkhcolcebaaGreatDoor
noncomputable section
section
open Go.RowKit
open Classical
abbrev fr:=List bw
def fr.ok(P:cJ)(C:fr):Prop:=∀s∈C,s.ok P
def bt.DE(S:bt):List cL->Option (List bN)
 |[]=>some []
 |x::l=>match S.gr x,S.DE l with
  |some y,some ys=>some (y::ys)
  |_,_=>none
def bt.callee(S:bt):cL->Option (FuncId×List Nat)
 |.func f=>some (f,[])
 |x=>match S.arg x with
  |some (.v (.c (.fn f eS)))=>some (f,eS)
  |_=>none
def Cv(T:bY)(S:bt)(d:Nat)(f:FuncId)(xs:List bN):fr->Option cG
 |[]=>none
 |s::C=>if s.f=f then match GR T S d xs s with
  |some r=>some r
  |none=>Cv T S d f xs C
  else Cv T S d f xs C
def Ow(T:bY)(C:fr)(S:bt)(d:Nat)(x:cL)(args:List cL):Option cG:=
 match S.callee x,S.DE args with
 |some (f,eS),some xs=>Cv T S d f (xs++eS.map λn=>.c (.ptr n 0)) C
 |_,_=>none
def bt.eS(S:bt):List cL->Option (List Nat)
 |[]=>some []
 |x::l=>match S.arg x,S.eS l with
  |some (.v (.c (.ptr n 0))),some a=>some (n::a)
  |_,_=>none
def bt.xw:List SC->Option (List (List (Kd×At)))
 |[]=>some []
 |.p k x::l=>(bt.xw l).map ([(k,x)]:: ·)
 |.nil::l=>(bt.xw l).map ([(.sl,.r0)]:: ·)
 |_=>none
def Da:List L->Option (List L)
 |[x,y]=>match y.bE with
  |[.sc (.int .u64 z)::ps]=>some [.r (pM z ps x.bE)]
  |_=>none
 |_=>none
def NI:List L->Option (List L)
 |[x,k]=>some [.r (pF k.br x.bE)]
 |_=>none
def DR:List L->Option (List L)
 |[x,k,y]=>match y.bE with
  |[a]=>if((lu k.br x.bE).getD a).length=a.length then some [.c ((lu k.br x.bE).getD a),.b (lu k.br x.bE).isSome]else none
  |_=>none
 |_=>none
def O3(T:bY)(S:bt)(t:cf)(m k x:cL):Option cG:=match S.arg m,S.arg k,S.arg x,List.lookup t T with
 |some (.v (.c (.mp n))),some (.v (.c (.p (.int .u64) a))),some (.v (.agg cs)),some r=>match List.lookup n S.heap,bt.xw cs with
  |some (.map y),some c=>if r.HA then some ⟨[.lit [(.int .u64,a)::c.flatten],.call 3001 Da [y,.v S.nv] 1 []],.c1 .dead,⟨[(n,.map (.v (S.nv+1)))],[]⟩,[]⟩else none
  |_,_=>none
 |_,_,_,_=>none
def OH(T:bY)(S:bt)(t:cf)(m k:cL):Option cG:=match S.arg m,S.arg k,List.lookup t T with
 |some (.v (.c (.mp n))),some (.v (.c (.p (.int .u64) a))),some r=>match List.lookup n S.heap with
  |some (.map y)=>if r.HA then some ⟨[.call 3002 NI [y,a] 1 []],.bM [],⟨[(n,.map (.v S.nv))],[]⟩,[]⟩else none
  |_=>none
 |_,_,_=>none
def Pp(T:bY)(S:bt)(t:cf)(m k:cL)(ok:Bool):Option cG:=match S.arg m,S.arg k,(List.lookup t T).bind Ty.PI with
 |some (.v (.c (.mp n))),some (.v (.c (.p (.int .u64) a))),some c=>match List.lookup n S.heap,(List.lookup c T).bind Ty.pa with
  |some (.map y),some ks=>match wg ks with
   |some e=>some ⟨.lit [e]:: .call 3003 DR [y,a,.v S.nv] 2 []::rH (.v (S.nv+1)) 0 ks,
    if ok then .bM [.agg (jB (S.nv+3) ks),.c (.p .bool (.v (S.nv+2)))]else .v (.agg (jB (S.nv+3) ks)),⟨[],[]⟩,[]⟩
   |none=>none
  |_,_=>none
 |_,_,_=>none
def O7(T:bY)(S:bt)(s d:cf)(x:cL):Option cG:=match S.arg x,List.lookup s T with
 |some (.v (.c (.own n))),some r=>match List.lookup n S.heap,r.sl with
  |some (.row e a),some c=>match List.lookup c T with
   |some r'=>if r'.int=some .u8/\s=d then some ⟨[.row a (.i 0) 1],.c1 (.own n),⟨[(n,.row e a)],[]⟩,[]⟩else none
   |none=>none
  |_,_=>none
 |_,_=>none
def Ns(T:bY)(S:bt)(t:cf)(x:cL):Option cG:=match S.arg x,List.lookup t T with
 |some (.v (.c (.ptr n off))),some r=>match List.lookup n S.heap,r.arr with
  |some (.box cs),some (dm,e)=>match List.lookup e T,bt.xw ((cs.drop off).take dm)with
   |some a,some c=>if a.size=1/\a.info=true/\0<dm/\dm<=4096/\c.length=dm then some ⟨[.lit c],.c1 (.p .sl (.v S.nv)),⟨[],[n]⟩,[]⟩else none
   |_,_=>none
  |_,_=>none
 |_,_=>none
def OG(T:bY)(S:bt)(t:cf)(s x:cL):Option cG:=match S.arg s,S.arg x,(List.lookup t T).bind Ty.elem with
 |some (.v (.c (.sub m (.i 0) ln))),some (.v (.c c)),some e=>match List.lookup m S.heap,S.view S.nv c,List.lookup e T with
  |some (.row f a),some (nds,b),some g=>match g.app with
   |some (n,_)=>if f=e then some ⟨nds++[.tQ a ln b n],.c1 (.sub m (.i 0) (.v (S.nv+ib nds+1))),⟨[(m,.row e (.v (S.nv+ib nds)))],[]⟩,[]⟩else none
   |none=>none
  |_,_,_=>none
 |_,_,_=>none
def IP(T:bY)(S:bt)(d:Nat)(t f:cf)(s x:cL):Option cG:=match S.arg s,S.arg x,List.lookup t T,List.lookup f T with
 |some (.v (.c .nil)),some (.v (.c (.p (.int .i64) a))),some r,some r'=>match r.elem,r'.int with
  |some e,some _=>match List.lookup e T with
   |some c=>match c.app,c.pa.bind wg with
    |some (n,b),some ps=>some ⟨[.jY a ps b,.row (.v S.nv) (.i 0) n,.app .r0 (.v S.nv) n b],.c1 (.own d),⟨[(d,.row e (.v (S.nv+2)))],[]⟩,[]⟩
    |_,_=>none
   |none=>none
  |_,_=>none
 |_,_,_,_=>none
def J0(T:bY)(S:bt)(d:Nat)(t f:cf)(s x:cL):Option cG:=match S.arg s,S.arg x,List.lookup t T,List.lookup f T with
 |some (.v (.c (.own m))),some (.v (.c (.p (.int .i64) a))),some r,some r'=>match r.elem,r'.int,List.lookup m S.heap with
  |some e,some _,some (.row g y)=>match List.lookup e T with
   |some c=>match c.app,c.pa.bind wg with
    |some (n,b),some ps=>if g=e then some ⟨[.jY a ps b,.row (.v S.nv) (.i 0) n,.app y (.v S.nv) n b],.c1 (.own d),⟨[(d,.row e (.v (S.nv+2)))],[m]⟩,[]⟩else none
    |_,_=>none
   |none=>none
  |_,_,_=>none
 |_,_,_,_=>none
def Af(T:bY)(S:bt)(d:Nat)(t:cf)(s x:cL):Option cG:=
 match S.arg s,S.arg x,(List.lookup t T).bind Ty.elem with
 |some (.v (.c (.p .nl _))),some (.v (.c c)),some e=>match(List.lookup e T).bind Ty.app,S.view S.nv c with
  |some (n,b),some (nds,a)=>some ⟨nds++[.row a (.i 0) n,.app .r0 a n b],.c1 (.own d),⟨[(d,.row e (.v (S.nv+ib nds+1)))],[]⟩,[]⟩
  |_,_=>none
 |_,_,_=>none
def xr(T:bY)(S:bt)(d:Nat)(t:cf)(s x:cL):Option cG:=match A3 T S d t s x with
 |some r=>some r
 |none=>Af T S d t s x
def LS(T:bY)(S:bt)(d:Nat)(b:Builtin)(args:List cL)(ts:List cf):Option cG:=
 match b,args,ts with
 |.len,[x],[t]=>fP T S t x
 |.append,[s,x],[t,c]=>if t=c then(if(List.lookup 999999 T).isSome then match OG T S t s x with
  |some r=>some r
  |none=>xr T S d t s x
  else xr T S d t s x)else(match IP T S d t c s x with
  |some r=>some r
  |none=>J0 T S d t c s x)
 |.copy,[x,y],[t,_]=>Ot T S t x y
 |.min,[x,y],_=>match S.arg x,S.arg y with
  |some (.v (.c (.p (.int k) a))),some (.v (.c (.p (.int _) b)))=>some ⟨[.mn a b],.c1 (.p (.int k) (.v S.nv)),eB,[]⟩
  |_,_=>none
 |.max,[x,y],_=>match S.arg x,S.arg y with
  |some (.v (.c (.p (.int k) a))),some (.v (.c (.p (.int _) b)))=>some ⟨[.mx a b],.c1 (.p (.int k) (.v S.nv)),eB,[]⟩
  |_,_=>none
 |.cap,[x],[t]=>match S.arg x,List.lookup t T with
  |some (.v (.c .nil)),some r=>if r.sl.isSome then some (.pure (.c1 (.p (.int .i64) (.i 0))))else none
  |_,_=>none
 |.delete,[m,k],t::_=>OH T S t m k
 |.complex,[x,y],_=>match S.arg x,S.arg y with
  |some (.v (.c (.p .fp a))),some (.v (.c (.p .fp b)))=>some ⟨[.call 3005 VW [a,b] 1 []],.c1 (.p .kM (.v S.nv)),eB,[]⟩
  |_,_=>none
 |.real,[x],_=>match S.arg x with
  |some (.v (.c (.p .kM a)))=>some ⟨[.call 3006 Yg [a] 1 []],.c1 (.p .fp (.v S.nv)),eB,[]⟩
  |_=>none
 |.imag,[x],_=>match S.arg x with
  |some (.v (.c (.p .kM a)))=>some ⟨[.call 3008 XE [a] 1 []],.c1 (.p .fp (.v S.nv)),eB,[]⟩
  |_=>none
 |_,_,_=>none
def lI(T:bY)(C:fr)(S:bt)(d:Nat)(op:Op):Option cG:=match op with
 |.move (.tmp t)=>(S.tmps[t]?).map .pure
 |.move x=>(S.arg x).map .pure
 |.assign (.tmp t)=>(S.tmps[t]?).map .pure
 |.assign x=>(S.arg x).map .pure
 |.pick c a b=>match S.arg c with
  |some (.v (.c (.p .bool (.b t))))=>(if t then S.arg a else S.arg b).map .pure
  |_=>none
 |.alloc e=>((List.lookup e T).bind Ty.pa).map λks=>⟨[],.c1 (.ptr d 0),⟨[(d,.box (ks.map Kd.zero))],[]⟩,[]⟩
 |.box _ x=>(S.gr x).map λx=>⟨[],.c1 (.ptr d 0),⟨[(d,.box x.cells)],[]⟩,[]⟩
 |.build t parts=>if parts.toList.isEmpty&& (List.lookup 999995 T).isSome then none else La T S t parts.toList
 |.buildSlice t len parts=>JO T S d t len parts.toList
 |.load t x=>OB T S t x
 |.store t x y=>IN T S t x y
 |.nilCheck x=>match S.arg x with
  |some (.v (.c (.ptr n o)))=>some (.pure (.c1 (.ptr n o)))
  |some (.v (.c (.iZ n o c m i)))=>some (.pure (.c1 (.iZ n o c m i)))
  |some (.v (.c (.d' n i j)))=>some (.pure (.c1 (.d' n i j)))
  |some (.v (.c (.ref x j)))=>some (.pure (.c1 (.ref x j)))
  |some (.v (.c (.fn f eS)))=>some (.pure (.c1 (.fn f eS)))
  |_=>none
 |.binOp op t x y _=>LB T S op t x y
 |.unOp op _ x=>JR S op x
 |.convert s t x=>match Oz T S s t x with
  |some r=>some r
  |none=>O7 T S s t x
 |.makeSlice t l c=>Pu T S d t l c
 |.slice t x lo h none=>match MY T S t x lo h with
  |some r=>some r
  |none=>match lo,h with
   |none,none=>Ns T S t x
   |_,_=>none
 |.slice t x lo (some h) (some mx)=>M3 T S t x lo h mx
 |.sliceToArrayPointer t x=>J7 T S t x
 |.makeMap _ none=>some ⟨[],.c1 (.mp d),⟨[(d,.map .r0)],[]⟩,[]⟩
 |.mapUpdate t m k x=>O3 T S t m k x
 |.lookup t m k ok=>Pp T S t m k ok
 |.fieldAddr t x f=>Lw T S t x f
 |.indexAddr t x i=>JJ T S t x i
 |.index t x i=>match S.arg x,S.arg i,List.lookup t T with
  |some (.v (.c (.p .str a))),some (.v (.c (.p (.int _) b))),some r=>if r.uJ then some ⟨[.A5 a b],.c1 (.p (.int .u8) (.v S.nv)),eB,[]⟩else none
  |some (.v (.agg cs)),some (.v (.c (.p (.int _) b))),some r=>match r.arr with
   |some (n,e)=>match List.lookup e T with
    |some g=>match Cb cs 0 n g.size b 0 (if g.agg then g.size else 1)with
     |some (ks,nds)=>if g.info then(nX g ks S.nv).map λv=>⟨.dM b n::nds,v,eB,[]⟩else none
     |none=>none
    |none=>none
   |none=>none
  |_,_,_=>none
 |.extract (.tmp t) i=>match S.tmps[t]? with
  |some (.bM xs)=>match xs[i]? with
   |some x=>some (.pure (.v x))
   |none=>none
  |_=>none
 |.makeFunc (.func f) first captured=>if first.size=0 then(S.eS captured.toList).map λp=>.pure (.c1 (.fn f p))else none
 |.panic _| .makeInterface _ _=>some ⟨[.dM (.i 0) 0],.c1 .dead,eB,[]⟩
 |.call c=>match c.callee with
  |.value x=>Ow T C S d x c.args.toList
  |.builtin b=>LS T S d b c.args.toList c.argTypes.toList
  |_=>none
 |_=>none
section
variable{P:cJ}{T:bY}{C:fr}{S:bt}{ρ:List L}{d:Nat}
def Xq:∀{l:List cL}{xs:List bN},S.DE l=some xs->l.mapM (S.a_ ρ).gr=some (xs.map (bN.a_ ρ))
 |[],_,h=>by cases h;rfl
 |x::l,xs,h=>by
  simp only[bt.DE]at h;split at h
  .rename_i y ys a c;cases h;simp only[pY,bt.Ej ρ a,Xq c];rfl
  .cases h
def Xk:∀{l:List cL}{a:List Nat},S.eS l=some a->l.mapM (S.a_ ρ).cap=some a
 |[],_,h=>by cases h;rfl
 |x::l,a,h=>by
  simp only[bt.eS]at h;split at h
  .rename_i n c e f;cases h;have g:(S.a_ ρ).arg x=some (.v (.c (.ptr n 0))):=bt.cO ρ e;have i:(S.a_ ρ).cap x=some n:=by grind[bC.cap]
   simp only[pY,i,Xk f];rfl
  .cases h
def apS{x y}(h:S.callee x=some y):(S.a_ ρ).callee x=some y:=by
 unfold bt.callee at h;split at h
 .cases h;rfl
 .split at h
  .rename_i f eS a;cases h;have c:(S.a_ ρ).arg x=some (.v (.c (.fn f eS))):=bt.cO ρ a;simp_all[bC.callee]
  .cases h
def JW{f:FuncId}{xs:List bN}:∀{C:fr}{r:cG},fr.ok P C->Cv T S d f xs C=some r->∃s,s.ok P/\s.f=f/\GR T S d xs s=some r
 |[],_,_,h=>by cases h
 |s::C,r,c,h=>by
  simp only[Cv]at h;split at h
  .rename_i g;split at h
   .rename_i r' i;cases h;exact⟨s,c s ch,g,i⟩
   .exact JW (λe a=>c e (by simp[a])) h
  .exact JW (λe a=>c e (by simp[a])) h
def aoA(g:fr.ok P C){x args r}(h:Ow T C S d x args=some r)(i:Sat ρ S.nv r.nds):
 ∀Sp:Spec,Sp d=some (r.v.a_ ρ,r.e.a_ ρ,r.rd)->vB P Sp (S.a_ ρ) d x args=some (r.a_ ρ):=by
 intro Sp c;unfold Ow at h;split at h
 .rename_i f eS xs j e;obtain⟨s,k,rfl,l⟩:=JW g h;have a:=aBx (ρ:=ρ) k l i;unfold vB;simp only[apS j,Xq e,c];rw[bB]
  .rfl
  .rw[dU,gW]at a;exact a
 .cases h
def W6{t}(h:(fG P t).HA=true):∃a c,P.underlying t=some (.map a c)/\P.underlying a=some (.int .u64):=by
 grind[fG,Uh]
def aAZ{t}(h:(fG P t).int=some .u8):P.underlying t=some (.int .u8):=by
 grind[fG,Ha]
def Js:∀{cs}{a},bt.xw cs=some a->∃ps,nC (cs.map (SC.a_ ρ))=some ps/\a.map (cZ ρ)=ps.map λq=>[q]
 |[],_,h=>by cases h;exact⟨[],rfl,rfl⟩
 |c::cs,a,h=>by
  have key:∀(k:Kd)(x:At),(bt.xw cs).map ([(k,x)]:: ·)=some a->(c.a_ ρ).pv=some (k.pv (x.ev ρ))->∃ps,nC ((c::cs).map (SC.a_ ρ))=some ps/\a.map (cZ ρ)=ps.map λq=>[q]:=by
   intro k x h i;simp only[b9]at h;obtain⟨e,f,rfl⟩:=h;obtain⟨ps,j,g⟩:=Js f;refine⟨k.pv (x.ev ρ)::ps,?_,?_⟩
   .simp_all[nC]
   .simp only[dE,g];rfl
  cases c with
  |p k x=>exact key k x h rfl
  |nil=>exact key .sl .r0 h rfl
  |_=>cases h
def avn{ρ:List L}{a:List (List (Kd×At))}{ps:List PV}(h:a.map (cZ ρ)=ps.map λq=>[q]):cZ ρ a.flatten=ps:=by
 unfold cZ at h⊢;rw[List.map_flatten,h];clear h
 induction ps with
 |nil=>rfl
 |cons p ps ih=>simpa using ih
def aiU(q:bY.ok P T){t m k x r}(h:O3 T S t m k x=some r)(o:Sat ρ S.nv r.nds):(yf P (S.a_ ρ) t m k x).map (λe=>(⟨.c .dead,e,[]⟩:b_))=some (r.a_ ρ):=by
 unfold O3 at h;split at h
 .rename_i n a cs row s u v z;have:=q _ _ z;subst this;split at h
  .rename_i y K B E;split at h
   .rename_i c;cases h;obtain⟨N,O,F,G⟩:=W6 c;have f:(S.a_ ρ).arg m=some (.v (.c (.mp n))):=bt.cO ρ s;have g:(S.a_ ρ).arg k=some (.v (.c (.p (.sc (.int .u64 (a.ev ρ).br))))):=bt.cO ρ u;have i:(S.a_ ρ).arg x=some (.v (.agg (cs.map (SC.a_ ρ)))):=bt.cO ρ v;obtain⟨ps,k1,k2⟩:=Js (ρ:=ρ) E;obtain⟨l,q1,q2⟩:=o.eD rfl;cases q1;have j:Sat ρ (S.nv+1) [.call 3001 Da [y,.v S.nv] 1 []]:=o.2;obtain⟨I,q3,q4⟩:=j.eD rfl;simp only[Nd.ev,dE,iC,Da,q2,L.bE,cZ]at q3;have p:=avn k2;unfold cZ at p;rw[p]at q3;simp only[Kd.pv]at q3;have J:I=.r (pM (a.ev ρ).br ps (y.ev ρ).bE):=by
     cases Q:y.ev ρ<;>simp_all [L.bE]
    subst J;simp only[yf,f,g,i,F,G,fk,B,cg,SB.a_,k1];simp only[cG.a_,iF.a_,dh.a_,dE,iC,SB.a_,q4,L.bE];rfl
   .cases h
  .cases h
 .cases h
def alA(i:bY.ok P T){t m k r}(h:OH T S t m k=some r)(j:Sat ρ S.nv r.nds):(yz P (S.a_ ρ) t m k).map (λe=>(⟨.bM [],e,[]⟩:b_))=some (r.a_ ρ):=by
 unfold OH at h;split at h
 .rename_i n a row o p q;have:=i _ _ q;subst this;split at h
  .rename_i y s;split at h
   .rename_i c;cases h;obtain⟨x,z,u,v⟩:=W6 c;have f:(S.a_ ρ).arg m=some (.v (.c (.mp n))):=bt.cO ρ o;have g:(S.a_ ρ).arg k=some (.v (.c (.p (.sc (.int .u64 (a.ev ρ).br))))):=bt.cO ρ p;obtain⟨l,q1,q2⟩:=j.eD rfl;simp[Nd.ev,NI]at q1;subst q1;simp only[yz,f,g,u,v,fk,s,cg,SB.a_];simp only[cG.a_,iF.a_,dh.a_,dE,iC,SB.a_,q2,L.bE];rfl
   .cases h
  .cases h
 .cases h
def anB{t a}(h:(fG P t).PI=some a):∃c us,P.underlying t=some (.map c a)/\P.underlying c=some (.int .u64)/\(P.info? a).bind (·.zero)=some (.agg us):=by
 change MB P t=some a at h;unfold MB at h;split at h
 .rename_i c e f;split at h
  .rename_i us g i;cases h;exact⟨c,us,f,g,i⟩
  .cases h
 .cases h
theorem aeT(J:bY.ok P T){t m k ok r}(h:Pp T S t m k ok=some r)(K:Sat ρ S.nv r.nds):(zh P (S.a_ ρ) t m k ok).map b_.pure=some (r.a_ ρ):=by
 unfold Pp at h;split at h
 .rename_i n a W X p Y;obtain⟨row,s,u⟩:=jq.1 Y;have:=J _ _ s;subst this;obtain⟨kt,us,h1,h2,h3⟩:=anB u;split at h
  .rename_i y ks hl v;obtain⟨row,x,c⟩:=jq.1 v;have:=J _ _ x;subst this;have c:xx P W=some ks:=c;split at h
   .rename_i z N;cases h;have B:(S.a_ ρ).arg m=some (.v (.c (.mp n))):=bt.cO ρ X;have E:(S.a_ ρ).arg k=some (.v (.c (.p (.sc (.int .u64 (a.ev ρ).br))))):=bt.cO ρ p;obtain⟨l,q1,q2⟩:=K.eD rfl;cases q1;have F:Sat ρ (S.nv+1) (.call 3003 DR [y,a,.v S.nv] 2 []::rH (.v (S.nv+1)) 0 ks):=K.2;obtain⟨⟨ls,q3,q4⟩,q5⟩:=F;have G:(cZ ρ z).length=ks.length:=by
     have:=vI (ρ:=ρ) N;have:=(oU this).1;simpa using this
    obtain⟨ys,O⟩:∃ys,ys=(At.ev ρ y).bE:=⟨_,rfl⟩
    simp only[Nd.ev,dE,iC,DR,q2,<-O]at q3;simp only[L.bE]at q3;split at q3
    .rename_i l' e;split at e
     .rename_i hlen;cases e;simp at q3;subst q3;have Q:=q4 0 (by simp[Nd.n]);have i:=q4 1 (by simp[Nd.n]);simp only[lL,p8,C4]at Q i;have c1:At.ev ρ (.v (S.nv+1))=.c ((lu (a.ev ρ).br ys).getD (cZ ρ z)):=by simp only[At.ev,Q,ik]
      have c2:At.ev ρ (.v (S.nv+2))=.b (lu (a.ev ρ).br ys).isSome:=by
       have i:ρ[S.nv+2]?=_:=i;simp only[At.ev,i,ik]
      have q5:Sat ρ (S.nv+3) (rH (.v (S.nv+1)) 0 ks):=q5;have I:Sat ρ (S.nv+3) (rH (.v (S.nv+1)) 0 (ks.map id)):=by rw[Iy];exact q5
      obtain⟨o,U⟩:=OX (f:=id) (g:=id) (ks:=ks) (j:=0) (λk p q l h=>Kd.BP h (EC c k p).1) I;rw[Iy]at o;rw[c1]at o U;simp only[L.jS,sI]at o U;have V:(jB (S.nv+3) ks).map (SC.a_ ρ)=((lu (a.ev ρ).br ys).getD (cZ ρ z)).map C.p:=by
       rw[o,eP];rw[bA,hlen,G];exact dz _
      simp only[zh,B,E,h1,h2,h3,fk,hl,cg,SB.a_,xd (P:=P) c ρ,sH,vI N,<-O]
      cases ok with
      |false=>simp only[cG.a_,pW,if_false,SV.a_,bN.a_,V];rfl
      |true=>simp only[cG.a_,if_true,SV.a_,dE,iC,bN.a_,SC.a_,Kd.pv,V,c2,L.eF];rfl
     .cases e
    .cases q3
   .cases h
  .cases h
 .cases h
theorem azr(p:bY.ok P T){s d x r}(h:O7 T S s d x=some r)(q:Sat ρ S.nv r.nds):lD P (S.a_ ρ) s d x=none/\(tJ P (S.a_ ρ) s d x).map b_.of=some (r.a_ ρ):=by
 unfold O7 at h;split at h
 .rename_i n row t u;have:=p _ _ u;subst this;split at h
  .rename_i e a F v i;split at h
   .rename_i r' y;have:=p _ _ y;subst this;split at h
    .rename_i z;cases h;obtain⟨B,rfl⟩:=z;obtain⟨⟨ls,j,_⟩,_⟩:=q;have k:(S.a_ ρ).arg x=some (.v (.c (.own n))):=bt.cO ρ t;have E:=ze i;have m:=aAZ B;have c:(a.ev ρ).bE≠ []:=by
      grind[Nd.ev]
     refine⟨?_,?_⟩
     .simp_all[lD]
     .simp only[tJ,k,fk,v,cg,SB.a_,E,m];have o:(a.ev ρ).bE.head?.map List.length=some 1:=by
       simp only[Nd.ev]at j
       cases f:(a.ev ρ).bE with
       |nil=>exact absurd f c
       |cons r0 l=>
        rw[f]at j;by_cases g:r0.length=1
        .simp[g]
        .simp[At.ev,L.br,g]at j
      rw[bB ⟨trivial,c,o⟩];rfl
    .cases h
   .cases h
  .cases h
 .cases h
theorem awR(i:bY.ok P T){t x r}(h:Ns T S t x=some r)(j:Sat ρ S.nv r.nds):mZ P (S.a_ ρ) t x none none=none/\(tT P (S.a_ ρ) t x).map b_.of=some (r.a_ ρ):=by
 unfold Ns at h;split at h
 .rename_i n off row k m;have:=i _ _ m;subst this;split at h
  .rename_i cs dm e o p;split at h
   .rename_i z B q s;have:=i _ _ q;subst this;split at h
    .rename_i u;cases h;obtain⟨c1,c2,c3,c4,c5⟩:=u;obtain⟨l,v,y⟩:=j.eD rfl;cases v;have a:(S.a_ ρ).arg x=some (.v (.c (.ptr n off))):=bt.cO ρ k;have c:mr P t=some (dm,e):=p;obtain⟨ps,k1,k2⟩:=Js (ρ:=ρ) s;have g:eG P e=1:=c1;have f:oq P e=true:=c2;have hlen:ps.length=dm:=by
      have:=cW List.length k2;grind
     refine⟨?_,?_⟩
     .simp only[mZ,a];rfl
     .simp only[tT,a,fk,o,cg,SB.a_,c];rw[<-o2,<-mo,k1];simp only;rw[bB ⟨g,f,c3,c4,hlen⟩];simp only[cg,b_.of,cG.a_,SV.a_,bN.a_,SC.a_,Kd.pv,y,L.bE,k2];rfl
    .cases h
   .cases h
  .cases h
 .cases h
theorem afQ(o:bY.ok P T){d t p s x r}(h:IP T S d t p s x=some r)(G:Sat ρ S.nv r.nds):(qd P (S.a_ ρ) d t p s x).map b_.of=some (r.a_ ρ):=by
 unfold IP at h;split at h
 .rename_i a V W q I u v;have:=o _ _ u;subst this;have:=o _ _ v;subst this;split at h
  .rename_i e k y J;split at h
   .rename_i X K;have:=o _ _ K;subst this;split at h
    .rename_i n b ps f g;cases h;have c:jH P e=some (n,b):=f;simp only[jq]at g;obtain⟨ks,z,N⟩:=g;obtain⟨⟨Y,l,i1⟩,⟨l2,h2,i2⟩,⟨l3,m,O⟩,_⟩:=G;have i:f_ P t=some e:=y;have B:=z6 (P:=P) (t:=p) J;have E:(S.a_ ρ).arg s=some (.v (.c .nil)):=bt.cO ρ q;have F:(S.a_ ρ).arg x=some (.v (.c (.p (.sc (.int .i64 (a.ev ρ).br))))):=bt.cO ρ I;simp only[Nd.ev]at l;split at l
     .rename_i c1;cases l;have e1:(At.v S.nv).ev ρ=.r (List.replicate (a.ev ρ).br.toNat (cZ ρ ps)):=by
       simp_all[Nd.n,At.ev,ik]
      have j:0< (a.ev ρ).br:=by
       grind[Nd.ev,L.bE]
      simp only[Nd.ev,acC]at m;obtain⟨c3,m⟩:=m;cases m;have Q:(At.v (S.nv+2)).ev ρ=.r (List.replicate (a.ev ρ).br.toNat (cZ ρ ps)):=by
       have:=O 0 (by simp[Nd.n]);have e:S.nv+(Nd.jY a ps b).n+(Nd.row (At.v S.nv) (At.i 0) n).n=S.nv+2:=rfl;simp_all[At.ev,ik,L.bE]
      have U:(a.ev ρ).br.toNat*b<=140737488355328:=by
       simp_all[At.ev,L.bE]
      simp only[qd,i,E,F,B,c,xd (P:=P) z ρ,vI N];rw[bB ⟨j,c1.2.1,U⟩];simp only[cg,b_.of,cG.a_,iF.a_,dh.a_,dE,iC,SB.a_,Q,L.bE];rfl
     .cases l
    .cases h
   .cases h
  .cases h
 .cases h
theorem alq(u:bY.ok P T){d t o s x r}(h:J0 T S d t o s x=some r)(Q:Sat ρ S.nv r.nds):(rA P (S.a_ ρ) d t o s x).map b_.of=some (r.a_ ρ):=by
 unfold J0 at h;split at h
 .rename_i m a r1 r2 v U z B;have:=u _ _ z;subst this;have:=u _ _ B;subst this;split at h
  .rename_i e k E y F V W;split at h
   .rename_i re X;have:=u _ _ X;subst this;split at h
    .rename_i n b ps f g;split at h
     .rename_i G;subst G;cases h;have c:jH P E=some (n,b):=f;simp only[jq]at g;obtain⟨ks,I,Y⟩:=g;obtain⟨⟨l1,p,i1⟩,⟨l2,h2,i2⟩,⟨l3,q,i3⟩,_⟩:=Q;have i:f_ P t=some E:=F;have J:=z6 (P:=P) (t:=o) V;have K:(S.a_ ρ).arg s=some (.v (.c (.own m))):=bt.cO ρ v;have N:(S.a_ ρ).arg x=some (.v (.c (.p (.sc (.int .i64 (a.ev ρ).br))))):=bt.cO ρ U;have j:(S.a_ ρ).iW E (.own m)=some ((y.ev ρ).bE,[m]):=by
       simp only[bC.iW,fk,W,cg,SB.a_,if_true]
      simp only[Nd.ev]at p;split at p
      .cases p;have e1:(At.v S.nv).ev ρ=.r (List.replicate (a.ev ρ).br.toNat (cZ ρ ps)):=by
        simp_all[Nd.n,At.ev,ik]
       have l:0< (a.ev ρ).br:=by
        grind[Nd.ev,L.bE]
       simp only[Nd.ev,acC]at q;obtain⟨c3,q⟩:=q;cases q;have e3:(At.v (S.nv+2)).ev ρ=.r ((y.ev ρ).bE++List.replicate (a.ev ρ).br.toNat (cZ ρ ps)):=by
        have:=i3 0 (by simp[Nd.n]);have e:S.nv+(Nd.jY a ps b).n+(Nd.row (At.v S.nv) (At.i 0) n).n=S.nv+2:=rfl;simp_all[At.ev,ik,L.bE]
       have O:qd P (S.a_ ρ) d t o s x=none:=by
        simp_all[qd]
       simp only[rA,O,wC,i,K,N,J,c,xd (P:=P) I ρ,vI Y,j];rw[bB ⟨l,by simp_all[L.bE],by simp_all[L.bE],c3.2.2.1⟩];simp only[cg,b_.of,cG.a_,iF.a_,dh.a_,dE,iC,SB.a_,e3,L.bE];rfl
      .cases p
     .cases h
    .cases h
   .cases h
  .cases h
 .cases h
def aqN(z:bY.ok P T){t s x r}(h:OG T S t s x=some r)(F:Sat ρ S.nv r.nds):(tZ P (S.a_ ρ) t s x).map b_.of=some (r.a_ ρ)/\∃a b c,r.v.a_ ρ=.v (.c (.sub a b c)):=by
 unfold OG at h;split at h
 .rename_i m ln G e k I l;split at h
  .rename_i J a nds b Q K N O;have:=z _ _ O;subst this;split at h
   .rename_i n bb g;split at h
    .rename_i o;subst o;cases h;have f:jH P J=some (n,bb):=g;have p:(S.a_ ρ).arg s=some (.v (.c (.sub m 0 (ln.ev ρ).br.toNat))):=bt.cO ρ k;have q:(S.a_ ρ).arg x=some (.v (.c (G.a_ ρ))):=bt.cO ρ I;obtain⟨u,v⟩:=Sat.app F;obtain⟨ls,j,B⟩:=v.one;simp only[Nd.ev,acC]at j;obtain⟨E,j⟩:=j;cases j;have i:=B 0 (by simp[Nd.n]);have y:=B 1 (by simp[Nd.n]);simp only[lL,p8,ik]at i;refine⟨?_,_,_,_,rfl⟩;simp only[tZ,p,q,fk,K,cg,SB.a_,r_ N u,BE z l,f];rw[bB ⟨trivial,E.1,E.2⟩];simp only[cg,b_.of,cG.a_,iF.a_,dh.a_,dE,iC,SB.a_,i,y,L.bE,SV.a_,bN.a_,SC.a_,L.br,eO];rfl
    .cases h
   .cases h
  .cases h
 .cases h
def aAk{t s x r}(h:A3 T S d t s x=some r):r.v.a_ ρ=.v (.c (.own d)):=by
 unfold A3 at h
 repeat' split at h
 all_goals first| (cases h;rfl)|cases h
def adL{t s x r}(h:Af T S d t s x=some r):r.v.a_ ρ=.v (.c (.own d)):=by
 unfold Af at h
 repeat' split at h
 all_goals first| (cases h;rfl)|cases h
def axK{t s x r}(h:xr T S d t s x=some r):r.v.a_ ρ=.v (.c (.own d)):=by
 unfold xr at h;split at h
 .rename_i a;cases h;exact aAk a
 .exact adL h
def aek(B:bY.ok P T){t s x r}(h:Af T S d t s x=some r)(G:Sat ρ S.nv r.nds):(tY P (S.a_ ρ) d t s x).map b_.of=some (r.a_ ρ)/\ot P (S.a_ ρ) d t s x=none:=by
 unfold Af at h;split at h
 .rename_i y I e m o p;split at h
  .rename_i n b nds a c J;cases h;obtain⟨E,q,c⟩:=jq.1 c;have:=B _ _ q;subst this;have f:jH P e=some (n,b):=c;have g:=Wi B p;obtain⟨u,i⟩:=Sat.app G;obtain⟨l,F,U⟩:=i.eD rfl;obtain⟨V,j,K⟩:=Sat.eD i.2 rfl;have k1:(S.a_ ρ).arg s=some (.v (.c (.p .nl))):=bt.cO ρ m;have k2:(S.a_ ρ).arg x=some (.v (.c (I.a_ ρ))):=bt.cO ρ o;have N:=r_ J u;have v:(a.ev ρ).bE≠ []:=by
    intro O;simp only[Nd.ev,O]at F;simp[At.ev,L.br]at F
   simp only[Nd.ev]at j;split at j
   .rename_i k;have z:(a.ev ρ).bE.length<=9223372036854775807/\(a.ev ρ).bE.length*b<=140737488355328/\cC n (a.ev ρ).bE=true:=by
     have e0:(At.r0.ev ρ).bE=[]:=rfl;rw[e0,jW,kp]at k;exact⟨k.1,k.2.1,k.2.2.2⟩
    cases j;refine⟨?_,?_⟩
    .simp only[tY,g,f,k1,k2,N];rw[bB ⟨v,z⟩];have Q:At.ev ρ (.v (S.nv+ib nds+1))=_:=K;simp only[cg,b_.of,cG.a_,iF.a_,dh.a_,dE,iC,SB.a_,Q,L.bE];rfl
    .unfold ot;simp only[g,f,k1,k2];rfl
   .cases j
  .cases h
 .cases h
def atc(o:bY.ok P T){b args ts r}(h:LS T S d b args ts=some r)(i:Sat ρ S.nv r.nds){Sp}(u:Sp d=some (r.v.a_ ρ,r.e.a_ ρ,r.rd)):lJ P Sp (S.a_ ρ) d b args ts=some (r.a_ ρ):=by
 unfold LS at h;split at h
 .exact aCV o h i
 .rename_i s x t G;split at h
  .rename_i p;have F:xr T S d t s x=some r->lJ P Sp (S.a_ ρ) d .append [s,x] [t,G]=some (r.a_ ρ):=λh=>by
    simp only[lJ,bB p,u];rw[axK h];unfold xr at h;split at h
    .rename_i v;cases h;exact azt (aqJ o v i)
    .obtain⟨I,J⟩:=aek o h i;show(qw P (S.a_ ρ) d t s x).map b_.of=some (r.a_ ρ);unfold qw;rw[J];exact I
   split at h
   .split at h
    .rename_i r' z;cases h;obtain⟨g,a,b,c,n⟩:=aqN o z i;simp_all[lJ]
    .exact F h
   .exact F h
  .rename_i p;simp only[lJ,bG p];grind[afQ,Option.map_eq_some_iff,rA,alq]
 .exact atC o h i
 .rename_i _ x y;split at h
  .rename_i k a B b j q;cases h;obtain⟨l,g,n⟩:=i.eD rfl;cases g;have f:(S.a_ ρ).arg x=some (.v (.c (.p (.sc (.int k (a.ev ρ).br))))):=bt.cO ρ j;have m:(S.a_ ρ).arg y=some (.v (.c (.p (.sc (.int B (b.ev ρ).br))))):=bt.cO ρ q;simp only[lJ,f,m,Kk,cg,b_.pure,cG.a_,SV.a_,bN.a_,SC.a_,Kd.pv,n];rfl
  .cases h
 .rename_i _ x y;split at h
  .rename_i k a B b j q;cases h;obtain⟨l,g,n⟩:=i.eD rfl;cases g;have f:(S.a_ ρ).arg x=some (.v (.c (.p (.sc (.int k (a.ev ρ).br))))):=bt.cO ρ j;have m:(S.a_ ρ).arg y=some (.v (.c (.p (.sc (.int B (b.ev ρ).br))))):=bt.cO ρ q;simp only[lJ,f,m,O5,cg,b_.pure,cG.a_,SV.a_,bN.a_,SC.a_,Kd.pv,n];rfl
  .cases h
 .rename_i x t;split at h
  .rename_i row j v;have:=o _ _ v;subst this;split at h
   .rename_i E;cases h;obtain⟨e,K⟩:=sC.1 E;have f:(S.a_ ρ).arg x=some (.v (.c .nil)):=bt.cO ρ j;simp only[lJ,f,ze K];rfl
   .cases h
  .cases h
 .exact alA o h i
 .rename_i _ x y;split at h
  .rename_i a b j q;cases h;obtain⟨l,g,n⟩:=i.eD rfl;have g:=A2 g;cases g;have f:(S.a_ ρ).arg x=some (.v (.c (.p (.sc (.float .f64 (gA (a.ev ρ).br)))))):=bt.cO ρ j;have m:(S.a_ ρ).arg y=some (.v (.c (.p (.sc (.float .f64 (gA (b.ev ρ).br)))))):=bt.cO ρ q;simp only[lJ,f,m,if_true,b_.pure,cG.a_,SV.a_,bN.a_,SC.a_,Kd.pv,n];rfl
  .cases h
 .rename_i _ x;split at h
  .rename_i a j;cases h;obtain⟨l,g,n⟩:=i.eD rfl;have g:=A2 g;cases g;have f:(S.a_ ρ).arg x=some (.v (.c (.p (.sc (.complex .f64 (gA (a.ev ρ).gI.1) (gA (a.ev ρ).gI.2)))))):=bt.cO ρ j;simp only[lJ,f,b_.pure,cG.a_,SV.a_,bN.a_,SC.a_,Kd.pv,n];rfl
  .cases h
 .rename_i _ x;split at h
  .rename_i a j;cases h;obtain⟨l,g,n⟩:=i.eD rfl;have g:=A2 g;cases g;have f:(S.a_ ρ).arg x=some (.v (.c (.p (.sc (.complex .f64 (gA (a.ev ρ).gI.1) (gA (a.ev ρ).gI.2)))))):=bt.cO ρ j;simp only[lJ,f,b_.pure,cG.a_,SV.a_,bN.a_,SC.a_,Kd.pv,n];rfl
  .cases h
 .cases h
theorem BM(v):(cG.pure v).a_ ρ=b_.pure (v.a_ ρ):=rfl
def alc(g:bY.ok P T)(Y:fr.ok P C){op r}(h:lI T C S d op=some r)(j:Sat ρ S.nv r.nds):
 ∀Sp:Spec,Sp d=some (r.v.a_ ρ,r.e.a_ ρ,r.rd)->cr P Sp (S.a_ ρ) d op=some (r.a_ ρ):=by
 intro Sp G
 cases op with
 |move x=>
  cases x with
  |tmp t=>
   simp only[lI,b9]at h;obtain⟨v,E,rfl⟩:=h;simp_all[bt.a_,cr,cg,BM]
  |_=>
   simp only[lI,b9]at h;obtain⟨v,E,rfl⟩:=h;simp only[cr,bt.cO ρ E,cg,BM]
 |assign x=>
  cases x with
  |tmp t=>
   simp only[lI,b9]at h;obtain⟨v,E,rfl⟩:=h;simp_all[bt.a_,cr,cg,BM]
  |_=>
   simp only[lI,b9]at h;obtain⟨v,E,rfl⟩:=h;simp only[cr,bt.cO ρ E,cg,BM]
 |pick c a b=>
  simp only[lI]at h;split at h
  .rename_i t N;simp only[b9]at h;obtain⟨v,E,rfl⟩:=h;have aa:(S.a_ ρ).arg c=some (.v (.c (.p (.sc (.bool t))))):=bt.cO ρ N;grind[cr,Bool.false_eq_true,bt.cO,BM]
  .cases h
 |alloc e=>
  simp only[lI,b9,jq]at h;obtain⟨ks,⟨row,I,hk⟩,rfl⟩:=h;have:=g _ _ I;subst this;simp only[cr,xd (P:=P) hk ρ];rfl
 |box e x=>
  simp only[lI,b9]at h;obtain⟨y,hy,rfl⟩:=h;simp only[cr,bt.Ej ρ hy,cg,bN.Bf];rfl
 |build t parts=>
  simp only[lI]at h;split at h
  .cases h
  .exact auP g h
 |buildSlice t len parts=>exact aij g h j
 |load t x=>exact ajP g h j
 |store t x y=>exact axo g h j
 |nilCheck x=>
  simp only[lI]at h;split at h
  .rename_i o;cases h;have:=bt.cO ρ o;simp only[cr,this,SV.a_,bN.a_,SC.a_];rfl
  .rename_i o;cases h;have:=bt.cO ρ o;simp only[cr,this,SV.a_,bN.a_,SC.a_];rfl
  .rename_i o;cases h;have:=bt.cO ρ o;simp only[cr,this,SV.a_,bN.a_,SC.a_];rfl
  .rename_i o;cases h;have:=bt.cO ρ o;simp only[cr,this,SV.a_,bN.a_,SC.a_];rfl
  .rename_i o;cases h;have:=bt.cO ρ o;simp only[cr,this,SV.a_,bN.a_,SC.a_];rfl
  .cases h
 |binOp op t x y yt=>exact atm g h j
 |unOp op t x=>exact aoa h j
 |convert s t x=>
  grind[lI,aee,Option.map_eq_some_iff,cr,azr]
 |makeSlice t l c=>exact apt g h j
 |sliceToArrayPointer t x=>
  have:=ajD g h j;simp_all[b9,cr]
 |slice t x lo F mx=>
  cases mx with
  |some mx=>
   cases F with
   |none=>cases h
   |some F=>
    have:=aBO g h j;simp_all[b9,cr]
  |none=>
   grind[lI,aCp,Option.map_eq_some_iff,cr,awR]
 |makeMap t r0=>
  cases r0 with
  |some _=>cases h
  |none=>cases h;rfl
 |mapUpdate t m k x=>exact aiU g h j
 |lookup t m k ok=>exact aeT g h j
 |fieldAddr t x f=>exact afv g h
 |indexAddr t x i=>exact ayH g h j
 |index t x i =>
  simp only[lI]at h;split at h
  .rename_i a k b row o F I;have:=g _ _ I;subst this;split at h
   .rename_i hS;cases h;obtain⟨l,p,J⟩:=j.eD rfl;simp only[Nd.ev]at p;split at p
    .rename_i h0;split at p
     .rename_i bb K;cases p;have u:(S.a_ ρ).arg x=some (.v (.c (.p (.sc (.string (a.ev ρ).gJ))))):=bt.cO ρ o;have z:(S.a_ ρ).arg i=some (.v (.c (.p (.sc (.int k (b.ev ρ).br))))):=bt.cO ρ F;simp only[cr,u,z,ym (P:=P) hS,K];rw[kO h0];simp only[b_.pure,cG.a_,SV.a_,bN.a_,SC.a_,Kd.pv,J,L.br];rfl
     .cases p
    .cases p
   .cases h
  .rename_i cs k b row o F I;have:=g _ _ I;subst this;split at h
   .rename_i n e ha;split at h
    .rename_i re he;have:=g _ _ he;subst this;split at h
     .rename_i ks nds N;split at h
      .rename_i B;simp only[b9]at h;obtain⟨v,p,rfl⟩:=h;obtain⟨⟨ls,J,_⟩,O⟩:=j;simp only[Nd.ev]at J;split at J
       .rename_i K;have u:(S.a_ ρ).arg x=some (.v (.agg (cs.map (SC.a_ ρ)))):=bt.cO ρ o;have z:(S.a_ ρ).arg i=some (.v (.c (.p (.sc (.int k (b.ev ρ).br))))):=bt.cO ρ F;obtain⟨hu,_⟩:=G5 ha;have q:oq P e=true:=B;have Q:Sat ρ S.nv nds:=O;obtain⟨h4,h5⟩:=Ni N Q;have X:=RW (t:=e) (off:=0) p h4 (λjj hj=>by
         obtain⟨k,a,k1,k2,k3⟩:=h5 jj om;exact⟨k,a,k1,by exact k2,k3⟩)
        have U:(fG P e).size=eG P e:=rfl;rw[kp,U]at X;simp only[cr,u,z,hu];rw[kO ⟨K.1,K.2,q⟩,X];rfl
       .cases J
      .cases h
     .cases h
    .cases h
   .cases h
  .cases h
 |extract t i=>
  cases t with
  |tmp t=>
   simp only[lI]at h;split at h
   .rename_i xs o;split at h
    .rename_i x V;cases h;have p:(S.a_ ρ).tmps[t]?=some (.bM (xs.map (bN.a_ ρ))):=by simp only[bt.a_,cY,o];rfl
     simp only[cr,p,cY,V,cg];rfl
    .cases h
   .cases h
  |_=>cases h
 |makeFunc fn first captured=>
  cases fn with
  |func f=>
   simp only[lI]at h;split at h
   .rename_i hz;simp only[b9]at h;obtain⟨ns,W,rfl⟩:=h;simp only[cr,bB hz,Xk W];rfl
   .cases h
  |_=>cases h
 |panic x=>
  cases h;obtain⟨⟨ls,p,_⟩,_⟩:=j;simp[Nd.ev,At.ev,L.br]at p
 |makeInterface t x=>
  cases h;obtain⟨⟨ls,p,_⟩,_⟩:=j;simp[Nd.ev,At.ev,L.br]at p
 |call c=>
  obtain⟨callee,args,ts⟩:=c
  cases callee with
  |builtin b=>exact atc g h j G
  |invoke=>cases h
  |value f=>exact aoA Y h j Sp G
 |_=>cases h
end
theorem atQ{P Sp Sp' st d op}(h:Sp d=Sp' d):cr P Sp st d op=cr P Sp' st d op:=by
 cases op with
 |call c=>
  obtain⟨callee,args,ts⟩:=c
  cases callee with
  |value f=>simp only[cr,vB,h]
  |builtin b=>simp only[cr,lJ,h]
  |_=>rfl
 |slice t x lo a mx=>cases mx<;>cases a<;>rfl
 |move x=>cases x<;>rfl
 |assign x=>cases x<;>rfl
 |extract t i=>cases t<;>rfl
 |makeFunc fn=>cases fn<;>rfl
 |makeMap t r=>cases r<;>rfl
 |_=>rfl
def Xx{P Sp Sp' b ops}:∀{l}{k}{st},(∀j,k<=j->Sp (b+8*j)=Sp' (b+8*j))->nR P Sp b ops l k st=nR P Sp' b ops l k st
 |[],_,_,_=>rfl
 |o::l,k,st,h=>by
  have a:ni P Sp b ops st k o=ni P Sp' b ops st k o:=by
   grind[ni,atQ]
  simp only[nR,a]
  cases ni P Sp' b ops st k o with
  |none=>rfl
  |some r=>simp only[Xx (l:=l) (k:=k+1) (λj c=>h j om)]
inductive RT where
 |bq (S:bt) (ts:lh)
 |ops (nds:List Nd) (k:RT)
 |ite (a:At) (x y:RT)
 |stuck
deriving Inhabited
def RT.a_:RT->List L->Option ((bt×lh)×List L)
 |.bq S ts,ρ=>some ((S,ts),ρ)
 |.ops nds k,ρ=>match rC ρ nds with
  |some h=>k.a_ h
  |none=>none
 |.ite a x y,ρ=>if(a.ev ρ).eF then x.a_ ρ else y.a_ ρ
 |.stuck,_=>none
def bt.fJ(S:bt)(d:Option Nat)(v:SV):bt:=match d with
 |some d=> {S with tmps:=S.tmps.set d v}
 |none=>S
def bt.Bc(S:bt)(e:iF):bt:={S with heap:=e.cq++S.heap,bx:=e.bx++S.bx}
def bt.more(S:bt)(n:Nat):bt:={S with nv:=S.nv+n}
def bt.raw(S:bt):cL->List Nat
 |.tmp t=>match S.tmps[t]? with
  |some v=>v.names
  |none=>[]
 |_=>[]
def bt.oz(S:bt):Op->List Nat
 |.extract _ _=>[]
 |.move (.tmp _)=>[]
 |.assign (.tmp _)=>[]
 |op=>op.operands.toList.flatMap S.raw
def Et(ops:Array Oper)(S:bt)(o:Oper):Option Bool:=match o.guard with
 |none=>some true
 |some (j,want)=>match(ops[j]?).bind (·.dst)with
  |some d=>match S.tmps[d]? with
   |some (.v (.c (.p .bool (.b t))))=>some (t==want)
   |some (.bM [])=>some false
   |_=>none
  |none=>none
def bt.open(S:bt)(t:Nat):Option (Nat×Nat):=match S.tmps[t]? with
 |some (.v (.c (.p .bool (.v i))))=>some (i,t)
 |_=>none
def asks(ops:Array Oper)(S:bt)(o:Oper):Option (Nat×Nat):=
 match(match o.guard with
  |some (j,_)=>match(ops[j]?).bind (·.dst)with
   |some d=>S.open d
   |none=>none
  |none=>none),o.op with
 |some x,_=>some x
 |none,.pick (.tmp c) _ _=>S.open c
 |none,_=>none
def bt.D'(S:bt)(t:Nat)(x:Bool):bt:={S with tmps:=S.tmps.set t (.c1 (.p .bool (.b x)))}
def SV.fix(i:Nat)(j:Int):SV->SV
 |.v (.c (.p (.int k) (.v a)))=>if a=i then .v (.c (.p (.int k) (.i j)))else .v (.c (.p (.int k) (.v a)))
 |x=>x
def bt.fix(S:bt)(i:Nat)(j:Int):bt:={S with tmps:=S.tmps.map (SV.fix i j)}
def apf(T:bY)(ops:Array Oper)(S:bt)(o:Oper):Option (Nat×fE×Nat):=match o.op,Et ops S o with
 |.indexAddr ty x (.tmp t),some true=>match S.arg x,S.tmps[t]?,(List.lookup ty T).bind Ty.arr with
  |some (.v (.c (.ptr n off))),some (.v (.c (.p (.int k) (.v i)))),some (dm,_)=>match List.lookup n S.heap with
   |some (.box cs)=>if decide (dm<=16)&& (((cs.drop off).take dm).any (λc=>match c with| .p _ _=>false|_=>true)||ops.any (λa=>match a.op with| .store _ (.tmp e) _=>o.dst==some e|_=>false))then some (i,k,dm)else none
   |_=>none
  |_,_,_=>none
 |_,_=>none
def Fu(f:bt->Option RT)(i:Nat)(k:fE):Nat->Int->bt->Option RT
 |0,_,_=>some .stuck
 |c+1,j,S=>match f ((S.more 1).fix i j),Fu f i k c (j+1) (S.more 1)with
  |some a,some b=>some (.ops [.bi .eql k (.v i) (.i j)] (.ite (.v S.nv) a b))
  |_,_=>none
def EI(e:iF):List Nat:=e.cq.map (·.1)++e.bx
def tB(T:bY)(C:fr)(b:Nat)(ops:Array Oper):Nat->List Oper->Nat->bt->lh->Option RT
 |0,_,_,_,_=>none
 |_+1,[],_,S,acc=>some (.bq S acc.reverse)
 |n+1,o::l,k,S,acc=>match asks ops S o with
  |some (i,t)=>if i<S.nv then match tB T C b ops n (o::l) k (S.D' t true) acc,tB T C b ops n (o::l) k (S.D' t false) acc with
   |some a,some t2=>some (.ite (.v i) a t2)
   |_,_=>none
   else none
  |none=>match apf T ops S o with
  |some (i,c,dm)=>if i<S.nv then Fu (λe=>tB T C b ops n (o::l) k e acc) i c dm 0 S else none
  |none=>match Et ops S o with
   |some false=>tB T C b ops n l (k+1) (S.fJ o.dst (.bM [])) (([],[])::acc)
   |some true=>match lI T C S (b+8*k) o.op with
    |some r=>if uN S.nv r.nds then(tB T C b ops n l (k+1) (((S.Bc r.e).fJ o.dst r.v).more (ib r.nds)) ((S.oz o.op++r.rd,EI r.e)::acc)).map (.ops r.nds)else none
    |none=>if(List.lookup 999998 T).isSome then some .stuck else none
   |none=>none
section
variable{P:cJ}{T:bY}{C:fr}{ρ:List L}{b:Nat}{ops:Array Oper}
def Vg{S:bt}{d v}:(S.fJ d v).a_ ρ=(S.a_ ρ).put d (v.a_ ρ):=by
 cases d with
 |none=>rfl
 |some d=>simp_all[bt.fJ,bt.a_,bC.put]
def ajK{S:bt}{e}:(S.Bc e).a_ ρ=(S.a_ ρ).ez (e.a_ ρ):=by
 simp_all[bt.Bc,bt.a_,bC.ez,iF.a_,dh.a_]
theorem aon{S:bt}{n}:(S.more n).a_ ρ=S.a_ ρ:=rfl
theorem amZ{S:bt}{x}:(∀v,x=.const v->(HN v).isSome=true\/(ofValue v).names=[])->(S.a_ ρ).raw x=S.raw x:=by
 intro a
 cases x with
 |tmp t=>
  simp only[bC.raw,bt.raw,bt.a_,cY]
  cases S.tmps[t]? with
  |none=>rfl
  |some v=>simp only[cg,SV.oX]
 |const v=>
  simp only[bC.raw,bt.raw];unfold ofValue;split
  .split
   .rename_i us _;show(us.toList.map mL).flatMap C.names=[]
    rw[List.flatMap_eq_nil_iff];intro c a;obtain⟨u,_,rfl⟩:=gg.1 a;unfold mL;split
    .rfl
    .split<;>rfl
   .rfl
  .split<;>rfl
  .unfold mL;split
   .rfl
   .split<;>rfl
 |_=>rfl
theorem atO(v):(ofValue v).names=[]:=by
 unfold ofValue;split
 .split
  .rename_i us _;show(us.toList.map mL).flatMap C.names=[]
   rw[List.flatMap_eq_nil_iff];intro c a;obtain⟨u,_,rfl⟩:=gg.1 a;unfold mL;split
   .rfl
   .split<;>rfl
  .rfl
 .split<;>rfl
 .unfold mL;split
  .rfl
  .split<;>rfl
def ahe{S:bt}{op}:(S.a_ ρ).oz op=S.oz op:=by
 have:∀l:List cL,l.flatMap (S.a_ ρ).raw=l.flatMap S.raw:=by
  intro l
  induction l with
  |nil=>rfl
  |cons x l ih=>simp_all[amZ,atO]
 cases op with
 |move x=>cases x<;>first|rfl|exact this _
 |assign x=>cases x<;>first|rfl|exact this _
 |_=>first|rfl|exact this _
def arP(e):(e.a_ ρ).cq.map (·.1)++(e.a_ ρ).bx=EI e:=by
 simp only[EI,iF.a_,dh.a_,gW];rfl
def Vi{S:bt}{i t x}(h:S.open t=some (i,t))(f:((At.v i).ev ρ).eF=x):(S.D' t x).a_ ρ=S.a_ ρ:=by
 unfold bt.open at h;split at h
 .rename_i g e;cases h;simp only[bt.D',bt.a_,List.map_set];congr 1;apply sE;intro j;rw[Ir];split
  .rename_i a;subst a;have c:=(ek.1 e).1;rw[bB (by simpa using c),cY,e];simp only[cg,SV.a_,bN.a_,SC.a_,Kd.pv,f];rfl
  .rfl
 .cases h
def aCY{S o i t}(h:asks ops S o=some (i,t)):S.open t=some (i,t):=by
 have key:∀d,S.open d=some (i,t)->S.open t=some (i,t):=by
  intro d a;have:d=t:=by
   unfold bt.open at a;grind
  simp_all
 grind[asks]
def Zj{S o t}(h:Et ops S o=some t):tg ops (S.a_ ρ) o=some t:=by
 unfold Et at h;unfold tg
 cases c:o.guard with
 |none=>simp_all
 |some y=>
  obtain⟨j,want⟩:=y;rw[c]at h;simp only at h⊢
  cases e:(ops[j]?).bind (·.dst)with
  |none=>simp_all
  |some d=>
   rw[e]at h;simp only at h⊢;split at h
   .rename_i f a;cases h;have:(S.a_ ρ).tmps[d]?=some (.v (.c (.p (.sc (.bool f))))):=by simp only[bt.a_,cY,a];rfl
    rw[this]
   .rename_i a;cases h;have:(S.a_ ρ).tmps[d]?=some (.bM []):=by simp only[bt.a_,cY,a];rfl
    rw[this]
   .cases h
def aql{S:bt}{i j}(a:((At.v i).ev ρ).br=j):(S.fix i j).a_ ρ=S.a_ ρ:=by
 simp only[bt.fix,bt.a_,gW];congr 1;apply ia;intro x _;simp only[Function.comp];unfold SV.fix;split
 .split
  .rename_i c;subst c;simp only[SV.a_,bN.a_,SC.a_,Kd.pv,a];rfl
  .rfl
 .rfl
def YW{f:bt->Option RT}{i:Nat}{k:fE}:∀{c:Nat}{j:Int}{S:bt}{t:RT}{ρ:List L}{x:(bt×lh)×List L},Fu f i k c j S=some t->ρ.length=S.nv->i<S.nv->t.a_ ρ=some x->
 ∃l a e,f l=some a/\a.a_ e=some x/\e.length=l.nv/\(∃ys,e=ρ++ys)/\∀n,l.a_ (e++n)=S.a_ (e++n)
 |0,j,S,t,ρ,x,h,o,p,g=>by cases h;cases g
 |c + 1,j,S,t,ρ,x,h,o,p,g=>by
  simp only[Fu]at h;split at h
  .rename_i a E q r;cases h;simp only[RT.a_,rC,Nd.ev,eC,cg]at g;have F:((At.v S.nv).ev (ρ++[L.b (decide (((At.v i).ev ρ).br=((At.i j).ev ρ).br))])).eF=decide (((At.v i).ev ρ).br=j):=by
    have e0:(ρ++[L.b (decide (((At.v i).ev ρ).br=((At.i j).ev ρ).br))])[S.nv]?=some (L.b (decide (((At.v i).ev ρ).br=((At.i j).ev ρ).br))):=by
     simp_all
    have s:(At.v S.nv).ev (ρ++[L.b (decide (((At.v i).ev ρ).br=((At.i j).ev ρ).br))])=L.b (decide (((At.v i).ev ρ).br=((At.i j).ev ρ).br)):=by
     show((ρ++[L.b (decide (((At.v i).ev ρ).br=((At.i j).ev ρ).br))])[S.nv]?).getD (L.b false)=_;rw[e0];rfl
    rw[s];rfl
   have u:∀ys,(At.v i).ev (ρ++ys)=(At.v i).ev ρ:=λys=>At.fX (m:=S.nv) (by grind[At.in]) om
   split at g
   .refine⟨(S.more 1).fix i j,a,_,q,g,by simp[bt.fix,bt.more,o],⟨_,rfl⟩,λn=>?_⟩;rw[aql gL];rfl
   .obtain⟨l,v,e,k1,k2,y,⟨ys,z⟩,B⟩:=YW r (by simp[bt.more,o]) (by grind[bt.more]) g;exact⟨l,v,e,k1,k2,y,⟨_,by rw[z,dr]⟩,B⟩
  .cases h
def yr(x:bY.ok P T)(y:fr.ok P C):∀{n:Nat}{l:List Oper}{k:Nat}{S z:bt}{acc f:lh}{t:RT}{ρ c:List L},tB T C b ops n l k S acc=some t->ρ.length=S.nv->t.a_ ρ=some ((z,f),c)->
 z.nv=c.length/\(∃ys,c=ρ++ys)/\∃rs ts Sp,nR P Sp b ops l k (S.a_ c)=some (rs,ts,z.a_ c)/\f=acc.reverse++ts
 |0,_,_,_,_,_,_,_,_,_,h,_,_=>by cases h
 |n+1,[],k,S,z,acc,f,t,ρ,c,h,g,e=>by
  cases h;cases e;exact⟨g.symm,⟨[],by simp⟩,[],[],λ_=>none,rfl,by simp⟩
 |n+1,o::l,k,S,z,acc,f,t,ρ,c,h,g,e=>by
  simp only[tB]at h;split at h
  .rename_i i tt B;split at h
   .rename_i F;split at h
    .rename_i t1 t2 U V;cases h;have p:=aCY B;simp only[RT.a_]at e;split at e
     .rename_i I;obtain⟨k1,⟨ys,k2⟩,rs,ts,Sp,q,s⟩:=yr x y U g e;have u:((At.v i).ev c).eF=true:=by rw[k2,At.fX (m:=S.nv) (by simpa[At.in]using F) om];exact I
      exact⟨k1,⟨ys,k2⟩,rs,ts,Sp,by rw[<-Vi p u];exact q,s⟩
     .rename_i I;obtain⟨k1,⟨ys,k2⟩,rs,ts,Sp,q,s⟩:=yr x y V g e;have u:((At.v i).ev c).eF=false:=by rw[k2,At.fX (m:=S.nv) (by simpa[At.in]using F) om];simpa using I
      exact⟨k1,⟨ys,k2⟩,rs,ts,Sp,by rw[<-Vi p u];exact q,s⟩
    .cases h
   .cases h
  .split at h
   .split at h
    .rename_i F;obtain⟨S1,a,J,W,X,Y,⟨xs,j4⟩,j5⟩:=YW h g F e;obtain⟨k1,⟨ys,k2⟩,rs,ts,Sp,q,s⟩:=yr x y W Y X;refine⟨k1,⟨xs++ys,by rw[k2,j4,dr]⟩,rs,ts,Sp,?_,s⟩;rw[k2,<-j5 ys,<-k2];exact q
    .cases h
   split at h
   .rename_i K;obtain⟨k1,k2,rs,ts,Sp,q,s⟩:=yr x y h (by cases o.dst<;>exact g) e;refine⟨k1,k2,none::rs,([],[])::ts,Sp,?_,by rw[s];simp⟩;have v:=Zj (ρ:=c) K;simp only[nR,ni,v];have G:iS (S.a_ c) o none=(S.fJ o.dst (.bM [])).a_ c:=by rw[Vg];rfl
    rw[G,q];rfl
   .rename_i K;split at h
    .rename_i r hr;split at h
     .rename_i N;simp only[b9]at h;obtain⟨t',h',rfl⟩:=h;simp only[RT.a_]at e;split at e
      .rename_i J Q;obtain⟨xs,G,e2⟩:=Gq Q;have O:(((S.Bc r.e).fJ o.dst r.v).more (ib r.nds)).nv=S.nv+ib r.nds:=by cases o.dst<;>rfl
       obtain⟨k1,⟨ys,k2⟩,rs,ts,Sp,q,s⟩:=yr x y h' (by rw[O,G,cw,g,e2]) e;have E:Sat c S.nv r.nds:=by
        rw[k2,<-g];exact JS (by rw[g];exact N) Q
       let Sp':Spec:=λd=>if d=b+8*k then some (r.v.a_ c,r.e.a_ c,r.rd)else Sp d
       have p:=alc (ρ:=c) x y hr E Sp' (by simp[Sp']);refine⟨k1,⟨xs++ys,by rw[k2,G,dr]⟩,some (r.a_ c)::rs,(S.oz o.op++r.rd,EI r.e)::ts,Sp',?_,by rw[s];simp⟩;have v:=Zj (ρ:=c) K;simp only[nR,ni,v,p,cg];have e3:iS (S.a_ c) o (some (r.a_ c))=(((S.Bc r.e).fJ o.dst r.v).more (ib r.nds)).a_ c:=by rw[aon,Vg,ajK];rfl
       rw[e3,Xx (Sp':=Sp) (λj hj=>by simp only[Sp'];rw[bG om]),q];simp only[vS,ahe,jK,rV,cG.a_,arP]
      .cases e
     .cases h
    .split at h
     .cases h;cases e
     .cases h
   .cases h
end
section
variable{A R:Type}
def iv(f:A->Option (A ⊕ R)):Nat->A->Option R
 |0,_=>none
 |n+1,a=>match f a with
  |some (.inl a')=>iv f n a'
  |some (.inr r)=>some r
  |none=>none
def i_(f:A->Option (A ⊕ R))(a:A):Option R:=if h:∃n r,iv f n a=some r then iv f h.choose a else none
def L'{f:A->Option (A ⊕ R)}:∀{n:Nat}{a:A}{r:R}(m:Nat),iv f n a=some r->iv f (n+m) a=some r
 |0,_,_,_,h=>by cases h
 |n+1,a,r,m,h=>by
  rw[show n+1+m=(n+m)+1 by omega];simp only[iv]at h⊢;split at h
  .exact L' m h
  .exact h
  .cases h
def HU{f n}{a:A}{r:R}(h:iv f n a=some r):i_ f a=some r:=by
 have c:∃n r,iv f n a=some r:=⟨n,r,h⟩
 unfold i_;rw[dif_pos c];obtain⟨r',e⟩:=c.choose_spec;have i:=L' n e;have g:=L' c.choose h;rw[Nat.add_comm]at g;rw[e,<-i,g]
def yB{f}{a:A}{r:R}(h:i_ f a=some r):∃n,iv f n a=some r:=by
 unfold i_ at h;split at h
 .exact⟨_,h⟩
 .cases h
def Nt(f:A->Option (A ⊕ R))(a):i_ f a=match f a with
 |some (.inl a')=>i_ f a'
 |some (.inr r)=>some r
 |none=>none:=by
 cases e:f a with
 |none=>
  cases h:i_ f a with
  |none=>rfl
  |some r=>
   obtain⟨n,c⟩:=yB h
   cases n with
   |zero=>cases c
   |succ n=>simp only[iv,e]at c;cases c
 |some x=>
  cases x with
  |inr r=>exact HU (n:=1) (by simp only[iv,e])
  |inl a'=>
   simp only
   cases h:i_ f a' with
   |some r=>
    obtain⟨n,c⟩:=yB h;exact HU (n:=n+1) (by simp only[iv,e,c])
   |none=>
    cases g:i_ f a with
    |none=>rfl
    |some r=>
     obtain⟨n,c⟩:=yB g
     cases n with
     |zero=>cases c
     |succ n=>
      simp only[iv,e]at c;rw[HU c]at h;cases h
def Br{f:A->Option (A ⊕ R)}{a a'}(h:f a=some (.inl a')):i_ f a=i_ f a':=by rw[Nt,h]
def GJ{f}{a:A}{r:R}(h:f a=some (.inr r)):i_ f a=some r:=by rw[Nt,h]
def ahf{f g}{h:R->Option R}(o:∀a,(∀r,f a=some (.inr r)->i_ f a=some r->g a=(h r).map .inr)->True){G:R->Prop}
 (l:∀a,(∀r,i_ f a=some r->G r)->g a=match f a with
  |some (.inl a')=>some (.inl a')
  |some (.inr r)=>(h r).map .inr
  |none=>none) (a:A) (k:∀r,i_ f a=some r->G r):i_ g a=(i_ f a).bind h:=by
 cases j:i_ f a with
 |some r=>
  obtain⟨n,e⟩:=yB j;clear j
  induction n generalizing a with
  |zero=>cases e
  |succ n ih=>
   have c:=l a k;simp only[iv]at e;split at e
   .rename_i a' i;rw[i]at c;rw[Br c];exact ih a' (by rw[<-Br i];exact k) e
   .rename_i r' i;cases e;rw[i]at c;rw[Nt,c];simp only[sH];cases h r<;>rfl
   .cases e
 |none=>
  cases m:i_ g a with
  |none=>rfl
  |some r=>
   obtain⟨n,e⟩:=yB m;clear m
   induction n generalizing a with
   |zero=>cases e
   |succ n ih=>
    have c:=l a k
    cases i:f a with
    |none=>rw[i]at c;simp only[iv,c]at e;cases e
    |some y=>
     cases y with
     |inl a'=>
      rw[i]at c;simp only[iv,c]at e;exact ih a' (by rw[<-Br i];exact k) (by rw[<-Br i];exact j) e
     |inr r'=>rw[GJ i]at j;cases j
end
inductive Ex where
 |normal|exit (id:Nat)|ret
deriving DecidableEq,Repr,Inhabited
def Ex.to:Ex->Exit
 |.normal=>.normal
 |.exit id=>.exit id
 |.ret=>.ret
inductive Lf where
 |st (e:Ex) (S:bt)
 |jump (k:Nat) (args:List At)
deriving Inhabited
inductive bp where
 |bq (x:Lf)
 |op (nd:Nd) (k:bp)
 |ite (c:At) (a b:bp)
 |join (body rest:bp)
 |loop (init:List At) (body:bp)
deriving Inhabited
abbrev Out:=Option (Lf×List L)
def oT(x:Out):Option (List L ⊕ (Lf×List L)):=match x with
 |some (.jump 0 args,ρ)=>some (.inl (args.map (At.ev ρ)))
 |some (.jump (k+1) args,ρ)=>some (.inr (.jump k args,ρ))
 |some (x,ρ)=>some (.inr (x,ρ))
 |none=>none
def bp.a_:bp->List L->Out
 |.bq x,ρ=>some (x,ρ)
 |.op m k,ρ=>match m.ev ρ with
  |some ls=>k.a_ (ρ++ls)
  |none=>none
 |.ite c a b,ρ=>if(c.ev ρ).eF then a.a_ ρ else b.a_ ρ
 |.join body rest,ρ=>match body.a_ ρ with
  |some (.jump 0 args,h)=>rest.a_ (ρ++args.map (At.ev h))
  |some (.jump (k+1) args,h)=>some (.jump k args,h)
  |r=>r
 |.loop init body,ρ=>i_ (λa=>oT (body.a_ (ρ++a))) (init.map (At.ev ρ))
def bp.bind(f:Nat->Ex->bt->Option bp):Nat->bp->Option bp
 |d,.bq (.st e S)=>f d e S
 |_,.bq x=>some (.bq x)
 |d,.op h k=>(bp.bind f d k).map (.op h)
 |d,.ite c a b=>match bp.bind f d a,bp.bind f d b with
  |some a,some b=>some (.ite c a b)
  |_,_=>none
 |d,.join body rest=>match bp.bind f (d+1) body,bp.bind f d rest with
  |some a,some b=>some (.join a b)
  |_,_=>none
 |d,.loop init body=>(bp.bind f (d+1) body).map (.loop init)
def lift(d:Nat):Lf×List L->Lf×List L
 |(.jump k args,ρ)=>(.jump (k+d) args,ρ)
 |x=>x
def after(R:Ex->bt->List L->Out)(d:Nat)(o:Out):Out:=match o with
 |some (.st e S,ρ)=>(R e S ρ).map (lift d)
 |r=>r
def r9{f:Nat->Ex->bt->Option bp}{R:Ex->bt->List L->Out}:∀{t u:bp}{d:Nat}{ρ:List L},
 (∀e S i,t.a_ ρ=some (.st e S,i)->∀d l,f d e S=some l->l.a_ i=(R e S i).map (lift d))->t.bind f d=some u->u.a_ ρ=after R d (t.a_ ρ)
 |.bq (.st e S),u,d,ρ,H,h=>H e S ρ rfl d u h
 |.bq (.jump k args),u,d,ρ,H,h=>by cases h;rfl
 |.op F k,u,d,ρ,H,h=>by
  simp only[bp.bind,b9]at h;obtain⟨v,s,rfl⟩:=h;simp only[bp.a_]at H⊢
  cases I:F.ev ρ with
  |none=>rfl
  |some ls=>
   rw[I]at H;exact r9 H s
 |.ite c a b,u,d,ρ,H,h=>by
  simp only[bp.bind]at h;split at h
  .rename_i l J p z;cases h;simp only[bp.a_]at H⊢;split
   .rename_i B;rw[bB B]at H;exact r9 H p
   .rename_i B;rw[bG B]at H;exact r9 H z
  .cases h
 |.join body rest,u,d,ρ,H,h=>by
  simp only[bp.bind]at h;split at h
  .rename_i l J p z;cases h;simp only[bp.a_]at H⊢
   cases m:body.a_ ρ with
   |none=>
    have:=r9 (R:=R) (t:=body) (ρ:=ρ) (λe S i j=>by rw[m]at j;cases j) p;rw[this,m];rfl
   |some x=>
    obtain⟨q,i⟩:=x
    cases q with
    |st e S=>
     have:=r9 (R:=R) (t:=body) (ρ:=ρ) (λe S i j=>H e S i (by rw[j])) p;rw[this,m];simp only[after]
     cases R e S i with
     |none=>rfl
     |some y=>
      obtain⟨n,E⟩:=y
      cases n with
      |st=>rfl
      |jump k args=>simp only[cg,lift,Nat.add_succ]
    |jump k args=>
     have:=r9 (R:=R) (t:=body) (ρ:=ρ) (λe S i j=>by rw[m]at j;cases j) p;rw[this,m]
     cases k with
     |zero=>
      rw[m]at H;exact r9 H z
     |succ k=>rfl
  .cases h
 |.loop init body,u,d,ρ,H,h=>by
  simp only[bp.bind,b9]at h;obtain⟨v,s,rfl⟩:=h;simp only[bp.a_]at H⊢;have key:=ahf (f:=λa=>oT (body.a_ (ρ++a))) (g:=λa=>oT (v.a_ (ρ++a))) (h:=λr=>after R d (some r))
   (G :=λr=>∀e S,r.1=.st e S->∀d l,f d e S=some l->l.a_ r.2=(R e S r.2).map (lift d)) (λ_ _=>trivial) (λa K=>by
    have o:=r9 (R:=R) (t:=body) (ρ:=ρ++a) (d:=d+1) (u:=v) (λe S i j=>by
     have:=K (.st e S,i) (GJ (by simp only[j,oT]));exact this e S rfl) s
    simp only[o]
    cases m:body.a_ (ρ++a)with
    |none=>rfl
    |some x=>
     obtain⟨q,i⟩:=x
     cases q with
     |st e S=>
      simp only[after,oT]
      cases R e S i with
      |none=>rfl
      |some y=>
       obtain⟨n,E⟩:=y
       cases n with
       |st=>rfl
       |jump k args=>simp only[cg,lift,Nat.add_succ]
     |jump k args=>cases k<;>rfl) (init.map (At.ev ρ)) (λr N e S O=>by
      obtain⟨q,i⟩:=r;subst O;exact H e S i N)
  rw[key];cases i_ (λa=>oT (body.a_ (ρ++a))) (init.map (At.ev ρ))<;>rfl
end
section
open Go.RowKit
namespace AI
def fH(τ:List L)(t:Nat):Int:=match t with
 |0=>0
 |t+1=>let l:=(τ[t/3]?).getD (.b false)
  if t%3=0 then l.br else if t%3=1 then(l.bE.length:Int)else(l.gJ.size:Int)
def jh(n t:Nat):Bool:=decide (t<=3*n)
theorem xa(τ):fH τ 0=0:=rfl
def EY{τ ys t}(h:jh τ.length t=true):fH (τ++ys) t=fH τ t:=by
 cases t with
 |zero=>rfl
 |succ t=>
  simp only[jh,e_]at h;simp only[fH];rw[nz om]
structure Fa where
 a:Nat
 b:Nat
 c:Int
deriving Inhabited,Repr
def Fa.holds(τ:List L)(f:Fa):Prop:=fH τ f.a-fH τ f.b<=f.c
def Fa.in(n:Nat)(f:Fa):Bool:=jh n f.a&&jh n f.b
def Fa.ok(τ:List L)(f:Fa):Prop:=f.in τ.length=true/\f.holds τ
def Fa.ok.append{τ ys}{f:Fa}(h:f.ok τ):f.ok (τ++ys):=by
 obtain⟨a,k⟩:=h;simp only[Fa.in,cF]at a;refine⟨?_,?_⟩
 .simp only[Fa.in,jh,cF,e_,cw]at a⊢;omega
 .unfold Fa.holds at k⊢;rw[EY a.1,EY a.2];exact k
def mI(a b:Int):Bool:=match a,b with
 |.ofNat m,.ofNat n=>Nat.ble m n
 |.negSucc _,.ofNat _=>true
 |.ofNat _,.negSucc _=>false
 |.negSucc m,.negSucc n=>Nat.ble n m
def avl(a b):mI a b=decide (a<=b):=by
 cases a<;>cases b<;>simp only[mI]<;>apply kK.2<;>simp<;>omega
def za{a b}(h:mI a b=true):a<=b:=by rw[avl]at h;simp_all
def kN:fE->Nat
 |.i8=>0| .i16=>1| .i32=>2| .i64=>3| .u8=>4| .u16=>5| .u32=>6| .u64=>7
def VM(a b:fE):Bool:=Nat.beq (kN a) (kN b)
def aDr{a b}(h:VM a b=true):a=b:=by cases a<;>cases b<;>first|rfl|cases h
def Ac{a b:Nat}(h:Nat.beq a b=true):a=b:=um h
def sk:List (Nat×Int)->Nat->Option Int
 |[],_=>none
 |(k,d)::r,t=>cond (Nat.beq k t) (some d) (sk r t)
def yP:List (Nat×Int)->Nat->Int->List (Nat×Int)
 |[],t,d=>[(t,d)]
 |(k,e)::r,t,d=>cond (Nat.beq k t) (cond (mI e d) ((k,e)::r) ((k,d)::r)) ((k,e)::yP r t d)
def uP:List Fa->List (Nat×Int)->List (Nat×Int)
 |[],D=>D
 |f::a,D=>uP a (cond (Nat.beq f.b 0) D (cond (Nat.beq f.a 0) D (match sk D f.a with
  |some d=>yP D f.b (d+f.c)
  |none=>D)))
def rf:List Fa->List (Nat×Int)->List (Nat×Int)
 |[],D=>D
 |f::a,D=>rf a (cond (Nat.beq f.a 0) D (cond (Nat.beq f.b 0) D (match sk D f.b with
  |some d=>yP D f.a (d+f.c)
  |none=>D)))
def BL:Option Int->Int->Option Int
 |some x,y=>cond (mI x y) (some x) (some y)
 |none,y=>some y
def Cd:List Fa->List (Nat×Int)->Option Int->Option Int
 |[],_,r=>r
 |f::a,D,r=>Cd a D (cond (Nat.beq f.b 0) (match sk D f.a with
  |some d=>BL r (d+f.c)
  |none=>r) r)
def Cr:List Fa->List (Nat×Int)->Option Int->Option Int
 |[],_,r=>r
 |f::a,D,r=>Cr a D (cond (Nat.beq f.a 0) (match sk D f.b with
  |some d=>BL r (d+f.c)
  |none=>r) r)
def dM(c:List Fa)(a b:Nat):Option Int:=
 cond (Nat.beq a b) (some 0)
 (cond (Nat.beq a 0) (Cr c (rf c (rf c [(b,0)])) none)
 (
  let D:=uP c (uP c [(a,0)])
  cond (Nat.beq b 0) (Cd c D none)
  (match Cd c D none,Cr c (rf c (rf c [(b,0)])) none with
   |some x,some y=>match sk D b with
    |some d=>BL (some d) (x+y)
    |none=>some (x+y)
   |_,_=>sk D b)))
def HM(τ:List L)(a:Nat)(D:List (Nat×Int)):Prop:=∀t d,(t,d)∈D->fH τ a-fH τ t<=d
def Dv(τ:List L)(b:Nat)(D:List (Nat×Int)):Prop:=∀t d,(t,d)∈D->fH τ t-fH τ b<=d
def vL:∀{D:List (Nat×Int)}{t:Nat}{d:Int},sk D t=some d->(t,d)∈D
 |[],_,_,h=>by cases h
 |(k,e)::r,t,d,h=>by
  simp only[sk]at h
  cases a:Nat.beq k t with
  |true=>
   rw[a]at h;cases h;have:=Ac a;subst this;exact jg
  |false=>rw[a]at h;exact je _ (vL h)
def NV:∀{D:List (Nat×Int)}{t a:Nat}{d c:Int},(a,c)∈yP D t d->(a,c)=(t,d)\/(a,c)∈D
 |[],t,a,d,c,h=>by simp_all[yP]
 |(k,e)::r,t,a,d,c,h=>by
  simp only[yP]at h
  cases f:Nat.beq k t with
  |true=>
   rw[f]at h;have:=Ac f;subst this
   cases g:mI e d with
   |false=>
    rw[g]at h;rcases fh.1 h with h|h
    .exact .inl h
    .exact .inr (je _ h)
   |true=>rw[g]at h;exact .inr h
  |false=>
   rw[f]at h;rcases fh.1 h with h|h
   .exact .inr (by rw[h];exact jg)
   .rcases NV h with h|h
    .exact .inl h
    .exact .inr (je _ h)
def PE{τ:List L}{a:Nat}:∀{i:List Fa}{D:List (Nat×Int)},(∀f∈i,f.holds τ)->HM τ a D->HM τ a (uP i D)
 |[],_,_,h=>h
 |f :: i,D,j,h=>by
  simp only[uP];refine PE (λg k=>j g (je _ k)) ?_
  cases Nat.beq f.b 0 with
  |true=>exact h
  |false=>cases Nat.beq f.a 0 with
   |true=>exact h
   |false=>
    split
    .rename_i d l;intro t e c;rcases NV c with c|c
     .cases c;have n:=h _ _ (vL l);have m:=j f jg;unfold Fa.holds at m;omega
     .exact h _ _ c
    .exact h
def I6{τ:List L}{b:Nat}:∀{c:List Fa}{D:List (Nat×Int)},(∀f∈c,f.holds τ)->Dv τ b D->Dv τ b (rf c D)
 |[],_,_,h=>h
 |f :: c,D,i,h=>by
  simp only[rf];refine I6 (λg j=>i g (je _ j)) ?_
  cases Nat.beq f.a 0 with
  |true=>exact h
  |false=>cases Nat.beq f.b 0 with
   |true=>exact h
   |false=>
    split
    .rename_i d k;intro t e a;rcases NV a with a|a
     .cases a;have m:=h _ _ (vL k);have l:=i f jg;unfold Fa.holds at l;omega
     .exact h _ _ a
    .exact h
def Ji{r y c}(h:BL r y=some c):(c=y\/r=some c):=by
 cases r with
 |none=>cases h;exact .inl rfl
 |some x=>
  simp only[BL]at h
  cases a:mI x y with
  |true=>rw[a]at h;exact .inr h
  |false=>rw[a]at h;cases h;exact .inl rfl
def Z5{τ:List L}{a:Nat}{D:List (Nat×Int)}(n:HM τ a D):∀{m:List Fa}{r:Option Int},(∀f∈m,f.holds τ)->(∀c,r=some c->fH τ a<=c)->∀c,Cd m D r=some c->fH τ a<=c
 |[],_,_,i,c,h=>i c h
 |f ::m,r,o,i,c,h=>by
  simp only[Cd]at h;refine Z5 n (λg p=>o g (je _ p)) ?_ c h;intro e j
  cases k:Nat.beq f.b 0 with
  |true=>
   rw[k]at j;have k:=Ac k;split at j
   .rename_i d q;rcases Ji j with rfl|l
    .have s:=n _ _ (vL q);have l:=o f jg;unfold Fa.holds at l;rw[k,xa]at l;omega
    .exact i _ l
   .exact i _ j
  |false=>simp_all
def X2{τ:List L}{b:Nat}{D:List (Nat×Int)}(m:Dv τ b D):∀{l:List Fa}{r:Option Int},(∀f∈l,f.holds τ)->(∀c,r=some c→-fH τ b<=c)->∀c,Cr l D r=some c→-fH τ b<=c
 |[],_,_,a,c,h=>a c h
 |f ::l,r,n,a,c,h=>by
  simp only[Cr]at h;refine X2 m (λg o=>n g (je _ o)) ?_ c h;intro e i
  cases j:Nat.beq f.a 0 with
  |true=>
   rw[j]at i;have j:=Ac j;split at i
   .rename_i d p;rcases Ji i with rfl|k
    .have q:=m _ _ (vL p);have k:=n f jg;unfold Fa.holds at k;rw[j,xa]at k;omega
    .exact a _ k
   .exact a _ i
  |false=>simp_all
def adR{τ e}(g:∀f∈e,f.holds τ){a b c}(h:dM e a b=some c):fH τ a-fH τ b<=c:=by
 have j:HM τ a (uP e (uP e [(a,0)])):=PE g (PE g λt d k=>by
  simp_all)
 have l:Dv τ b (rf e (rf e [(b,0)])):=I6 g (I6 g λt d k=>by
  simp_all)
 have m:=Z5 j g (r:=none) (λ_ h=>by cases h);have n:=X2 l g (r:=none) (λ_ h=>by cases h);unfold dM at h
 cases i:Nat.beq a b with
 |true=>
  simp_all
 |false=>
  rw[i]at h
  cases i:Nat.beq a 0 with
  |true=>
   simp_all[xa]
  |false=>
   rw[i]at h
   cases i:Nat.beq b 0 with
   |true=>
    simp_all[xa]
   |false=>
    rw[i]at h;simp only[cond_false]at h;split at h
    .rename_i x y o p;have s:=m _ o;have u:=n _ p;split at h
     .rename_i d q;have v:=j _ _ (vL q);rcases Ji h with rfl|z
      .omega
      simp_all
     .cases h;omega
    .exact j _ _ (vL h)
abbrev Li:=Nat×Int
def fI(τ:List L)(x:Li):Int:=fH τ x.1+x.2
def Fj(a:List Fa)(x y:Li):Option Int:=(dM a x.1 y.1).map (· +(x.2-y.2))
def asL{τ a}(e:∀f∈a,f.holds τ){x y c}(h:Fj a x y=some c):fI τ x-fI τ y<=c:=by
 simp only[Fj,b9]at h;obtain⟨d,g,rfl⟩:=h;have:=adR e g;unfold fI;omega
def qc(a:List Fa)(x y:Li)(c:Int):Bool:=match Fj a x y with
 |some d=>mI d c
 |none=>false
def aDD{τ a}(e:∀f∈a,f.holds τ){x y c}(h:qc a x y c=true):fI τ x-fI τ y<=c:=by
 unfold qc at h;split at h
 .rename_i d g;have:=asL e g;have:=za h;omega
 .cases h
inductive AC where
 |int (k:fE) (lo hi:Int)
 |bool
 |str (hi:Int)
 |sl (hi:Int) (cs:List AC)
 |any
deriving Inhabited,Repr
mutual
def AC.ok:AC->PV->Prop
 |.int k lo a,q=>∃n,q=.sc (.int k n)/\lo<=n/\n<=a
 |.bool,q=>∃b,q=.sc (.bool b)
 |.str a,q=>∃s:gh,q=.sc (.string s)/\(s.size:Int)<=a
 |.sl a cs,q=>∃rows,q=.sl rows/\(rows.length:Int)<=a/\∀r∈rows,AC.lP cs r
 |.any,_=>True
def AC.lP:List AC->List PV->Prop
 |[],[]=>True
 |c::cs,q::a=>AC.ok c q/\AC.lP cs a
 |_,_=>False
end
def AC.rows(cs:List AC)(rows:List (List PV)):Prop:=∀r∈rows,AC.lP cs r
mutual
def AC.le:AC->AC->Bool
 |.int k lo h,.int t m a=>VM k t&&mI m lo&&mI h a
 |.bool,.bool=>true
 |.str h,.str a=>mI h a
 |.sl h cs,.sl a q=>mI h a&& (AC.A4 cs q||mI h 0)
 |_,.any=>true
 |_,_=>false
def AC.A4:List AC->List AC->Bool
 |[],[]=>true
 |c::cs,d::ds=>AC.le c d&&AC.A4 cs ds
 |_,_=>false
end
mutual
def AC.aeJ:∀{x y:AC}{q:PV},AC.le x y=true->AC.ok x q->AC.ok y q
 |.int k lo u,.int K I m,q,h,⟨n,t,E,F⟩=>by
  simp only[AC.le,cF]at h;obtain⟨⟨a,z⟩,G⟩:=h;have a:=aDr a;subst a;have z:=za z;have G:=za G;exact⟨n,t,om,om⟩
 |.bool,.bool,_,_,h=>h
 |.str u,.str m,q,h,⟨s,t,E⟩=>by
  have h:=za (show mI u m=true from h);exact⟨s,t,om⟩
 |.sl u cs,.sl m J,q,h,⟨rows,t,E,F⟩=>by
  simp only[AC.le,cF,pZ]at h;have z:=za h.1;refine⟨rows,t,om,λr B=>?_⟩;rcases h.2 with a|a
  .exact AC.KN a (F r B)
  .have a:=za a;have:rows.length=0:=om;rw[nu this]at B;cases B
 |.any,.any,_,_,_=>trivial
 |.int ..,.any,_,_,_=>trivial
 |.bool,.any,_,_,_=>trivial
 |.str _,.any,_,_,_=>trivial
 |.sl ..,.any,_,_,_=>trivial
 |.int ..,.bool,_,h,_=>by cases h
 |.int ..,.str _,_,h,_=>by cases h
 |.int ..,.sl ..,_,h,_=>by cases h
 |.bool,.int ..,_,h,_=>by cases h
 |.bool,.str _,_,h,_=>by cases h
 |.bool,.sl ..,_,h,_=>by cases h
 |.str _,.int ..,_,h,_=>by cases h
 |.str _,.bool,_,h,_=>by cases h
 |.str _,.sl ..,_,h,_=>by cases h
 |.sl ..,.int ..,_,h,_=>by cases h
 |.sl ..,.bool,_,h,_=>by cases h
 |.sl ..,.str _,_,h,_=>by cases h
 |.any,.int ..,_,h,_=>by cases h
 |.any,.bool,_,h,_=>by cases h
 |.any,.str _,_,h,_=>by cases h
 |.any,.sl ..,_,h,_=>by cases h
def AC.KN:∀{xs ys:List AC}{a:List PV},AC.A4 xs ys=true->AC.lP xs a->AC.lP ys a
 |[],[],_,_,h=>h
 |c::cs,d::ds,[],_,h=>by cases h
 |c::cs,d::ds,q::a,h,k=>by
  simp only[AC.A4,cF]at h;exact⟨AC.aeJ h.1 k.1,AC.KN h.2 k.2⟩
 |[],_::_,_,h,_=>by cases h
 |_::_,[],_,h,_=>by cases h
end
mutual
def AC.join:AC->AC->AC
 |.int k lo h,.int t m a=>if k==t then .int k (if lo<=m then lo else m) (if h<=a then a else h)else .any
 |.bool,.bool=>.bool
 |.str h,.str a=>.str (if h<=a then a else h)
 |.sl h cs,.sl a q=>if h<=0 then .sl (if h<=a then a else h) q else if a<=0 then .sl (if h<=a then a else h) cs else .sl (if h<=a then a else h) (AC.V7 cs q)
 |_,_=>.any
def AC.V7:List AC->List AC->List AC
 |c::cs,d::ds=>AC.join c d::AC.V7 cs ds
 |_,_=>[]
end
end AI
end
section
open Go.RowKit Go.Deep AI
section
variable{H:Type}{enc:cf×b8->H}{P:cJ}{w:bW}{base:Nat}{spare:Nat->Bool}{held:Bool}{M:gE}
def El(enc:cf×b8->H)(P:cJ)(w:bW)(base:Nat)(spare:Nat->Bool)(held:Bool)(M:gE)(e:cf)(c:Nat)(cs:List AC):Prop:=
 ∀fuel cells x,DataW.trod enc P w base spare held fuel e cells=some x->cells.length=c/\∃r:List PV,r.length=c/\AC.lP cs r/\∀(j:Nat)(p:PV)(u:b8),r[j]?=some p->cells[j]?=some u->RP M w p u
def oQ(enc:cf×b8->H)(P:cJ)(w:bW)(base:Nat)(spare:Nat->Bool)(held:Bool)(M:gE)(t:cf)(q:AC):Prop:=
 ∀fuel cells x,DataW.trod enc P w base spare held fuel t cells=some x->∃v p,cells=[v]/\AC.ok q p/\RP M w p v
def yq{t k lo a}(c:P.underlying t=some (.int k))(e:∀n,(Lit.int k n).wf=true->lo<=n/\n<=a):oQ enc P w base spare held M t (.int k lo a):=λfuel cells x h=>by
 obtain⟨n,rfl,_,f⟩:=DataW.trod_int c h;obtain⟨g,i⟩:=e n f;exact⟨_,.sc (.int k n),rfl,⟨n,rfl,g,i⟩,.sc rfl⟩
def aAl{t}(a:P.underlying t=some .bool):oQ enc P w base spare held M t .bool:=λfuel cells x h=>by
 obtain⟨b,rfl,_⟩:=DataW.trod_bool a h;exact⟨_,.sc (.bool b),rfl,⟨b,rfl⟩,.sc rfl⟩
def aba{t q}(h:oQ enc P w base spare held M t q):El enc P w base spare held M t 1 [q]:=λfuel cells x a=>by
 obtain⟨v,p,rfl,c,e⟩:=h fuel cells x a;refine⟨rfl,[p],rfl,⟨c,trivial⟩,λj g u hp f=>?_⟩
 match j with
 |0=>cases hp;cases f;exact e
 |j+1=>simp at hp
def Xa{e a c f g q0 q1 q2 q3}(r:P.underlying e=some (.struct #[a,c,f,g]))(s:P.cellsOf e=4)
 (t:a.offset=0) (v:c.offset=1) (y:f.offset=2) (z:g.offset=3) (c0:P.cellsOf a.type=1) (c1:P.cellsOf c.type=1) (c2:P.cellsOf f.type=1) (c3:P.cellsOf g.type=1)
 (B:oQ enc P w base spare held M a.type q0) (E:oQ enc P w base spare held M c.type q1) (F:oQ enc P w base spare held M f.type q2) (G:oQ enc P w base spare held M g.type q3):
 El enc P w base spare held M e 4 [q0,q1,q2,q3]:=λfuel cells x I=>by
 obtain⟨xs,n,_,_,l,k,h⟩:=DataW.trod_struct r I;rw[s]at l
 match cells,l,xs,k with
 |[v0,v1,v2,v3],_,[y0,y1,y2,y3],_=>
  have m:=h 0 a rfl;have o:=h 1 c rfl;have p:=h 2 f rfl;have q:=h 3 g rfl;rw[t,c0]at m;rw[v,c1]at o;rw[y,c2]at p;rw[z,c3]at q;obtain⟨u0,J,e0,K,r0⟩:=B _ _ _ m;obtain⟨u1,N,O,Q,U⟩:=E _ _ _ o;obtain⟨u2,V,W,X,Y⟩:=F _ _ _ p;obtain⟨u3,p3,e3,a3,r3⟩:=G _ _ _ q;cases e0;cases O;cases W;cases e3;refine⟨rfl,[J,N,V,p3],rfl,⟨K,Q,X,a3,trivial⟩,λj p' u hp i=>?_⟩
  match j with
  |0=>cases hp;cases i;exact r0
  |1=>cases hp;cases i;exact U
  |2=>cases hp;cases i;exact Y
  |3=>cases hp;cases i;exact r3
  |j+4=>simp at hp
def Ff{t e c cs}(K:P.underlying t=some (.slice e))(N:P.cellsOf e=c)(O:0<c)(U:∀g,¬M g)(F:El enc P w base spare held M e c cs):
 oQ enc P w base spare held M t (.sl 9223372036854775807 cs):=λfuel cells x h=>by
 have l:AC.ok (.sl 9223372036854775807 cs) (.sl []):=⟨[],rfl,by simp,λr s=>by cases s⟩
 rcases open_slice K h with⟨rfl,_⟩| ⟨a,len,cap,m,n,D,Pl,rfl,hb,V,W,G,rfl,J⟩
 .exact⟨_,_,rfl,l,.nil⟩
 by_cases X:len=0
 .subst X;exact⟨_,_,rfl,l,.nil⟩
 have Y:len<=m:=by rw[G];split<;>omega
 rw[N]at J;obtain⟨Q,v⟩:=choose_lt (α:=List PV×List b8) (n:=len) (p:=λi q=>q.1.length=c/\AC.lP cs q.1/\(∀j,j<c->w.cell? ((a.add (i*c)).add j)=q.2[j]?)/\q.2.length=c/\∀(j:Nat)(p:PV)(u:b8),q.1[j]?=some p->q.2[j]?=some u->RP M w p u) (λi k=>by
  obtain⟨I,k1,k2⟩:=J i om;obtain⟨_,B,y⟩:=World.cells?_some k1;obtain⟨_,r,k5,k6,k7⟩:=F _ _ _ k2;exact⟨(r,I),k5,k6,y,B,k7⟩)
 obtain⟨g,o,spot⟩:=a;have hspot:spot=none:=by
  obtain⟨_,_,y,B,_⟩:=v 0 om;have:=y 0 O;rw[db om]at this;simpa[Addr.add]using World.cell?_spot this
 subst hspot;have hlen:((List.range len).map λi=>(Q i).1).length=len:=by simp
 refine⟨_,.sl ((List.range len).map λi=>(Q i).1),rfl,⟨_,rfl,?_,λr s=>?_⟩,?_⟩
 .have:maxLen=9223372036854775807:=rfl;omega
 .obtain⟨i,k,rfl⟩:=gg.1 s;exact(v i (ku.1 k)).2.1
 have key:∀(i:Nat)(r:List PV)(j:Nat)(p:PV),((List.range len).map λi=>(Q i).1)[i]?=some r->r[j]?=some p->i<len/\j<c/\r=(Q i).1:=by
  intro i r j p k E;have z:i<len:=by
   have:=(ek.1 k).1
   rwa [hlen]at this
  rw[cY,sG z]at k;cases k;have:=(ek.1 E).1;rw[(v i z).1]at this;exact⟨z,this,rfl⟩
 have s:=RP.row (M:=M) (w:=w) (rows:=(List.range len).map λi=>(Q i).1) (g:=g) (o:=o) (cap:=cap) (sz:=c) (f:=λi j=>((Q i).2[j]?).getD .nilFunc) (by
  intro e;rw[e]at hlen;simp at hlen;omega) (by rw[hlen];exact V) W (λr s=>by
  obtain⟨i,k,rfl⟩:=gg.1 s;exact(v i (ku.1 k)).1) (λi r j p k E=>by
  obtain⟨k1,k2,rfl⟩:=key i r j p k E;have B:=(v i k1).2.2.1 j k2;have y:j< (Q i).2.length:=by rw[(v i k1).2.2.2.1];exact k2
  refine⟨?_,U g⟩;rw[db y]at B⊢;rw[Go.WideShapes.add_plain,Go.WideShapes.add_plain]at B;exact B) (λi r j p k E=>by
  obtain⟨k1,k2,rfl⟩:=key i r j p k E;have y:j< (Q i).2.length:=by rw[(v i k1).2.2.2.1];exact k2
  rw[db y];exact(v i k1).2.2.2.2 j p _ E (db y))
 rw[hlen]at s;exact s
end
end
section
open Go.RowKit
open Classical
def SC.clear(g:List Nat)(c:SC):SC:=if c.names.any (g.contains ·)then .dead else c
def SB.clear(g:List Nat):SB->SB
 |.box cs=>.box (cs.map (SC.clear g))
 |b=>b
def bt.settle(S:bt):bt:=match S.bx with
 |[]=>S
 |g=> {S with tmps:=S.tmps.map (SV.fW (SC.clear g)),heap:=(S.heap.filter λx=> !g.contains x.1).map λx=>(x.1,x.2.clear g),bx:=[]}
def SC.Em{ρ g}(c:SC):(c.clear g).a_ ρ=(c.a_ ρ).clear g:=by
 unfold SC.clear C.clear;rw[SC.oX];split<;>rfl
def aex{ρ f a}(e:∀c,(f c).a_ ρ=a (c.a_ ρ))(x:SV):(x.fW f).a_ ρ=(x.a_ ρ).on a:=by
 have g:∀x:bN,(x.fW f).a_ ρ=(x.a_ ρ).on a:=by
  intro x
  cases x with
  |c c=>grind[bN.fW,bN.a_,V1.on]
  |agg cs=>simp_all[bN.fW,bN.a_,V1.on]
 cases x with
 |v x=>grind[SV.fW,SV.a_,V.on]
 |bM xs=>simp_all[SV.fW,SV.a_,V.on]
def SB.Em{ρ g}(b:SB):(b.clear g).a_ ρ=(b.a_ ρ).on (C.clear g):=by
 cases b with
 |box cs=>simp only[SB.clear,SB.a_,fv.on,gW];congr 1;apply ia;intro c _;exact SC.Em c
 |row=>rfl
 |map=>rfl
def afU{ρ}{S:bt}:(S.settle).a_ ρ=(S.a_ ρ).settle:=by
 unfold bt.settle bC.settle;have a:(S.a_ ρ).bx=S.bx:=rfl;rw[a]
 cases S.bx with
 |nil=>rfl
 |cons t U=>
  simp only[bt.a_,bC.mk.injEq,gW,and_true];refine⟨ia λx _=>aex (λc=>SC.Em c) x,?_⟩;simp only[dh.a_,gW,List.filter_map];refine ia λx _=>?_
  simp only[Function.comp,SB.Em]
def aeo(S:bt):S.settle.bx=[]:=by
 unfold bt.settle;grind
def anz(S:bt):S.settle.nv=S.nv:=by
 unfold bt.settle;split<;>rfl
def SC.in(m:Nat):SC->Bool
 |.p _ x=>x.in m
 |.sub _ a b=>a.in m&&b.in m
 |.iZ _ _ _ _ i=>i.in m
 |.d' _ i _=>i.in m
 |.ref x _=>x.in m
 |_=>true
def bN.in(m:Nat):bN->Bool
 |.c x=>x.in m
 |.agg xs=>xs.all (SC.in m)
def SV.in(m:Nat):SV->Bool
 |.v x=>x.in m
 |.bM xs=>xs.all (bN.in m)
def SB.in(m:Nat):SB->Bool
 |.box cs=>cs.all (SC.in m)
 |.row _ x=>x.in m
 |.map x=>x.in m
def bt.in(m:Nat)(S:bt):Bool:=S.tmps.all (SV.in m)&&S.heap.all λx=>x.2.in m
def SC.mN{m ρ ys}{c:SC}(h:c.in m=true)(a:m<=ρ.length):c.a_ (ρ++ys)=c.a_ ρ:=by
 cases c<;>simp only[SC.in,cF]at h<;>simp only[SC.a_]<;>first
  |rfl
  |(rw[At.fX h a];done)
  |(rw[At.fX h.1 a,At.fX h.2 a];done)
def bN.mN{m ρ ys}{x:bN}(h:x.in m=true)(a:m<=ρ.length):x.a_ (ρ++ys)=x.a_ ρ:=by
 cases x with
 |c c=>simp only[bN.a_];rw[SC.mN h a]
 |agg cs=>
  simp only[bN.in,cI]at h;simp only[bN.a_];congr 1;exact ia λc k=>SC.mN (h c k) a
def SV.mN{m ρ ys}{x:SV}(h:x.in m=true)(a:m<=ρ.length):x.a_ (ρ++ys)=x.a_ ρ:=by
 cases x with
 |v x=>simp only[SV.a_];rw[bN.mN h a]
 |bM xs=>
  simp only[SV.in,cI]at h;simp only[SV.a_];congr 1;exact ia λc k=>bN.mN (h c k) a
def SB.mN{m ρ ys}{b:SB}(h:b.in m=true)(a:m<=ρ.length):b.a_ (ρ++ys)=b.a_ ρ:=by
 cases b with
 |box cs=>
  simp only[SB.in,cI]at h;simp only[SB.a_];congr 1;exact ia λc k=>SC.mN (h c k) a
 |row e x=>simp only[SB.a_];rw[At.fX h a]
 |map x=>simp only[SB.a_];rw[At.fX h a]
theorem bt.mN{m ρ ys}{S:bt}(h:S.in m=true)(k:m<=ρ.length):S.a_ (ρ++ys)=S.a_ ρ:=by
 simp only[bt.in,cF,cI]at h;simp only[bt.a_,bC.mk.injEq,and_true];refine⟨ia λc a=>SV.mN (h.1 c a) k,?_⟩;exact ia λc a=>by rw[SB.mN (h.2 c a) k]
def RT.wu(f:bt->lh->Option bp):RT->Option bp
 |.bq S ts=>f S ts
 |.ops nds k=>(RT.wu f k).map λk=>nds.foldr .op k
 |.ite a x y=>match RT.wu f x,RT.wu f y with
  |some x,some y=>some (.ite a x y)
  |_,_=>none
 |.stuck=>some (.op (.dM (.i 0) 0) (.bq (.jump 0 [])))
def DP:∀{nds}{k}{ρ},(nds.foldr bp.op k).a_ ρ=match rC ρ nds with|some a=>k.a_ a|none=>none
 |[],_,_=>rfl
 |nd::nds,k,ρ=>by
  simp only[List.foldr_cons,bp.a_,rC]
  cases nd.ev ρ with
  |none=>rfl
  |some ls=>exact DP
def Fh{f:bt->lh->Option bp}:∀{t:RT}{u:bp}{ρ:List L}{o:Lf×List L},t.wu f=some u->u.a_ ρ=some o->∃S ts e v,t.a_ ρ=some ((S,ts),e)/\f S ts=some v/\v.a_ e=some o
 |.bq S ts,u,ρ,o,h,c=>⟨S,ts,ρ,u,rfl,h,c⟩
 |.ops nds k,u,ρ,o,h,c=>by
  simp only[RT.wu,b9]at h;obtain⟨v,j,rfl⟩:=h;rw[DP]at c;split at c
  .rename_i l n;obtain⟨S,ts,e,w,g,i,p⟩:=Fh j c;grind[RT.a_]
  .cases c
 |.stuck,u,ρ,o,h,c=>by
  cases h;simp[bp.a_,Nd.ev,At.ev,L.br]at c
 |.ite a x y,u,ρ,o,h,c=>by
  simp only[RT.wu]at h;split at h
  .rename_i q r g i;cases h;simp only[bp.a_]at c;split at c
   .obtain⟨S,ts,e,w,k1,k2,m⟩:=Fh g c;grind[RT.a_]
   .obtain⟨S,ts,e,w,k1,k2,m⟩:=Fh i c;grind[RT.a_]
  .cases h
def pd(T:bY)(C:fr)(ops:Array Oper)(draw:Bool)(S:bt):Option bp:=
 if S.in S.nv=true/\S.bx=[]/\(!draw||HO ops)=true then
  (tB T C S.next ops (4*ops.size+8) ops.toList 0 {S with next:=S.next+8*ops.size} []).bind λt=>RT.wu (λa ts=>
   if(if draw then rz ops ts&&xo S.next ops ts else xz S.next 0 ts)=true then some (.bq (.st .normal a.settle))else none) t
 else none
def Good(P:cJ)(k0:Nat)(c:Code)(S:bt)(ρ:List L)(x:Lf)(a:List L):Prop:=
 ∃e f,x=.st e f/\f.nv=a.length/\(∃ys,a=ρ++ys)/\f.bx=[]/\∀X:Fx,X.P=P->X.k0=k0->∀Q:Exit->bC->Prop,Q e.to (f.a_ a)->Aw X c Q (S.a_ ρ)
def aAM{P T C k0}(l:bY.ok P T)(m:fr.ok P C)(n:P.follows .mixedOrders=true){id ops draw S u ρ a x}
 (h:pd T C ops draw S=some u) (o:ρ.length=S.nv) (p:u.a_ ρ=some (x,a)):Good P k0 (.region id ops draw) S ρ x a:=by
 unfold pd at h;split at h
 .rename_i q;obtain⟨r,K,N⟩:=q;simp only[jq]at h;obtain⟨t,s,h⟩:=h;obtain⟨i,ts,y,v,k1,k2,z⟩:=Fh h p;have c:(if draw then rz ops ts&&xo S.next ops ts else xz S.next 0 ts)=true:=by
   simp_all
  rw[bB c]at k2
  .cases k2;cases z;obtain⟨B,⟨ys,E⟩,rs,F,Sp,e,G⟩:=yr l m s (by exact o) k1;subst G;refine⟨.normal,i.settle,rfl,by rw[anz];exact B,⟨ys,E⟩,aeo i,λX f I Q g=>?_⟩;have j:S.a_ a=S.a_ ρ:=by grind[bt.mN]
   have J:bt.a_ a {S with next:=S.next+8*ops.size}=(S.a_ ρ).bump ops.toList.length:=by
    simp_all[bt.a_,bC.bump]
   rw[J]at e;rw[afU]at g;have k:ops.toList.toArray=ops:=by simp
   subst f
   cases draw with
   |false=>
    have:=lj (X:=X) (Sp:=Sp) (Q:=Q) (id:=id) (ops:=ops.toList) (st:=S.a_ ρ) (rs:=rs) (ts:=ts) (by exact e) c g;omega
   |true=>
    simp only[if_true,cF]at c;have:=alB (X:=X) (Sp:=Sp) (Q:=Q) n (id:=id) (ops:=ops.toList) (st:=S.a_ ρ) (rs:=rs) (ts:=ts) gL (by exact e) gL (by exact c.2) g;omega
 .cases h
def At.par(bZ:Nat)(as:List At):At->At
 |.v j=>if j<bZ then .v j else(as[j-bZ]?).getD (.b false)
 |x=>x
theorem At.HW{bZ as ρ ys}(a:ρ.length=bZ)(x:At):(x.par bZ as).ev (ρ++ys)=x.ev (ρ++as.map (At.ev (ρ++ys))):=by
 cases x with
 |v j=>
  simp only[At.par];split
  .simp only[At.ev];grind
  .simp only[At.ev];rw[kX om,a,cY];cases as[j-bZ]? <;>rfl
 |_=>rfl
abbrev kg:=List (Nat×At×At×At)
def DS(D:kg)(S:bt)(bZ:Nat)(as:List At)(ι:Ren)(Z:List Nat):SC->SC->Bool
 |_,.dead=>true
 |.p k x,.p q y=>decide (k=q)&& (y.par bZ as).same x
 |.nil,.p .sl y=>(y.par bZ as).same .r0
 |.sub n a b,.p .sl y=> !ι.old.contains n&&D.any λz=>z.1==n&&z.2.1.same a&&z.2.2.1.same b&& (y.par bZ as).same z.2.2.2
 |.own n,.p .sl y=>match List.lookup n S.heap with
  |some (.row _ x)=>(y.par bZ as).same x&& !ι.old.contains n
  |_=>false
 |.nil,.nil=>true
 |.nil,.own e=>Z.contains e
 |.nil,.sub e (.i 0) (.i 0)=>Z.contains e
 |.own n,.own e=>List.lookup n ι==some e
 |.sub n a b,.sub e a' r=>List.lookup n ι==some e&& (a'.par bZ as).same a&& (r.par bZ as).same b
 |.ptr n o,.ptr e g=>List.lookup n ι==some e&&o==g
 |.iZ n o c m i,.iZ e g s t h=>List.lookup n ι==some e&&o==g&&c==s&&m==t&& (h.par bZ as).same i
 |.d' n i j,.d' e h l=>List.lookup n ι==some e&& (h.par bZ as).same i&&j==l
 |.ref x j,.ref u l=>(u.par bZ as).same x&&j==l
 |.fn f v,.fn B p=>f==B&&v.map (λn=>List.lookup n ι)==p.map some
 |.mp n,.mp e=>List.lookup n ι==some e
 |_,_=>false
def vY{ι:Ren}{n a}(h:(List.lookup n ι==some a)=true):ι.to n=a/\n∈ι.old:=by
 have c:List.lookup n ι=some a:=by simpa using h
 refine⟨by simp[Ren.to,c],?_⟩;clear h
 induction ι with
 |nil=>cases c
 |cons x ι ih=>
  grind[Ren.old]
section
variable{D:kg}{S:bt}{bZ:Nat}{as:List At}{ι:Ren}{Z:List Nat}{ρ ys:List L}
def kg.ok(D:kg)(S:bt)(ρ:List L):Prop:=∀z∈D,(S.a_ ρ).view ((SC.sub z.1 z.2.1 z.2.2.1).a_ ρ)=some (z.2.2.2.ev ρ).bE
def VD(u:ρ.length=bZ)(v:D.ok S (ρ++ys)){c r}(h:DS D S bZ as ι Z c r=true):Cs (S.a_ (ρ++ys)) ι Z (c.a_ (ρ++ys)) (r.a_ (ρ++as.map (At.ev (ρ++ys)))):=by
 have same:∀{x y:At},(y.par bZ as).same x=true->y.ev (ρ++as.map (At.ev (ρ++ys)))=x.ev (ρ++ys):=λB=>by rw[<-At.HW u,At.nT B]
 unfold DS at h;split at h
 .cases c<;>trivial
 .simp only[cF,e_]at h;obtain⟨rfl,a⟩:=h;exact .inl (by grind[SC.a_])
 .exact .inr ⟨[],by simp only[Kd.pv,same h];rfl,rfl,λk p=>by simp[SC.a_,C.names]at p⟩
 .simp only[cF,pV,zL,zF,Qu,beq_iff_eq]at h;obtain⟨j,⟨m,a',F,z⟩,a,⟨⟨g,l⟩,s⟩,E⟩:=h;simp only at g l s E;subst g;have t:=v _ a;simp only[SC.a_,At.nT l,At.nT s]at t;refine .inr ⟨(z.ev (ρ++ys)).bE,by grind[Kd.pv],t,λk p=>?_⟩;simp_all[SC.a_,C.names]
 .split at h
  .rename_i e x G;simp only[cF,pV,zL,zF]at h;refine .inr ⟨(x.ev (ρ++ys)).bE,by grind[Kd.pv],by grind[SC.a_,bC.view,fk,SB.a_],λk p=>?_⟩;simp_all[SC.a_,C.names]
  .cases h
 .exact⟨rfl,by simp[SC.a_,C.names]⟩
 .rename_i q;exact(by simpa using h:q∈Z)
 .rename_i q;exact⟨(by simpa using h:q∈Z),rfl,rfl⟩
 .obtain⟨j,a⟩:=vY h;exact⟨by grind[SC.a_,C.eh],by grind[SC.a_,C.names]⟩
 .simp only[cF]at h;obtain⟨j,a⟩:=vY h.1.1;exact⟨by grind[SC.a_,C.eh],by grind[SC.a_,C.names]⟩
 .simp only[cF]at h;obtain⟨j,a⟩:=vY h.1;exact⟨by simp_all[SC.a_,C.eh],by grind[SC.a_,C.names]⟩
 .simp only[cF]at h;obtain⟨j,a⟩:=vY h.1.1.1.1;have g:=h.1.1.1.2;have l:=h.1.2;simp only[beq_iff_eq]at g l;exact⟨by grind[SC.a_,C.eh],by grind[SC.a_,C.names]⟩
 .simp only[cF]at h;obtain⟨j,a⟩:=vY h.1.1;have g:=h.2;simp only[beq_iff_eq]at g;exact⟨by grind[SC.a_,C.eh],by grind[SC.a_,C.names]⟩
 .simp only[cF,beq_iff_eq]at h;exact⟨by grind[SC.a_,C.eh],by simp[SC.a_,C.names]⟩
 .rename_i f o I i;simp only[cF,beq_iff_eq]at h;obtain⟨rfl,a⟩:=h;have g:i=o.map ι.to/\∀m∈o,m∈ι.old:=by
   induction o generalizing i with
   |nil=>simp_all
   |cons m J ih=>
    cases i with
    |nil=>simp at a
    |cons n o=>
     simp_all[vY]
  exact⟨by simp_all[SC.a_,C.eh],by simp_all[SC.a_,C.names]⟩
 .obtain⟨j,a⟩:=vY h;exact⟨by grind[SC.a_,C.eh],by grind[SC.a_,C.names]⟩
 .cases h
def BQ(D:kg)(S:bt)(bZ:Nat)(as:List At)(ι:Ren)(Z:List Nat):List SC->List SC->Bool
 |[],[]=>true
 |c::cs,e::a=>DS D S bZ as ι Z c e&&BQ D S bZ as ι Z cs a
 |_,_=>false
def Hy(D:kg)(S:bt)(bZ:Nat)(as:List At)(ι:Ren)(Z:List Nat):bN->bN->Bool
 |_,.c .dead=>true
 |.c c,.c e=>DS D S bZ as ι Z c e
 |.agg cs,.agg a=>BQ D S bZ as ι Z cs a
 |_,_=>false
def Hi(D:kg)(S:bt)(bZ:Nat)(as:List At)(ι:Ren)(Z:List Nat):List bN->List bN->Bool
 |[],[]=>true
 |c::cs,e::a=>Hy D S bZ as ι Z c e&&Hi D S bZ as ι Z cs a
 |_,_=>false
def Lp(D:kg)(S:bt)(bZ:Nat)(as:List At)(ι:Ren)(Z:List Nat):SV->SV->Bool
 |_,.v (.c .dead)=>true
 |.v x,.v c=>Hy D S bZ as ι Z x c
 |.bM xs,.bM a=>Hi D S bZ as ι Z xs a
 |_,_=>false
def FV(D:kg)(S:bt)(bZ:Nat)(as:List At)(ι:Ren)(Z:List Nat):List SV->List SV->Bool
 |[],[]=>true
 |c::cs,e::a=>Lp D S bZ as ι Z c e&&FV D S bZ as ι Z cs a
 |_,_=>false
def ER(D:kg)(S:bt)(bZ:Nat)(as:List At)(ι:Ren)(Z:List Nat):SB->SB->Bool
 |.box cs,.box a=>BQ D S bZ as ι Z cs a
 |.row e x,.row f c=>e==f&& (c.par bZ as).same x
 |.map x,.map c=>(c.par bZ as).same x
 |_,_=>false
def L3(e:ρ.length=bZ)(f:D.ok S (ρ++ys)):∀{cs a:List SC},BQ D S bZ as ι Z cs a=true->B_ (S.a_ (ρ++ys)) ι Z (cs.map (SC.a_ (ρ++ys))) (a.map (SC.a_ (ρ++as.map (At.ev (ρ++ys)))))
 |[],[],_=>trivial
 |c::cs,g::a,h=>by
  simp only[BQ,cF]at h;exact⟨VD e f h.1,L3 e f h.2⟩
 |[],_::_,h=>by cases h
 |_::_,[],h=>by cases h
def Rt(a:ρ.length=bZ)(e:D.ok S (ρ++ys)){x f}(h:Hy D S bZ as ι Z x f=true):vn (S.a_ (ρ++ys)) ι Z (x.a_ (ρ++ys)) (f.a_ (ρ++as.map (At.ev (ρ++ys)))):=by
 unfold Hy at h;split at h
 .simp_all[bN.a_,SC.a_,vn]
 .rename_i c g _;have:=VD (ys:=ys) a e h;simp only[bN.a_];revert this;generalize SC.a_ (ρ++as.map (At.ev (ρ++ys))) g=i;intro this;cases i<;>first|exact this|trivial
 .exact L3 a e h
 .cases h
def Rp(e:ρ.length=bZ)(f:D.ok S (ρ++ys)):∀{cs a:List bN},Hi D S bZ as ι Z cs a=true->Gt (S.a_ (ρ++ys)) ι Z (cs.map (bN.a_ (ρ++ys))) (a.map (bN.a_ (ρ++as.map (At.ev (ρ++ys)))))
 |[],[],_=>trivial
 |c::cs,g::a,h=>by
  simp only[Hi,cF]at h;exact⟨Rt e f h.1,Rp e f h.2⟩
 |[],_::_,h=>by cases h
 |_::_,[],h=>by cases h
def awS(e:ρ.length=bZ)(f:D.ok S (ρ++ys)){x g}(h:Lp D S bZ as ι Z x g=true):xu (S.a_ (ρ++ys)) ι Z (x.a_ (ρ++ys)) (g.a_ (ρ++as.map (At.ev (ρ++ys)))):=by
 unfold Lp at h;split at h
 .simp_all[SV.a_,bN.a_,SC.a_,xu]
 .rename_i y i _;have:=Rt (ys:=ys) e f h;simp only[SV.a_];revert this;generalize bN.a_ (ρ++as.map (At.ev (ρ++ys))) i=a;intro this
  cases a with
  |c a=>cases a<;>first|exact this|trivial
  |agg _=>exact this
 .exact Rp e f h
 .cases h
def V_(e:ρ.length=bZ)(f:D.ok S (ρ++ys)):∀{cs a:List SV},FV D S bZ as ι Z cs a=true->qc (S.a_ (ρ++ys)) ι Z (cs.map (SV.a_ (ρ++ys))) (a.map (SV.a_ (ρ++as.map (At.ev (ρ++ys)))))
 |[],[],_=>trivial
 |c::cs,g::a,h=>by
  simp only[FV,cF]at h;exact⟨awS e f h.1,V_ e f h.2⟩
 |[],_::_,h=>by cases h
 |_::_,[],h=>by cases h
def axR(f:ρ.length=bZ)(g:D.ok S (ρ++ys)){b a}(h:ER D S bZ as ι Z b a=true):leB (S.a_ (ρ++ys)) ι Z (b.a_ (ρ++ys)) (a.a_ (ρ++as.map (At.ev (ρ++ys)))):=by
 cases b with
 |box cs=>
  cases a with
  |box i=>exact L3 f g h
  |_=>cases h
 |row e x=>
  cases a with
  |row j c=>
   simp only[ER,cF,beq_iff_eq]at h;refine⟨h.1,?_⟩;grind[At.HW,At.nT]
  |_=>cases h
 |map x=>
  cases a with
  |map c=>
   show(x.ev _).bE=(c.ev _).bE;grind[At.HW,At.nT,ER]
  |_=>cases h
end
def vH(D:kg)(T:bY)(k0:Nat)(S a:bt)(bZ:Nat)(as:List At)(ι:Ren)(Z:List Nat):Bool:=
 a.bx.isEmpty&&decide ι.old.Nodup&&decide ι.new.Nodup&&decide (k0<=a.next)&&decide (a.nv=bZ+as.length)&&
 (Z.all λn=> !ι.new.contains n&&decide (k0<=n)&&decide (n<a.next)&&match List.lookup n a.heap with
  |some (.row e x)=>(x.par bZ as).same .r0&&match List.lookup e T with
   |some r=>decide (0<r.size)
   |none=>false
  |_=>false)&&
 (ι.all λx=>decide (x.2<a.next)&& (decide (k0<=x.2)||x.1==x.2))&&
 FV D S bZ as ι Z S.tmps a.tmps&&
 a.heap.all λx=>Z.contains x.1||ι.any λy=>y.2==x.1&&match List.lookup y.1 S.heap with
  |some b=>ER D S bZ as ι Z b x.2
  |none=>false
def AV{D P T k0}(E:bY.ok P T){S i bZ as ι Z ρ ys}(j:ρ.length=bZ)(t:D.ok S (ρ++ys))(h:vH D T k0 S i bZ as ι Z=true)(F:S.bx=[]):
 i.bx=[]/\i.nv=(ρ++as.map (At.ev (ρ++ys))).length/\∀X:Fx,X.P=P->X.k0=k0->Le X (S.a_ (ρ++ys)) (i.a_ (ρ++as.map (At.ev (ρ++ys)))):=by
 unfold vH at h;simp only[cF,e_,Qx]at h;obtain⟨⟨⟨⟨⟨⟨⟨⟨u,G⟩,I⟩,J⟩,K⟩,v⟩,z⟩,N⟩,B⟩:=h;refine⟨u,by simp[K,j],λX l o=>?_⟩;subst l o;refine lX.le (ι:=ι) (Z:=Z) F ?_;exact {
  bx:=u
  old:=G
  new:=I
  k0:=J
  zs :=λn O=>by
   simp only[cI,cF,pV,zL,zF,e_]at v;obtain⟨⟨⟨a,c⟩,f⟩,k⟩:=v n O;refine⟨a,c,f,?_⟩;split at k
   .rename_i e x p;simp only[cF]at k;obtain⟨b1,q⟩:=k;split at q
    .rename_i r Q;have:=E _ _ Q;subst this;have U:0< (fG X.P e).size:=by simpa using q
     refine⟨e,?_,U⟩;rw[fk,p];simp only[cg,SB.a_];rw[<-At.HW (ys:=ys) j,At.nT b1];rfl
    .cases q
   .cases k
  lt:=λx p=>by
   simp only[cI,cF,pZ,e_,beq_iff_eq]at z;obtain⟨a,c⟩:=z x p;exact⟨a,λV=>c.resolve_left om⟩
  tmps:=V_ j t N
  heap :=λW Y g=>by
   rw[fk]at g;simp only[b9]at g;obtain⟨b0,s,rfl⟩:=g;simp only[cI,pZ,zL,e_,Qu,cF,beq_iff_eq]at B;rcases B _ (B' s)with a| ⟨y,a,c,f⟩
   .exact .inl a
   .right;split at f
    .rename_i b g;obtain⟨n,m⟩:=y;subst c;exact⟨n,b.a_ (ρ++ys),a,by rw[fk,g];rfl,axR j t f⟩
    .cases f}
end
section
open Go.RowKit
def QO:cL->Nat
 |.tmp t=>1<<<t
 |_=>0
def ake(n:Nat)(o:Oper):Nat:=
 let n:=match o.dst,o.guard with
  |some t,none=>n^^^ (n&&& (1<<<t))
  |_,_=>n
 o.op.operands.toList.foldl (λn x=>n|||QO x) n
def lv:Code->Nat->List (Nat×Nat)->Nat->Nat
 |.skip,n,_,_=>n
 |.region _ ops _,n,_,_=>ops.toList.reverse.foldl ake n
 |.seq a b,n,ex,r=>lv a (lv b n ex r) ex r
 |.cond c a b,n,ex,r=>QO c|||lv a n ex r|||lv b n ex r
 |.block id c,n,ex,r=>lv c n ((id,n)::ex) r
 |.loop c,_,ex,r=>lv c 0 ex r
 |.exit id,_,ex,_=>(List.lookup id ex).getD 0
 |.ret,_,_,r=>r
 |.scope c,n,ex,r=>lv c n ex r
 |.label _,n,_,_=>n
 |_,_,_,_=>0
structure MG where
 np:Nat
 ps:List (List At×Nat)
 ns:List (List (Option Nat)×Nat)
 next:Nat
def SH:List At->List At->Bool
 |[],[]=>true
 |x::xs,y::ys=>x.same y&&SH xs ys
 |_,_=>false
def BU(bZ:Nat)(xs:List At)(g:MG):At×MG:=match xs with
 |x::r=>if x.in bZ&&r.all (x.same ·)then(x,g)
  else match g.ps.find? (λp=>SH p.1 xs)with
   |some p=>(.v (bZ+p.2),g)
   |none=>(.v (bZ+g.np),{g with np:=g.np+1,ps:=(xs,g.np)::g.ps})
 |[]=>(.b false,g)
def NM(k0:Nat)(xs:List (Option Nat))(g:MG):Option (Nat×MG):=
 match g.ns.find? (λp=>p.1==xs)with
 |some p=>some (p.2,g)
 |none=>
  if g.ns.any λp=>(p.1.zip xs).any λa=>a.1.isSome&&a.1==a.2 then none
  else match xs with
   |some m::r=>if decide (m<k0)&&r.all (· ==some m)then some (m,{g with ns:=(xs,m)::g.ns})else some (g.next,{g with ns:=(xs,g.next)::g.ns,next:=g.next+1})
   |_=>some (g.next,{g with ns:=(xs,g.next)::g.ns,next:=g.next+1})
def WE(k0:Nat):List (List (Option Nat))->MG->Option (List Nat×MG)
 |[],g=>some ([],g)
 |xs::r,g=>match NM k0 xs g with
  |some (n,g)=>match WE k0 r g with
   |some (a,g)=>some (n::a,g)
   |none=>none
  |none=>none
def SG:List SC->Option Kd
 |[]=>none
 |.p k _::_=>some k
 |_::r=>SG r
def Jy:SC->Bool
 |.nil=>true
 |.sub _ (.i 0) (.i 0)=>true
 |_=>false
def RE(_k0:Nat)(cs:List SC):Bool:=cs.all (λc=>match c with| .nil=>true| .own _=>true| .sub _ (.i 0) _=>true|_=>false)&&cs.any (λc=>match c with| .sub _ _ _=>true|_=>false)&&cs.any (λc=>match c with| .sub _ _ _=>false|_=>true)
def ajE(k0:Nat)(cs:List SC):Option Kd:=if cs.all Jy||RE k0 cs then none else match SG cs with
 |some k=>some k
 |none=>if cs.any (λc=>match c with| .sub _ _ _=>true|_=>false)&&cs.any (λc=>match c with| .sub _ _ _=>false|_=>true)then some .sl else none
def column:Nat->List (List Nat)->List (List (Option Nat))
 |0,_=>[]
 |n+1,xs=>xs.map List.head?::column n (xs.map List.tail)
def mC(k0 bZ:Nat)(t:List dh)(cs:List SC)(g:MG):SC×MG:=
 match ajE k0 cs with
 |some k=>match(cs.zip t).mapM (λ(x:SC×dh)=>match x.1 with
  |.p u x=>if k=u then some x else none
  |.own n=>if k=.sl then match List.lookup n x.2 with
   |some (.row _ y)=>some y
   |_=>none
   else none
  |.nil=>if k=.sl then some .r0 else none
  |.sub n _ _=>if k=.sl then some (.v (bZ+1000000+1000*g.np+n))else none
  |_=>none)with
  |some xs=>let(x,g):=BU bZ xs g; (.p k x,g)
  |none=>(.dead,g)
 |none=>
  let named (f:SC->Option (Option Nat)) (k:Nat->MG->SC×MG):SC×MG:=match cs.mapM f with
   |some h=>match NM k0 h g with
    |some (n,g)=>k n g
    |none=>(.dead,g)
   |none=>(.dead,g)
  let e (f:SC->At) (g:MG):At×MG:=BU bZ (cs.map f) g
  if cs.all (λc=>match c with| .nil=>true|_=>false)then(.nil,g)
  else if RE k0 cs&& !cs.all Jy then
   named (λc=>match c with| .own n=>some (some n)| .sub n _ _=>some (some n)| .nil=>some none|_=>none) λn g=>(.own n,g)
  else if cs.any (λc=>match c with| .own _=>true|_=>false)then
   named (λc=>match c with| .own n=>some (some n)| .nil=>some none|_=>none) λn g=>(.own n,g)
  else if cs.all Jy then named (λc=>match c with| .sub n _ _=>some (some n)| .nil=>some none|_=>none) λn g=>(.sub n (.i 0) (.i 0),g)
  else match cs with
   |.sub _ _ _::_=>named (λc=>match c with| .sub n _ _=>some (some n)|_=>none) λn g=>
    let(a,g):=e (λc=>match c with| .sub _ a _=>a|_=>.b false) g
    let(b,g):=e (λc=>match c with| .sub _ _ b=>b|_=>.b false) g
    (.sub n a b,g)
   |.ptr _ o::_=>named (λc=>match c with| .ptr n p=>if o=p then some (some n)else none|_=>none) λn g=>(.ptr n o,g)
   |.iZ _ o s m _::_=>named (λc=>match c with| .iZ n p v z _=>if o=p/\s=v/\m=z then some (some n)else none|_=>none) λn g=>
    let(i,g):=e (λc=>match c with| .iZ _ _ _ _ i=>i|_=>.b false) g
    (.iZ n o s m i,g)
   |.d' _ _ j::_=>named (λc=>match c with| .d' n _ q=>if j=q then some (some n)else none|_=>none) λn g=>
    let(i,g):=e (λc=>match c with| .d' _ i _=>i|_=>.b false) g
    (.d' n i j,g)
   |.ref _ j::_=>match cs.mapM (λc=>match c with| .ref x q=>if j=q then some x else none|_=>none)with
    |some xs=>let(x,g):=BU bZ xs g; (.ref x j,g)
    |none=>(.dead,g)
   |.fn f h::_=>match cs.mapM (λc=>match c with| .fn B l=>if f==B&&l.length==h.length then some l else none|_=>none)with
    |some r=>match WE k0 (column h.length r) g with
     |some (h,g)=>(.fn f h,g)
     |none=>(.dead,g)
    |none=>(.dead,g)
   |.mp _::_=>named (λc=>match c with| .mp n=>some (some n)|_=>none) λn g=>(.mp n,g)
   |_=>(.dead,g)
def PG(k0 bZ:Nat)(e:List dh):Nat->List (List SC)->MG->List SC×MG
 |0,_,g=>([],g)
 |n+1,a,g=>
  let(c,g):=mC k0 bZ e (a.map λxs=>xs.headD .dead) g
  let(cs,g):=PG k0 bZ e n (a.map List.tail) g
  (c::cs,g)
def Yx(k0 bZ:Nat)(e:List dh)(xs:List bN)(g:MG):bN×MG:=
 match xs.mapM (λx=>match x with| .c c=>some c|_=>none)with
 |some cs=>let(c,g):=mC k0 bZ e cs g; (.c c,g)
 |none=>match xs.mapM (λx=>match x with| .agg cs=>some cs|_=>none)with
  |some (cs::a)=>if a.all (λc=>c.length==cs.length)then
   let(cs,g):=PG k0 bZ e cs.length (cs::a) g; (.agg cs,g)
   else(.c .dead,g)
  |_=>(.c .dead,g)
def Wn(k0 bZ:Nat)(e:List dh):Nat->List (List bN)->MG->List bN×MG
 |0,_,g=>([],g)
 |n+1,a,g=>
  let(c,g):=Yx k0 bZ e (a.map λxs=>xs.headD (.c .dead)) g
  let(cs,g):=Wn k0 bZ e n (a.map List.tail) g
  (c::cs,g)
def mV(k0 bZ:Nat)(e:List dh)(xs:List SV)(g:MG):SV×MG:=
 match xs.mapM (λx=>match x with| .v c=>some c|_=>none)with
 |some cs=>let(c,g):=Yx k0 bZ e cs g; (.v c,g)
 |none=>match xs.mapM (λx=>match x with| .bM cs=>some cs|_=>none)with
  |some (cs::a)=>if a.all (λc=>c.length==cs.length)then
   let(cs,g):=Wn k0 bZ e cs.length (cs::a) g; (.bM cs,g)
   else(.v (.c .dead),g)
  |_=>(.v (.c .dead),g)
def Ue(k0 bZ:Nat)(e:List dh)(live:Nat):Nat->Nat->List (List SV)->MG->List SV×MG
 |0,_,_,g=>([],g)
 |n+1,i,a,g=>
  let(c,g):=if live.testBit i then mV k0 bZ e (a.map λxs=>xs.headD (.v (.c .dead))) g else(.v (.c .dead),g)
  let(cs,g):=Ue k0 bZ e live n (i+1) (a.map List.tail) g
  (c::cs,g)
def Uz:List (Option Nat)->List dh->Option SB
 |some n::_,h::_=>List.lookup n h
 |none::r,_::a=>Uz r a
 |_,_=>none
def mB(k0 bZ:Nat)(a:List dh)(f:List (Option Nat))(g:MG):Option (SB×MG):=
 match Uz f a with
 |some (.box cs)=>match(f.zip a).mapM (λ(x:Option Nat×dh)=>match x.1 with
  |some n=>match List.lookup n x.2 with
   |some (.box c)=>if c.length==cs.length then some c else none
   |_=>none
  |none=>none)with
  |some h=>let(cs,g):=PG k0 bZ a cs.length h g;some (.box cs,g)
  |none=>none
 |some (.row e _)=>match(f.zip a).mapM (λ(x:Option Nat×dh)=>match x.1 with
  |some n=>match List.lookup n x.2 with
   |some (.row i y)=>if e==i then some y else none
   |_=>none
  |none=>some .r0)with
  |some xs=>let(x,g):=BU bZ xs g;some (.row e x,g)
  |none=>none
 |some (.map _)=>match(f.zip a).mapM (λ(x:Option Nat×dh)=>match x.1 with
  |some n=>match List.lookup n x.2 with
   |some (.map y)=>some y
   |_=>none
  |none=>some .r0)with
  |some xs=>let(x,g):=BU bZ xs g;some (.map x,g)
  |none=>none
 |none=>none
def I3(k0 bZ:Nat)(a:List dh):Nat->Nat->MG->dh->dh×MG
 |0,_,g,acc=>(acc,g)
 |fuel+1,i,g,acc=>if i<g.ns.length then
  match g.ns[g.ns.length-1-i]? with
  |some (xs,n)=>match mB k0 bZ a xs g with
   |some (b,g)=>I3 k0 bZ a fuel (i+1) g ((n,b)::acc)
   |none=>I3 k0 bZ a fuel (i+1) g acc
  |none=>(acc,g)
  else(acc,g)
def merge(live k0 bZ:Nat)(a:List bt):Option bt:=match a with
 |[]=>none
 |S::_=>
  let c:=a.map bt.heap
  let old:=((S.heap.map (·.1)).filter (λn=>decide (n<k0))).eraseDups
  let(tmps,g):=Ue k0 bZ c live S.tmps.length 0 (a.map bt.tmps) ⟨0,[],[],k0⟩
  let g:=old.foldl (λg m=>match NM k0 (a.map λ_=>some m) g with
   |some (_,g)=>g
   |none=>g) g
  let(heap,g):=I3 k0 bZ c 300 0 g []
  some ⟨tmps,heap.reverse,[],g.next,bZ+g.np⟩
structure FG where
 as:List (Nat×At)
 ι:Ren
 Z:List Nat
def oD(bZ:Nat)(x y:At)(g:FG):FG:=match y with
 |.v j=>if bZ<=j then
  (match List.lookup (j-bZ) g.as with
  |some _=>g
  |none=> {g with as:=(j-bZ,x)::g.as})
  else g
 |_=>g
def fN(n a:Nat)(g:FG):FG:=match List.lookup n g.ι with
 |some _=>g
 |none=> {g with ι:=(n,a)::g.ι}
def fC(D:kg)(bZ:Nat)(h:dh)(c k:SC)(g:FG):FG:=match c,k with
 |.p _ x,.p _ y=>oD bZ x y g
 |.own n,.p _ y=>match List.lookup n h with
  |some (.row _ x)=>oD bZ x y g
  |_=>g
 |.nil,.p _ y=>oD bZ .r0 y g
 |.sub n a b,.p _ y=>match D.find? (λz=>z.1==n&&z.2.1.same a&&z.2.2.1.same b)with
  |some z=>oD bZ z.2.2.2 y g
  |none=>g
 |.nil,.own e=>if g.Z.contains e then g else{g with Z:=e::g.Z}
 |.nil,.sub e _ _=>if g.Z.contains e then g else{g with Z:=e::g.Z}
 |.own n,.own e=>fN n e g
 |.sub n a b,.sub e a' l=>oD bZ b l (oD bZ a a' (fN n e g))
 |.ptr n _,.ptr e _=>fN n e g
 |.iZ n _ _ _ i,.iZ e _ _ _ f=>oD bZ i f (fN n e g)
 |.d' n i _,.d' e f _=>oD bZ i f (fN n e g)
 |.ref x _,.ref y _=>oD bZ x y g
 |.fn _ m,.fn _ j=>(m.zip j).foldl (λg x=>fN x.1 x.2 g) g
 |.mp n,.mp e=>fN n e g
 |_,_=>g
def T7(D:kg)(bZ:Nat)(h:dh)(xs ys:List SC)(g:FG):FG:=(xs.zip ys).foldl (λg x=>fC D bZ h x.1 x.2 g) g
def Xn(D:kg)(bZ:Nat)(h:dh)(x y:bN)(g:FG):FG:=match x,y with
 |.c x,.c y=>fC D bZ h x y g
 |.agg x,.agg y=>T7 D bZ h x y g
 |_,_=>g
def fV(D:kg)(bZ:Nat)(h:dh)(x y:SV)(g:FG):FG:=match x,y with
 |.v x,.v y=>Xn D bZ h x y g
 |.bM xs,.bM ys=>(xs.zip ys).foldl (λg x=>Xn D bZ h x.1 x.2 g) g
 |_,_=>g
def fB(D:kg)(bZ:Nat)(h:dh)(x y:SB)(g:FG):FG:=match x,y with
 |.box xs,.box ys=>T7 D bZ h xs ys g
 |.row _ x,.row _ y=>oD bZ x y g
 |.map x,.map y=>oD bZ x y g
 |_,_=>g
def My(D:kg)(bZ:Nat)(h a:dh):Nat->Nat->FG->FG
 |0,_,g=>g
 |fuel+1,i,g=>if i<g.ι.length then
  match g.ι[g.ι.length-1-i]? with
  |some (n,c)=>match List.lookup n h,List.lookup c a with
   |some b,some e=>My D bZ h a fuel (i+1) (fB D bZ h b e g)
   |_,_=>My D bZ h a fuel (i+1) g
  |none=>g
  else g
def atW(D:kg)(k0 bZ:Nat)(a S:bt):List At×Ren×List Nat:=
 let old:=((a.heap.map (·.1)).filter (λn=>decide (n<k0))).eraseDups
 let g:FG:=⟨[],old.map λn=>(n,n),[]⟩
 let g:=(S.tmps.zip a.tmps).foldl (λg x=>fV D bZ S.heap x.1 x.2 g) g
 let g:=My D bZ S.heap a.heap 300 0 g
 let g:=g.Z.foldl (λg n=>match List.lookup n a.heap with
  |some (.row _ y)=>oD bZ .r0 y g
  |_=>g) g
 ((List.range (a.nv-bZ)).map λp=>(List.lookup p g.as).getD (.b false),g.ι,g.Z)
end
end
end Go.Proofs.YtiikkkhcolcebaaGreatDoor
