/- A part. -/
import Derived.Test.YtiikkkhcolcebaaGreatDoorG11
set_option linter.all false
set_option maxHeartbeats 4000000
set_option maxRecDepth 100000
namespace Go.Proofs.YtiikkkhcolcebaaGreatDoor
noncomputable section
section
open Go.RowKit
open Classical
abbrev eP:=List bw
def eP.ok(P:cC)(C:eP):Prop:=∀s∈C,s.ok P
def bq.BW(S:bq):List cF->Option (List bK)
 |[]=>some []
 |x::l=>match S.fG x,S.BW l with
  |some y,some ys=>some (y::ys)
  |_,_=>none
def bq.callee(S:bq):cF->Option (FuncId×List Nat)
 |.func f=>some (f,[])
 |x=>match S.arg x with
  |some (.v (.c (.fn f ee)))=>some (f,ee)
  |_=>none
def AO(T:bV)(S:bq)(d:Nat)(f:FuncId)(xs:List bK):eP->Option cv
 |[]=>none
 |s::C=>if s.f=f then match EE T S d xs s with
  |some r=>some r
  |none=>AO T S d f xs C
  else AO T S d f xs C
def Ml(T:bV)(C:eP)(S:bq)(d:Nat)(x:cF)(args:List cF):Option cv:=
 match S.callee x,S.BW args with
 |some (f,ee),some xs=>AO T S d f (xs++ee.map λn=>.c (.ptr n 0)) C
 |_,_=>none
def bq.ee(S:bq):List cF->Option (List Nat)
 |[]=>some []
 |x::l=>match S.arg x,S.ee l with
  |some (.v (.c (.ptr n 0))),some a=>some (n::a)
  |_,_=>none
def bq.vM:List SC->Option (List (List (Kd×At)))
 |[]=>some []
 |.p k x::l=>(bq.vM l).map ([(k,x)]:: ·)
 |.nil::l=>(bq.vM l).map ([(.sl,.r0)]:: ·)
 |_=>none
def Bt:List L->Option (List L)
 |[x,y]=>match y.bC with
  |[.sc (.int .u64 z)::ps]=>some [.r (oI z ps x.bC)]
  |_=>none
 |_=>none
def LA:List L->Option (List L)
 |[x,k]=>some [.r (oF k.br x.bC)]
 |_=>none
def B9:List L->Option (List L)
 |[x,k,y]=>match y.bC with
  |[a]=>if((kj k.br x.bC).getD a).length=a.length then some [.c ((kj k.br x.bC).getD a),.b (kj k.br x.bC).isSome]else none
  |_=>none
 |_=>none
def MU(T:bV)(S:bq)(t:cd)(m k x:cF):Option cv:=match S.arg m,S.arg k,S.arg x,List.lookup t T with
 |some (.v (.c (.mp n))),some (.v (.c (.p (.int .u64) a))),some (.v (.agg cs)),some r=>match List.lookup n S.heap,bq.vM cs with
  |some (.map y),some c=>if r.Fq then some ⟨[.lit [(.int .u64,a)::c.flatten],.call 3001 Bt [y,.v S.nv] 1 []],.c1 .dead,⟨[(n,.map (.v (S.nv+1)))],[]⟩,[]⟩else none
  |_,_=>none
 |_,_,_,_=>none
def My(T:bV)(S:bq)(t:cd)(m k:cF):Option cv:=match S.arg m,S.arg k,List.lookup t T with
 |some (.v (.c (.mp n))),some (.v (.c (.p (.int .u64) a))),some r=>match List.lookup n S.heap with
  |some (.map y)=>if r.Fq then some ⟨[.call 3002 LA [y,a] 1 []],.bL [],⟨[(n,.map (.v S.nv))],[]⟩,[]⟩else none
  |_=>none
 |_,_,_=>none
def Ni(T:bV)(S:bq)(t:cd)(m k:cF)(ok:Bool):Option cv:=match S.arg m,S.arg k,(List.lookup t T).bind Ty.NB with
 |some (.v (.c (.mp n))),some (.v (.c (.p (.int .u64) a))),some c=>match List.lookup n S.heap,(List.lookup c T).bind Ty.ob with
  |some (.map y),some ks=>match uB ks with
   |some e=>some ⟨.lit [e]:: .call 3003 B9 [y,a,.v S.nv] 2 []::qm (.v (S.nv+1)) 0 ks,
    if ok then .bL [.agg (iL (S.nv+3) ks),.c (.p .bool (.v (S.nv+2)))]else .v (.agg (iL (S.nv+3) ks)),⟨[],[]⟩,[]⟩
   |none=>none
  |_,_=>none
 |_,_,_=>none
def MZ(T:bV)(S:bq)(s d:cd)(x:cF):Option cv:=match S.arg x,List.lookup s T with
 |some (.v (.c (.own n))),some r=>match List.lookup n S.heap,r.sl with
  |some (.row e a),some c=>match List.lookup c T with
   |some r'=>if r'.int=some .u8/\s=d then some ⟨[.row a (.i 0) 1],.c1 (.own n),⟨[(n,.row e a)],[]⟩,[]⟩else none
   |none=>none
  |_,_=>none
 |_,_=>none
def Lh(T:bV)(S:bq)(t:cd)(x:cF):Option cv:=match S.arg x,List.lookup t T with
 |some (.v (.c (.ptr n off))),some r=>match List.lookup n S.heap,r.arr with
  |some (.box cs),some (cZ,e)=>match List.lookup e T,bq.vM ((cs.drop off).take cZ)with
   |some a,some c=>if a.size=1/\a.info=true/\0<cZ/\cZ<=4096/\c.length=cZ then some ⟨[.lit c],.c1 (.p .sl (.v S.nv)),⟨[],[n]⟩,[]⟩else none
   |_,_=>none
  |_,_=>none
 |_,_=>none
def Mx(T:bV)(S:bq)(t:cd)(s x:cF):Option cv:=match S.arg s,S.arg x,(List.lookup t T).bind Ty.elem with
 |some (.v (.c (.sub m (.i 0) ln))),some (.v (.c c)),some e=>match List.lookup m S.heap,S.view S.nv c,List.lookup e T with
  |some (.row f a),some (nds,b),some g=>match g.app with
   |some (n,_)=>if f=e then some ⟨nds++[.sq a ln b n],.c1 (.sub m (.i 0) (.v (S.nv+gq nds+1))),⟨[(m,.row e (.v (S.nv+gq nds)))],[]⟩,[]⟩else none
   |none=>none
  |_,_,_=>none
 |_,_,_=>none
def GM(T:bV)(S:bq)(d:Nat)(t f:cd)(s x:cF):Option cv:=match S.arg s,S.arg x,List.lookup t T,List.lookup f T with
 |some (.v (.c .nil)),some (.v (.c (.p (.int .i64) a))),some r,some r'=>match r.elem,r'.int with
  |some e,some _=>match List.lookup e T with
   |some c=>match c.app,c.ob.bind uB with
    |some (n,b),some ps=>some ⟨[.jJ a ps b,.row (.v S.nv) (.i 0) n,.app .r0 (.v S.nv) n b],.c1 (.own d),⟨[(d,.row e (.v (S.nv+2)))],[]⟩,[]⟩
    |_,_=>none
   |none=>none
  |_,_=>none
 |_,_,_,_=>none
def H6(T:bV)(S:bq)(d:Nat)(t f:cd)(s x:cF):Option cv:=match S.arg s,S.arg x,List.lookup t T,List.lookup f T with
 |some (.v (.c (.own m))),some (.v (.c (.p (.int .i64) a))),some r,some r'=>match r.elem,r'.int,List.lookup m S.heap with
  |some e,some _,some (.row g y)=>match List.lookup e T with
   |some c=>match c.app,c.ob.bind uB with
    |some (n,b),some ps=>if g=e then some ⟨[.jJ a ps b,.row (.v S.nv) (.i 0) n,.app y (.v S.nv) n b],.c1 (.own d),⟨[(d,.row e (.v (S.nv+2)))],[m]⟩,[]⟩else none
    |_,_=>none
   |none=>none
  |_,_,_=>none
 |_,_,_,_=>none
def yE(T:bV)(S:bq)(d:Nat)(t:cd)(s x:cF):Option cv:=
 match S.arg s,S.arg x,(List.lookup t T).bind Ty.elem with
 |some (.v (.c (.p .nl _))),some (.v (.c c)),some e=>match(List.lookup e T).bind Ty.app,S.view S.nv c with
  |some (n,b),some (nds,a)=>some ⟨nds++[.row a (.i 0) n,.app .r0 a n b],.c1 (.own d),⟨[(d,.row e (.v (S.nv+gq nds+1)))],[]⟩,[]⟩
  |_,_=>none
 |_,_,_=>none
def vI(T:bV)(S:bq)(d:Nat)(t:cd)(s x:cF):Option cv:=match zo T S d t s x with
 |some r=>some r
 |none=>yE T S d t s x
def JQ(T:bV)(S:bq)(d:Nat)(b:Builtin)(args:List cF)(ts:List cd):Option cv:=
 match b,args,ts with
 |.len,[x],[t]=>ff T S t x
 |.append,[s,x],[t,c]=>if t=c then(if(List.lookup 999999 T).isSome then match Mx T S t s x with
  |some r=>some r
  |none=>vI T S d t s x
  else vI T S d t s x)else(match GM T S d t c s x with
  |some r=>some r
  |none=>H6 T S d t c s x)
 |.copy,[x,y],[t,_]=>Mi T S t x y
 |.min,[x,y],_=>match S.arg x,S.arg y with
  |some (.v (.c (.p (.int k) a))),some (.v (.c (.p (.int _) b)))=>some ⟨[.mn a b],.c1 (.p (.int k) (.v S.nv)),dU,[]⟩
  |_,_=>none
 |.max,[x,y],_=>match S.arg x,S.arg y with
  |some (.v (.c (.p (.int k) a))),some (.v (.c (.p (.int _) b)))=>some ⟨[.mx a b],.c1 (.p (.int k) (.v S.nv)),dU,[]⟩
  |_,_=>none
 |.cap,[x],[t]=>match S.arg x,List.lookup t T with
  |some (.v (.c .nil)),some r=>if r.sl.isSome then some (.pure (.c1 (.p (.int .i64) (.i 0))))else none
  |_,_=>none
 |.delete,[m,k],t::_=>My T S t m k
 |.complex,[x,y],_=>match S.arg x,S.arg y with
  |some (.v (.c (.p .eO a))),some (.v (.c (.p .eO b)))=>some ⟨[.call 3005 TH [a,b] 1 []],.c1 (.p .jI (.v S.nv)),dU,[]⟩
  |_,_=>none
 |.real,[x],_=>match S.arg x with
  |some (.v (.c (.p .jI a)))=>some ⟨[.call 3006 V2 [a] 1 []],.c1 (.p .eO (.v S.nv)),dU,[]⟩
  |_=>none
 |.imag,[x],_=>match S.arg x with
  |some (.v (.c (.p .jI a)))=>some ⟨[.call 3008 Vo [a] 1 []],.c1 (.p .eO (.v S.nv)),dU,[]⟩
  |_=>none
 |_,_,_=>none
def kA(T:bV)(C:eP)(S:bq)(d:Nat)(op:Op):Option cv:=match op with
 |.move (.tmp t)=>(S.tmps[t]?).map .pure
 |.move x=>(S.arg x).map .pure
 |.assign (.tmp t)=>(S.tmps[t]?).map .pure
 |.assign x=>(S.arg x).map .pure
 |.pick c a b=>match S.arg c with
  |some (.v (.c (.p .bool (.b t))))=>(if t then S.arg a else S.arg b).map .pure
  |_=>none
 |.alloc e=>((List.lookup e T).bind Ty.ob).map λks=>⟨[],.c1 (.ptr d 0),⟨[(d,.box (ks.map Kd.zero))],[]⟩,[]⟩
 |.box _ x=>(S.fG x).map λx=>⟨[],.c1 (.ptr d 0),⟨[(d,.box x.cells)],[]⟩,[]⟩
 |.build t parts=>if parts.toList.isEmpty&& (List.lookup 999995 T).isSome then none else Jj T S t parts.toList
 |.buildSlice t len parts=>HQ T S d t len parts.toList
 |.load t x=>Ms T S t x
 |.store t x y=>GL T S t x y
 |.nilCheck x=>match S.arg x with
  |some (.v (.c (.ptr n o)))=>some (.pure (.c1 (.ptr n o)))
  |some (.v (.c (.ia n o c m i)))=>some (.pure (.c1 (.ia n o c m i)))
  |some (.v (.c (.dH n i j)))=>some (.pure (.c1 (.dH n i j)))
  |some (.v (.c (.ref x j)))=>some (.pure (.c1 (.ref x j)))
  |some (.v (.c (.fn f ee)))=>some (.pure (.c1 (.fn f ee)))
  |_=>none
 |.binOp op t x y _=>JA T S op t x y
 |.unOp op _ x=>HT S op x
 |.convert s t x=>match Mq T S s t x with
  |some r=>some r
  |none=>MZ T S s t x
 |.makeSlice t l c=>Np T S d t l c
 |.slice t x lo h none=>match KT T S t x lo h with
  |some r=>some r
  |none=>match lo,h with
   |none,none=>Lh T S t x
   |_,_=>none
 |.slice t x lo (some h) (some mx)=>KX T S t x lo h mx
 |.sliceToArrayPointer t x=>Ic T S t x
 |.makeMap _ none=>some ⟨[],.c1 (.mp d),⟨[(d,.map .r0)],[]⟩,[]⟩
 |.mapUpdate t m k x=>MU T S t m k x
 |.lookup t m k ok=>Ni T S t m k ok
 |.fieldAddr t x f=>Jx T S t x f
 |.indexAddr t x i=>HN T S t x i
 |.index t x i=>match S.arg x,S.arg i,List.lookup t T with
  |some (.v (.c (.p .str a))),some (.v (.c (.p (.int _) b))),some r=>if r.th then some ⟨[.zr a b],.c1 (.p (.int .u8) (.v S.nv)),dU,[]⟩else none
  |some (.v (.agg cs)),some (.v (.c (.p (.int _) b))),some r=>match r.arr with
   |some (n,e)=>match List.lookup e T with
    |some g=>match Au cs 0 n g.size b 0 (if g.agg then g.size else 1)with
     |some (ks,nds)=>if g.info then(mH g ks S.nv).map λv=>⟨.du b n::nds,v,dU,[]⟩else none
     |none=>none
    |none=>none
   |none=>none
  |_,_,_=>none
 |.extract (.tmp t) i=>match S.tmps[t]? with
  |some (.bL xs)=>match xs[i]? with
   |some x=>some (.pure (.v x))
   |none=>none
  |_=>none
 |.makeFunc (.func f) first captured=>if first.size=0 then(S.ee captured.toList).map λp=>.pure (.c1 (.fn f p))else none
 |.panic _| .makeInterface _ _=>some ⟨[.du (.i 0) 0],.c1 .dead,dU,[]⟩
 |.call c=>match c.callee with
  |.value x=>Ml T C S d x c.args.toList
  |.builtin b=>JQ T S d b c.args.toList c.argTypes.toList
  |_=>none
 |_=>none
section
variable{P:cC}{T:bV}{C:eP}{S:bq}{ρ:List L}{d:Nat}
theorem U_:∀{l:List cF}{xs:List bK},S.BW l=some xs->l.mapM (S.a_ ρ).fG=some (xs.map (bK.a_ ρ))
 |[],_,h=>by cases h;rfl
 |x::l,xs,h=>by
  simp only[bq.BW]at h;split at h
  .rename_i y ys a c;cases h;simp only[rk,bq.CD ρ a,U_ c];rfl
  .cases h
theorem UT:∀{l:List cF}{a:List Nat},S.ee l=some a->l.mapM (S.a_ ρ).cap=some a
 |[],_,h=>by cases h;rfl
 |x::l,a,h=>by
  simp only[bq.ee]at h;split at h
  .rename_i n c e f;cases h;have g:(S.a_ ρ).arg x=some (.v (.c (.ptr n 0))):=bq.cG ρ e;have i:(S.a_ ρ).cap x=some n:=by grind[bx.cap]
   simp only[rk,i,UT f];rfl
  .cases h
theorem amH{x y}(h:S.callee x=some y):(S.a_ ρ).callee x=some y:=by
 unfold bq.callee at h;split at h
 .cases h;rfl
 .split at h
  .rename_i f ee a;cases h;have c:(S.a_ ρ).arg x=some (.v (.c (.fn f ee))):=bq.cG ρ a;simp_all[bx.callee]
  .cases h
theorem HY{f:FuncId}{xs:List bK}:∀{C:eP}{r:cv},eP.ok P C->AO T S d f xs C=some r->∃s,s.ok P/\s.f=f/\EE T S d xs s=some r
 |[],_,_,h=>by cases h
 |s::C,r,c,h=>by
  simp only[AO]at h;split at h
  .rename_i g;split at h
   .rename_i r' i;cases h;exact⟨s,c s (by simp),g,i⟩
   .exact HY (λe a=>c e (by simp[a])) h
  .exact HY (λe a=>c e (by simp[a])) h
theorem alu(g:eP.ok P C){x args r}(h:Ml T C S d x args=some r)(i:Sat ρ S.nv r.nds):
 ∀Sp:Spec,Sp d=some (r.v.a_ ρ,r.e.a_ ρ,r.rd)->tX P Sp (S.a_ ρ) d x args=some (r.a_ ρ):=by
 intro Sp c;unfold Ml at h;split at h
 .rename_i f ee xs j e;obtain⟨s,k,rfl,l⟩:=HY g h;have a:=axZ (ρ:=ρ) k l i;unfold tX;simp only[amH j,U_ e,c];rw[bA]
  .rfl
  .rw[dE,gp]at a;exact a
 .cases h
theorem UF{t}(h:(eW P t).Fq=true):∃a c,P.underlying t=some (.map a c)/\P.underlying a=some (.int .u64):=by
 grind[eW,RZ]
theorem axC{t}(h:(eW P t).int=some .u8):P.underlying t=some (.int .u8):=by
 grind[eW,EW]
theorem Hv:∀{cs}{a},bq.vM cs=some a->∃ps,ml (cs.map (SC.a_ ρ))=some ps/\a.map (db ρ)=ps.map λq=>[q]
 |[],_,h=>by cases h;exact⟨[],rfl,rfl⟩
 |c::cs,a,h=>by
  have key:∀(k:Kd)(x:At),(bq.vM cs).map ([(k,x)]:: ·)=some a->(c.a_ ρ).pv=some (k.pv (x.ev ρ))->∃ps,ml ((c::cs).map (SC.a_ ρ))=some ps/\a.map (db ρ)=ps.map λq=>[q]:=by
   intro k x h i;simp only[bY]at h;obtain⟨e,f,rfl⟩:=h;obtain⟨ps,j,g⟩:=Hv f;refine⟨k.pv (x.ev ρ)::ps,?_,?_⟩
   .simp_all[ml]
   .simp only[dk,g];rfl
  cases c with
  |p k x=>exact key k x h rfl
  |nil=>exact key .sl .r0 h rfl
  |_=>cases h
theorem arL{ρ:List L}{a:List (List (Kd×At))}{ps:List PV}(h:a.map (db ρ)=ps.map λq=>[q]):db ρ a.flatten=ps:=by
 unfold db at h⊢;rw[List.map_flatten,h];clear h
 induction ps with
 |nil=>rfl
 |cons p ps ih=>simpa using ih
theorem afV(q:bV.ok P T){t m k x r}(h:MU T S t m k x=some r)(o:Sat ρ S.nv r.nds):(wF P (S.a_ ρ) t m k x).map (λe=>(⟨.c .dead,e,[]⟩:bZ))=some (r.a_ ρ):=by
 unfold MU at h;split at h
 .rename_i n a cs row s u v w;have:=q _ _ w;subst this;split at h
  .rename_i y G z A;split at h
   .rename_i c;cases h;obtain⟨H,I,B,D⟩:=UF c;have f:(S.a_ ρ).arg m=some (.v (.c (.mp n))):=bq.cG ρ s;have g:(S.a_ ρ).arg k=some (.v (.c (.p (.sc (.int .u64 (a.ev ρ).br))))):=bq.cG ρ u;have i:(S.a_ ρ).arg x=some (.v (.agg (cs.map (SC.a_ ρ)))):=bq.cG ρ v;obtain⟨ps,k1,k2⟩:=Hv (ρ:=ρ) A;obtain⟨l,q1,q2⟩:=o.dW rfl;cases q1;have j:Sat ρ (S.nv+1) [.call 3001 Bt [y,.v S.nv] 1 []]:=o.2;obtain⟨E,q3,q4⟩:=j.dW rfl;simp only[Nd.ev,dk,gJ,Bt,q2,L.bC,db]at q3;have p:=arL k2;unfold db at p;rw[p]at q3;simp only[Kd.pv]at q3;have F:E=.r (oI (a.ev ρ).br ps (y.ev ρ).bC):=by
     cases J:y.ev ρ<;>simp_all [L.bC]
    subst F;simp only[wF,f,g,i,B,D,eK,z,b_,SB.a_,k1];simp only[cv.a_,gL.a_,cU.a_,dk,gJ,SB.a_,q4,L.bC];rfl
   .cases h
  .cases h
 .cases h
theorem aiA(i:bV.ok P T){t m k r}(h:My T S t m k=some r)(j:Sat ρ S.nv r.nds):(w5 P (S.a_ ρ) t m k).map (λe=>(⟨.bL [],e,[]⟩:bZ))=some (r.a_ ρ):=by
 unfold My at h;split at h
 .rename_i n a row o p q;have:=i _ _ q;subst this;split at h
  .rename_i y s;split at h
   .rename_i c;cases h;obtain⟨w,x,u,v⟩:=UF c;have f:(S.a_ ρ).arg m=some (.v (.c (.mp n))):=bq.cG ρ o;have g:(S.a_ ρ).arg k=some (.v (.c (.p (.sc (.int .u64 (a.ev ρ).br))))):=bq.cG ρ p;obtain⟨l,q1,q2⟩:=j.dW rfl;simp[Nd.ev,LA]at q1;subst q1;simp only[w5,f,g,u,v,eK,s,b_,SB.a_];simp only[cv.a_,gL.a_,cU.a_,dk,gJ,SB.a_,q2,L.bC];rfl
   .cases h
  .cases h
 .cases h
theorem akx{t a}(h:(eW P t).NB=some a):∃c us,P.underlying t=some (.map c a)/\P.underlying c=some (.int .u64)/\(P.info? a).bind (·.zero)=some (.agg us):=by
 change KA P t=some a at h;unfold KA at h;split at h
 .rename_i c e f;split at h
  .rename_i us g i;cases h;exact⟨c,us,f,g,i⟩
  .cases h
 .cases h
theorem abN(F:bV.ok P T){t m k ok r}(h:Ni T S t m k ok=some r)(G:Sat ρ S.nv r.nds):(xJ P (S.a_ ρ) t m k ok).map bZ.pure=some (r.a_ ρ):=by
 unfold Ni at h;split at h
 .rename_i n a N O p Q;obtain⟨row,s,u⟩:=iy.1 Q;have:=F _ _ s;subst this;obtain⟨X,us,R,U,V⟩:=akx u;split at h
  .rename_i y ks W v;obtain⟨row,w,c⟩:=iy.1 v;have:=F _ _ w;subst this;have c:vN P N=some ks:=c;split at h
   .rename_i x H;cases h;have z:(S.a_ ρ).arg m=some (.v (.c (.mp n))):=bq.cG ρ O;have A:(S.a_ ρ).arg k=some (.v (.c (.p (.sc (.int .u64 (a.ev ρ).br))))):=bq.cG ρ p;obtain⟨l,q1,q2⟩:=G.dW rfl;cases q1;have B:Sat ρ (S.nv+1) (.call 3003 B9 [y,a,.v S.nv] 2 []::qm (.v (S.nv+1)) 0 ks):=G.2;obtain⟨⟨ls,q3,q4⟩,q5⟩:=B;have D:(db ρ x).length=ks.length:=by
     have:=uc (ρ:=ρ) H;have:=(nL this).1;simpa using this
    obtain⟨ys,I⟩:∃ys,ys=(At.ev ρ y).bC:=⟨_,rfl⟩
    simp only[Nd.ev,dk,gJ,B9,q2,<-I]at q3;simp only[L.bC]at q3;split at q3
    .rename_i Y e;split at e
     .rename_i hlen;cases e;simp at q3;subst q3;have J:=q4 0 (by simp[Nd.n]);have i:=q4 1 (by simp[Nd.n]);simp only[lh,oZ,Bi]at J i;have c1:At.ev ρ (.v (S.nv+1))=.c ((kj (a.ev ρ).br ys).getD (db ρ x)):=by simp only[At.ev,J,gx]
      have c2:At.ev ρ (.v (S.nv+2))=.b (kj (a.ev ρ).br ys).isSome:=by
       have i:ρ[S.nv+2]?=_:=i;simp only[At.ev,i,gx]
      have q5:Sat ρ (S.nv+3) (qm (.v (S.nv+1)) 0 ks):=q5;have E:Sat ρ (S.nv+3) (qm (.v (S.nv+1)) 0 (ks.map id)):=by rw[Gu];exact q5
      obtain⟨o,K⟩:=MO (f:=id) (g:=id) (ks:=ks) (j:=0) (λk p q l h=>Kd.Ab h (CR c k p).1) E;rw[Gu]at o;rw[c1]at o K;simp only[L.i_,vh]at o K;have M:(iL (S.nv+3) ks).map (SC.a_ ρ)=((kj (a.ev ρ).br ys).getD (db ρ x)).map C.p:=by
       rw[o,eo];rw[bD,hlen,D];exact de _
      simp only[xJ,z,A,R,U,V,eK,W,b_,SB.a_,vq (P:=P) c ρ,rj,uc H,<-I]
      cases ok with
      |false=>simp only[cv.a_,pS,if_false,SV.a_,bK.a_,M];rfl
      |true=>simp only[cv.a_,if_true,SV.a_,dk,gJ,bK.a_,SC.a_,Kd.pv,M,c2,L.ez];rfl
     .cases e
    .cases q3
   .cases h
  .cases h
 .cases h
theorem avU(p:bV.ok P T){s d x r}(h:MZ T S s d x=some r)(q:Sat ρ S.nv r.nds):ku P (S.a_ ρ) s d x=none/\(se P (S.a_ ρ) s d x).map bZ.of=some (r.a_ ρ):=by
 unfold MZ at h;split at h
 .rename_i n row t u;have:=p _ _ u;subst this;split at h
  .rename_i e a B v i;split at h
   .rename_i r' w;have:=p _ _ w;subst this;split at h
    .rename_i y;cases h;obtain⟨z,rfl⟩:=y;obtain⟨⟨ls,j,_⟩,_⟩:=q;have k:(S.a_ ρ).arg x=some (.v (.c (.own n))):=bq.cG ρ t;have A:=xG i;have m:=axC z;have c:(a.ev ρ).bC≠ []:=by
      grind[Nd.ev]
     refine⟨?_,?_⟩
     .simp_all[ku]
     .simp only[se,k,eK,v,b_,SB.a_,A,m];have o:(a.ev ρ).bC.head?.map List.length=some 1:=by
       simp only[Nd.ev]at j
       cases f:(a.ev ρ).bC with
       |nil=>exact absurd f c
       |cons r0 l=>
        rw[f]at j;by_cases g:r0.length=1
        .simp[g]
        .simp[At.ev,L.br,g]at j
      rw[bA ⟨trivial,c,o⟩];rfl
    .cases h
   .cases h
  .cases h
 .cases h
theorem att(i:bV.ok P T){t x r}(h:Lh T S t x=some r)(j:Sat ρ S.nv r.nds):lU P (S.a_ ρ) t x none none=none/\(su P (S.a_ ρ) t x).map bZ.of=some (r.a_ ρ):=by
 unfold Lh at h;split at h
 .rename_i n off row k m;have:=i _ _ m;subst this;split at h
  .rename_i cs cZ e o p;split at h
   .rename_i y z q s;have:=i _ _ q;subst this;split at h
    .rename_i u;cases h;obtain⟨c1,c2,c3,c4,c5⟩:=u;obtain⟨l,v,w⟩:=j.dW rfl;cases v;have a:(S.a_ ρ).arg x=some (.v (.c (.ptr n off))):=bq.cG ρ k;have c:lu P t=some (cZ,e):=p;obtain⟨ps,k1,k2⟩:=Hv (ρ:=ρ) s;have g:dZ P e=1:=c1;have f:m_ P e=true:=c2;have hlen:ps.length=cZ:=by
      have:=cO List.length k2;grind
     refine⟨?_,?_⟩
     .simp only[lU,a];rfl
     .simp only[su,a,eK,o,b_,SB.a_,c];rw[<-nR,<-lj,k1];simp only;rw[bA ⟨g,f,c3,c4,hlen⟩];simp only[b_,bZ.of,cv.a_,SV.a_,bK.a_,SC.a_,Kd.pv,w,L.bC,k2];rfl
    .cases h
   .cases h
  .cases h
 .cases h
theorem acJ(o:bV.ok P T){d t p s x r}(h:GM T S d t p s x=some r)(D:Sat ρ S.nv r.nds):(o7 P (S.a_ ρ) d t p s x).map bZ.of=some (r.a_ ρ):=by
 unfold GM at h;split at h
 .rename_i a M N q E u v;have:=o _ _ u;subst this;have:=o _ _ v;subst this;split at h
  .rename_i e k w F;split at h
   .rename_i O G;have:=o _ _ G;subst this;split at h
    .rename_i n b ps f g;cases h;have c:iR P e=some (n,b):=f;simp only[iy]at g;obtain⟨ks,y,H⟩:=g;obtain⟨⟨Q,l,R⟩,⟨U,V,W⟩,⟨X,m,I⟩,_⟩:=D;have i:fr P t=some e:=w;have z:=yu (P:=P) (t:=p) F;have A:(S.a_ ρ).arg s=some (.v (.c .nil)):=bq.cG ρ q;have B:(S.a_ ρ).arg x=some (.v (.c (.p (.sc (.int .i64 (a.ev ρ).br))))):=bq.cG ρ E;simp only[Nd.ev]at l;split at l
     .rename_i c1;cases l;have Y:(At.v S.nv).ev ρ=.r (List.replicate (a.ev ρ).br.toNat (db ρ ps)):=by
       simp_all[Nd.n,At.ev,gx]
      have j:0< (a.ev ρ).br:=by
       grind[Nd.ev,L.bC]
      simp only[Nd.ev,ZR]at m;obtain⟨c3,m⟩:=m;cases m;have J:(At.v (S.nv+2)).ev ρ=.r (List.replicate (a.ev ρ).br.toNat (db ρ ps)):=by
       have:=I 0 (by simp[Nd.n]);have e:S.nv+(Nd.jJ a ps b).n+(Nd.row (At.v S.nv) (At.i 0) n).n=S.nv+2:=rfl;simp_all[At.ev,gx,L.bC]
      have K:(a.ev ρ).br.toNat*b<=140737488355328:=by
       simp_all[At.ev,L.bC]
      simp only[o7,i,A,B,z,c,vq (P:=P) y ρ,uc H];rw[bA ⟨j,c1.2.1,K⟩];simp only[b_,bZ.of,cv.a_,gL.a_,cU.a_,dk,gJ,SB.a_,J,L.bC];rfl
     .cases l
    .cases h
   .cases h
  .cases h
 .cases h
theorem air(u:bV.ok P T){d t o s x r}(h:H6 T S d t o s x=some r)(J:Sat ρ S.nv r.nds):(qg P (S.a_ ρ) d t o s x).map bZ.of=some (r.a_ ρ):=by
 unfold H6 at h;split at h
 .rename_i m a V W v K w z;have:=u _ _ w;subst this;have:=u _ _ z;subst this;split at h
  .rename_i e k A y B M N;split at h
   .rename_i X O;have:=u _ _ O;subst this;split at h
    .rename_i n b ps f g;split at h
     .rename_i D;subst D;cases h;have c:iR P A=some (n,b):=f;simp only[iy]at g;obtain⟨ks,E,Q⟩:=g;obtain⟨⟨Y,p,Z⟩,⟨l2,h2,i2⟩,⟨l3,q,R⟩,_⟩:=J;have i:fr P t=some A:=B;have F:=yu (P:=P) (t:=o) M;have G:(S.a_ ρ).arg s=some (.v (.c (.own m))):=bq.cG ρ v;have H:(S.a_ ρ).arg x=some (.v (.c (.p (.sc (.int .i64 (a.ev ρ).br))))):=bq.cG ρ K;have j:(S.a_ ρ).hX A (.own m)=some ((y.ev ρ).bC,[m]):=by
       simp only[bx.hX,eK,N,b_,SB.a_,if_true]
      simp only[Nd.ev]at p;split at p
      .cases p;have e1:(At.v S.nv).ev ρ=.r (List.replicate (a.ev ρ).br.toNat (db ρ ps)):=by
        simp_all[Nd.n,At.ev,gx]
       have l:0< (a.ev ρ).br:=by
        grind[Nd.ev,L.bC]
       simp only[Nd.ev,ZR]at q;obtain⟨c3,q⟩:=q;cases q;have U:(At.v (S.nv+2)).ev ρ=.r ((y.ev ρ).bC++List.replicate (a.ev ρ).br.toNat (db ρ ps)):=by
        have:=R 0 (by simp[Nd.n]);have e:S.nv+(Nd.jJ a ps b).n+(Nd.row (At.v S.nv) (At.i 0) n).n=S.nv+2:=rfl;simp_all[At.ev,gx,L.bC]
       have I:o7 P (S.a_ ρ) d t o s x=none:=by
        simp_all[o7]
       simp only[qg,I,uN,i,G,H,F,c,vq (P:=P) E ρ,uc Q,j];rw[bA ⟨l,by simp_all[L.bC],by simp_all[L.bC],c3.2.2.1⟩];simp only[b_,bZ.of,cv.a_,gL.a_,cU.a_,dk,gJ,SB.a_,U,L.bC];rfl
      .cases p
     .cases h
    .cases h
   .cases h
  .cases h
 .cases h
theorem anE(y:bV.ok P T){t s x r}(h:Mx T S t s x=some r)(B:Sat ρ S.nv r.nds):(sC P (S.a_ ρ) t s x).map bZ.of=some (r.a_ ρ)/\∃a b c,r.v.a_ ρ=.v (.c (.sub a b c)):=by
 unfold Mx at h;split at h
 .rename_i m ln D e k E l;split at h
  .rename_i F a nds b J G H I;have:=y _ _ I;subst this;split at h
   .rename_i n bb g;split at h
    .rename_i o;subst o;cases h;have f:iR P F=some (n,bb):=g;have p:(S.a_ ρ).arg s=some (.v (.c (.sub m 0 (ln.ev ρ).br.toNat))):=bq.cG ρ k;have q:(S.a_ ρ).arg x=some (.v (.c (D.a_ ρ))):=bq.cG ρ E;obtain⟨u,v⟩:=Sat.app B;obtain⟨ls,j,z⟩:=v.one;simp only[Nd.ev,ZR]at j;obtain⟨A,j⟩:=j;cases j;have i:=z 0 (by simp[Nd.n]);have w:=z 1 (by simp[Nd.n]);simp only[lh,oZ,gx]at i;refine⟨?_,_,_,_,rfl⟩;simp only[sC,p,q,eK,G,b_,SB.a_,qM H u,zU y l,f];rw[bA ⟨trivial,A.1,A.2⟩];simp only[b_,bZ.of,cv.a_,gL.a_,cU.a_,dk,gJ,SB.a_,i,w,L.bC,SV.a_,bK.a_,SC.a_,L.br,ey];rfl
    .cases h
   .cases h
  .cases h
 .cases h
theorem awO{t s x r}(h:zo T S d t s x=some r):r.v.a_ ρ=.v (.c (.own d)):=by
 unfold zo at h
 repeat' split at h
 all_goals first| (cases h;rfl)|cases h
theorem aaH{t s x r}(h:yE T S d t s x=some r):r.v.a_ ρ=.v (.c (.own d)):=by
 unfold yE at h
 repeat' split at h
 all_goals first| (cases h;rfl)|cases h
theorem aum{t s x r}(h:vI T S d t s x=some r):r.v.a_ ρ=.v (.c (.own d)):=by
 unfold vI at h;split at h
 .rename_i a;cases h;exact awO a
 .exact aaH h
theorem abe(z:bV.ok P T){t s x r}(h:yE T S d t s x=some r)(D:Sat ρ S.nv r.nds):(sB P (S.a_ ρ) d t s x).map bZ.of=some (r.a_ ρ)/\na P (S.a_ ρ) d t s x=none:=by
 unfold yE at h;split at h
 .rename_i y E e m o p;split at h
  .rename_i n b nds a c F;cases h;obtain⟨A,q,c⟩:=iy.1 c;have:=z _ _ q;subst this;have f:iR P e=some (n,b):=c;have g:=T4 z p;obtain⟨u,i⟩:=Sat.app D;obtain⟨l,B,K⟩:=i.dW rfl;obtain⟨M,j,G⟩:=Sat.dW i.2 rfl;have k1:(S.a_ ρ).arg s=some (.v (.c (.p .nl))):=bq.cG ρ m;have k2:(S.a_ ρ).arg x=some (.v (.c (E.a_ ρ))):=bq.cG ρ o;have H:=qM F u;have v:(a.ev ρ).bC≠ []:=by
    intro I;simp only[Nd.ev,I]at B;simp[At.ev,L.br]at B
   simp only[Nd.ev]at j;split at j
   .rename_i k;have w:(a.ev ρ).bC.length<=9223372036854775807/\(a.ev ρ).bC.length*b<=140737488355328/\ct n (a.ev ρ).bC=true:=by
     have e0:(At.r0.ev ρ).bC=[]:=rfl;rw[e0,jH,jV]at k;exact⟨k.1,k.2.1,k.2.2.2⟩
    cases j;refine⟨?_,?_⟩
    .simp only[sB,g,f,k1,k2,H];rw[bA ⟨v,w⟩];have J:At.ev ρ (.v (S.nv+gq nds+1))=_:=G;simp only[b_,bZ.of,cv.a_,gL.a_,cU.a_,dk,gJ,SB.a_,J,L.bC];rfl
    .unfold na;simp only[g,f,k1,k2];rfl
   .cases j
  .cases h
 .cases h
theorem apJ(o:bV.ok P T){b args ts r}(h:JQ T S d b args ts=some r)(i:Sat ρ S.nv r.nds){Sp}(u:Sp d=some (r.v.a_ ρ,r.e.a_ ρ,r.rd)):kB P Sp (S.a_ ρ) d b args ts=some (r.a_ ρ):=by
 unfold JQ at h;split at h
 .exact azv o h i
 .rename_i s x t D;split at h
  .rename_i p;have B:vI T S d t s x=some r->kB P Sp (S.a_ ρ) d .append [s,x] [t,D]=some (r.a_ ρ):=λh=>by
    simp only[kB,bA p,u];rw[aum h];unfold vI at h;split at h
    .rename_i v;cases h;exact avV (anz o v i)
    .obtain⟨E,F⟩:=abe o h i;show(pt P (S.a_ ρ) d t s x).map bZ.of=some (r.a_ ρ);unfold pt;rw[F];exact E
   split at h
   .split at h
    .rename_i r' w;cases h;obtain⟨g,a,b,c,n⟩:=anE o w i;simp_all[kB]
    .exact B h
   .exact B h
  .rename_i p;simp only[kB,bH p];grind[acJ,Option.map_eq_some_iff,qg,air]
 .exact aqi o h i
 .rename_i _ x y;split at h
  .rename_i k a z b j q;cases h;obtain⟨l,g,n⟩:=i.dW rfl;cases g;have f:(S.a_ ρ).arg x=some (.v (.c (.p (.sc (.int k (a.ev ρ).br))))):=bq.cG ρ j;have m:(S.a_ ρ).arg y=some (.v (.c (.p (.sc (.int z (b.ev ρ).br))))):=bq.cG ρ q;simp only[kB,f,m,Ir,b_,bZ.pure,cv.a_,SV.a_,bK.a_,SC.a_,Kd.pv,n];rfl
  .cases h
 .rename_i _ x y;split at h
  .rename_i k a z b j q;cases h;obtain⟨l,g,n⟩:=i.dW rfl;cases g;have f:(S.a_ ρ).arg x=some (.v (.c (.p (.sc (.int k (a.ev ρ).br))))):=bq.cG ρ j;have m:(S.a_ ρ).arg y=some (.v (.c (.p (.sc (.int z (b.ev ρ).br))))):=bq.cG ρ q;simp only[kB,f,m,MX,b_,bZ.pure,cv.a_,SV.a_,bK.a_,SC.a_,Kd.pv,n];rfl
  .cases h
 .rename_i x t;split at h
  .rename_i row j v;have:=o _ _ v;subst this;split at h
   .rename_i A;cases h;obtain⟨e,G⟩:=rh.1 A;have f:(S.a_ ρ).arg x=some (.v (.c .nil)):=bq.cG ρ j;simp only[kB,f,xG G];rfl
   .cases h
  .cases h
 .exact aiA o h i
 .rename_i _ x y;split at h
  .rename_i a b j q;cases h;obtain⟨l,g,n⟩:=i.dW rfl;have g:=zn g;cases g;have f:(S.a_ ρ).arg x=some (.v (.c (.p (.sc (.float .f64 (fK (a.ev ρ).br)))))):=bq.cG ρ j;have m:(S.a_ ρ).arg y=some (.v (.c (.p (.sc (.float .f64 (fK (b.ev ρ).br)))))):=bq.cG ρ q;simp only[kB,f,m,if_true,bZ.pure,cv.a_,SV.a_,bK.a_,SC.a_,Kd.pv,n];rfl
  .cases h
 .rename_i _ x;split at h
  .rename_i a j;cases h;obtain⟨l,g,n⟩:=i.dW rfl;have g:=zn g;cases g;have f:(S.a_ ρ).arg x=some (.v (.c (.p (.sc (.complex .f64 (fK (a.ev ρ).fS.1) (fK (a.ev ρ).fS.2)))))):=bq.cG ρ j;simp only[kB,f,bZ.pure,cv.a_,SV.a_,bK.a_,SC.a_,Kd.pv,n];rfl
  .cases h
 .rename_i _ x;split at h
  .rename_i a j;cases h;obtain⟨l,g,n⟩:=i.dW rfl;have g:=zn g;cases g;have f:(S.a_ ρ).arg x=some (.v (.c (.p (.sc (.complex .f64 (fK (a.ev ρ).fS.1) (fK (a.ev ρ).fS.2)))))):=bq.cG ρ j;simp only[kB,f,bZ.pure,cv.a_,SV.a_,bK.a_,SC.a_,Kd.pv,n];rfl
  .cases h
 .cases h
theorem z_(v):(cv.pure v).a_ ρ=bZ.pure (v.a_ ρ):=rfl
theorem aie(g:bV.ok P T)(Q:eP.ok P C){op r}(h:kA T C S d op=some r)(j:Sat ρ S.nv r.nds):
 ∀Sp:Spec,Sp d=some (r.v.a_ ρ,r.e.a_ ρ,r.rd)->cq P Sp (S.a_ ρ) d op=some (r.a_ ρ):=by
 intro Sp D
 cases op with
 |move x=>
  cases x with
  |tmp t=>
   simp only[kA,bY]at h;obtain⟨v,A,rfl⟩:=h;simp_all[bq.a_,cq,b_,z_]
  |_=>
   simp only[kA,bY]at h;obtain⟨v,A,rfl⟩:=h;simp only[cq,bq.cG ρ A,b_,z_]
 |assign x=>
  cases x with
  |tmp t=>
   simp only[kA,bY]at h;obtain⟨v,A,rfl⟩:=h;simp_all[bq.a_,cq,b_,z_]
  |_=>
   simp only[kA,bY]at h;obtain⟨v,A,rfl⟩:=h;simp only[cq,bq.cG ρ A,b_,z_]
 |pick c a b=>
  simp only[kA]at h;split at h
  .rename_i t H;simp only[bY]at h;obtain⟨v,A,rfl⟩:=h;have R:(S.a_ ρ).arg c=some (.v (.c (.p (.sc (.bool t))))):=bq.cG ρ H;grind[cq,Bool.false_eq_true,bq.cG,z_]
  .cases h
 |alloc e=>
  simp only[kA,bY,iy]at h;obtain⟨ks,⟨row,E,U⟩,rfl⟩:=h;have:=g _ _ E;subst this;simp only[cq,vq (P:=P) U ρ];rfl
 |box e x=>
  simp only[kA,bY]at h;obtain⟨y,V,rfl⟩:=h;simp only[cq,bq.CD ρ V,b_,bK.zD];rfl
 |build t parts=>
  simp only[kA]at h;split at h
  .cases h
  .exact aro g h
 |buildSlice t len parts=>exact aff g h j
 |load t x=>exact agQ g h j
 |store t x y=>exact atS g h j
 |nilCheck x=>
  simp only[kA]at h;split at h
  .rename_i o;cases h;have:=bq.cG ρ o;simp only[cq,this,SV.a_,bK.a_,SC.a_];rfl
  .rename_i o;cases h;have:=bq.cG ρ o;simp only[cq,this,SV.a_,bK.a_,SC.a_];rfl
  .rename_i o;cases h;have:=bq.cG ρ o;simp only[cq,this,SV.a_,bK.a_,SC.a_];rfl
  .rename_i o;cases h;have:=bq.cG ρ o;simp only[cq,this,SV.a_,bK.a_,SC.a_];rfl
  .rename_i o;cases h;have:=bq.cG ρ o;simp only[cq,this,SV.a_,bK.a_,SC.a_];rfl
  .cases h
 |binOp op t x y yt=>exact apU g h j
 |unOp op t x=>exact akT h j
 |convert s t x=>
  grind[kA,aaZ,Option.map_eq_some_iff,cq,avU]
 |makeSlice t l c=>exact amk g h j
 |sliceToArrayPointer t x=>
  have:=agE g h j;simp_all[bY,cq]
 |slice t x lo B mx=>
  cases mx with
  |some mx=>
   cases B with
   |none=>cases h
   |some B=>
    have:=ayp g h j;simp_all[bY,cq]
  |none=>
   grind[kA,ayQ,Option.map_eq_some_iff,cq,att]
 |makeMap t r0=>
  cases r0 with
  |some _=>cases h
  |none=>cases h;rfl
 |mapUpdate t m k x=>exact afV g h j
 |lookup t m k ok=>exact abN g h j
 |fieldAddr t x f=>exact acp g h
 |indexAddr t x i=>exact avk g h j
 |index t x i =>
  simp only[kA]at h;split at h
  .rename_i a k b row o B E;have:=g _ _ E;subst this;split at h
   .rename_i W;cases h;obtain⟨l,p,F⟩:=j.dW rfl;simp only[Nd.ev]at p;split at p
    .rename_i X;split at p
     .rename_i bb G;cases p;have u:(S.a_ ρ).arg x=some (.v (.c (.p (.sc (.string (a.ev ρ).fU))))):=bq.cG ρ o;have w:(S.a_ ρ).arg i=some (.v (.c (.p (.sc (.int k (b.ev ρ).br))))):=bq.cG ρ B;simp only[cq,u,w,wQ (P:=P) W,G];rw[jK X];simp only[bZ.pure,cv.a_,SV.a_,bK.a_,SC.a_,Kd.pv,F,L.br];rfl
     .cases p
    .cases p
   .cases h
  .rename_i cs k b row o B E;have:=g _ _ E;subst this;split at h
   .rename_i n e Y;split at h
    .rename_i re Z;have:=g _ _ Z;subst this;split at h
     .rename_i ks nds H;split at h
      .rename_i z;simp only[bY]at h;obtain⟨v,p,rfl⟩:=h;obtain⟨⟨ls,F,_⟩,I⟩:=j;simp only[Nd.ev]at F;split at F
       .rename_i G;have u:(S.a_ ρ).arg x=some (.v (.agg (cs.map (SC.a_ ρ)))):=bq.cG ρ o;have w:(S.a_ ρ).arg i=some (.v (.c (.p (.sc (.int k (b.ev ρ).br))))):=bq.cG ρ B;obtain⟨hu,_⟩:=EP Y;have q:m_ P e=true:=z;have J:Sat ρ S.nv nds:=I;obtain⟨h4,h5⟩:=K9 H J;have O:=PL (t:=e) (off:=0) p h4 (λjj hj=>by
         obtain⟨k,a,k1,k2,k3⟩:=h5 jj om;exact⟨k,a,k1,by exact k2,k3⟩)
        have K:(eW P e).size=dZ P e:=rfl;rw[jV,K]at O;simp only[cq,u,w,hu];rw[jK ⟨G.1,G.2,q⟩,O];rfl
       .cases F
      .cases h
     .cases h
    .cases h
   .cases h
  .cases h
 |extract t i=>
  cases t with
  |tmp t=>
   simp only[kA]at h;split at h
   .rename_i xs o;split at h
    .rename_i x M;cases h;have p:(S.a_ ρ).tmps[t]?=some (.bL (xs.map (bK.a_ ρ))):=by simp only[bq.a_,cX,o];rfl
     simp only[cq,p,cX,M,b_];rfl
    .cases h
   .cases h
  |_=>cases h
 |makeFunc fn first captured=>
  cases fn with
  |func f=>
   simp only[kA]at h;split at h
   .rename_i hz;simp only[bY]at h;obtain⟨ns,N,rfl⟩:=h;simp only[cq,bA hz,UT N];rfl
   .cases h
  |_=>cases h
 |panic x=>
  cases h;obtain⟨⟨ls,p,_⟩,_⟩:=j;simp[Nd.ev,At.ev,L.br]at p
 |makeInterface t x=>
  cases h;obtain⟨⟨ls,p,_⟩,_⟩:=j;simp[Nd.ev,At.ev,L.br]at p
 |call c=>
  obtain⟨callee,args,ts⟩:=c
  cases callee with
  |builtin b=>exact apJ g h j D
  |invoke=>cases h
  |value f=>exact alu Q h j Sp D
 |_=>cases h
end
theorem aqt{P Sp Sp' st d op}(h:Sp d=Sp' d):cq P Sp st d op=cq P Sp' st d op:=by
 cases op with
 |call c=>
  obtain⟨callee,args,ts⟩:=c
  cases callee with
  |value f=>simp only[cq,tX,h]
  |builtin b=>simp only[cq,kB,h]
  |_=>rfl
 |slice t x lo a mx=>cases mx<;>cases a<;>rfl
 |move x=>cases x<;>rfl
 |assign x=>cases x<;>rfl
 |extract t i=>cases t<;>rfl
 |makeFunc fn=>cases fn<;>rfl
 |makeMap t r=>cases r<;>rfl
 |_=>rfl
theorem Vf{P Sp Sp' b ops}:∀{l}{k}{st},(∀j,k<=j->Sp (b+8*j)=Sp' (b+8*j))->mz P Sp b ops l k st=mz P Sp' b ops l k st
 |[],_,_,_=>rfl
 |o::l,k,st,h=>by
  have a:l' P Sp b ops st k o=l' P Sp' b ops st k o:=by
   grind[l',aqt]
  simp only[mz,a]
  cases l' P Sp' b ops st k o with
  |none=>rfl
  |some r=>simp only[Vf (l:=l) (k:=k+1) (λj c=>h j om)]
inductive RT where
 |bp (S:bq) (ts:kf)
 |ops (nds:List Nd) (k:RT)
 |ite (a:At) (x y:RT)
 |stuck
deriving Inhabited
def RT.a_:RT->List L->Option ((bq×kf)×List L)
 |.bp S ts,ρ=>some ((S,ts),ρ)
 |.ops nds k,ρ=>match qh ρ nds with
  |some h=>k.a_ h
  |none=>none
 |.ite a x y,ρ=>if(a.ev ρ).ez then x.a_ ρ else y.a_ ρ
 |.stuck,_=>none
def bq.e8(S:bq)(d:Option Nat)(v:SV):bq:=match d with
 |some d=> {S with tmps:=S.tmps.set d v}
 |none=>S
def bq.zA(S:bq)(e:gL):bq:={S with heap:=e.ch++S.heap,bu:=e.bu++S.bu}
def bq.more(S:bq)(n:Nat):bq:={S with nv:=S.nv+n}
def bq.raw(S:bq):cF->List Nat
 |.tmp t=>match S.tmps[t]? with
  |some v=>v.names
  |none=>[]
 |_=>[]
def bq.ni(S:bq):Op->List Nat
 |.extract _ _=>[]
 |.move (.tmp _)=>[]
 |.assign (.tmp _)=>[]
 |op=>op.operands.toList.flatMap S.raw
def CK(ops:Array Oper)(S:bq)(o:Oper):Option Bool:=match o.guard with
 |none=>some true
 |some (j,want)=>match(ops[j]?).bind (·.dst)with
  |some d=>match S.tmps[d]? with
   |some (.v (.c (.p .bool (.b t))))=>some (t==want)
   |some (.bL [])=>some false
   |_=>none
  |none=>none
def bq.open(S:bq)(t:Nat):Option (Nat×Nat):=match S.tmps[t]? with
 |some (.v (.c (.p .bool (.v i))))=>some (i,t)
 |_=>none
def asks(ops:Array Oper)(S:bq)(o:Oper):Option (Nat×Nat):=
 match(match o.guard with
  |some (j,_)=>match(ops[j]?).bind (·.dst)with
   |some d=>S.open d
   |none=>none
  |none=>none),o.op with
 |some x,_=>some x
 |none,.pick (.tmp c) _ _=>S.open c
 |none,_=>none
def bq.Ct(S:bq)(t:Nat)(x:Bool):bq:={S with tmps:=S.tmps.set t (.c1 (.p .bool (.b x)))}
def SV.fix(i:Nat)(j:Int):SV->SV
 |.v (.c (.p (.int k) (.v a)))=>if a=i then .v (.c (.p (.int k) (.i j)))else .v (.c (.p (.int k) (.v a)))
 |x=>x
def bq.fix(S:bq)(i:Nat)(j:Int):bq:={S with tmps:=S.tmps.map (SV.fix i j)}
def alX(T:bV)(ops:Array Oper)(S:bq)(o:Oper):Option (Nat×eX×Nat):=match o.op,CK ops S o with
 |.indexAddr ty x (.tmp t),some true=>match S.arg x,S.tmps[t]?,(List.lookup ty T).bind Ty.arr with
  |some (.v (.c (.ptr n off))),some (.v (.c (.p (.int k) (.v i)))),some (cZ,_)=>match List.lookup n S.heap with
   |some (.box cs)=>if decide (cZ<=16)&& (((cs.drop off).take cZ).any (λc=>match c with| .p _ _=>false|_=>true)||ops.any (λa=>match a.op with| .store _ (.tmp e) _=>o.dst==some e|_=>false))then some (i,k,cZ)else none
   |_=>none
  |_,_,_=>none
 |_,_=>none
def Dx(f:bq->Option RT)(i:Nat)(k:eX):Nat->Int->bq->Option RT
 |0,_,_=>some .stuck
 |c+1,j,S=>match f ((S.more 1).fix i j),Dx f i k c (j+1) (S.more 1)with
  |some a,some b=>some (.ops [.bi .eql k (.v i) (.i j)] (.ite (.v S.nv) a b))
  |_,_=>none
def CX(e:gL):List Nat:=e.ch.map (·.1)++e.bu
def r9(T:bV)(C:eP)(b:Nat)(ops:Array Oper):Nat->List Oper->Nat->bq->kf->Option RT
 |0,_,_,_,_=>none
 |_+1,[],_,S,a=>some (.bp S a.reverse)
 |n+1,o::l,k,S,a=>match asks ops S o with
  |some (i,t)=>if i<S.nv then match r9 T C b ops n (o::l) k (S.Ct t true) a,r9 T C b ops n (o::l) k (S.Ct t false) a with
   |some c,some t2=>some (.ite (.v i) c t2)
   |_,_=>none
   else none
  |none=>match alX T ops S o with
  |some (i,e,cZ)=>if i<S.nv then Dx (λf=>r9 T C b ops n (o::l) k f a) i e cZ 0 S else none
  |none=>match CK ops S o with
   |some false=>r9 T C b ops n l (k+1) (S.e8 o.dst (.bL [])) (([],[])::a)
   |some true=>match kA T C S (b+8*k) o.op with
    |some r=>if tm S.nv r.nds then(r9 T C b ops n l (k+1) (((S.zA r.e).e8 o.dst r.v).more (gq r.nds)) ((S.ni o.op++r.rd,CX r.e)::a)).map (.ops r.nds)else none
    |none=>if(List.lookup 999998 T).isSome then some .stuck else none
   |none=>none
section
variable{P:cC}{T:bV}{C:eP}{ρ:List L}{b:Nat}{ops:Array Oper}
theorem S0{S:bq}{d v}:(S.e8 d v).a_ ρ=(S.a_ ρ).put d (v.a_ ρ):=by
 cases d with
 |none=>rfl
 |some d=>simp_all[bq.e8,bq.a_,bx.put]
theorem agL{S:bq}{e}:(S.zA e).a_ ρ=(S.a_ ρ).dS (e.a_ ρ):=by
 simp_all[bq.zA,bq.a_,bx.dS,gL.a_,cU.a_]
theorem alg{S:bq}{n}:(S.more n).a_ ρ=S.a_ ρ:=rfl
theorem ajW{S:bq}{x}:(∀v,x=.const v->(FD v).isSome=true\/(ofValue v).names=[])->(S.a_ ρ).raw x=S.raw x:=by
 intro a
 cases x with
 |tmp t=>
  simp only[bx.raw,bq.raw,bq.a_,cX]
  cases S.tmps[t]? with
  |none=>rfl
  |some v=>simp only[b_,SV.nO]
 |const v=>
  simp only[bx.raw,bq.raw];unfold ofValue;split
  .split
   .rename_i us _;show(us.toList.map lG).flatMap C.names=[]
    rw[List.flatMap_eq_nil_iff];intro c a;obtain⟨u,_,rfl⟩:=fE.1 a;unfold lG;split
    .rfl
    .split<;>rfl
   .rfl
  .split<;>rfl
  .unfold lG;split
   .rfl
   .split<;>rfl
 |_=>rfl
theorem aqq(v):(ofValue v).names=[]:=by
 unfold ofValue;split
 .split
  .rename_i us _;show(us.toList.map lG).flatMap C.names=[]
   rw[List.flatMap_eq_nil_iff];intro c a;obtain⟨u,_,rfl⟩:=fE.1 a;unfold lG;split
   .rfl
   .split<;>rfl
  .rfl
 .split<;>rfl
 .unfold lG;split
  .rfl
  .split<;>rfl
theorem aea{S:bq}{op}:(S.a_ ρ).ni op=S.ni op:=by
 have:∀l:List cF,l.flatMap (S.a_ ρ).raw=l.flatMap S.raw:=by
  intro l
  induction l with
  |nil=>rfl
  |cons x l ih=>simp_all[ajW,aqq]
 cases op with
 |move x=>cases x<;>first|rfl|exact this _
 |assign x=>cases x<;>first|rfl|exact this _
 |_=>first|rfl|exact this _
theorem aoG(e):(e.a_ ρ).ch.map (·.1)++(e.a_ ρ).bu=CX e:=by
 simp only[CX,gL.a_,cU.a_,gp];rfl
theorem S4{S:bq}{i t x}(h:S.open t=some (i,t))(f:((At.v i).ev ρ).ez=x):(S.Ct t x).a_ ρ=S.a_ ρ:=by
 unfold bq.open at h;split at h
 .rename_i g e;cases h;simp only[bq.Ct,bq.a_,List.map_set];congr 1;apply sP;intro j;rw[Gp];split
  .rename_i a;subst a;have c:=(dO.1 e).1;rw[bA (by simpa using c),cX,e];simp only[b_,SV.a_,bK.a_,SC.a_,Kd.pv,f];rfl
  .rfl
 .cases h
theorem azy{S o i t}(h:asks ops S o=some (i,t)):S.open t=some (i,t):=by
 have key:∀d,S.open d=some (i,t)->S.open t=some (i,t):=by
  intro d a;have:d=t:=by
   unfold bq.open at a;grind
  simp_all
 grind[asks]
theorem W9{S o t}(h:CK ops S o=some t):rT ops (S.a_ ρ) o=some t:=by
 unfold CK at h;unfold rT
 cases c:o.guard with
 |none=>simp_all
 |some y=>
  obtain⟨j,want⟩:=y;rw[c]at h;simp only at h⊢
  cases e:(ops[j]?).bind (·.dst)with
  |none=>simp_all
  |some d=>
   rw[e]at h;simp only at h⊢;split at h
   .rename_i f a;cases h;have:(S.a_ ρ).tmps[d]?=some (.v (.c (.p (.sc (.bool f))))):=by simp only[bq.a_,cX,a];rfl
    rw[this]
   .rename_i a;cases h;have:(S.a_ ρ).tmps[d]?=some (.bL []):=by simp only[bq.a_,cX,a];rfl
    rw[this]
   .cases h
theorem amY{S:bq}{i j}(a:((At.v i).ev ρ).br=j):(S.fix i j).a_ ρ=S.a_ ρ:=by
 simp only[bq.fix,bq.a_,gp];congr 1;apply gz;intro x _;simp only[Function.comp];unfold SV.fix;split
 .split
  .rename_i c;subst c;simp only[SV.a_,bK.a_,SC.a_,Kd.pv,a];rfl
  .rfl
 .rfl
theorem WH{f:bq->Option RT}{i:Nat}{k:eX}:∀{c:Nat}{j:Int}{S:bq}{t:RT}{ρ:List L}{x:(bq×kf)×List L},Dx f i k c j S=some t->ρ.length=S.nv->i<S.nv->t.a_ ρ=some x->
 ∃g a ρ1,f g=some a/\a.a_ ρ1=some x/\ρ1.length=g.nv/\(∃ys,ρ1=ρ++ys)/\∀l,g.a_ (ρ1++l)=S.a_ (ρ1++l)
 |0,j,S,t,ρ,x,h,n,o,e=>by cases h;cases e
 |c + 1,j,S,t,ρ,x,h,n,o,e=>by
  simp only[Dx]at h;split at h
  .rename_i a z p q;cases h;simp only[RT.a_,qh,Nd.ev,dV,b_]at e;have A:((At.v S.nv).ev (ρ++[L.b (decide (((At.v i).ev ρ).br=((At.i j).ev ρ).br))])).ez=decide (((At.v i).ev ρ).br=j):=by
    have e0:(ρ++[L.b (decide (((At.v i).ev ρ).br=((At.i j).ev ρ).br))])[S.nv]?=some (L.b (decide (((At.v i).ev ρ).br=((At.i j).ev ρ).br))):=by
     simp_all
    have r:(At.v S.nv).ev (ρ++[L.b (decide (((At.v i).ev ρ).br=((At.i j).ev ρ).br))])=L.b (decide (((At.v i).ev ρ).br=((At.i j).ev ρ).br)):=by
     show((ρ++[L.b (decide (((At.v i).ev ρ).br=((At.i j).ev ρ).br))])[S.nv]?).getD (L.b false)=_;rw[e0];rfl
    rw[r];rfl
   have s:∀ys,(At.v i).ev (ρ++ys)=(At.v i).ev ρ:=λys=>At.fm (m:=S.nv) (by grind[At.in]) om
   split at e
   .refine⟨(S.more 1).fix i j,a,_,p,e,by simp[bq.fix,bq.more,n],⟨_,rfl⟩,λl=>?_⟩;rw[amY (by simp_all)];rfl
   .obtain⟨g,u,ρ1,k1,k2,v,⟨ys,w⟩,y⟩:=WH q (by simp[bq.more,n]) (by grind[bq.more]) e;exact⟨g,u,ρ1,k1,k2,v,⟨_,by rw[w,dI]⟩,y⟩
  .cases h
theorem wX(x:bV.ok P T)(y:eP.ok P C):∀{n:Nat}{l:List Oper}{k:Nat}{S z:bq}{f g:kf}{t:RT}{ρ c:List L},r9 T C b ops n l k S f=some t->ρ.length=S.nv->t.a_ ρ=some ((z,g),c)->
 z.nv=c.length/\(∃ys,c=ρ++ys)/\∃rs ts Sp,mz P Sp b ops l k (S.a_ c)=some (rs,ts,z.a_ c)/\g=f.reverse++ts
 |0,_,_,_,_,_,_,_,_,_,h,_,_=>by cases h
 |n+1,[],k,S,z,f,g,t,ρ,c,h,p,e=>by
  cases h;cases e;exact⟨p.symm,⟨[],by simp⟩,[],[],λ_=>none,rfl,by simp⟩
 |n+1,o::l,k,S,z,f,g,t,ρ,c,h,p,e=>by
  simp only[r9]at h;split at h
  .rename_i i Z A;split at h
   .rename_i D;split at h
    .rename_i t1 t2 K M;cases h;have q:=azy A;simp only[RT.a_]at e;split at e
     .rename_i F;obtain⟨k1,⟨ys,k2⟩,rs,ts,Sp,s,u⟩:=wX x y K p e;have v:((At.v i).ev c).ez=true:=by rw[k2,At.fm (m:=S.nv) (by simpa[At.in]using D) om];exact F
      exact⟨k1,⟨ys,k2⟩,rs,ts,Sp,by rw[<-S4 q v];exact s,u⟩
     .rename_i F;obtain⟨k1,⟨ys,k2⟩,rs,ts,Sp,s,u⟩:=wX x y M p e;have v:((At.v i).ev c).ez=false:=by rw[k2,At.fm (m:=S.nv) (by simpa[At.in]using D) om];simpa using F
      exact⟨k1,⟨ys,k2⟩,rs,ts,Sp,by rw[<-S4 q v];exact s,u⟩
    .cases h
   .cases h
  .split at h
   .split at h
    .rename_i D;obtain⟨S1,a,ρ1,N,O,Q,⟨xs,R⟩,U⟩:=WH h p D e;obtain⟨k1,⟨ys,k2⟩,rs,ts,Sp,s,u⟩:=wX x y N Q O;refine⟨k1,⟨xs++ys,by rw[k2,R,dI]⟩,rs,ts,Sp,?_,u⟩;rw[k2,<-U ys,<-k2];exact s
    .cases h
   split at h
   .rename_i G;obtain⟨k1,k2,rs,ts,Sp,s,u⟩:=wX x y h (by cases o.dst<;>exact p) e;refine⟨k1,k2,none::rs,([],[])::ts,Sp,?_,by rw[u];simp⟩;have w:=W9 (ρ:=c) G;simp only[mz,l',w];have E:gZ (S.a_ c) o none=(S.e8 o.dst (.bL [])).a_ c:=by rw[S0];rfl
    rw[E,s];rfl
   .rename_i G;split at h
    .rename_i r V;split at h
     .rename_i H;simp only[bY]at h;obtain⟨t',W,rfl⟩:=h;simp only[RT.a_]at e;split at e
      .rename_i ρ1 J;obtain⟨xs,E,X⟩:=Ed J;have I:(((S.zA r.e).e8 o.dst r.v).more (gq r.nds)).nv=S.nv+gq r.nds:=by cases o.dst<;>rfl
       obtain⟨k1,⟨ys,k2⟩,rs,ts,Sp,s,u⟩:=wX x y W (by rw[I,E,cD,p,X]) e;have B:Sat c S.nv r.nds:=by
        rw[k2,<-p];exact HU (by rw[p];exact H) J
       let Sp':Spec:=λd=>if d=b+8*k then some (r.v.a_ c,r.e.a_ c,r.rd)else Sp d
       have q:=aie (ρ:=c) x y V B Sp' (by simp[Sp']);refine⟨k1,⟨xs++ys,by rw[k2,E,dI]⟩,some (r.a_ c)::rs,(S.ni o.op++r.rd,CX r.e)::ts,Sp',?_,by rw[u];simp⟩;have w:=W9 (ρ:=c) G;simp only[mz,l',w,q,b_];have Y:gZ (S.a_ c) o (some (r.a_ c))=(((S.zA r.e).e8 o.dst r.v).more (gq r.nds)).a_ c:=by rw[alg,S0,agL];rfl
       rw[Y,Vf (Sp':=Sp) (λj hj=>by simp only[Sp'];rw[bH om]),s];simp only[um,aea,iT,qA,cv.a_,aoG]
      .cases e
     .cases h
    .split at h
     .cases h;cases e
     .cases h
   .cases h
end
end
end
end Go.Proofs.YtiikkkhcolcebaaGreatDoor
