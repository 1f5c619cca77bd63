/- A part of the proof. -/
import Derived.Test.YtndegphojkiblaaGreatDoorG10
set_option linter.all false
set_option maxHeartbeats 4000000
set_option maxRecDepth 100000
namespace Go.Proofs.YtndegphojkiblaaGreatDoor
noncomputable section
section
open Go.RowKit
open Classical
abbrev cK:=List au
def cK.ok (P:bB) (C:cK):Prop:=∀s∈C,s.ok P
def af.Dm (S:af):List bD→Option (List aF)
 |[]=>some []
 |x::l=>match S.eG x,S.Dm l with
  |some y,some ys=>some (y::ys)
  |_,_=>none
def af.callee (S:af):bD→Option (FuncId×List Nat)
 | .func f=>some (f,[])
 |x=>match S.arg x with
  |some (.v (.c (.fn f cN)))=>some (f,cN)
  |_=>none
def Cb (T:aU) (S:af) (d:Nat) (f:FuncId) (xs:List aF):cK→Option bz
 |[]=>none
 | s::C=>if s.f=f then match F' T S d xs s with
   |some r=>some r
   |none=>Cb T S d f xs C
  else Cb T S d f xs C
def MU (T:aU) (C:cK) (S:af) (d:Nat) (x:bD) (args:List bD):Option bz:=
 match S.callee x,S.Dm args with
 |some (f,cN),some xs=>Cb T S d f (xs++cN.map fun n=> .c (.ptr n 0)) C
 |_,_=>none
def af.cN (S:af):List bD→Option (List Nat)
 |[]=>some []
 |x::l=>match S.arg x,S.cN l with
  |some (.v (.c (.ptr n 0))),some ns=>some (n::ns)
  |_,_=>none
def af.wZ:List SC→Option (List (List (Kd×At)))
 |[]=>some []
 | .p k x::l=> (af.wZ l).map ([(k,x)]:: ·)
 | .nil::l=> (af.wZ l).map ([(.sl,.r0)]:: ·)
 |_=>none
def C0:List L→Option (List L)
 |[x,y]=>match y.az with
  |[.sc (.int .u64 z)::ps]=>some [.r (nU z ps x.az)]
  |_=>none
 |_=>none
def Mg:List L→Option (List L)
 |[x,k]=>some [.r (nP k.ah x.az)]
 |_=>none
def DA:List L→Option (List L)
 |[x,k,y]=>match y.az with
  |[zs]=>if((hZ k.ah x.az).getD zs).length=zs.length then some [.c ((hZ k.ah x.az).getD zs),.b (hZ k.ah x.az).isSome]else none
  |_=>none
 |_=>none
def Ni (T:aU) (S:af) (t:a6) (m k x:bD):Option bz:=match S.arg m,S.arg k,S.arg x,List.lookup t T with
 |some (.v (.c (.mp n))),some (.v (.c (.p (.int .u64) a))),some (.v (.agg cs)),some r=>match List.lookup n S.heap,af.wZ cs with
  |some (.map y),some qs=>if r.GS then some ⟨[.lit [(.int .u64,a)::qs.flatten],.call 3001 C0 [y,.v S.nv] 1 []],.c1 .dead,⟨[(n,.map (.v (S.nv+1)))],[]⟩,[]⟩else none
  |_,_=>none
 |_,_,_,_=>none
def M4 (T:aU) (S:af) (t:a6) (m k:bD):Option bz:=match S.arg m,S.arg k,List.lookup t T with
 |some (.v (.c (.mp n))),some (.v (.c (.p (.int .u64) a))),some r=>match List.lookup n S.heap with
  |some (.map y)=>if r.GS then some ⟨[.call 3002 Mg [y,a] 1 []],.aj [],⟨[(n,.map (.v S.nv))],[]⟩,[]⟩else none
  |_=>none
 |_,_,_=>none
def NH (T:aU) (S:af) (t:a6) (m k:bD) (ok:Bool):Option bz:=match S.arg m,S.arg k,(List.lookup t T).bind Ty.N3 with
 | some (.v (.c (.mp n))),some (.v (.c (.p (.int .u64) a))),some vt=>match List.lookup n S.heap,(List.lookup vt T).bind Ty.nu with
  | some (.map y),some ks=>match ve ks with
   |some zs=>some ⟨.lit [zs]:: .call 3003 DA [y,a,.v S.nv] 2 []::w_ (.v (S.nv+1)) 0 ks,
    if ok then .aj [.agg (ia (S.nv+3) ks),.c (.p .bool (.v (S.nv+2)))]else .v (.agg (ia (S.nv+3) ks)),⟨[],[]⟩,[]⟩
   |none=>none
  |_,_=>none
 |_,_,_=>none
def Np (T:aU) (S:af) (s d:a6) (x:bD):Option bz:=match S.arg x,List.lookup s T with
 | some (.v (.c (.own n))),some r=>match List.lookup n S.heap,r.sl with
  |some (.row e a),some e'=>match List.lookup e' T with
   |some r'=>if r'.int=some .u8∧s=d then some ⟨[.row a (.i 0) 1],.c1 (.own n),⟨[(n,.row e a)],[]⟩,[]⟩else none
   |none=>none
  |_,_=>none
 |_,_=>none
def L5 (T:aU) (S:af) (t:a6) (x:bD):Option bz:=match S.arg x,List.lookup t T with
 | some (.v (.c (.ptr n off))),some r=>match List.lookup n S.heap,r.arr with
  |some (.box cs),some (bS,e)=>match List.lookup e T,af.wZ ((cs.drop off).take bS)with
   |some re,some qs=>if re.size=1∧re.info=true∧0<bS∧bS≤4096∧qs.length=bS then some ⟨[.lit qs],.c1 (.p .sl (.v S.nv)),⟨[],[n]⟩,[]⟩else none
   |_,_=>none
  |_,_=>none
 |_,_=>none
def M3 (T:aU) (S:af) (t:a6) (s x:bD):Option bz:=match S.arg s,S.arg x,(List.lookup t T).bind Ty.elem with
 | some (.v (.c (.sub m (.i 0) ln))),some (.v (.c cx)),some e=>match List.lookup m S.heap,S.view S.nv cx,List.lookup e T with
  |some (.row e' a),some (nds,b),some re=>match re.app with
   |some (n,_)=>if e'=e then some ⟨nds++ [.ym a ln b n],.c1 (.sub m (.i 0) (.v (S.nv+fM nds+1))),⟨[(m,.row e (.v (S.nv+fM nds)))],[]⟩,[]⟩else none
   |none=>none
  |_,_,_=>none
 |_,_,_=>none
def Ih (T:aU) (S:af) (d:Nat) (t t':a6) (s x:bD):Option bz:=match S.arg s,S.arg x,List.lookup t T,List.lookup t' T with
 | some (.v (.c .nil)),some (.v (.c (.p (.int .i64) a))),some r,some r'=>match r.elem,r'.int with
  | some e,some _=>match List.lookup e T with
   |some re=>match re.app,re.nu.bind ve with
    |some (n,b),some ps=>some ⟨[.ix a ps b,.row (.v S.nv) (.i 0) n,.app .r0 (.v S.nv) n b],.c1 (.own d),⟨[(d,.row e (.v (S.nv+2)))],[]⟩,[]⟩
    |_,_=>none
   |none=>none
  |_,_=>none
 |_,_,_,_=>none
def Jk (T:aU) (S:af) (d:Nat) (t t':a6) (s x:bD):Option bz:=match S.arg s,S.arg x,List.lookup t T,List.lookup t' T with
 | some (.v (.c (.own m))),some (.v (.c (.p (.int .i64) a))),some r,some r'=>match r.elem,r'.int,List.lookup m S.heap with
  | some e,some _,some (.row e' y)=>match List.lookup e T with
   |some re=>match re.app,re.nu.bind ve with
    |some (n,b),some ps=>if e'=e then some ⟨[.ix a ps b,.row (.v S.nv) (.i 0) n,.app y (.v S.nv) n b],.c1 (.own d),⟨[(d,.row e (.v (S.nv+2)))],[m]⟩,[]⟩else none
    |_,_=>none
   |none=>none
  |_,_,_=>none
 |_,_,_,_=>none
def KW (T:aU) (S:af) (d:Nat) (b:Builtin) (args:List bD) (ts:List a6):Option bz:=
 match b,args,ts with
 | .len,[x],[t]=>d_ T S t x
 | .append,[s,x],[t,t']=>if t=t' then(if(List.lookup 999999 T).isSome then match M3 T S t s x with
   |some r=>some r
   |none=>uq T S d t s x
   else uq T S d t s x)else(match Ih T S d t t' s x with
   |some r=>some r
   |none=>Jk T S d t t' s x)
 | .copy,[x,y],[t,_]=>MS T S t x y
 | .min,[x,y],_=>match S.arg x,S.arg y with
  |some (.v (.c (.p (.int k) a))),some (.v (.c (.p (.int _) b)))=>some ⟨[.mn a b],.c1 (.p (.int k) (.v S.nv)),dM,[]⟩
  |_,_=>none
 | .max,[x,y],_=>match S.arg x,S.arg y with
  |some (.v (.c (.p (.int k) a))),some (.v (.c (.p (.int _) b)))=>some ⟨[.mx a b],.c1 (.p (.int k) (.v S.nv)),dM,[]⟩
  |_,_=>none
 | .cap,[x],[t]=>match S.arg x,List.lookup t T with
  |some (.v (.c .nil)),some r=>if r.sl.isSome then some (.pure (.c1 (.p (.int .i64) (.i 0))))else none
  |_,_=>none
 | .delete,[m,k],t::_=>M4 T S t m k
 |_,_,_=>none
def kM (T:aU) (C:cK) (S:af) (d:Nat) (op:Op):Option bz:=match op with
 | .move (.tmp t)=> (S.tmps[t]?).map .pure
 | .move x=> (S.arg x).map .pure
 | .assign (.tmp t)=> (S.tmps[t]?).map .pure
 | .assign x=> (S.arg x).map .pure
 | .pick c a b=>match S.arg c with
  |some (.v (.c (.p .bool (.b t))))=> (if t then S.arg a else S.arg b).map .pure
  |_=>none
 | .alloc e=> ((List.lookup e T).bind Ty.nu).map fun ks=> ⟨[],.c1 (.ptr d 0),⟨[(d,.box (ks.map Kd.zero))],[]⟩,[]⟩
 | .box _ x=> (S.eG x).map fun x=> ⟨[],.c1 (.ptr d 0),⟨[(d,.box x.cells)],[]⟩,[]⟩
 | .build t parts=>Kn T S t parts.toList
 | .buildSlice t len parts=>I9 T S d t len parts.toList
 | .load t x=>MZ T S t x
 | .store t x y=>Ig T S t x y
 | .nilCheck x=>match S.arg x with
  |some (.v (.c (.ptr n o)))=>some (.pure (.c1 (.ptr n o)))
  |some (.v (.c (.gy n o c m i)))=>some (.pure (.c1 (.gy n o c m i)))
  |some (.v (.c (.cE n i j)))=>some (.pure (.c1 (.cE n i j)))
  |some (.v (.c (.ref x j)))=>some (.pure (.c1 (.ref x j)))
  |some (.v (.c (.fn f cN)))=>some (.pure (.c1 (.fn f cN)))
  |_=>none
 | .binOp op t x y _=>KG T S op t x y
 | .unOp op _ x=>I' S op x
 | .convert s t x=>match MY T S s t x with
  |some r=>some r
  |none=>Np T S s t x
 | .makeSlice t l c=>NN T S d t l c
 | .slice t x lo hi none=>match LM T S t x lo hi with
  |some r=>some r
  |none=>match lo,hi with
   |none,none=>L5 T S t x
   |_,_=>none
 | .slice t x lo (some hi) (some mx)=>LO T S t x lo hi mx
 | .sliceToArrayPointer t x=>Jt T S t x
 | .makeMap _ none=>some ⟨[],.c1 (.mp d),⟨[(d,.map .r0)],[]⟩,[]⟩
 | .mapUpdate t m k x=>Ni T S t m k x
 | .lookup t m k ok=>NH T S t m k ok
 | .fieldAddr t x f=>KA T S t x f
 | .indexAddr t x i=>I5 T S t x i
 | .index t x i=>match S.arg x,S.arg i,List.lookup t T with
  |some (.v (.c (.p .str a))),some (.v (.c (.p (.int _) b))),some r=>if r.tO then some ⟨[.AU a b],.c1 (.p (.int .u8) (.v S.nv)),dM,[]⟩else none
  | some (.v (.agg cs)),some (.v (.c (.p (.int _) b))),some r=>match r.arr with
   | some (n,e)=>match List.lookup e T with
    |some re=>match BV cs 0 n re.size b 0 (if re.agg then re.size else 1)with
     |some (ks,nds)=>if re.info then(sL re ks S.nv).map fun v=> ⟨.dD b n::nds,v,dM,[]⟩else none
     |none=>none
    |none=>none
   |none=>none
  |_,_,_=>none
 | .extract (.tmp t) i=>match S.tmps[t]? with
  |some (.aj xs)=>match xs[i]? with
   |some x=>some (.pure (.v x))
   |none=>none
  |_=>none
 | .makeFunc (.func f) first captured=>if first.size=0 then(S.cN captured.toList).map fun ns=> .pure (.c1 (.fn f ns))else none
 | .panic _| .makeInterface _ _=>some ⟨[.dD (.i 0) 0],.c1 .dead,dM,[]⟩
 | .call c=>match c.callee with
  | .value x=>MU T C S d x c.args.toList
  | .builtin b=>KW T S d b c.args.toList c.argTypes.toList
  |_=>none
 |_=>none
section
variable {P:bB} {T:aU} {C:cK} {S:af} {ρ:List L} {d:Nat}
theorem Wm:∀{l:List bD} {xs:List aF},S.Dm l=some xs→l.mapM (S.aa ρ).eG=some (xs.map (aF.aa ρ))
 |[],_,h=>by cases h;rfl
 |x::l,xs,h=>by
  simp only[af.Dm]at h;split at h
  · rename_i y ys h1 h2;cases h;simp only[rE,af.D0 ρ h1,Wm h2];rfl
  · cases h
theorem Wb:∀{l:List bD} {ns:List Nat},S.cN l=some ns→l.mapM (S.aa ρ).cap=some ns
 |[],_,h=>by cases h;rfl
 |x::l,ns,h=>by
  simp only[af.cN]at h;split at h
  · rename_i n eu h1 h2;cases h;have h1':(S.aa ρ).arg x=some (.v (.c (.ptr n 0))):=af.bH ρ h1;have h3:(S.aa ρ).cap x=some n:=by grind[av.cap]
    simp only[rE,h3,Wb h2];rfl
  · cases h
theorem anU {x} {y} (h:S.callee x=some y):(S.aa ρ).callee x=some y:=by
 unfold af.callee at h;split at h
 · cases h;rfl
 · split at h
   · rename_i f cN hx;cases h;have hx':(S.aa ρ).arg x=some (.v (.c (.fn f cN))):=af.bH ρ hx;simp_all[av.callee]
   · cases h
theorem Jc {f:FuncId} {xs:List aF}:∀{C:cK} {r:bz},cK.ok P C→Cb T S d f xs C=some r→∃s,s.ok P∧s.f=f∧F' T S d xs s=some r
 |[],_,_,h=>by cases h
 |s::C,r,hC,h=>by
  simp only[Cb]at h;split at h
  · rename_i hf;split at h
    · rename_i r' hr;cases h;exact⟨s,hC s (by simp),hf,hr⟩
    · exact Jc (fun s' hs'=>hC s' (by simp[hs'])) h
  · exact Jc (fun s' hs'=>hC s' (by simp[hs'])) h
theorem amM (hC:cK.ok P C) {x} {args} {r} (h:MU T C S d x args=some r) (hs:Sat ρ S.nv r.nds):
   ∀Sp:Spec,Sp d=some (r.v.aa ρ,r.e.aa ρ,r.rd)→uB P Sp (S.aa ρ) d x args=some (r.aa ρ):=by
 intro Sp za;unfold MU at h;split at h
 · rename_i f cN xs hf qT;obtain⟨s,h1,rfl,h2⟩:=Jc hC h;have aO:=azb (ρ:=ρ) h1 h2 hs;unfold uB;simp only[anU hf,Wm qT,za];rw[ay]
   · rfl
   · rw[dk,gd]at aO;exact aO
 · cases h
theorem VX {t} (h:(eK P t).GS=true):∃kt vt,P.underlying t=some (.map kt vt)∧P.underlying kt=some (.int .u64):=by
 grind[eK,Ts]
theorem ayI {t} (h:(eK P t).int=some .u8):P.underlying t=some (.int .u8):=by
 grind[eK,Gx]
theorem IM:∀{cs} {qs},af.wZ cs=some qs→∃ps,lK (cs.map (SC.aa ρ))=some ps∧qs.map (cb ρ)=ps.map fun q=> [q]
 |[],_,h=>by cases h;exact⟨[],rfl,rfl⟩
 | c::cs,qs,h=>by
  have key:∀(k:Kd) (x:At),(af.wZ cs).map ([(k,x)]:: ·)=some qs→(c.aa ρ).pv=some (k.pv (x.ev ρ))→∃ps,lK ((c::cs).map (SC.aa ρ))=some ps∧qs.map (cb ρ)=ps.map fun q=> [q]:=by
   intro k x h hc;simp only[aT]at h;obtain⟨qs',h1,rfl⟩:=h;obtain⟨ps,h2,h3⟩:=IM h1;refine⟨k.pv (x.ev ρ)::ps,?_,?_⟩
   · simp_all[lK]
   · simp only[cu,h3];rfl
  cases c with
  |p k x=>exact key k x h rfl
  |nil=>exact key .sl .r0 h rfl
  |_=>cases h
theorem ati {ρ:List L} {qs:List (List (Kd×At))} {ps:List PV} (h:qs.map (cb ρ)=ps.map fun q=> [q]):cb ρ qs.flatten=ps:=by
 unfold cb at h⊢;rw[List.map_flatten,h];clear h
 induction ps with
 |nil=>rfl
 |cons p ps ih=>simpa using ih
theorem ahB (hT:aU.ok P T) {t} {m k x} {r} (h:Ni T S t m k x=some r) (hs:Sat ρ S.nv r.nds):(xP P (S.aa ρ) t m k x).map (fun e=> (⟨.c .dead,e,[]⟩:aW))=some (r.aa ρ):=by
 unfold Ni at h;split at h
 · rename_i n a cs row hm hk hx hr;have:=hT _ _ hr;subst this;split at h
   · rename_i y qs hl hq;split at h
     · rename_i vW;cases h;obtain⟨kt,vt,h1,h2⟩:=VX vW;have pF:(S.aa ρ).arg m=some (.v (.c (.mp n))):=af.bH ρ hm;have bZ:(S.aa ρ).arg k=some (.v (.c (.p (.sc (.int .u64 (a.ev ρ).ah))))):=af.bH ρ hk;have hx':(S.aa ρ).arg x=some (.v (.agg (cs.map (SC.aa ρ)))):=af.bH ρ hx;obtain⟨ps,k1,k2⟩:=IM (ρ:=ρ) hq;obtain⟨l,q1,q2⟩:=hs.du rfl;cases q1;have hs2:Sat ρ (S.nv+1) [.call 3001 C0 [y,.v S.nv] 1 []]:=hs.2;obtain⟨l',q3,q4⟩:=hs2.du rfl;simp only[Nd.ev,cu,iv,C0,q2,L.az,cb]at q3;have k3:=ati k2;unfold cb at k3;rw[k3]at q3;simp only[Kd.pv]at q3;have e1:l'= .r (nU (a.ev ρ).ah ps (y.ev ρ).az):=by
        cases hy:y.ev ρ<;>simp_all [L.az]
       subst e1;simp only[xP,pF,bZ,hx',h1,h2,dE,hl,aV,SB.aa,k1];simp only[bz.aa,fL.aa,bY.aa,cu,iv,SB.aa,q4,L.az];rfl
     · cases h
   · cases h
 · cases h
theorem ajT (hT:aU.ok P T) {t} {m k} {r} (h:M4 T S t m k=some r) (hs:Sat ρ S.nv r.nds):(ye P (S.aa ρ) t m k).map (fun e=> (⟨.aj [],e,[]⟩:aW))=some (r.aa ρ):=by
 unfold M4 at h;split at h
 · rename_i n a row hm hk hr;have:=hT _ _ hr;subst this;split at h
   · rename_i y hl;split at h
     · rename_i vW;cases h;obtain⟨kt,vt,h1,h2⟩:=VX vW;have pF:(S.aa ρ).arg m=some (.v (.c (.mp n))):=af.bH ρ hm;have bZ:(S.aa ρ).arg k=some (.v (.c (.p (.sc (.int .u64 (a.ev ρ).ah))))):=af.bH ρ hk;obtain⟨l,q1,q2⟩:=hs.du rfl;simp[Nd.ev,Mg]at q1;subst q1;simp only[ye,pF,bZ,h1,h2,dE,hl,aV,SB.aa];simp only[bz.aa,fL.aa,bY.aa,cu,iv,SB.aa,q2,L.az];rfl
     · cases h
   · cases h
 · cases h
theorem alR {t vt} (h:(eK P t).N3=some vt):∃kt us,P.underlying t=some (.map kt vt)∧P.underlying kt=some (.int .u64)∧(P.info? vt).bind (·.zero)=some (.agg us):=by
 change LA P t=some vt at h;unfold LA at h;split at h
 · rename_i kt vt' h1;split at h
   · rename_i us h2 h3;cases h;exact⟨kt,us,h1,h2,h3⟩
   · cases h
 · cases h
theorem aef (hT:aU.ok P T) {t m k ok r} (h:NH T S t m k ok=some r) (hs:Sat ρ S.nv r.nds):(yQ P (S.aa ρ) t m k ok).map aW.pure=some (r.aa ρ):=by
 unfold NH at h;split at h
 · rename_i n a vt hm hk hr;obtain⟨row,hr1,hr2⟩:=iu.1 hr;have:=hT _ _ hr1;subst this;obtain⟨kt,us,h1,h2,h3⟩:=alR hr2;split at h
   · rename_i y ks hl oh;obtain⟨row,hr3,hr4⟩:=iu.1 oh;have:=hT _ _ hr3;subst this;have hr4:DN P vt=some ks:=hr4;split at h
     · rename_i zs hz;cases h;have pF:(S.aa ρ).arg m=some (.v (.c (.mp n))):=af.bH ρ hm;have bZ:(S.aa ρ).arg k=some (.v (.c (.p (.sc (.int .u64 (a.ev ρ).ah))))):=af.bH ρ hk;obtain⟨l,q1,q2⟩:=hs.du rfl;cases q1;have hs2:Sat ρ (S.nv+1) (.call 3003 DA [y,a,.v S.nv] 2 []::w_ (.v (S.nv+1)) 0 ks):=hs.2;obtain⟨⟨ls,q3,q4⟩,q5⟩:=hs2;have hzl:(cb ρ zs).length=ks.length:=by
         have:=uM (ρ:=ρ) hz;have:=(nX this).1;simpa using this
       obtain⟨ys,hy⟩:∃ys,ys=(At.ev ρ y).az:=⟨_,rfl⟩
       simp only[Nd.ev,cu,iv,DA,q2,←hy]at q3;simp only[L.az]at q3;split at q3
       · rename_i l' hl';split at hl'
         · rename_i hlen;cases hl';simp at q3;subst q3;have v1:=q4 0 (by simp[Nd.n]);have v2:=q4 1 (by simp[Nd.n]);simp only[kS,rH,H0]at v1 v2;have c1:At.ev ρ (.v (S.nv+1))= .c ((hZ (a.ev ρ).ah ys).getD (cb ρ zs)):=by simp only[At.ev,v1,fx]
           have c2:At.ev ρ (.v (S.nv+2))= .b (hZ (a.ev ρ).ah ys).isSome:=by
            have v2:ρ[S.nv+2]? =_:=v2;simp only[At.ev,v2,fx]
           have q5:Sat ρ (S.nv+3) (w_ (.v (S.nv+1)) 0 ks):=q5;obtain⟨p1,p2⟩:=Nb (ks:=ks) (j:=0) q5;rw[c1]at p1 p2;simp only[L.jk,zk]at p1 p2;have p3:(ia (S.nv+3) ks).map (SC.aa ρ)=((hZ (a.ev ρ).ah ys).getD (cb ρ zs)).map C.p:=by
            rw[p1,fD];rw[aA,hlen,hzl];exact cn _
           simp only[yQ,pF,bZ,h1,h2,h3,dE,hl,aV,SB.aa,wD (P:=P) hr4 ρ,rD,uM hz,←hy]
           cases ok with
           |false=>simp only[bz.aa,pO,if_false,SV.aa,aF.aa,p3];rfl
           |true=>simp only[bz.aa,if_true,SV.aa,cu,iv,aF.aa,SC.aa,Kd.pv,p3,c2,L.bx];rfl
         · cases hl'
       · cases q3
     · cases h
   · cases h
 · cases h
theorem axa (hT:aU.ok P T) {s d} {x} {r} (h:Np T S s d x=some r) (hs:Sat ρ S.nv r.nds):lq P (S.aa ρ) s d x=none∧(sv P (S.aa ρ) s d x).map aW.of=some (r.aa ρ):=by
 unfold Np at h;split at h
 · rename_i n row hx hr;have:=hT _ _ hr;subst this;split at h
   · rename_i e a e' hl ey;split at h
     · rename_i r' he;have:=hT _ _ he;subst this;split at h
       · rename_i hc;cases h;obtain⟨h8,rfl⟩:=hc;obtain⟨⟨ls,h1,_⟩,_⟩:=hs;have hx':(S.aa ρ).arg x=some (.v (.c (.own n))):=af.bH ρ hx;have hu:=Cd ey;have Ol:=ayI h8;have hne:(a.ev ρ).az≠ []:=by
           grind[Nd.ev]
         refine⟨?_,?_⟩
         · simp_all[lq]
         · simp only[sv,hx',dE,hl,aV,SB.aa,hu,Ol];rw[ay ⟨trivial,hne⟩];rfl
       · cases h
     · cases h
   · cases h
 · cases h
theorem auF (hT:aU.ok P T) {t} {x} {r} (h:L5 T S t x=some r) (hs:Sat ρ S.nv r.nds):lj P (S.aa ρ) t x none none=none∧(sI P (S.aa ρ) t x).map aW.of=some (r.aa ρ):=by
 unfold L5 at h;split at h
 · rename_i n off row hx hr;have:=hT _ _ hr;subst this;split at h
   · rename_i cs bS e hl ha;split at h
     · rename_i re qs he hq;have:=hT _ _ he;subst this;split at h
       · rename_i hc;cases h;obtain⟨c1,c2,c3,c4,c5⟩:=hc;obtain⟨l,h1,h2⟩:=hs.du rfl;cases h1;have hx':(S.aa ρ).arg x=some (.v (.c (.ptr n off))):=af.bH ρ hx;have aCp:kT P t=some (bS,e):=ha;obtain⟨ps,k1,k2⟩:=IM (ρ:=ρ) hq;have hsz:da P e=1:=c1;have vI:mH P e=true:=c2;have hlen:ps.length=bS:=by
           have:=bJ List.length k2;grind
         refine⟨?_,?_⟩
         · simp only[lj,hx'];rfl
         · simp only[sI,hx',dE,hl,aV,SB.aa,aCp];rw[←ml,←nk,k1];simp only;rw[ay ⟨hsz,vI,c3,c4,hlen⟩];simp only[aV,aW.of,bz.aa,SV.aa,aF.aa,SC.aa,Kd.pv,h2,L.az,k2];rfl
       · cases h
     · cases h
   · cases h
 · cases h
theorem aeN (hT:aU.ok P T) {d} {t t'} {s x} {r} (h:Ih T S d t t' s x=some r) (hs:Sat ρ S.nv r.nds):(oB P (S.aa ρ) d t t' s x).map aW.of=some (r.aa ρ):=by
 unfold Ih at h;split at h
 · rename_i a r1 r2 hs0 hx hr1 hr2;have:=hT _ _ hr1;subst this;have:=hT _ _ hr2;subst this;split at h
   · rename_i e k cW hk;split at h
     · rename_i re he;have:=hT _ _ he;subst this;split at h
       · rename_i n b ps fw jG;cases h;have qX:jP P e=some (n,b):=fw;simp only[iu]at jG;obtain⟨ks,oh,hz⟩:=jG;obtain⟨⟨l1,h1,i1⟩,⟨l2,h2,i2⟩,⟨l3,h3,i3⟩,_⟩:=hs;have il:eO P t=some e:=cW;have bZ:=Dh (P:=P) (t:=t') hk;have hs':(S.aa ρ).arg s=some (.v (.c .nil)):=af.bH ρ hs0;have hx':(S.aa ρ).arg x=some (.v (.c (.p (.sc (.int .i64 (a.ev ρ).ah))))):=af.bH ρ hx;simp only[Nd.ev]at h1;split at h1
         · rename_i c1;cases h1;have e1:(At.v S.nv).ev ρ= .r (List.replicate (a.ev ρ).ah.toNat (cb ρ ps)):=by
            simp_all[Nd.n,At.ev,fx]
           have dh:0< (a.ev ρ).ah:=by
            grind[Nd.ev,L.az]
           simp only[Nd.ev,abN]at h3;obtain⟨c3,h3⟩:=h3;cases h3;have e3:(At.v (S.nv+2)).ev ρ= .r (List.replicate (a.ev ρ).ah.toNat (cb ρ ps)):=by
            have:=i3 0 (by simp[Nd.n]);have e:S.nv+(Nd.ix a ps b).n+(Nd.row (At.v S.nv) (At.i 0) n).n=S.nv+2:=rfl;simp_all[At.ev,fx,L.az]
           have hb:(a.ev ρ).ah.toNat*b≤140737488355328:=by
            simp_all[At.ev,L.az]
           simp only[oB,il,hs',hx',bZ,qX,wD (P:=P) oh ρ,uM hz];rw[ay ⟨dh,c1.2.1,hb⟩];simp only[aV,aW.of,bz.aa,fL.aa,bY.aa,cu,iv,SB.aa,e3,L.az];rfl
         · cases h1
       · cases h
     · cases h
   · cases h
 · cases h
theorem ajH (hT:aU.ok P T) {d} {t t'} {s x} {r} (h:Jk T S d t t' s x=some r) (hs:Sat ρ S.nv r.nds):(p7 P (S.aa ρ) d t t' s x).map aW.of=some (r.aa ρ):=by
 unfold Jk at h;split at h
 · rename_i m a r1 r2 hs0 hx hr1 hr2;have:=hT _ _ hr1;subst this;have:=hT _ _ hr2;subst this;split at h
   · rename_i e k e' y cW hk hl;split at h
     · rename_i re he;have:=hT _ _ he;subst this;split at h
       · rename_i n b ps fw jG;split at h
         · rename_i gE;subst gE;cases h;have qX:jP P e'=some (n,b):=fw;simp only[iu]at jG;obtain⟨ks,oh,hz⟩:=jG;obtain⟨⟨l1,h1,i1⟩,⟨l2,h2,i2⟩,⟨l3,h3,i3⟩,_⟩:=hs;have il:eO P t=some e':=cW;have bZ:=Dh (P:=P) (t:=t') hk;have hs':(S.aa ρ).arg s=some (.v (.c (.own m))):=af.bH ρ hs0;have hx':(S.aa ρ).arg x=some (.v (.c (.p (.sc (.int .i64 (a.ev ρ).ah))))):=af.bH ρ hx;have dY:(S.aa ρ).gw e' (.own m)=some ((y.ev ρ).az,[m]):=by
             simp only[av.gw,dE,hl,aV,SB.aa,if_true]
           simp only[Nd.ev]at h1;split at h1
           · cases h1;have e1:(At.v S.nv).ev ρ= .r (List.replicate (a.ev ρ).ah.toNat (cb ρ ps)):=by
              simp_all[Nd.n,At.ev,fx]
             have dh:0< (a.ev ρ).ah:=by
              grind[Nd.ev,L.az]
             simp only[Nd.ev,abN]at h3;obtain⟨c3,h3⟩:=h3;cases h3;have e3:(At.v (S.nv+2)).ev ρ= .r ((y.ev ρ).az++List.replicate (a.ev ρ).ah.toNat (cb ρ ps)):=by
              have:=i3 0 (by simp[Nd.n]);have e:S.nv+(Nd.ix a ps b).n+(Nd.row (At.v S.nv) (At.i 0) n).n=S.nv+2:=rfl;simp_all[At.ev,fx,L.az]
             have vW:oB P (S.aa ρ) d t t' s x=none:=by
              simp_all[oB]
             simp only[p7,vW,vq,il,hs',hx',bZ,qX,wD (P:=P) oh ρ,uM hz,dY];rw[ay ⟨dh,by simp_all[L.az],by simp_all[L.az],c3.2.2.1⟩];simp only[aV,aW.of,bz.aa,fL.aa,bY.aa,cu,iv,SB.aa,e3,L.az];rfl
           · cases h1
         · cases h
       · cases h
     · cases h
   · cases h
 · cases h
theorem aoP (hT:aU.ok P T) {t} {s x} {r} (h:M3 T S t s x=some r) (hs:Sat ρ S.nv r.nds):(sS P (S.aa ρ) t s x).map aW.of=some (r.aa ρ)∧∃a b c,r.v.aa ρ= .v (.c (.sub a b c)):=by
 unfold M3 at h;split at h
 · rename_i m ln cx e hs0 hx cW;split at h
   · rename_i e' a nds b re hl hv he;have:=hT _ _ he;subst this;split at h
     · rename_i n bb fw;split at h
       · rename_i gE;subst gE;cases h;have qX:jP P e'=some (n,bb):=fw;have hs':(S.aa ρ).arg s=some (.v (.c (.sub m 0 (ln.ev ρ).ah.toNat))):=af.bH ρ hs0;have hx':(S.aa ρ).arg x=some (.v (.c (cx.aa ρ))):=af.bH ρ hx;obtain⟨hs1,hs2⟩:=Sat.app hs;obtain⟨ls,h1,h2⟩:=hs2.one;simp only[Nd.ev,abN]at h1;obtain⟨hc,h1⟩:=h1;cases h1;have og:=h2 0 (by simp[Nd.n]);have qW:=h2 1 (by simp[Nd.n]);simp only[kS,rH,fx]at og;refine⟨?_,_,_,_,rfl⟩;simp only[sS,hs',hx',dE,hl,aV,SB.aa,sM hv hs1,Br hT cW,qX];rw[ay ⟨trivial,hc.1,hc.2⟩];simp only[aV,aW.of,bz.aa,fL.aa,bY.aa,cu,iv,SB.aa,og,qW,L.az,SV.aa,aF.aa,SC.aa,L.ah,fA];rfl
       · cases h
     · cases h
   · cases h
 · cases h
theorem avy {t} {s x} {r} (h:uq T S d t s x=some r):r.v.aa ρ= .v (.c (.own d)):=by
 unfold uq at h
 repeat' split at h
 all_goals first| (cases h;rfl)|cases h
theorem aqY (hT:aU.ok P T) {b} {args} {ts} {r} (h:KW T S d b args ts=some r) (hs:Sat ρ S.nv r.nds) {Sp} (za:Sp d=some (r.v.aa ρ,r.e.aa ρ,r.rd)):lZ P Sp (S.aa ρ) d b args ts=some (r.aa ρ):=by
 unfold KW at h;split at h
 · exact aAu hT h hs
 · rename_i s x t t';split at h
   · rename_i Cu;have h0:uq T S d t s x=some r→lZ P Sp (S.aa ρ) d .append [s,x] [t,t']=some (r.aa ρ):=fun h=>by
       simp only[lZ,ay Cu,za];rw[avy h];exact aoL hT h hs
     split at h
     · split at h
       · rename_i r' kg;cases h;obtain⟨h1,a,b,c,h2⟩:=aoP hT kg hs;simp_all[lZ]
       · exact h0 h
     · exact h0 h
   · rename_i Cu;simp only[lZ,aC Cu];grind[aeN,Option.map_eq_some_iff,p7,ajH]
 · exact arB hT h hs
 · rename_i _ x y;split at h
   · rename_i k a k' b hx hy;cases h;obtain⟨l,h1,h2⟩:=hs.du rfl;cases h1;have hx':(S.aa ρ).arg x=some (.v (.c (.p (.sc (.int k (a.ev ρ).ah))))):=af.bH ρ hx;have hy':(S.aa ρ).arg y=some (.v (.c (.p (.sc (.int k' (b.ev ρ).ah))))):=af.bH ρ hy;simp only[lZ,hx',hy',JF,aV,aW.pure,bz.aa,SV.aa,aF.aa,SC.aa,Kd.pv,h2];rfl
   · cases h
 · rename_i _ x y;split at h
   · rename_i k a k' b hx hy;cases h;obtain⟨l,h1,h2⟩:=hs.du rfl;cases h1;have hx':(S.aa ρ).arg x=some (.v (.c (.p (.sc (.int k (a.ev ρ).ah))))):=af.bH ρ hx;have hy':(S.aa ρ).arg y=some (.v (.c (.p (.sc (.int k' (b.ev ρ).ah))))):=af.bH ρ hy;simp only[lZ,hx',hy',Nj,aV,aW.pure,bz.aa,SV.aa,aF.aa,SC.aa,Kd.pv,h2];rfl
   · cases h
 · rename_i x t;split at h
   · rename_i row hx hr;have:=hT _ _ hr;subst this;split at h
     · rename_i ey;cases h;obtain⟨e,he⟩:=ze.1 ey;have hx':(S.aa ρ).arg x=some (.v (.c .nil)):=af.bH ρ hx;simp only[lZ,hx',Cd he];rfl
     · cases h
   · cases h
 · exact ajT hT h hs
 · cases h
theorem Bw (v):(bz.pure v).aa ρ=aW.pure (v.aa ρ):=rfl
theorem aju (hT:aU.ok P T) (hC:cK.ok P C) {op} {r} (h:kM T C S d op=some r) (hs:Sat ρ S.nv r.nds):
  ∀Sp:Spec,Sp d=some (r.v.aa ρ,r.e.aa ρ,r.rd)→a_ P Sp (S.aa ρ) d op=some (r.aa ρ):=by
 intro Sp za
 cases op with
 |move x=>
  cases x with
  | tmp t=>
    simp only[kM,aT]at h;obtain⟨v,hv,rfl⟩:=h;simp_all[af.aa,a_,aV,Bw]
  | _=>
    simp only[kM,aT]at h;obtain⟨v,hv,rfl⟩:=h;simp only[a_,af.bH ρ hv,aV,Bw]
 |assign x=>
  cases x with
  | tmp t=>
    simp only[kM,aT]at h;obtain⟨v,hv,rfl⟩:=h;simp_all[af.aa,a_,aV,Bw]
  | _=>
    simp only[kM,aT]at h;obtain⟨v,hv,rfl⟩:=h;simp only[a_,af.bH ρ hv,aV,Bw]
 |pick c a b=>
  simp only[kM]at h;split at h
  · rename_i t hc;simp only[aT]at h;obtain⟨v,hv,rfl⟩:=h;have hc':(S.aa ρ).arg c=some (.v (.c (.p (.sc (.bool t))))):=af.bH ρ hc;grind[a_,Bool.false_eq_true,af.bH,Bw]
  · cases h
 |alloc e=>
  simp only[kM,aT,iu]at h;obtain⟨ks,⟨row,hr,hk⟩,rfl⟩:=h;have:=hT _ _ hr;subst this;simp only[a_,wD (P:=P) hk ρ];rfl
 |box e x=>
  simp only[kM,aT]at h;obtain⟨y,hy,rfl⟩:=h;simp only[a_,af.D0 ρ hy,aV,aF.A8];rfl
 |build t parts=>exact asO hT h
 |buildSlice t len parts=>exact agS hT h hs
 |load t x=>exact aix hT h hs
 |store t x y=>exact avf hT h hs
 |nilCheck x=>
  simp only[kM]at h;split at h
  · rename_i hx;cases h;have:=af.bH ρ hx;simp only[a_,this,SV.aa,aF.aa,SC.aa];rfl
  · rename_i hx;cases h;have:=af.bH ρ hx;simp only[a_,this,SV.aa,aF.aa,SC.aa];rfl
  · rename_i hx;cases h;have:=af.bH ρ hx;simp only[a_,this,SV.aa,aF.aa,SC.aa];rfl
  · rename_i hx;cases h;have:=af.bH ρ hx;simp only[a_,this,SV.aa,aF.aa,SC.aa];rfl
  · rename_i hx;cases h;have:=af.bH ρ hx;simp only[a_,this,SV.aa,aF.aa,SC.aa];rfl
  · cases h
 |binOp op t x y yt=>exact arj hT h hs
 |unOp op t x=>exact amn h hs
 |convert s t x=>
  grind[kM,adm,Option.map_eq_some_iff,a_,axa]
 |makeSlice t l c=>exact anE hT h hs
 |sliceToArrayPointer t x=>
  have:=aik hT h hs;simp_all[aT,a_]
 |slice t x lo hi mx=>
  cases mx with
  | some mx=>
    cases hi with
    |none=>cases h
    | some hi=>
      have:=azs hT h hs;simp_all[aT,a_]
  | none=>
    grind[kM,azP,Option.map_eq_some_iff,a_,auF]
 |makeMap t r0=>
  cases r0 with
  |some _=>cases h
  |none=>cases h;rfl
 |mapUpdate t m k x=>exact ahB hT h hs
 |lookup t m k ok=>exact aef hT h hs
 |fieldAddr t x f=>exact aey hT h
 |indexAddr t x i=>exact awp hT h hs
 | index t x i =>
  simp only[kM]at h;split at h
  · rename_i a k b row hx hi hr;have:=hT _ _ hr;subst this;split at h
    · rename_i hS;cases h;obtain⟨l,h1,h2⟩:=hs.du rfl;simp only[Nd.ev]at h1;split at h1
      · rename_i h0;split at h1
        · rename_i bb hb;cases h1;have hx':(S.aa ρ).arg x=some (.v (.c (.p (.sc (.string (a.ev ρ).eQ))))):=af.bH ρ hx;have hi':(S.aa ρ).arg i=some (.v (.c (.p (.sc (.int k (b.ev ρ).ah))))):=af.bH ρ hi;simp only[a_,hx',hi',x5 (P:=P) hS,hb];rw[jv h0];simp only[aW.pure,bz.aa,SV.aa,aF.aa,SC.aa,Kd.pv,h2,L.ah];rfl
        · cases h1
      · cases h1
    · cases h
  · rename_i cs k b row hx hi hr;have:=hT _ _ hr;subst this;split at h
    · rename_i n e ha;split at h
      · rename_i re he;have:=hT _ _ he;subst this;split at h
        · rename_i ks nds hc;split at h
          · rename_i aCq;simp only[aT]at h;obtain⟨v,h1,rfl⟩:=h;obtain⟨⟨ls,h2,_⟩,hs2⟩:=hs;simp only[Nd.ev]at h2;split at h2
            · rename_i hb;have hx':(S.aa ρ).arg x=some (.v (.agg (cs.map (SC.aa ρ)))):=af.bH ρ hx;have hi':(S.aa ρ).arg i=some (.v (.c (.p (.sc (.int k (b.ev ρ).ah))))):=af.bH ρ hi;obtain⟨hu,_⟩:=Gq ha;have aCr:mH P e=true:=aCq;have hs3:Sat ρ S.nv nds:=hs2;obtain⟨h4,h5⟩:=LZ hc hs3;have h6:=QX (t:=e) (off:=0) h1 h4 (fun jj hj=>by
               obtain⟨k,a,k1,k2,k3⟩:=h5 jj om;exact⟨k,a,k1,by exact k2,k3⟩)
              have hsz:(eK P e).size=da P e:=rfl;rw[pP,hsz]at h6;simp only[a_,hx',hi',hu];rw[jv ⟨hb.1,hb.2,aCr⟩,h6];rfl
            · cases h2
          · cases h
        · cases h
      · cases h
    · cases h
  · cases h
 |extract t i=>
  cases t with
  | tmp t=>
    simp only[kM]at h;split at h
    · rename_i xs hx;split at h
      · rename_i x Oo;cases h;have h1:(S.aa ρ).tmps[t]? =some (.aj (xs.map (aF.aa ρ))):=by simp only[af.aa,bV,hx];rfl
        simp only[a_,h1,bV,Oo,aV];rfl
      · cases h
    · cases h
  |_=>cases h
 |makeFunc fn first captured=>
  cases fn with
  | func f=>
    simp only[kM]at h;split at h
    · rename_i hz;simp only[aT]at h;obtain⟨ns,gQ,rfl⟩:=h;simp only[a_,ay hz,Wb gQ];rfl
    · cases h
  |_=>cases h
 |panic x=>
  cases h;obtain⟨⟨ls,h1,_⟩,_⟩:=hs;simp[Nd.ev,At.ev,L.ah]at h1
 |makeInterface t x=>
  cases h;obtain⟨⟨ls,h1,_⟩,_⟩:=hs;simp[Nd.ev,At.ev,L.ah]at h1
 |call c=>
  obtain⟨callee,args,ts⟩:=c
  cases callee with
  |builtin b=>exact aqY hT h hs za
  |invoke=>cases h
  |value f=>exact amM hC h hs Sp za
 |_=>cases h
end
theorem arO {P} {Sp Sp'} {st} {d} {op} (h:Sp d=Sp' d):a_ P Sp st d op=a_ P Sp' st d op:=by
 cases op with
 |call c=>
  obtain⟨callee,args,ts⟩:=c
  cases callee with
  |value f=>simp only[a_,uB,h]
  |builtin b=>simp only[a_,lZ,h]
  |_=>rfl
 |slice t x lo hi mx=>cases mx<;>cases hi<;>rfl
 |move x=>cases x<;>rfl
 |assign x=>cases x<;>rfl
 |extract t i=>cases t<;>rfl
 |makeFunc fn=>cases fn<;>rfl
 |makeMap t r=>cases r<;>rfl
 |_=>rfl
theorem Ww {P} {Sp Sp'} {b} {ops}:∀{l} {k} {st},(∀j,k≤j→Sp (b+8*j)=Sp' (b+8*j))→jX P Sp b ops l k st=jX P Sp' b ops l k st
 |[],_,_,_=>rfl
 | o::l,k,st,h=>by
  have h1:lx P Sp b ops st k o=lx P Sp' b ops st k o:=by
   grind[lx,arO]
  simp only[jX,h1]
  cases lx P Sp' b ops st k o with
  |none=>rfl
  |some r=>simp only[Ww (l:=l) (k:=k+1) (fun j hj=>h j om)]
inductive RT where
 |ak (S:af) (ts:jR)
 |ops (nds:List Nd) (k:RT)
 |ite (a:At) (x y:RT)
 |stuck
deriving Inhabited
def RT.aa:RT→List L→Option ((af×jR)×List L)
 | .ak S ts,ρ=>some ((S,ts),ρ)
 | .ops nds k,ρ=>match p8 ρ nds with
  |some ρ'=>k.aa ρ'
  |none=>none
 | .ite a x y,ρ=>if(a.ev ρ).bx then x.aa ρ else y.aa ρ
 | .stuck,_=>none
def af.dV (S:af) (d:Option Nat) (v:SV):af:=match d with
 |some d=> {S with tmps:=S.tmps.set d v}
 |none=>S
def af.A5 (S:af) (e:fL):af:={S with heap:=e.cj++S.heap,ar:=e.ar++S.ar}
def af.more (S:af) (n:Nat):af:={S with nv:=S.nv+n}
def af.raw (S:af):bD→List Nat
 | .tmp t=>match S.tmps[t]? with
  |some v=>v.names
  |none=> []
 |_=> []
def af.mN (S:af):Op→List Nat
 | .extract _ _=> []
 | .move (.tmp _)=> []
 | .assign (.tmp _)=> []
 |op=>op.operands.toList.flatMap S.raw
def D_ (ops:Array Oper) (S:af) (o:Oper):Option Bool:=match o.guard with
 |none=>some true
 | some (j,want)=>match(ops[j]?).bind (·.dst)with
  |some d=>match S.tmps[d]? with
   |some (.v (.c (.p .bool (.b t))))=>some (t==want)
   |some (.aj [])=>some false
   |_=>none
  |none=>none
def af.open (S:af) (t:Nat):Option (Nat×Nat):=match S.tmps[t]? with
 |some (.v (.c (.p .bool (.v i))))=>some (i,t)
 |_=>none
def asks (ops:Array Oper) (S:af) (o:Oper):Option (Nat×Nat):=
 match(match o.guard with
  |some (j,_)=>match(ops[j]?).bind (·.dst)with
   |some d=>S.open d
   |none=>none
  |none=>none),o.op with
 |some x,_=>some x
 |none,.pick (.tmp c) _ _=>S.open c
 |none,_=>none
def af.DQ (S:af) (t:Nat) (x:Bool):af:={S with tmps:=S.tmps.set t (.c1 (.p .bool (.b x)))}
def SV.fix (i:Nat) (j:Int):SV→SV
 | .v (.c (.p (.int k) (.v i')))=>if i'=i then .v (.c (.p (.int k) (.i j)))else .v (.c (.p (.int k) (.v i')))
 |x=>x
def af.fix (S:af) (i:Nat) (j:Int):af:={S with tmps:=S.tmps.map (SV.fix i j)}
def ans (T:aU) (ops:Array Oper) (S:af) (o:Oper):Option (Nat×dZ×Nat):=match o.op,D_ ops S o with
 | .indexAddr ty x (.tmp t),some true=>match S.arg x,S.tmps[t]?,(List.lookup ty T).bind Ty.arr with
  |some (.v (.c (.ptr n off))),some (.v (.c (.p (.int k) (.v i)))),some (bS,_)=>match List.lookup n S.heap with
   |some (.box cs)=>if decide (bS≤16)&& (((cs.drop off).take bS).any (fun c=>match c with| .p _ _=>false|_=>true)||ops.any (fun o'=>match o'.op with| .store _ (.tmp t') _=>o.dst==some t'|_=>false))then some (i,k,bS)else none
   |_=>none
  |_,_,_=>none
 |_,_=>none
def ER (f:af→Option RT) (i:Nat) (k:dZ):Nat→Int→af→Option RT
 |0,_,_=>some .stuck
 |c+1,j,S=>match f ((S.more 1).fix i j),ER f i k c (j+1) (S.more 1)with
  |some a,some b=>some (.ops [.bi .eql k (.v i) (.i j)] (.ite (.v S.nv) a b))
  |_,_=>none
def Ei (e:fL):List Nat:=e.cj.map (·.1)++e.ar
def so (T:aU) (C:cK) (b:Nat) (ops:Array Oper):Nat→List Oper→Nat→af→jR→Option RT
 |0,_,_,_,_=>none
 |_+1,[],_,S,acc=>some (.ak S acc.reverse)
 | n+1,o::l,k,S,acc=>match asks ops S o with
  | some (i,t)=>if i<S.nv then match so T C b ops n (o::l) k (S.DQ t true) acc,so T C b ops n (o::l) k (S.DQ t false) acc with
    |some t1,some t2=>some (.ite (.v i) t1 t2)
    |_,_=>none
   else none
  |none=>match ans T ops S o with
  |some (i,kd,bS)=>if i<S.nv then ER (fun S'=>so T C b ops n (o::l) k S' acc) i kd bS 0 S else none
  | none=>match D_ ops S o with
   |some false=>so T C b ops n l (k+1) (S.dV o.dst (.aj [])) (([],[])::acc)
   |some true=>match kM T C S (b+8*k) o.op with
    |some r=>if tQ S.nv r.nds then(so T C b ops n l (k+1) (((S.A5 r.e).dV o.dst r.v).more (fM r.nds)) ((S.mN o.op++r.rd,Ei r.e)::acc)).map (.ops r.nds)else none
    |none=>if(List.lookup 999998 T).isSome then some .stuck else none
   |none=>none
section
variable {P:bB} {T:aU} {C:cK} {ρ:List L} {b:Nat} {ops:Array Oper}
theorem Ug {S:af} {d} {v}:(S.dV d v).aa ρ=(S.aa ρ).put d (v.aa ρ):=by
 cases d with
 |none=>rfl
 |some d=>simp_all[af.dV,af.aa,av.put]
theorem ais {S:af} {e}:(S.A5 e).aa ρ=(S.aa ρ).df (e.aa ρ):=by
 simp_all[af.A5,af.aa,av.df,fL.aa,bY.aa]
theorem amA {S:af} {n}:(S.more n).aa ρ=S.aa ρ:=rfl
theorem alo {S:af} {x}:(∀v,x= .const v→(G5 v).isSome=true∨(ofValue v).names=[])→(S.aa ρ).raw x=S.raw x:=by
 intro hc
 cases x with
 |tmp t=>
  simp only[av.raw,af.raw,af.aa,bV]
  cases S.tmps[t]? with
  |none=>rfl
  |some v=>simp only[aV,SV.ng]
 |const v=>
  simp only[av.raw,af.raw];unfold ofValue;split
  · split
    · rename_i us _;show(us.toList.map lb).flatMap C.names=[]
      rw[List.flatMap_eq_nil_iff];intro c hc;obtain⟨u,_,rfl⟩:=fe.1 hc;unfold lb;split
      · rfl
      · split<;>rfl
    · rfl
  · split<;>rfl
  · unfold lb;split
    · rfl
    · split<;>rfl
 |_=>rfl
theorem arM (v):(ofValue v).names=[]:=by
 unfold ofValue;split
 · split
   · rename_i us _;show(us.toList.map lb).flatMap C.names=[]
     rw[List.flatMap_eq_nil_iff];intro c hc;obtain⟨u,_,rfl⟩:=fe.1 hc;unfold lb;split
     · rfl
     · split<;>rfl
   · rfl
 · split<;>rfl
 · unfold lb;split
   · rfl
   · split<;>rfl
theorem afT {S:af} {op}:(S.aa ρ).mN op=S.mN op:=by
 have:∀l:List bD,l.flatMap (S.aa ρ).raw=l.flatMap S.raw:=by
  intro l
  induction l with
  |nil=>rfl
  |cons x l ih=>simp_all[alo,arM]
 cases op with
 |move x=>cases x<;>first|rfl|exact this _
 |assign x=>cases x<;>first|rfl|exact this _
 |_=>first|rfl|exact this _
theorem apT (e):(e.aa ρ).cj.map (·.1)++(e.aa ρ).ar=Ei e:=by
 simp only[Ei,fL.aa,bY.aa,gd];rfl
theorem Ui {S:af} {i t} {x} (h:S.open t=some (i,t)) (hx:((At.v i).ev ρ).bx=x):(S.DQ t x).aa ρ=S.aa ρ:=by
 unfold af.open at h;split at h
 · rename_i i' hs;cases h;simp only[af.DQ,af.aa,List.map_set];congr 1;apply zh;intro j;rw[Ph];split
   · rename_i htj;subst htj;have hlt:=(dr.1 hs).1;rw[ay (by simpa using hlt),bV,hs];simp only[aV,SV.aa,aF.aa,SC.aa,Kd.pv,hx];rfl
   · rfl
 · cases h
theorem aAx {S} {o} {i t} (h:asks ops S o=some (i,t)):S.open t=some (i,t):=by
 have key:∀d,S.open d=some (i,t)→S.open t=some (i,t):=by
  intro d hd;have:d=t:=by
   unfold af.open at hd;grind
  simp_all
 grind[asks]
theorem Yu {S} {o} {t} (h:D_ ops S o=some t):r8 ops (S.aa ρ) o=some t:=by
 unfold D_ at h;unfold r8
 cases hg:o.guard with
 |none=>simp_all
 | some y=>
  obtain⟨j,want⟩:=y;rw[hg]at h;simp only at h⊢
  cases hd:(ops[j]?).bind (·.dst)with
  |none=>simp_all
  |some d=>
   rw[hd]at h;simp only at h⊢;split at h
   · rename_i tt hs;cases h;have:(S.aa ρ).tmps[d]? =some (.v (.c (.p (.sc (.bool tt))))):=by simp only[af.aa,bV,hs];rfl
     rw[this]
   · rename_i hs;cases h;have:(S.aa ρ).tmps[d]? =some (.aj []):=by simp only[af.aa,bV,hs];rfl
     rw[this]
   · cases h
theorem aon {S:af} {i} {j} (hj:((At.v i).ev ρ).ah=j):(S.fix i j).aa ρ=S.aa ρ:=by
 simp only[af.fix,af.aa,gd];congr 1;apply fK;intro x _;simp only[Function.comp];unfold SV.fix;split
 · split
   · rename_i hi;subst hi;simp only[SV.aa,aF.aa,SC.aa,Kd.pv,hj];rfl
   · rfl
 · rfl
theorem Ya {f:af→Option RT} {i:Nat} {k:dZ}:∀{c:Nat} {j:Int} {S:af} {t:RT} {ρ:List L} {x:(af×jR)×List L},ER f i k c j S=some t→ρ.length=S.nv→i<S.nv→t.aa ρ=some x→
  ∃S1 a br,f S1=some a∧a.aa br=some x∧br.length=S1.nv∧(∃ys,br=ρ++ys)∧∀zs,S1.aa (br++zs)=S.aa (br++zs)
 |0,j,S,t,ρ,x,h,hl,hi,hd=>by cases h;cases hd
 | c + 1,j,S,t,ρ,x,h,hl,hi,hd=>by
  simp only[ER]at h;split at h
  · rename_i a b' h1 h2;cases h;simp only[RT.aa,p8,Nd.ev,cU,aV]at hd;have hv:((At.v S.nv).ev (ρ++ [L.b (decide (((At.v i).ev ρ).ah=((At.i j).ev ρ).ah))])).bx=decide (((At.v i).ev ρ).ah=j):=by
      have e0:(ρ++ [L.b (decide (((At.v i).ev ρ).ah=((At.i j).ev ρ).ah))])[S.nv]? =some (L.b (decide (((At.v i).ev ρ).ah=((At.i j).ev ρ).ah))):=by
       simp_all
      have e1:(At.v S.nv).ev (ρ++ [L.b (decide (((At.v i).ev ρ).ah=((At.i j).ev ρ).ah))])=L.b (decide (((At.v i).ev ρ).ah=((At.i j).ev ρ).ah)):=by
       show((ρ++ [L.b (decide (((At.v i).ev ρ).ah=((At.i j).ev ρ).ah))])[S.nv]?).getD (L.b false)=_;rw[e0];rfl
      rw[e1];rfl
    have sU:∀ys,(At.v i).ev (ρ++ys)=(At.v i).ev ρ:=fun ys=>At.ep (m:=S.nv) (by grind[At.in]) om
    split at hd
    · refine⟨(S.more 1).fix i j,a,_,h1,hd,by simp[af.fix,af.more,hl],⟨_,rfl⟩,fun zs=> ?_⟩;rw[aon (by simp_all)];rfl
    · obtain⟨S1,a1,br,k1,k2,k3,⟨ys,k4⟩,k5⟩:=Ya h2 (by simp[af.more,hl]) (by grind[af.more]) hd;exact⟨S1,a1,br,k1,k2,k3,⟨_,by rw[k4,cd]⟩,k5⟩
  · cases h
theorem uO (hT:aU.ok P T) (hC:cK.ok P C):∀{n:Nat} {l:List Oper} {k:Nat} {S S':af} {acc zb:jR} {t:RT} {ρ ρ':List L},so T C b ops n l k S acc=some t→ρ.length=S.nv→t.aa ρ=some ((S',zb),ρ')→
  S'.nv=ρ'.length∧(∃ys,ρ'=ρ++ys)∧∃rs ts Sp,jX P Sp b ops l k (S.aa ρ')=some (rs,ts,S'.aa ρ')∧zb=acc.reverse++ts
 |0,_,_,_,_,_,_,_,_,_,h,_,_=>by cases h
 |n+1,[],k,S,S',acc,zb,t,ρ,ρ',h,hl,hd=>by
  cases h;cases hd;exact⟨hl.symm,⟨[],by simp⟩,[],[],fun _=>none,rfl,by simp⟩
 |n+1,o::l,k,S,S',acc,zb,t,ρ,ρ',h,hl,hd=>by
  simp only[so]at h;split at h
  · rename_i i tt aCt;split at h
    · rename_i hi;split at h
      · rename_i t1 t2 h1 h2;cases h;have hop:=aAx aCt;simp only[RT.aa]at hd;split at hd
        · rename_i ha;obtain⟨k1,⟨ys,k2⟩,rs,ts,Sp,k3,k4⟩:=uO hT hC h1 hl hd;have ha':((At.v i).ev ρ').bx=true:=by rw[k2,At.ep (m:=S.nv) (by simpa[At.in]using hi) om];exact ha
          exact⟨k1,⟨ys,k2⟩,rs,ts,Sp,by rw[←Ui hop ha'];exact k3,k4⟩
        · rename_i ha;obtain⟨k1,⟨ys,k2⟩,rs,ts,Sp,k3,k4⟩:=uO hT hC h2 hl hd;have ha':((At.v i).ev ρ').bx=false:=by rw[k2,At.ep (m:=S.nv) (by simpa[At.in]using hi) om];simpa using ha
          exact⟨k1,⟨ys,k2⟩,rs,ts,Sp,by rw[←Ui hop ha'];exact k3,k4⟩
      · cases h
    · cases h
  · split at h
    · split at h
      · rename_i hi;obtain⟨S1,a,br,j1,j2,j3,⟨xs,j4⟩,j5⟩:=Ya h hl hi hd;obtain⟨k1,⟨ys,k2⟩,rs,ts,Sp,k3,k4⟩:=uO hT hC j1 j3 j2;refine⟨k1,⟨xs++ys,by rw[k2,j4,cd]⟩,rs,ts,Sp,?_,k4⟩;rw[k2,←j5 ys,←k2];exact k3
      · cases h
    split at h
    · rename_i hg;obtain⟨k1,k2,rs,ts,Sp,k3,k4⟩:=uO hT hC h (by cases o.dst<;>exact hl) hd;refine⟨k1,k2,none::rs,([],[])::ts,Sp,?_,by rw[k4];simp⟩;have hg':=Yu (ρ:=ρ') hg;simp only[jX,lx,hg'];have e1:gj (S.aa ρ') o none=(S.dV o.dst (.aj [])).aa ρ':=by rw[Ug];rfl
      rw[e1,k3];rfl
    · rename_i hg;split at h
      · rename_i r hr;split at h
        · rename_i c_;simp only[aT]at h;obtain⟨t',h',rfl⟩:=h;simp only[RT.aa]at hd;split at hd
          · rename_i br he;obtain⟨xs,e1,e2⟩:=Fw he;have hnv:(((S.A5 r.e).dV o.dst r.v).more (fM r.nds)).nv=S.nv+fM r.nds:=by cases o.dst<;>rfl
            obtain⟨k1,⟨ys,k2⟩,rs,ts,Sp,k3,k4⟩:=uO hT hC h' (by rw[hnv,e1,bE,hl,e2]) hd;have y_:Sat ρ' S.nv r.nds:=by
             rw[k2,←hl];exact Ja (by rw[hl];exact c_) he
            let Sp':Spec:=fun d=>if d=b+8*k then some (r.v.aa ρ',r.e.aa ρ',r.rd)else Sp d
            have hop:=aju (ρ:=ρ') hT hC hr y_ Sp' (by simp[Sp']);refine⟨k1,⟨xs++ys,by rw[k2,e1,cd]⟩,some (r.aa ρ')::rs,(S.mN o.op++r.rd,Ei r.e)::ts,Sp',?_,by rw[k4];simp⟩;have hg':=Yu (ρ:=ρ') hg;simp only[jX,lx,hg',hop,aV];have e3:gj (S.aa ρ') o (some (r.aa ρ'))=(((S.A5 r.e).dV o.dst r.v).more (fM r.nds)).aa ρ':=by rw[amA,Ug,ais];rfl
            rw[e3,Ww (Sp':=Sp) (fun j hj=>by simp only[Sp'];rw[aC om]),k3];simp only[uW,afT,iA,qo,bz.aa,apT]
          · cases hd
        · cases h
      · split at h
        · cases h;cases hd
        · cases h
    · cases h
end
end
end
end Go.Proofs.YtndegphojkiblaaGreatDoor
