/- Towards the last file's theorem: part 9. -/
import Derived.Test.YtndegphojkiblaaGreatDoorG8
set_option linter.all false
set_option maxHeartbeats 4000000
set_option maxRecDepth 100000
namespace Go.Proofs.YtndegphojkiblaaGreatDoor
noncomputable section
section
open Go.RowKit
open Classical
abbrev cm:=List az
def cm.ok (P:aQ) (C:cm):Prop:=∀s∈C,s.ok P
def ag.EV (S:ag):List aM→Option (List aB)
 |[]=>some []
 |x::l=>match S.eu x,S.EV l with
  |some y,some ys=>some (y::ys)
  |_,_=>none
def ag.callee (S:ag):aM→Option (FuncId×List Nat)
 | .func f=>some (f,[])
 |x=>match S.arg x with
  |some (.v (.c (.fn f cQ)))=>some (f,cQ)
  |_=>none
def A' (T:aV) (S:ag) (d:Nat) (f:FuncId) (xs:List aB):cm→Option bm
 |[]=>none
 | s::C=>if s.f=f then match D5 T S d xs s with
   |some r=>some r
   |none=>A' T S d f xs C
  else A' T S d f xs C
def Mf (T:aV) (C:cm) (S:ag) (d:Nat) (x:aM) (args:List aM):Option bm:=
 match S.callee x,S.EV args with
 |some (f,cQ),some xs=>A' T S d f (xs++cQ.map fun n=> .c (.ptr n 0)) C
 |_,_=>none
def ag.cQ (S:ag):List aM→Option (List Nat)
 |[]=>some []
 |x::l=>match S.arg x,S.cQ l with
  |some (.v (.c (.ptr n 0))),some ns=>some (n::ns)
  |_,_=>none
def ag.A9:List SC→Option (List (List (Kd×At)))
 |[]=>some []
 | .p k x::l=> (ag.A9 l).map ([(k,x)]:: ·)
 | .nil::l=> (ag.A9 l).map ([(.sl,.r0)]:: ·)
 |_=>none
def L4 (T:aV) (S:ag) (t:aw) (m k x:aM):Option bm:=match S.arg m,S.arg k,S.arg x,List.lookup t T with
 |some (.v (.c (.mp n))),some (.v (.c (.p (.int .u64) _))),some _,some r=>match List.lookup n S.heap with
  |some .map=>if r.HS then some ⟨[],.c1 .dead,⟨[(n,.map)],[]⟩,[]⟩else none
  |_=>none
 |_,_,_,_=>none
def J6 (T:aV) (S:ag) (t:aw) (m k:aM):Option bm:=match S.arg m,S.arg k,List.lookup t T with
 |some (.v (.c (.mp n))),some (.v (.c (.p (.int .u64) _))),some r=>match List.lookup n S.heap with
  |some .map=>if r.HS then some ⟨[],.aj [],⟨[(n,.map)],[]⟩,[]⟩else none
  |_=>none
 |_,_,_=>none
def Jw (T:aV) (S:ag) (s d:aw) (x:aM):Option bm:=match S.arg x,List.lookup s T with
 | some (.v (.c (.own n))),some r=>match List.lookup n S.heap,r.sl with
  |some (.row e a),some e'=>match List.lookup e' T with
   |some r'=>if r'.int=some .u8∧s=d then some ⟨[.row a (.i 0) 1],.c1 (.own n),⟨[(n,.row e a)],[]⟩,[]⟩else none
   |none=>none
  |_,_=>none
 |_,_=>none
def N_ (T:aV) (S:ag) (t:aw) (x:aM):Option bm:=match S.arg x,List.lookup t T with
 | some (.v (.c (.ptr n off))),some r=>match List.lookup n S.heap,r.arr with
  |some (.box cs),some (bM,e)=>match List.lookup e T,ag.A9 ((cs.drop off).take bM)with
   |some re,some qs=>if re.size=1∧re.info=true∧0<bM∧bM≤4096∧qs.length=bM then some ⟨[.lit qs],.c1 (.p .sl (.v S.nv)),⟨[],[n]⟩,[]⟩else none
   |_,_=>none
  |_,_=>none
 |_,_=>none
def Ju (T:aV) (S:ag) (t:aw) (s x:aM):Option bm:=match S.arg s,S.arg x,(List.lookup t T).bind Ty.elem with
 | some (.v (.c (.sub m (.i 0) ln))),some (.v (.c cx)),some e=>match List.lookup m S.heap,S.view S.nv cx,List.lookup e T with
  |some (.row e' a),some (nds,b),some re=>match re.app with
   |some (n,_)=>if e'=e then some ⟨nds++ [.GB a ln b n],.c1 (.sub m (.i 0) (.v (S.nv+fX nds+1))),⟨[(m,.row e (.v (S.nv+fX nds)))],[]⟩,[]⟩else none
   |none=>none
  |_,_,_=>none
 |_,_,_=>none
def Pw (T:aV) (S:ag) (d:Nat) (t t':aw) (s x:aM):Option bm:=match S.arg s,S.arg x,List.lookup t T,List.lookup t' T with
 | some (.v (.c .nil)),some (.v (.c (.p (.int .i64) a))),some r,some r'=>match r.elem,r'.int with
  | some e,some _=>match List.lookup e T with
   |some re=>match re.app,re.oX.bind yN with
    |some (n,b),some ps=>some ⟨[.rep a ps b,.row (.v S.nv) (.i 0) n,.app .r0 (.v S.nv) n b],.c1 (.own d),⟨[(d,.row e (.v (S.nv+2)))],[]⟩,[]⟩
    |_,_=>none
   |none=>none
  |_,_=>none
 |_,_,_,_=>none
def KL (T:aV) (S:ag) (d:Nat) (t t':aw) (s x:aM):Option bm:=match S.arg s,S.arg x,List.lookup t T,List.lookup t' T with
 | some (.v (.c (.own m))),some (.v (.c (.p (.int .i64) a))),some r,some r'=>match r.elem,r'.int,List.lookup m S.heap with
  | some e,some _,some (.row e' y)=>match List.lookup e T with
   |some re=>match re.app,re.oX.bind yN with
    |some (n,b),some ps=>if e'=e then some ⟨[.rep a ps b,.row (.v S.nv) (.i 0) n,.app y (.v S.nv) n b],.c1 (.own d),⟨[(d,.row e (.v (S.nv+2)))],[m]⟩,[]⟩else none
    |_,_=>none
   |none=>none
  |_,_,_=>none
 |_,_,_,_=>none
def N' (T:aV) (S:ag) (d:Nat) (b:Builtin) (args:List aM) (ts:List aw):Option bm:=
 match b,args,ts with
 | .len,[x],[t]=>d_ T S t x
 | .append,[s,x],[t,t']=>if t=t' then(if(List.lookup 999999 T).isSome then match Ju T S t s x with
   |some r=>some r
   |none=>uw T S d t s x
   else uw T S d t s x)else(match Pw T S d t t' s x with
   |some r=>some r
   |none=>KL T S d t t' s x)
 | .copy,[x,y],[t,_]=>Oj T S t x y
 | .min,[x,y],_=>match S.arg x,S.arg y with
  |some (.v (.c (.p (.int k) a))),some (.v (.c (.p (.int _) b)))=>some ⟨[.mn a b],.c1 (.p (.int k) (.v S.nv)),dQ,[]⟩
  |_,_=>none
 | .max,[x,y],_=>match S.arg x,S.arg y with
  |some (.v (.c (.p (.int k) a))),some (.v (.c (.p (.int _) b)))=>some ⟨[.mx a b],.c1 (.p (.int k) (.v S.nv)),dQ,[]⟩
  |_,_=>none
 | .cap,[x],[t]=>match S.arg x,List.lookup t T with
  |some (.v (.c .nil)),some r=>if r.sl.isSome then some (.pure (.c1 (.p (.int .i64) (.i 0))))else none
  |_,_=>none
 | .delete,[m,k],t::_=>J6 T S t m k
 |_,_,_=>none
def ji (T:aV) (C:cm) (S:ag) (d:Nat) (op:Op):Option bm:=match op with
 | .move (.tmp t)=> (S.tmps[t]?).map .pure
 | .move x=> (S.arg x).map .pure
 | .assign (.tmp t)=> (S.tmps[t]?).map .pure
 | .assign x=> (S.arg x).map .pure
 | .pick c a b=>match S.arg c with
  |some (.v (.c (.p .bool (.b t))))=> (if t then S.arg a else S.arg b).map .pure
  |_=>none
 | .alloc e=> ((List.lookup e T).bind Ty.oX).map fun ks=> ⟨[],.c1 (.ptr d 0),⟨[(d,.box (ks.map Kd.zero))],[]⟩,[]⟩
 | .box _ x=> (S.eu x).map fun x=> ⟨[],.c1 (.ptr d 0),⟨[(d,.box x.cells)],[]⟩,[]⟩
 | .build t parts=>M8 T S t parts.toList
 | .buildSlice t len parts=>Mr T S d t len parts.toList
 | .load t x=>O_ T S t x
 | .store t x y=>MB T S t x y
 | .nilCheck x=>match S.arg x with
  |some (.v (.c (.ptr n o)))=>some (.pure (.c1 (.ptr n o)))
  |some (.v (.c (.gg n o c m i)))=>some (.pure (.c1 (.gg n o c m i)))
  |some (.v (.c (.cB n i j)))=>some (.pure (.c1 (.cB n i j)))
  |some (.v (.c (.ref x j)))=>some (.pure (.c1 (.ref x j)))
  |some (.v (.c (.fn f cQ)))=>some (.pure (.c1 (.fn f cQ)))
  |_=>none
 | .binOp op t x y _=>PT T S op t x y
 | .unOp op _ x=>QZ S op x
 | .convert s t x=>match Ks T S s t x with
  |some r=>some r
  |none=>Jw T S s t x
 | .makeSlice t l c=>LY T S d t l c
 | .slice t x lo hi none=>match L_ T S t x lo hi with
  |some r=>some r
  |none=>match lo,hi with
   |none,none=>N_ T S t x
   |_,_=>none
 | .slice t x lo (some hi) (some mx)=>LG T S t x lo hi mx
 | .sliceToArrayPointer t x=>ON T S t x
 | .makeMap _ none=>some ⟨[],.c1 (.mp d),⟨[(d,.map)],[]⟩,[]⟩
 | .mapUpdate t m k x=>L4 T S t m k x
 | .fieldAddr t x f=>NU T S t x f
 | .indexAddr t x i=>Nw T S t x i
 | .index t x i=>match S.arg x,S.arg i,List.lookup t T with
  |some (.v (.c (.p .str a))),some (.v (.c (.p (.int _) b))),some r=>if r.ux then some ⟨[.tE a b],.c1 (.p (.int .u8) (.v S.nv)),dQ,[]⟩else none
  | some (.v (.agg cs)),some (.v (.c (.p (.int _) b))),some r=>match r.arr with
   | some (n,e)=>match List.lookup e T with
    |some re=>match zT cs 0 n re.size b 0 (if re.agg then re.size else 1)with
     |some (ks,nds)=>if re.info then(sE re ks S.nv).map fun v=> ⟨.fo b n::nds,v,dQ,[]⟩else none
     |none=>none
    |none=>none
   |none=>none
  |_,_,_=>none
 | .extract (.tmp t) i=>match S.tmps[t]? with
  |some (.aj xs)=>match xs[i]? with
   |some x=>some (.pure (.v x))
   |none=>none
  |_=>none
 | .makeFunc (.func f) first captured=>if first.size=0 then(S.cQ captured.toList).map fun ns=> .pure (.c1 (.fn f ns))else none
 | .panic _| .makeInterface _ _=>some ⟨[.fo (.i 0) 0],.c1 .dead,dQ,[]⟩
 | .call c=>match c.callee with
  | .value x=>Mf T C S d x c.args.toList
  | .builtin b=>N' T S d b c.args.toList c.argTypes.toList
  |_=>none
 |_=>none
section
variable {P:aQ} {T:aV} {C:cm} {S:ag} {ρ:List L} {d:Nat}
theorem Ue:∀{l:List aM} {xs:List aB},S.EV l=some xs→l.mapM (S.aa ρ).eu=some (xs.map (aB.aa ρ))
 |[],_,h=>by cases h;rfl
 |x::l,xs,h=>by
  simp only[ag.EV]at h;split at h
  · rename_i y ys h1 h2;cases h;simp only[je,ag.HV ρ h1,Ue h2];rfl
  · cases h
theorem acu:∀{l:List aM} {ns:List Nat},S.cQ l=some ns→l.mapM (S.aa ρ).cap=some ns
 |[],_,h=>by cases h;rfl
 |x::l,ns,h=>by
  simp only[ag.cQ]at h;split at h
  · rename_i n eg h1 h2;cases h;have RQ:(S.aa ρ).arg x=some (.v (.c (.ptr n 0))):=ag.bL ρ h1;have h3:(S.aa ρ).cap x=some n:=by simp only[ak.cap,RQ]
    simp only[je,h3,acu h2];rfl
  · cases h
theorem auU {x:aM} {y:FuncId×List Nat} (h:S.callee x=some y):(S.aa ρ).callee x=some y:=by
 unfold ag.callee at h;split at h
 · cases h;rfl
 · rename_i hno;split at h
   · rename_i f cQ hx;cases h;have bG:(S.aa ρ).arg x=some (.v (.c (.fn f cQ))):=ag.bL ρ hx
     cases x with
     |func f=>simp_all
     |_=>simp only[ak.callee,bG]
   · cases h
theorem PS {f:FuncId} {xs:List aB}:∀{C:cm} {r:bm},cm.ok P C→A' T S d f xs C=some r→∃s,s.ok P∧s.f=f∧D5 T S d xs s=some r
 |[],_,_,h=>by cases h
 |s::C,r,hC,h=>by
  simp only[A']at h;split at h
  · rename_i hf;split at h
    · rename_i r' hr;cases h;exact⟨s,hC s (by simp),hf,hr⟩
    · exact PS (fun s' hs'=>hC s' (by simp[hs'])) h
  · exact PS (fun s' hs'=>hC s' (by simp[hs'])) h
theorem alB (hC:cm.ok P C) {x:aM} {args:List aM} {r:bm} (h:Mf T C S d x args=some r) (hs:Sat ρ S.nv r.nds):
   ∀Sp:Spec,Sp d=some (r.v.aa ρ,r.e.aa ρ,r.rd)→u6 P Sp (S.aa ρ) d x args=some (r.aa ρ):=by
 intro Sp zg;unfold Mf at h;split at h
 · rename_i f cQ xs hf pO;obtain⟨s,h1,rfl,h2⟩:=PS hC h;have aX:=ayf (ρ:=ρ) h1 h2 hs;unfold u6;simp only[auU hf,Ue pO,zg];rw[au]
   · rfl
   · rw[ej,iP]at aX;exact aX
 · cases h
theorem adR {t:aw} (h:(eH P t).HS=true):∃kt vt,P.underlying t=some (.map kt vt)∧P.underlying kt=some (.int .u64):=by
 simp only[eH,Yd]at h;split at h
 · rename_i kt vt hu;split at h
   · rename_i hk;exact⟨kt,vt,hu,hk⟩
   · cases h
 · cases h
theorem aEZ {t:aw} (h:(eH P t).int=some .u8):P.underlying t=some (.int .u8):=by
 simp only[eH,GQ]at h;split at h
 · rename_i hu;cases h;exact hu
 · cases h
theorem Yy:∀{cs:List SC} {qs:List (List (Kd×At))},ag.A9 cs=some qs→∃ps,oV (cs.map (SC.aa ρ))=some ps∧qs.map (bp ρ)=ps.map fun q=> [q]
 |[],_,h=>by cases h;exact⟨[],rfl,rfl⟩
 | c ::cs,qs,h=>by
  have key:∀(k:Kd) (x:At),(ag.A9 cs).map ([(k,x)]:: ·)=some qs→(c.aa ρ).pv=some (k.pv (x.ev ρ))→∃ps,oV ((c::cs).map (SC.aa ρ))=some ps∧qs.map (bp ρ)=ps.map fun q=> [q]:=by
   intro k x h hc;simp only[aW]at h;obtain⟨qs',h1,rfl⟩:=h;obtain⟨ps,h2,h3⟩:=Yy h1;refine⟨k.pv (x.ev ρ)::ps,?_,?_⟩
   · simp only[oV]at h2⊢;simp_all
   · simp only[bC,h3];rfl
  cases c with
  |p k x=>exact key k x h rfl
  |nil=>exact key .sl .r0 h rfl
  |_=>cases h
theorem aog (hT:aV.ok P T) {t:aw} {m k x:aM} {r:bm} (h:L4 T S t m k x=some r):(yD P (S.aa ρ) t m k x).map (fun e=> (⟨.c .dead,e,[]⟩:bc))=some (r.aa ρ):=by
 unfold L4 at h;split at h
 · rename_i n a v row hm hk hx hr;have:=hT _ _ hr;subst this;split at h
   · rename_i hl;split at h
     · rename_i wx;cases h;obtain⟨kt,vt,h1,h2⟩:=adR wx;have tR:(S.aa ρ).arg m=some (.v (.c (.mp n))):=ag.bL ρ hm;have eD:(S.aa ρ).arg k=some (.v (.c (.p (.sc (.int .u64 (a.ev ρ).af))))):=ag.bL ρ hk;have bG:(S.aa ρ).arg x=some (v.aa ρ):=ag.bL ρ hx;simp only[yD,tR,eD,bG,h1,h2,dD,hl,aJ,SB.aa];rfl
     · cases h
   · cases h
 · cases h
theorem aqE (hT:aV.ok P T) {t:aw} {m k:aM} {r:bm} (h:J6 T S t m k=some r):(x7 P (S.aa ρ) t m k).map (fun e=> (⟨.aj [],e,[]⟩:bc))=some (r.aa ρ):=by
 unfold J6 at h;split at h
 · rename_i n a row hm hk hr;have:=hT _ _ hr;subst this;split at h
   · rename_i hl;split at h
     · rename_i wx;cases h;obtain⟨kt,vt,h1,h2⟩:=adR wx;have tR:(S.aa ρ).arg m=some (.v (.c (.mp n))):=ag.bL ρ hm;have eD:(S.aa ρ).arg k=some (.v (.c (.p (.sc (.int .u64 (a.ev ρ).af))))):=ag.bL ρ hk;simp only[x7,tR,eD,h1,h2,dD,hl,aJ,SB.aa];rfl
     · cases h
   · cases h
 · cases h
theorem awa (hT:aV.ok P T) {s d:aw} {x:aM} {r:bm} (h:Jw T S s d x=some r) (hs:Sat ρ S.nv r.nds):lD P (S.aa ρ) s d x=none∧(sr P (S.aa ρ) s d x).map bc.of=some (r.aa ρ):=by
 unfold Jw at h;split at h
 · rename_i n row hx hr;have:=hT _ _ hr;subst this;split at h
   · rename_i e a e' hl lK;split at h
     · rename_i r' he;have:=hT _ _ he;subst this;split at h
       · rename_i hc;cases h;obtain⟨h8,rfl⟩:=hc;obtain⟨⟨ls,h1,_⟩,_⟩:=hs;have bG:(S.aa ρ).arg x=some (.v (.c (.own n))):=ag.bL ρ hx;have hu:=Bm lK;have Rz:=aEZ h8;have hne:(a.ev ρ).ah≠ []:=by
           intro h0;simp only[Nd.ev,h0]at h1;simp at h1
         refine⟨?_,?_⟩
         · simp only[lD,bG,hu];simp_all
         · simp only[sr,bG,dD,hl,aJ,SB.aa,hu,Rz];rw[au ⟨trivial,hne⟩];rfl
       · cases h
     · cases h
   · cases h
 · cases h
theorem aAw (hT:aV.ok P T) {t:aw} {x:aM} {r:bm} (h:N_ T S t x=some r) (hs:Sat ρ S.nv r.nds):lq P (S.aa ρ) t x none none=none∧(sZ P (S.aa ρ) t x).map bc.of=some (r.aa ρ):=by
 unfold N_ at h;split at h
 · rename_i n off row hx hr;have:=hT _ _ hr;subst this;split at h
   · rename_i cs bM e hl ha;split at h
     · rename_i re qs he hq;have:=hT _ _ he;subst this;split at h
       · rename_i hc;cases h;obtain⟨c1,c2,c3,c4,c5⟩:=hc;obtain⟨l,h1,h2⟩:=hs.dM rfl;simp only[Nd.ev]at h1;cases h1;have bG:(S.aa ρ).arg x=some (.v (.c (.ptr n off))):=ag.bL ρ hx;have aHr:la P t=some (bM,e):=ha;obtain⟨ps,k1,k2⟩:=Yy (ρ:=ρ) hq;have bj:db P e=1:=c1;have wb:mU P e=true:=c2;have hlen:ps.length=bM:=by
           have:=cI List.length k2;simp only[ax]at this;omega
         refine⟨?_,?_⟩
         · simp only[lq,bG];rfl
         · simp only[sZ,bG,dD,hl,aJ,SB.aa,aHr];rw[←p7,←p8,k1];simp only;rw[au ⟨bj,wb,c3,c4,hlen⟩];simp only[aJ,bc.of,bm.aa,SV.aa,aB.aa,SC.aa,Kd.pv,h2,L.ah,k2];rfl
       · cases h
     · cases h
   · cases h
 · cases h
theorem aok (hT:aV.ok P T) {d:Nat} {t t':aw} {s x:aM} {r:bm} (h:Pw T S d t t' s x=some r) (hs:Sat ρ S.nv r.nds):(pq P (S.aa ρ) d t t' s x).map bc.of=some (r.aa ρ):=by
 unfold Pw at h;split at h
 · rename_i a r1 r2 hs0 hx hr1 hr2;have:=hT _ _ hr1;subst this;have:=hT _ _ hr2;subst this;split at h
   · rename_i e k dx hk;split at h
     · rename_i re he;have:=hT _ _ he;subst this;split at h
       · rename_i n b ps ft fM;cases h;have rE:jH P e=some (n,b):=ft;simp only[gE]at fM;obtain⟨ks,wq,hz⟩:=fM;obtain⟨⟨l1,h1,i1⟩,⟨l2,h2,i2⟩,⟨l3,h3,i3⟩,_⟩:=hs;have hO:eL P t=some e:=dx;have eD:=Hq (P:=P) (t:=t') hk;have hs':(S.aa ρ).arg s=some (.v (.c .nil)):=ag.bL ρ hs0;have bG:(S.aa ρ).arg x=some (.v (.c (.p (.sc (.int .i64 (a.ev ρ).af))))):=ag.bL ρ hx;simp only[Nd.ev]at h1;split at h1
         · rename_i c1;cases h1;have e1:(At.v S.nv).ev ρ= .r (List.replicate (a.ev ρ).af.toNat (bp ρ ps)):=by
            simp_all[Nd.n,At.ev,eN]
           have df:0< (a.ev ρ).af:=by
            simp only[Nd.ev,e1,L.ah]at h2;by_cases h0:(a.ev ρ).af.toNat=0
            · simp_all
            · omega
           simp only[Nd.ev,aiI]at h3;obtain⟨c3,h3⟩:=h3;cases h3;have e3:(At.v (S.nv+2)).ev ρ= .r (List.replicate (a.ev ρ).af.toNat (bp ρ ps)):=by
            have:=i3 0 (by simp[Nd.n]);simp only[gb,mL]at this;have e:S.nv+(Nd.rep a ps b).n+(Nd.row (At.v S.nv) (At.i 0) n).n=S.nv+2:=rfl;simp_all[At.ev,eN,L.ah]
           have hb:(a.ev ρ).af.toNat*b≤140737488355328:=by
            simp_all[At.ev,L.ah]
           simp only[pq,hO,hs',bG,eD,rE,AJ (P:=P) wq ρ,Ag hz];rw[au ⟨df,c1.2.1,hb⟩];simp only[aJ,bc.of,bm.aa,fO.aa,cb.aa,bC,cj,SB.aa,e3,L.ah];rfl
         · cases h1
       · cases h
     · cases h
   · cases h
 · cases h
theorem awP (hT:aV.ok P T) {d:Nat} {t t':aw} {s x:aM} {r:bm} (h:KL T S d t t' s x=some r) (hs:Sat ρ S.nv r.nds):(qM P (S.aa ρ) d t t' s x).map bc.of=some (r.aa ρ):=by
 unfold KL at h;split at h
 · rename_i m a r1 r2 hs0 hx hr1 hr2;have:=hT _ _ hr1;subst this;have:=hT _ _ hr2;subst this;split at h
   · rename_i e k e' y dx hk hl;split at h
     · rename_i re he;have:=hT _ _ he;subst this;split at h
       · rename_i n b ps ft fM;split at h
         · rename_i fK;subst fK;cases h;have rE:jH P e'=some (n,b):=ft;simp only[gE]at fM;obtain⟨ks,wq,hz⟩:=fM;obtain⟨⟨l1,h1,i1⟩,⟨l2,h2,i2⟩,⟨l3,h3,i3⟩,_⟩:=hs;have hO:eL P t=some e':=dx;have eD:=Hq (P:=P) (t:=t') hk;have hs':(S.aa ρ).arg s=some (.v (.c (.own m))):=ag.bL ρ hs0;have bG:(S.aa ρ).arg x=some (.v (.c (.p (.sc (.int .i64 (a.ev ρ).af))))):=ag.bL ρ hx;have dK:(S.aa ρ).fy e' (.own m)=some ((y.ev ρ).ah,[m]):=by
             simp only[ak.fy,dD,hl,aJ,SB.aa,if_true]
           simp only[Nd.ev]at h1;split at h1
           · rename_i c1;cases h1;have e1:(At.v S.nv).ev ρ= .r (List.replicate (a.ev ρ).af.toNat (bp ρ ps)):=by
              simp_all[Nd.n,At.ev,eN]
             have df:0< (a.ev ρ).af:=by
              simp only[Nd.ev,e1,L.ah]at h2;by_cases h0:(a.ev ρ).af.toNat=0
              · simp_all
              · omega
             simp only[Nd.ev,aiI]at h3;obtain⟨c3,h3⟩:=h3;cases h3;have e3:(At.v (S.nv+2)).ev ρ= .r ((y.ev ρ).ah++List.replicate (a.ev ρ).af.toNat (bp ρ ps)):=by
              have:=i3 0 (by simp[Nd.n]);simp only[gb,mL]at this;have e:S.nv+(Nd.rep a ps b).n+(Nd.row (At.v S.nv) (At.i 0) n).n=S.nv+2:=rfl;simp_all[At.ev,eN,L.ah]
             rw[e1]at c3;have wx:pq P (S.aa ρ) d t t' s x=none:=by
              simp_all[pq]
             simp only[qM,wx,uX,hO,hs',bG,eD,rE,AJ (P:=P) wq ρ,Ag hz,dK];rw[au ⟨df,by simp_all[L.ah],by simp_all[L.ah],c3.2.2.1⟩];simp only[aJ,bc.of,bm.aa,fO.aa,cb.aa,bC,cj,SB.aa,e3,L.ah];rfl
           · cases h1
         · cases h
       · cases h
     · cases h
   · cases h
 · cases h
theorem aCm (hT:aV.ok P T) {t:aw} {s x:aM} {r:bm} (h:Ju T S t s x=some r) (hs:Sat ρ S.nv r.nds):(r7 P (S.aa ρ) t s x).map bc.of=some (r.aa ρ)∧∃a b c,r.v.aa ρ= .v (.c (.sub a b c)):=by
 unfold Ju at h;split at h
 · rename_i m ln cx e hs0 hx dx;split at h
   · rename_i e' a nds b re hl hv he;have:=hT _ _ he;subst this;split at h
     · rename_i n bb ft;split at h
       · rename_i fK;subst fK;cases h;have rE:jH P e'=some (n,bb):=ft;have hs':(S.aa ρ).arg s=some (.v (.c (.sub m 0 (ln.ev ρ).af.toNat))):=ag.bL ρ hs0;have bG:(S.aa ρ).arg x=some (.v (.c (cx.aa ρ))):=ag.bL ρ hx;obtain⟨hs1,hs2⟩:=Sat.app hs;obtain⟨ls,h1,h2⟩:=hs2.one;simp only[Nd.ev,aiI]at h1;obtain⟨hc,h1⟩:=h1;cases h1;have oI:=h2 0 (by simp[Nd.n]);have kM:=h2 1 (by simp[Nd.n]);simp only[gb,mL,eN]at oI;simp only[zB,mL,eN]at kM;refine⟨?_,_,_,_,rfl⟩;simp only[r7,hs',bG,dD,hl,aJ,SB.aa,rZ hv hs1,Ai hT dx,rE];rw[au ⟨trivial,hc.1,hc.2⟩];simp only[aJ,bc.of,bm.aa,fO.aa,cb.aa,bC,cj,SB.aa,oI,kM,L.ah,SV.aa,aB.aa,SC.aa,L.af,gd];rfl
       · cases h
     · cases h
   · cases h
 · cases h
theorem aql {t:aw} {s x:aM} {r:bm} (h:uw T S d t s x=some r):r.v.aa ρ= .v (.c (.own d)):=by
 unfold uw at h
 repeat' split at h
 all_goals first| (cases h;rfl)|cases h
theorem aEP (hT:aV.ok P T) {b:Builtin} {args:List aM} {ts:List aw} {r:bm} (h:N' T S d b args ts=some r) (hs:Sat ρ S.nv r.nds) {Sp:Spec} (zg:Sp d=some (r.v.aa ρ,r.e.aa ρ,r.rd)):lp P Sp (S.aa ρ) d b args ts=some (r.aa ρ):=by
 unfold N' at h;split at h
 · exact aCR hT h hs
 · rename_i s x t t';split at h
   · rename_i CH;have h0:uw T S d t s x=some r→lp P Sp (S.aa ρ) d .append [s,x] [t,t']=some (r.aa ρ):=fun h=>by
       simp only[lp,au CH,zg];rw[aql h];exact aCN hT h hs
     split at h
     · split at h
       · rename_i r' gC;cases h;obtain⟨h1,a,b,c,h2⟩:=aCm hT gC hs;simp_all[lp,au]
       · exact h0 h
     · exact h0 h
   · rename_i CH;simp only[lp,aE CH];split at h
     · rename_i r' gC;cases h;have:=aok hT gC hs;simp only[aW]at this⊢;obtain⟨v,h1,h2⟩:=this;exact⟨v,by simp only[qM,h1],h2⟩
     · exact awP hT h hs
 · exact aFJ hT h hs
 · rename_i _ x y;split at h
   · rename_i k a k' b hx hy;cases h;obtain⟨l,h1,h2⟩:=hs.dM rfl;simp only[Nd.ev]at h1;cases h1;have bG:(S.aa ρ).arg x=some (.v (.c (.p (.sc (.int k (a.ev ρ).af))))):=ag.bL ρ hx;have hy':(S.aa ρ).arg y=some (.v (.c (.p (.sc (.int k' (b.ev ρ).af))))):=ag.bL ρ hy;simp only[lp,bG,hy',QM,aJ,bc.pure,bm.aa,SV.aa,aB.aa,SC.aa,Kd.pv,h2];rfl
   · cases h
 · rename_i _ x y;split at h
   · rename_i k a k' b hx hy;cases h;obtain⟨l,h1,h2⟩:=hs.dM rfl;simp only[Nd.ev]at h1;cases h1;have bG:(S.aa ρ).arg x=some (.v (.c (.p (.sc (.int k (a.ev ρ).af))))):=ag.bL ρ hx;have hy':(S.aa ρ).arg y=some (.v (.c (.p (.sc (.int k' (b.ev ρ).af))))):=ag.bL ρ hy;simp only[lp,bG,hy',Pu,aJ,bc.pure,bm.aa,SV.aa,aB.aa,SC.aa,Kd.pv,h2];rfl
   · cases h
 · rename_i x t;split at h
   · rename_i row hx hr;have:=hT _ _ hr;subst this;split at h
     · rename_i lK;cases h;obtain⟨e,he⟩:=zu.1 lK;have bG:(S.aa ρ).arg x=some (.v (.c .nil)):=ag.bL ρ hx;simp only[lp,bG,Bm he];rfl
     · cases h
   · cases h
 · simp only[lp];exact aqE hT h
 · cases h
theorem xo (v:SV):(bm.pure v).aa ρ=bc.pure (v.aa ρ):=rfl
theorem aoX (hT:aV.ok P T) (hC:cm.ok P C) {op:Op} {r:bm} (h:ji T C S d op=some r) (hs:Sat ρ S.nv r.nds):
  ∀Sp:Spec,Sp d=some (r.v.aa ρ,r.e.aa ρ,r.rd)→bu P Sp (S.aa ρ) d op=some (r.aa ρ):=by
 intro Sp zg
 cases op with
 |move x=>
  cases x with
  | tmp t=>
    simp only[ji,aW]at h;obtain⟨v,hv,rfl⟩:=h;simp_all[ag.aa,bu,aJ,xo]
  | _=>
    simp only[ji,aW]at h;obtain⟨v,hv,rfl⟩:=h;simp only[bu,ag.bL ρ hv,aJ,xo]
 |assign x=>
  cases x with
  | tmp t=>
    simp only[ji,aW]at h;obtain⟨v,hv,rfl⟩:=h;simp_all[ag.aa,bu,aJ,xo]
  | _=>
    simp only[ji,aW]at h;obtain⟨v,hv,rfl⟩:=h;simp only[bu,ag.bL ρ hv,aJ,xo]
 |pick c a b=>
  simp only[ji]at h;split at h
  · rename_i t hc;simp only[aW]at h;obtain⟨v,hv,rfl⟩:=h;have hc':(S.aa ρ).arg c=some (.v (.c (.p (.sc (.bool t))))):=ag.bL ρ hc;simp only[bu,hc'];cases t
    · simp_all[lP,if_false,ag.bL,aJ,xo]
    simp_all[if_true,ag.bL,aJ,xo]
  · cases h
 |alloc e=>
  simp only[ji,aW,gE]at h;obtain⟨ks,⟨row,hr,hk⟩,rfl⟩:=h;have:=hT _ _ hr;subst this;simp only[bu,AJ (P:=P) hk ρ];rfl
 |box e x=>
  simp only[ji,aW]at h;obtain⟨y,hy,rfl⟩:=h;simp only[bu,ag.HV ρ hy,aJ,aB.BQ];rfl
 |build t parts=>exact aBT hT h
 |buildSlice t len parts=>exact aBQ hT h hs
 |load t x=>exact avk hT h hs
 |store t x y=>exact axw hT h hs
 |nilCheck x=>
  simp only[ji]at h;split at h
  · rename_i hx;cases h;have:=ag.bL ρ hx;simp only[bu,this,SV.aa,aB.aa,SC.aa];rfl
  · rename_i hx;cases h;have:=ag.bL ρ hx;simp only[bu,this,SV.aa,aB.aa,SC.aa];rfl
  · rename_i hx;cases h;have:=ag.bL ρ hx;simp only[bu,this,SV.aa,aB.aa,SC.aa];rfl
  · rename_i hx;cases h;have:=ag.bL ρ hx;simp only[bu,this,SV.aa,aB.aa,SC.aa];rfl
  · rename_i hx;cases h;have:=ag.bL ρ hx;simp only[bu,this,SV.aa,aB.aa,SC.aa];rfl
  · cases h
 |binOp op t x y yt=>exact alP hT h hs
 |unOp op t x=>exact amz h hs
 |convert s t x=>
  simp only[ji]at h;split at h
  · rename_i r' hr;cases h;have:=asF hT hr hs;simp only[aW]at this;obtain⟨v,h1,h2⟩:=this;simp only[bu,h1,h2]
  · obtain⟨h1,h2⟩:=awa hT h hs;simp only[bu,h1,h2]
 |makeSlice t l c=>exact apq hT h hs
 |sliceToArrayPointer t x=>
  have:=alm hT h hs;simp_all[aW,bu,aJ]
 |slice t x lo hi mx=>
  cases mx with
  | some mx=>
    cases hi with
    |none=>cases h
    | some hi=>
      have:=asT hT h hs;simp_all[aW,bu,aJ]
  | none=>
    simp only[ji]at h;split at h
    · rename_i r' hr;cases h;have:=azx hT hr hs;simp only[aW]at this;obtain⟨v,h1,h2⟩:=this;simp only[bu,h1,h2]
    · split at h
      · obtain⟨h1,h2⟩:=aAw hT h hs;simp only[bu,h1,h2]
      · cases h
 |makeMap t r0=>
  cases r0 with
  |some _=>cases h
  |none=>cases h;rfl
 |mapUpdate t m k x=>exact aog hT h
 |fieldAddr t x f=>exact akF hT h
 |indexAddr t x i=>exact ajd hT h hs
 | index t x i =>
  simp only[ji]at h;split at h
  · rename_i a k b row hx hi hr;have:=hT _ _ hr;subst this;split at h
    · rename_i hS;cases h;obtain⟨l,h1,h2⟩:=hs.dM rfl;simp only[Nd.ev]at h1;split at h1
      · rename_i h0;split at h1
        · rename_i bb hb;cases h1;have bG:(S.aa ρ).arg x=some (.v (.c (.p (.sc (.string (a.ev ρ).cv))))):=ag.bL ρ hx;have hi':(S.aa ρ).arg i=some (.v (.c (.p (.sc (.int k (b.ev ρ).af))))):=ag.bL ρ hi;simp only[bu,bG,hi',x_ (P:=P) hS,hb];rw[jr h0];simp only[bc.pure,bm.aa,SV.aa,aB.aa,SC.aa,Kd.pv,h2,L.af];rfl
        · cases h1
      · cases h1
    · cases h
  · rename_i cs k b row hx hi hr;have:=hT _ _ hr;subst this;split at h
    · rename_i n e ha;split at h
      · rename_i re he;have:=hT _ _ he;subst this;split at h
        · rename_i ks nds hc;split at h
          · rename_i aHs;simp only[aW]at h;obtain⟨v,h1,rfl⟩:=h;obtain⟨⟨ls,h2,_⟩,hs2⟩:=hs;simp only[Nd.ev]at h2;split at h2
            · rename_i hb;have bG:(S.aa ρ).arg x=some (.v (.agg (cs.map (SC.aa ρ)))):=ag.bL ρ hx;have hi':(S.aa ρ).arg i=some (.v (.c (.p (.sc (.int k (b.ev ρ).af))))):=ag.bL ρ hi;obtain⟨hu,_⟩:=D0 ha;have aHt:mU P e=true:=aHs;have hs3:Sat ρ S.nv nds:=hs2;obtain⟨h4,h5⟩:=Q8 hc hs3;have h6:=agn (t:=e) (off:=0) h1 h4 (fun jj hj=>by
               obtain⟨k,a,k1,k2,k3⟩:=h5 jj om;exact⟨k,a,k1,by rw[Dd]at k2⊢;exact k2,k3⟩)
              have bj:(eH P e).size=db P e:=rfl;rw[Dd,bj]at h6;simp only[bu,bG,hi',hu];rw[jr ⟨hb.1,hb.2,aHt⟩,h6];rfl
            · cases h2
          · cases h
        · cases h
      · cases h
    · cases h
  · cases h
 |extract t i=>
  cases t with
  | tmp t=>
    simp only[ji]at h;split at h
    · rename_i xs hx;split at h
      · rename_i x CI;cases h;have h1:(S.aa ρ).tmps[t]? =some (.aj (xs.map (aB.aa ρ))):=by simp only[ag.aa,bO,hx];rfl
        simp only[bu,h1,bO,CI,aJ];rfl
      · cases h
    · cases h
  |_=>cases h
 |makeFunc fn first captured=>
  cases fn with
  | func f=>
    simp only[ji]at h;split at h
    · rename_i hz;simp only[aW]at h;obtain⟨ns,fp,rfl⟩:=h;simp only[bu,au hz,acu fp];rfl
    · cases h
  |_=>cases h
 |panic x=>
  simp only[ji]at h;cases h;obtain⟨⟨ls,h1,_⟩,_⟩:=hs;simp[Nd.ev,At.ev,L.af]at h1
 |makeInterface t x=>
  simp only[ji]at h;cases h;obtain⟨⟨ls,h1,_⟩,_⟩:=hs;simp[Nd.ev,At.ev,L.af]at h1
 |call c=>
  obtain⟨callee,args,ts⟩:=c
  cases callee with
  |builtin b=>exact aEP hT h hs zg
  |invoke=>cases h
  |value f=>exact alB hC h hs Sp zg
 |_=>cases h
end
theorem ama {P:aQ} {Sp Sp':Spec} {st:ak} {d:Nat} {op:Op} (h:Sp d=Sp' d):bu P Sp st d op=bu P Sp' st d op:=by
 cases op with
 |call c=>
  obtain⟨callee,args,ts⟩:=c
  cases callee with
  |value f=>simp only[bu,u6,h]
  |builtin b=>simp only[bu,lp,h]
  |_=>rfl
 |slice t x lo hi mx=>cases mx<;>cases hi<;>rfl
 |move x=>cases x<;>rfl
 |assign x=>cases x<;>rfl
 |extract t i=>cases t<;>rfl
 |makeFunc fn=>cases fn<;>rfl
 |makeMap t r=>cases r<;>rfl
 |_=>rfl
theorem V8 {P:aQ} {Sp Sp':Spec} {b:Nat} {ops:Array Oper}:∀{l:List Oper} {k:Nat} {st:ak},(∀j,k≤j→Sp (b+8*j)=Sp' (b+8*j))→j_ P Sp b ops l k st=j_ P Sp' b ops l k st
 |[],_,_,_=>rfl
 | o::l,k,st,h=>by
  have h1:kQ P Sp b ops st k o=kQ P Sp' b ops st k o:=by
   unfold kQ;rw[ama (h k (cT _))]
  simp only[j_,h1]
  cases kQ P Sp' b ops st k o with
  |none=>rfl
  |some r=>simp only[V8 (l:=l) (k:=k+1) (fun j hj=>h j om)]
inductive RT where
 |ar (S:ag) (ts:gW)
 |ops (nds:List Nd) (k:RT)
 |ite (a:At) (x y:RT)
 |stuck
deriving Inhabited
def RT.aa:RT→List L→Option ((ag×gW)×List L)
 | .ar S ts,ρ=>some ((S,ts),ρ)
 | .ops nds k,ρ=>match qQ ρ nds with
  |some ρ'=>k.aa ρ'
  |none=>none
 | .ite a x y,ρ=>if(a.ev ρ).br then x.aa ρ else y.aa ρ
 | .stuck,_=>none
def ag.vJ (S:ag) (d:Option Nat) (v:SV):ag:=match d with
 |some d=> {S with tmps:=S.tmps.set d v}
 |none=>S
def ag.Ad (S:ag) (e:fO):ag:={S with heap:=e.jk++S.heap,ao:=e.ao++S.ao}
def ag.more (S:ag) (n:Nat):ag:={S with nv:=S.nv+n}
def ag.raw (S:ag):aM→List Nat
 | .tmp t=>match S.tmps[t]? with
  |some v=>v.names
  |none=> []
 |_=> []
def ag.na (S:ag):Op→List Nat
 | .extract _ _=> []
 | .move (.tmp _)=> []
 | .assign (.tmp _)=> []
 |op=>op.operands.toList.flatMap S.raw
def EM (ops:Array Oper) (S:ag) (o:Oper):Option Bool:=match o.guard with
 |none=>some true
 | some (j,want)=>match(ops[j]?).bind (·.dst)with
  |some d=>match S.tmps[d]? with
   |some (.v (.c (.p .bool (.b t))))=>some (t==want)
   |some (.aj [])=>some false
   |_=>none
  |none=>none
def ag.open (S:ag) (t:Nat):Option (Nat×Nat):=match S.tmps[t]? with
 |some (.v (.c (.p .bool (.v i))))=>some (i,t)
 |_=>none
def asks (ops:Array Oper) (S:ag) (o:Oper):Option (Nat×Nat):=
 match(match o.guard with
  |some (j,_)=>match(ops[j]?).bind (·.dst)with
   |some d=>S.open d
   |none=>none
  |none=>none),o.op with
 |some x,_=>some x
 |none,.pick (.tmp c) _ _=>S.open c
 |none,_=>none
def ag.Gu (S:ag) (t:Nat) (x:Bool):ag:={S with tmps:=S.tmps.set t (.c1 (.p .bool (.b x)))}
def SV.fix (i:Nat) (j:Int):SV→SV
 | .v (.c (.p (.int k) (.v i')))=>if i'=i then .v (.c (.p (.int k) (.i j)))else .v (.c (.p (.int k) (.v i')))
 |x=>x
def ag.fix (S:ag) (i:Nat) (j:Int):ag:={S with tmps:=S.tmps.map (SV.fix i j)}
def awC (T:aV) (ops:Array Oper) (S:ag) (o:Oper):Option (Nat×bS×Nat):=match o.op,EM ops S o with
 | .indexAddr ty x (.tmp t),some true=>match S.arg x,S.tmps[t]?,(List.lookup ty T).bind Ty.arr with
  |some (.v (.c (.ptr n off))),some (.v (.c (.p (.int k) (.v i)))),some (bM,_)=>match List.lookup n S.heap with
   |some (.box cs)=>if decide (bM≤16)&& (((cs.drop off).take bM).any (fun c=>match c with| .p _ _=>false|_=>true)||ops.any (fun o'=>match o'.op with| .store _ (.tmp t') _=>o.dst==some t'|_=>false))then some (i,k,bM)else none
   |_=>none
  |_,_,_=>none
 |_,_=>none
def G4 (f:ag→Option RT) (i:Nat) (k:bS):Nat→Int→ag→Option RT
 |0,_,_=>some .stuck
 |c+1,j,S=>match f ((S.more 1).fix i j),G4 f i k c (j+1) (S.more 1)with
  |some a,some b=>some (.ops [.bi .eql k (.v i) (.i j)] (.ite (.v S.nv) a b))
  |_,_=>none
def Dt (e:fO):List Nat:=e.jk.map (·.1)++e.ao
def tw (T:aV) (C:cm) (b:Nat) (ops:Array Oper):Nat→List Oper→Nat→ag→gW→Option RT
 |0,_,_,_,_=>none
 |_+1,[],_,S,acc=>some (.ar S acc.reverse)
 | n+1,o::l,k,S,acc=>match asks ops S o with
  | some (i,t)=>if i<S.nv then match tw T C b ops n (o::l) k (S.Gu t true) acc,tw T C b ops n (o::l) k (S.Gu t false) acc with
    |some t1,some t2=>some (.ite (.v i) t1 t2)
    |_,_=>none
   else none
  |none=>match awC T ops S o with
  |some (i,kd,bM)=>if i<S.nv then G4 (fun S'=>tw T C b ops n (o::l) k S' acc) i kd bM 0 S else none
  | none=>match EM ops S o with
   |some false=>tw T C b ops n l (k+1) (S.vJ o.dst (.aj [])) (([],[])::acc)
   |some true=>match ji T C S (b+8*k) o.op with
    |some r=>if uV S.nv r.nds then(tw T C b ops n l (k+1) (((S.Ad r.e).vJ o.dst r.v).more (fX r.nds)) ((S.na o.op++r.rd,Dt r.e)::acc)).map (.ops r.nds)else none
    |none=>if(List.lookup 999998 T).isSome then some .stuck else none
   |none=>none
section
variable {P:aQ} {T:aV} {C:cm} {ρ:List L} {b:Nat} {ops:Array Oper}
theorem YU {S:ag} {d:Option Nat} {v:SV}:(S.vJ d v).aa ρ=(S.aa ρ).put d (v.aa ρ):=by
 cases d with
 |none=>rfl
 |some d=>simp_all[ag.vJ,ag.aa,ak.put]
theorem amC {S:ag} {e:fO}:(S.Ad e).aa ρ=(S.aa ρ).cq (e.aa ρ):=by
 simp_all[ag.Ad,ag.aa,ak.cq,fO.aa,cb.aa]
theorem amt {S:ag} {n:Nat}:(S.more n).aa ρ=S.aa ρ:=rfl
theorem aEg {S:ag} {x:aM}:(∀v,x= .const v→(Fv v).isSome=true∨(ofValue v).names=[])→(S.aa ρ).raw x=S.raw x:=by
 intro hc
 cases x with
 |tmp t=>
  simp only[ak.raw,ag.raw,ag.aa,bO]
  cases S.tmps[t]? with
  |none=>rfl
  |some v=>simp only[aJ,SV.mQ]
 |const v=>
  simp only[ak.raw,ag.raw];unfold ofValue;split
  · split
    · rename_i us _;show(us.toList.map jS).flatMap C.names=[]
      rw[List.flatMap_eq_nil_iff];intro c hc;obtain⟨u,_,rfl⟩:=dy.1 hc;unfold jS;split
      · rfl
      · split<;>rfl
    · rfl
  · split<;>rfl
  · show(jS _).names=[]
    unfold jS;split
    · rfl
    · split<;>rfl
 |_=>rfl
theorem aEf (v:aD):(ofValue v).names=[]:=by
 unfold ofValue;split
 · split
   · rename_i us _;show(us.toList.map jS).flatMap C.names=[]
     rw[List.flatMap_eq_nil_iff];intro c hc;obtain⟨u,_,rfl⟩:=dy.1 hc;unfold jS;split
     · rfl
     · split<;>rfl
   · rfl
 · split<;>rfl
 · show(jS _).names=[]
   unfold jS;split
   · rfl
   · split<;>rfl
theorem awL {S:ag} {op:Op}:(S.aa ρ).na op=S.na op:=by
 have:∀l:List aM,l.flatMap (S.aa ρ).raw=l.flatMap S.raw:=by
  intro l
  induction l with
  |nil=>rfl
  |cons x l ih=>simp_all[aEg,aEf]
 cases op with
 |move x=>cases x<;>first|rfl|exact this _
 |assign x=>cases x<;>first|rfl|exact this _
 |_=>first|rfl|exact this _
theorem axA (e:fO):(e.aa ρ).jk.map (·.1)++(e.aa ρ).ao=Dt e:=by
 simp only[Dt,fO.aa,cb.aa,iP];rfl
theorem TD {S:ag} {i t:Nat} {x:Bool} (h:S.open t=some (i,t)) (hx:((At.v i).ev ρ).br=x):(S.Gu t x).aa ρ=S.aa ρ:=by
 unfold ag.open at h;split at h
 · rename_i i' hs;cases h;simp only[ag.Gu,ag.aa,List.map_set];congr 1;apply uj;intro j;rw[IG];split
   · rename_i htj;subst htj;have hlt:=(cN.1 hs).1;rw[au (by simpa using hlt),bO,hs];simp only[aJ,SV.aa,aB.aa,SC.aa,Kd.pv,hx];rfl
   · rfl
 · cases h
theorem azQ {S:ag} {o:Oper} {i t:Nat} (h:asks ops S o=some (i,t)):S.open t=some (i,t):=by
 have key:∀d,S.open d=some (i,t)→S.open t=some (i,t):=by
   intro d hd;have:d=t:=by
     unfold ag.open at hd;split at hd
     · cases hd;rfl
     · cases hd
   simp_all
 unfold asks at h;split at h
 · rename_i x hx;cases h;split at hx
   · split at hx
     · exact key _ hx
     · cases hx
   · cases hx
 · exact key _ h
 · cases h
theorem Wz {S:ag} {o:Oper} {t:Bool} (h:EM ops S o=some t):tD ops (S.aa ρ) o=some t:=by
 unfold EM at h;unfold tD
 cases hg:o.guard with
 |none=>simp_all
 | some y=>
  obtain⟨j,want⟩:=y;rw[hg]at h;simp only at h⊢
  cases hd:(ops[j]?).bind (·.dst)with
  |none=>simp_all
  |some d=>
   rw[hd]at h;simp only at h⊢;split at h
   · rename_i tt hs;cases h;have:(S.aa ρ).tmps[d]? =some (.v (.c (.p (.sc (.bool tt))))):=by simp only[ag.aa,bO,hs];rfl
     rw[this]
   · rename_i hs;cases h;have:(S.aa ρ).tmps[d]? =some (.aj []):=by simp only[ag.aa,bO,hs];rfl
     rw[this]
   · cases h
theorem aDJ {S:ag} {i:Nat} {j:Int} (hj:((At.v i).ev ρ).af=j):(S.fix i j).aa ρ=S.aa ρ:=by
 simp only[ag.fix,ag.aa,iP];congr 1;apply gO;intro x _;simp only[Function.comp];unfold SV.fix;split
 · rename_i k i';split
   · rename_i hi;subst hi;simp only[SV.aa,aB.aa,SC.aa,Kd.pv,hj];rfl
   · rfl
 · rfl
theorem afB {f:ag→Option RT} {i:Nat} {k:bS}:∀{c:Nat} {j:Int} {S:ag} {t:RT} {ρ:List L} {x:(ag×gW)×List L},G4 f i k c j S=some t→ρ.length=S.nv→i<S.nv→t.aa ρ=some x→
  ∃S1 a bE,f S1=some a∧a.aa bE=some x∧bE.length=S1.nv∧(∃ys,bE=ρ++ys)∧∀zs,S1.aa (bE++zs)=S.aa (bE++zs)
 |0,j,S,t,ρ,x,h,hl,hi,hd=>by cases h;cases hd
 | c + 1,j,S,t,ρ,x,h,hl,hi,hd=>by
  simp only[G4]at h;split at h
  · rename_i a b' h1 h2;cases h;simp only[RT.aa,qQ,Nd.ev,bF,aJ]at hd;have hv:((At.v S.nv).ev (ρ++ [L.b (decide (((At.v i).ev ρ).af=((At.i j).ev ρ).af))])).br=decide (((At.v i).ev ρ).af=j):=by
      have e0:(ρ++ [L.b (decide (((At.v i).ev ρ).af=((At.i j).ev ρ).af))])[S.nv]? =some (L.b (decide (((At.v i).ev ρ).af=((At.i j).ev ρ).af))):=by
       simp_all
      have e1:(At.v S.nv).ev (ρ++ [L.b (decide (((At.v i).ev ρ).af=((At.i j).ev ρ).af))])=L.b (decide (((At.v i).ev ρ).af=((At.i j).ev ρ).af)):=by
       show((ρ++ [L.b (decide (((At.v i).ev ρ).af=((At.i j).ev ρ).af))])[S.nv]?).getD (L.b false)=_;rw[e0];rfl
      rw[e1];rfl
    have rn:∀ys,(At.v i).ev (ρ++ys)=(At.v i).ev ρ:=fun ys=>At.er (m:=S.nv) (by simpa[At.in]using hi) om
    split at hd
    · rename_i hc;rw[hv]at hc;refine⟨(S.more 1).fix i j,a,_,h1,hd,by simp[ag.fix,ag.more,hl],⟨_,rfl⟩,fun zs=> ?_⟩;rw[aDJ (by simp_all)];rfl
    · obtain⟨S1,a1,bE,k1,k2,k3,⟨ys,k4⟩,k5⟩:=afB h2 (by simp[ag.more,hl]) (by simp only[ag.more];omega) hd;exact⟨S1,a1,bE,k1,k2,k3,⟨_,by rw[k4,e_]⟩,k5⟩
  · cases h
theorem vH (hT:aV.ok P T) (hC:cm.ok P C):∀{n:Nat} {l:List Oper} {k:Nat} {S S':ag} {acc zh:gW} {t:RT} {ρ ρ':List L},tw T C b ops n l k S acc=some t→ρ.length=S.nv→t.aa ρ=some ((S',zh),ρ')→
  S'.nv=ρ'.length∧(∃ys,ρ'=ρ++ys)∧∃rs ts Sp,j_ P Sp b ops l k (S.aa ρ')=some (rs,ts,S'.aa ρ')∧zh=acc.reverse++ts
 |0,_,_,_,_,_,_,_,_,_,h,_,_=>by cases h
 |n+1,[],k,S,S',acc,zh,t,ρ,ρ',h,hl,hd=>by
  cases h;cases hd;exact⟨hl.symm,⟨[],by simp⟩,[],[],fun _=>none,rfl,by simp⟩
 |n+1,o::l,k,S,S',acc,zh,t,ρ,ρ',h,hl,hd=>by
  simp only[tw]at h;split at h
  · rename_i i tt aHv;split at h
    · rename_i hi;split at h
      · rename_i t1 t2 h1 h2;cases h;have hop:=azQ aHv;simp only[RT.aa]at hd;split at hd
        · rename_i ha;obtain⟨k1,⟨ys,k2⟩,rs,ts,Sp,k3,k4⟩:=vH hT hC h1 hl hd;have ha':((At.v i).ev ρ').br=true:=by rw[k2,At.er (m:=S.nv) (by simpa[At.in]using hi) om];exact ha
          exact⟨k1,⟨ys,k2⟩,rs,ts,Sp,by rw[←TD hop ha'];exact k3,k4⟩
        · rename_i ha;obtain⟨k1,⟨ys,k2⟩,rs,ts,Sp,k3,k4⟩:=vH hT hC h2 hl hd;have ha':((At.v i).ev ρ').br=false:=by rw[k2,At.er (m:=S.nv) (by simpa[At.in]using hi) om];simpa using ha
          exact⟨k1,⟨ys,k2⟩,rs,ts,Sp,by rw[←TD hop ha'];exact k3,k4⟩
      · cases h
    · cases h
  · split at h
    · rename_i i kd bM hf;split at h
      · rename_i hi;obtain⟨S1,a,bE,j1,j2,j3,⟨xs,j4⟩,j5⟩:=afB h hl hi hd;obtain⟨k1,⟨ys,k2⟩,rs,ts,Sp,k3,k4⟩:=vH hT hC j1 j3 j2;refine⟨k1,⟨xs++ys,by rw[k2,j4,e_]⟩,rs,ts,Sp,?_,k4⟩;rw[k2,←j5 ys,←k2];exact k3
      · cases h
    split at h
    · rename_i hg;obtain⟨k1,k2,rs,ts,Sp,k3,k4⟩:=vH hT hC h (by cases o.dst<;>exact hl) hd;refine⟨k1,k2,none::rs,([],[])::ts,Sp,?_,by rw[k4];simp⟩;have hg':=Wz (ρ:=ρ') hg;simp only[j_,kQ,hg'];have e1:gv (S.aa ρ') o none=(S.vJ o.dst (.aj [])).aa ρ':=by rw[YU];rfl
      rw[e1,k3];rfl
    · rename_i hg;split at h
      · rename_i r hr;split at h
        · rename_i bW;simp only[aW]at h;obtain⟨t',h',rfl⟩:=h;simp only[RT.aa]at hd;split at hd
          · rename_i bE he;obtain⟨xs,e1,e2⟩:=FY he;have hnv:(((S.Ad r.e).vJ o.dst r.v).more (fX r.nds)).nv=S.nv+fX r.nds:=by cases o.dst<;>rfl
            obtain⟨k1,⟨ys,k2⟩,rs,ts,Sp,k3,k4⟩:=vH hT hC h' (by rw[hnv,e1,dL,hl,e2]) hd;have zf:Sat ρ' S.nv r.nds:=by
             rw[k2,←hl];exact Jc (by rw[hl];exact bW) he
            let Sp':Spec:=fun d=>if d=b+8*k then some (r.v.aa ρ',r.e.aa ρ',r.rd)else Sp d
            have hop:=aoX (ρ:=ρ') hT hC hr zf Sp' (by simp[Sp']);refine⟨k1,⟨xs++ys,by rw[k2,e1,e_]⟩,some (r.aa ρ')::rs,(S.na o.op++r.rd,Dt r.e)::ts,Sp',?_,by rw[k4];simp⟩;have hg':=Wz (ρ:=ρ') hg;simp only[j_,kQ,hg',hop,aJ];have e3:gv (S.aa ρ') o (some (r.aa ρ'))=(((S.Ad r.e).vJ o.dst r.v).more (fX r.nds)).aa ρ':=by rw[amt,YU,amC];rfl
            rw[e3,V8 (Sp':=Sp) (fun j hj=>by simp only[Sp'];rw[aE om]),k3];simp only[vf,awL,h_,rm,bm.aa,axA]
          · cases hd
        · cases h
      · split at h
        · cases h;cases hd
        · cases h
    · cases h
end
section
variable {A R:Type}
def fm (f:A→Option (A ⊕ R)):Nat→A→Option R
 |0,_=>none
 |n+1,a=>match f a with
  |some (.inl a')=>fm f n a'
  |some (.inr r)=>some r
  |none=>none
noncomputable def fP (f:A→Option (A ⊕ R)) (a:A):Option R:=if h:∃n r,fm f n a=some r then fm f h.choose a else none
theorem Ln {f:A→Option (A ⊕ R)}:∀{n:Nat} {a:A} {r:R} (m:Nat),fm f n a=some r→fm f (n+m) a=some r
 |0,_,_,_,h=>by cases h
 |n+1,a,r,m,h=>by
  rw[show n+1+m=(n+m)+1 by omega];simp only[fm]at h⊢;split at h
  · exact Ln m h
  · exact h
  · cases h
theorem F_ {f:A→Option (A ⊕ R)} {n:Nat} {a:A} {r:R} (h:fm f n a=some r):fP f a=some r:=by
 have hex:∃n r,fm f n a=some r:=⟨n,r,h⟩
 unfold fP;rw[dif_pos hex];obtain⟨r',h1⟩:=hex.choose_spec;have h2:=Ln n h1;have h3:=Ln hex.choose h;rw[IP]at h3;rw[h1,←h2,h3]
theorem vS {f:A→Option (A ⊕ R)} {a:A} {r:R} (h:fP f a=some r):∃n,fm f n a=some r:=by
 unfold fP at h;split at h
 · exact⟨_,h⟩
 · cases h
theorem Oa (f:A→Option (A ⊕ R)) (a:A):fP f a=match f a with
  |some (.inl a')=>fP f a'
  |some (.inr r)=>some r
  |none=>none:=by
 cases hf:f a with
 | none=>
  cases h:fP f a with
  |none=>rfl
  |some r=>
   obtain⟨n,hn⟩:=vS h
   cases n with
   |zero=>cases hn
   |succ n=>simp only[fm,hf]at hn;cases hn
 | some x=>
  cases x with
  |inr r=>exact F_ (n:=1) (by simp only[fm,hf])
  | inl a'=>
   simp only
   cases h:fP f a' with
   |some r=>
    obtain⟨n,hn⟩:=vS h;exact F_ (n:=n+1) (by simp only[fm,hf,hn])
   | none=>
    cases h':fP f a with
    |none=>rfl
    | some r=>
     obtain⟨n,hn⟩:=vS h'
     cases n with
     |zero=>cases hn
     |succ n=>
      simp only[fm,hf]at hn;rw[F_ hn]at h;cases h
theorem yr {f:A→Option (A ⊕ R)} {a a':A} (h:f a=some (.inl a')):fP f a=fP f a':=by rw[Oa,h]
theorem x9 {f:A→Option (A ⊕ R)} {a:A} {r:R} (h:f a=some (.inr r)):fP f a=some r:=by rw[Oa,h]
theorem alC {f g:A→Option (A ⊕ R)} {h:R→Option R} (hfg:∀a,(∀r,f a=some (.inr r)→fP f a=some r→g a=(h r).map .inr)→True) {G:R→Prop}
  (hg:∀a,(∀r,fP f a=some r→G r)→g a=match f a with
   |some (.inl a')=>some (.inl a')
   |some (.inr r)=> (h r).map .inr
   |none=>none) (a:A) (ha:∀r,fP f a=some r→G r):fP g a=(fP f a).bind h:=by
 clear hfg
 cases hx:fP f a with
 | some r=>
  obtain⟨n,hn⟩:=vS hx;clear hx
  induction n generalizing a with
  |zero=>cases hn
  |succ n ih=>
   have mJ:=hg a ha;simp only[fm]at hn;split at hn
   · rename_i a' hf;rw[hf]at mJ;simp only at mJ;rw[yr mJ];exact ih a' (by rw[←yr hf];exact ha) hn
   · rename_i r' hf;cases hn;rw[hf]at mJ;simp only at mJ;rw[Oa,mJ];simp only[wJ];cases h r<;>rfl
   · cases hn
 | none=>
  simp only[aiJ]
  cases hy:fP g a with
  |none=>rfl
  |some r=>
   exfalso;obtain⟨n,hn⟩:=vS hy;clear hy
   induction n generalizing a with
   |zero=>cases hn
   | succ n ih=>
     have mJ:=hg a ha
     cases hf:f a with
     |none=>rw[hf]at mJ;simp only at mJ;simp only[fm,mJ]at hn;cases hn
     | some y=>
      cases y with
      |inl a'=>
       rw[hf]at mJ;simp only at mJ;simp only[fm,mJ]at hn;exact ih a' (by rw[←yr hf];exact ha) (by rw[←yr hf];exact hx) hn
      |inr r'=>rw[x9 hf]at hx;cases hx
end
inductive Ex where
 |normal|exit (id:Nat)|ret
deriving DecidableEq,Repr,Inhabited
def Ex.to:Ex→Exit
 | .normal=> .normal
 | .exit id=> .exit id
 | .ret=> .ret
inductive Lf where
 |st (e:Ex) (S:ag)
 |jump (k:Nat) (args:List At)
deriving Inhabited
inductive ad where
 |ar (x:Lf)
 |op (nd:Nd) (k:ad)
 |ite (c:At) (a b:ad)
 |join (body rest:ad)
 |loop (init:List At) (body:ad)
deriving Inhabited
abbrev Out:=Option (Lf×List L)
def iT (x:Out):Option (List L ⊕ (Lf×List L)):=match x with
 |some (.jump 0 args,ρ)=>some (.inl (args.map (At.ev ρ)))
 |some (.jump (k+1) args,ρ)=>some (.inr (.jump k args,ρ))
 |some (x,ρ)=>some (.inr (x,ρ))
 |none=>none
noncomputable def ad.aa:ad→List L→Out
 | .ar x,ρ=>some (x,ρ)
 | .op nd k,ρ=>match nd.ev ρ with
  |some ls=>k.aa (ρ++ls)
  |none=>none
 | .ite c a b,ρ=>if(c.ev ρ).br then a.aa ρ else b.aa ρ
 | .join body rest,ρ=>match body.aa ρ with
  |some (.jump 0 args,ρ')=>rest.aa (ρ++args.map (At.ev ρ'))
  |some (.jump (k+1) args,ρ')=>some (.jump k args,ρ')
  |r=>r
 | .loop init body,ρ=>fP (fun a=>iT (body.aa (ρ++a))) (init.map (At.ev ρ))
def ad.bind (f:Nat→Ex→ag→Option ad):Nat→ad→Option ad
 |d,.ar (.st e S)=>f d e S
 |_,.ar x=>some (.ar x)
 |d,.op nd k=> (ad.bind f d k).map (.op nd)
 |d,.ite c a b=>match ad.bind f d a,ad.bind f d b with
  |some a,some b=>some (.ite c a b)
  |_,_=>none
 |d,.join body rest=>match ad.bind f (d+1) body,ad.bind f d rest with
  |some a,some b=>some (.join a b)
  |_,_=>none
 |d,.loop init body=> (ad.bind f (d+1) body).map (.loop init)
def lift (d:Nat):Lf×List L→Lf×List L
 | (.jump k args,ρ)=> (.jump (k+d) args,ρ)
 |x=>x
def after (R:Ex→ag→List L→Out) (d:Nat) (o:Out):Out:=match o with
 |some (.st e S,ρ)=> (R e S ρ).map (lift d)
 |r=>r
theorem qR {f:Nat→Ex→ag→Option ad} {R:Ex→ag→List L→Out}:∀{t u:ad} {d:Nat} {ρ:List L},
  (∀e S bE,t.aa ρ=some (.st e S,bE)→∀d u1,f d e S=some u1→u1.aa bE=(R e S bE).map (lift d))→t.bind f d=some u→u.aa ρ=after R d (t.aa ρ)
 | .ar (.st e S),u,d,ρ,H,h=>H e S ρ rfl d u h
 | .ar (.jump k args),u,d,ρ,H,h=>by cases h;rfl
 | .op nd k,u,d,ρ,H,h=>by
  simp only[ad.bind,aW]at h;obtain⟨v,hv,rfl⟩:=h;simp only[ad.aa]at H⊢
  cases hn:nd.ev ρ with
  |none=>rfl
  | some ls=>
    rw[hn]at H;exact qR H hv
 | .ite c a b,u,d,ρ,H,h=>by
  simp only[ad.bind]at h;split at h
  · rename_i u1 u2 h1 h2;cases h;simp only[ad.aa]at H⊢;split
    · rename_i hc;rw[au hc]at H;exact qR H h1
    · rename_i hc;rw[aE hc]at H;exact qR H h2
  · cases h
 | .join body rest,u,d,ρ,H,h=>by
  simp only[ad.bind]at h;split at h
  · rename_i u1 u2 h1 h2;cases h;simp only[ad.aa]at H⊢
    cases hb:body.aa ρ with
    | none=>
      have:=qR (R:=R) (t:=body) (ρ:=ρ) (fun e S bE hh=>by rw[hb]at hh;cases hh) h1;rw[this,hb];rfl
    | some x=>
      obtain⟨lf,bE⟩:=x
      cases lf with
      | st e S=>
       have:=qR (R:=R) (t:=body) (ρ:=ρ) (fun e S bE hh=>H e S bE (by rw[hh])) h1;rw[this,hb];simp only[after]
       cases R e S bE with
       |none=>rfl
       |some y=>
        obtain⟨RR,lL⟩:=y
        cases RR with
        |st=>rfl
        |jump k args=>simp only[aJ,lift,Nat.add_succ]
      | jump k args=>
       have:=qR (R:=R) (t:=body) (ρ:=ρ) (fun e S bE hh=>by rw[hb]at hh;cases hh) h1;rw[this,hb]
       cases k with
       |zero=>
        rw[hb]at H;exact qR H h2
       |succ k=>rfl
  · cases h
 | .loop init body,u,d,ρ,H,h=>by
  simp only[ad.bind,aW]at h;obtain⟨v,hv,rfl⟩:=h;simp only[ad.aa]at H⊢;have key:=alC (f:=fun a=>iT (body.aa (ρ++a))) (g:=fun a=>iT (v.aa (ρ++a))) (h:=fun r=>after R d (some r))
    (G :=fun r=>∀e S,r.1= .st e S→∀d u1,f d e S=some u1→u1.aa r.2=(R e S r.2).map (lift d)) (fun _ _=>trivial) (fun a ha=>by
      have RU:=qR (R:=R) (t:=body) (ρ:=ρ++a) (d:=d+1) (u:=v) (fun e S bE hh=>by
       have:=ha (.st e S,bE) (x9 (by simp only[hh,iT]));exact this e S rfl) hv
      simp only[RU]
      cases hb:body.aa (ρ++a)with
      |none=>rfl
      | some x=>
       obtain⟨lf,bE⟩:=x
       cases lf with
       | st e S=>
        simp only[after,iT]
        cases R e S bE with
        |none=>rfl
        |some y=>
         obtain⟨RR,lL⟩:=y
         cases RR with
         |st=>rfl
         |jump k args=>simp only[aJ,lift,Nat.add_succ]
       |jump k args=>cases k<;>rfl) (init.map (At.ev ρ)) (fun r hr e S he=>by
        obtain⟨lf,bE⟩:=r;simp only at he;subst he;exact H e S bE hr)
  rw[key];cases fP (fun a=>iT (body.aa (ρ++a))) (init.map (At.ev ρ))<;>rfl
end
section
open Go.RowKit
namespace AI
def bH (τ:List L) (t:Nat):Int:=match t with
 |0=>0
 |t+1=>let l:=(τ[t/3]?).getD (.b false)
  if t%3=0 then l.af else if t%3=1 then(l.ah.length:Int)else(l.cv.size:Int)
def fj (n t:Nat):Bool:=decide (t≤3*n)
theorem gh (τ:List L):bH τ 0=0:=rfl
theorem xE {τ ys:List L} {t:Nat} (h:fj τ.length t=true):bH (τ++ys) t=bH τ t:=by
 cases t with
 |zero=>rfl
 |succ t=>
  simp only[fj,cg]at h;simp only[bH];rw[nS om]
structure Fa where
 a:Nat
 b:Nat
 c:Int
deriving Inhabited,Repr
def Fa.holds (τ:List L) (f:Fa):Prop:=bH τ f.a-bH τ f.b≤f.c
def Fa.in (n:Nat) (f:Fa):Bool:=fj n f.a&&fj n f.b
def Fa.ok (τ:List L) (f:Fa):Prop:=f.in τ.length=true∧f.holds τ
theorem Fa.ok.append {τ ys:List L} {f:Fa} (h:f.ok τ):f.ok (τ++ys):=by
 obtain⟨h1,h2⟩:=h;simp only[Fa.in,bt]at h1;refine⟨?_,?_⟩
 · simp only[Fa.in,fj,bt,cg,dL]at h1⊢;omega
 · unfold Fa.holds at h2⊢;rw[xE h1.1,xE h1.2];exact h2
def lh (a b:Int):Bool:=match a,b with
 | .ofNat m,.ofNat n=>Nat.ble m n
 | .negSucc _,.ofNat _=>true
 | .ofNat _,.negSucc _=>false
 | .negSucc m,.negSucc n=>Nat.ble n m
theorem atH (a b:Int):lh a b=decide (a≤b):=by
 cases a<;>cases b<;>simp only[lh]<;>apply iN.2<;>simp<;>omega
theorem w6 {a b:Int} (h:lh a b=true):a≤b:=by rw[atH]at h;simp_all
def kN:bS→Nat
 | .i8=>0| .i16=>1| .i32=>2| .i64=>3| .u8=>4| .u16=>5| .u32=>6| .u64=>7
def Xt (a b:bS):Bool:=Nat.beq (kN a) (kN b)
theorem aqS {a b:bS} (h:Xt a b=true):a=b:=by cases a<;>cases b<;>first|rfl|cases h
theorem vN {a b:Nat} (h:Nat.beq a b=true):a=b:=p_ h
def qz:List (Nat×Int)→Nat→Option Int
 |[],_=>none
 | (k,d)::r,t=>cond (Nat.beq k t) (some d) (qz r t)
def yW:List (Nat×Int)→Nat→Int→List (Nat×Int)
 |[],t,d=> [(t,d)]
 | (k,e)::r,t,d=>cond (Nat.beq k t) (cond (lh e d) ((k,e)::r) ((k,d)::r)) ((k,e)::yW r t d)
def uZ:List Fa→List (Nat×Int)→List (Nat×Int)
 |[],D=>D
 |f::fs,D=>uZ fs (cond (Nat.beq f.b 0) D (cond (Nat.beq f.a 0) D (match qz D f.a with
  |some d=>yW D f.b (d+f.c)
  |none=>D)))
def qZ:List Fa→List (Nat×Int)→List (Nat×Int)
 |[],D=>D
 |f::fs,D=>qZ fs (cond (Nat.beq f.a 0) D (cond (Nat.beq f.b 0) D (match qz D f.b with
  |some d=>yW D f.a (d+f.c)
  |none=>D)))
def AF:Option Int→Int→Option Int
 |some x,y=>cond (lh x y) (some x) (some y)
 |none,y=>some y
def BU:List Fa→List (Nat×Int)→Option Int→Option Int
 |[],_,r=>r
 |f::fs,D,r=>BU fs D (cond (Nat.beq f.b 0) (match qz D f.a with
  |some d=>AF r (d+f.c)
  |none=>r) r)
def Ab:List Fa→List (Nat×Int)→Option Int→Option Int
 |[],_,r=>r
 |f::fs,D,r=>Ab fs D (cond (Nat.beq f.a 0) (match qz D f.b with
  |some d=>AF r (d+f.c)
  |none=>r) r)
def fo (fs:List Fa) (a b:Nat):Option Int:=
 cond (Nat.beq a b) (some 0)
 (cond (Nat.beq a 0) (Ab fs (qZ fs (qZ fs [(b,0)])) none)
 (
  let D:=uZ fs (uZ fs [(a,0)])
  cond (Nat.beq b 0) (BU fs D none)
  (match BU fs D none,Ab fs (qZ fs (qZ fs [(b,0)])) none with
   |some x,some y=>match qz D b with
    |some d=>AF (some d) (x+y)
    |none=>some (x+y)
   |_,_=>qz D b)))
def Eu (τ:List L) (a:Nat) (D:List (Nat×Int)):Prop:=∀t d,(t,d)∈D→bH τ a-bH τ t≤d
def Dq (τ:List L) (b:Nat) (D:List (Nat×Int)):Prop:=∀t d,(t,d)∈D→bH τ t-bH τ b≤d
theorem vP:∀{D:List (Nat×Int)} {t:Nat} {d:Int},qz D t=some d→(t,d)∈D
 |[],_,_,h=>by cases h
 | (k,e)::r,t,d,h=>by
  simp only[qz]at h
  cases hk:Nat.beq k t with
  |true=>
   rw[hk]at h;cases h;have:=vN hk;subst this;exact ek
  |false=>rw[hk]at h;exact fb _ (vP h)
theorem Q7:∀{D:List (Nat×Int)} {t t':Nat} {d d':Int},(t',d')∈yW D t d→(t',d')=(t,d)∨(t',d')∈D
 |[],t,t',d,d',h=>by simp_all[yW]
 | (k,e)::r,t,t',d,d',h=>by
  simp only[yW]at h
  cases hk:Nat.beq k t with
  |true=>
   rw[hk]at h;have:=vN hk;subst this
   cases hi:lh e d with
   | false=>
     rw[hi]at h;rcases cU.1 h with h|h
     · exact .inl h
     · exact .inr (fb _ h)
   |true=>rw[hi]at h;exact .inr h
  |false=>
   rw[hk]at h;rcases cU.1 h with h|h
   · exact .inr (by rw[h];exact ek)
   · rcases Q7 h with h|h
     · exact .inl h
     · exact .inr (fb _ h)
theorem JG {τ:List L} {a:Nat}:∀{fs:List Fa} {D:List (Nat×Int)},(∀f∈fs,f.holds τ)→Eu τ a D→Eu τ a (uZ fs D)
 |[],_,_,h=>h
 | f :: fs,D,hf,h=>by
  simp only[uZ];refine JG (fun g hg=>hf g (fb _ hg)) ?_
  cases Nat.beq f.b 0 with
  |true=>exact h
  | false=>cases Nat.beq f.a 0 with
   |true=>exact h
   |false=>
    simp only[cond_false];split
    · rename_i d hd;intro t e ht;rcases Q7 ht with ht|ht
      · cases ht;have h1:=h _ _ (vP hd);have h2:=hf f ek;unfold Fa.holds at h2;omega
      · exact h _ _ ht
    · exact h
theorem Qu {τ:List L} {b:Nat}:∀{fs:List Fa} {D:List (Nat×Int)},(∀f∈fs,f.holds τ)→Dq τ b D→Dq τ b (qZ fs D)
 |[],_,_,h=>h
 | f :: fs,D,hf,h=>by
  simp only[qZ];refine Qu (fun g hg=>hf g (fb _ hg)) ?_
  cases Nat.beq f.a 0 with
  |true=>exact h
  | false=>cases Nat.beq f.b 0 with
   |true=>exact h
   |false=>
    simp only[cond_false];split
    · rename_i d hd;intro t e ht;rcases Q7 ht with ht|ht
      · cases ht;have h1:=h _ _ (vP hd);have h2:=hf f ek;unfold Fa.holds at h2;omega
      · exact h _ _ ht
    · exact h
theorem Ph {r:Option Int} {y c:Int} (h:AF r y=some c):(c=y∨r=some c):=by
 cases r with
 |none=>cases h;exact .inl rfl
 |some x=>
  simp only[AF]at h
  cases hi:lh x y with
  |true=>rw[hi]at h;exact .inr h
  |false=>rw[hi]at h;cases h;exact .inl rfl
theorem aed {τ:List L} {a:Nat} {D:List (Nat×Int)} (hD:Eu τ a D):∀{fs:List Fa} {r:Option Int},(∀f∈fs,f.holds τ)→(∀c,r=some c→bH τ a≤c)→∀c,BU fs D r=some c→bH τ a≤c
 |[],_,_,hr,c,h=>hr c h
 | f ::fs,r,hf,hr,c,h=>by
  simp only[BU]at h;refine aed hD (fun g hg=>hf g (fb _ hg)) ?_ c h;intro e he
  cases hb:Nat.beq f.b 0 with
  |true=>
   rw[hb]at he;simp only[cond_true]at he;have hb:=vN hb;split at he
   · rename_i d hd;rcases Ph he with rfl|h2
     · have h1:=hD _ _ (vP hd);have h2:=hf f ek;unfold Fa.holds at h2;rw[hb,gh]at h2;omega
     · exact hr _ h2
   · exact hr _ he
  |false=>simp_all
theorem ZH {τ:List L} {b:Nat} {D:List (Nat×Int)} (hD:Dq τ b D):∀{fs:List Fa} {r:Option Int},(∀f∈fs,f.holds τ)→(∀c,r=some c→-bH τ b≤c)→∀c,Ab fs D r=some c→-bH τ b≤c
 |[],_,_,hr,c,h=>hr c h
 | f ::fs,r,hf,hr,c,h=>by
  simp only[Ab]at h;refine ZH hD (fun g hg=>hf g (fb _ hg)) ?_ c h;intro e he
  cases hb:Nat.beq f.a 0 with
  |true=>
   rw[hb]at he;simp only[cond_true]at he;have hb:=vN hb;split at he
   · rename_i d hd;rcases Ph he with rfl|h2
     · have h1:=hD _ _ (vP hd);have h2:=hf f ek;unfold Fa.holds at h2;rw[hb,gh]at h2;omega
     · exact hr _ h2
   · exact hr _ he
  |false=>simp_all
theorem aDC {τ:List L} {fs:List Fa} (hf:∀f∈fs,f.holds τ) {a b:Nat} {c:Int} (h:fo fs a b=some c):bH τ a-bH τ b≤c:=by
 have hD:Eu τ a (uZ fs (uZ fs [(a,0)])):=JG hf (JG hf fun t d ht=>by
  simp_all)
 have hB:Dq τ b (qZ fs (qZ fs [(b,0)])):=Qu hf (Qu hf fun t d ht=>by
  simp_all)
 have hz:=aed hD hf (r:=none) (fun _ h=>by cases h);have ho:=ZH hB hf (r:=none) (fun _ h=>by cases h);unfold fo at h
 cases hk:Nat.beq a b with
 |true=>
  simp_all
 | false=>
  rw[hk]at h;simp only[cond_false]at h
  cases hk:Nat.beq a 0 with
  |true=>
   simp_all[vN,gh]
  | false=>
   rw[hk]at h;simp only[cond_false]at h
   cases hk:Nat.beq b 0 with
   |true=>
    simp_all[vN,gh]
   |false=>
    rw[hk]at h;simp only[cond_false]at h;split at h
    · rename_i x y hx hy;have h1:=hz _ hx;have h2:=ho _ hy;split at h
      · rename_i d hd;have h3:=hD _ _ (vP hd);rcases Ph h with rfl|h4
        · omega
        simp_all
      · cases h;omega
    · exact hD _ _ (vP h)
abbrev Li:=Nat×Int
def aL (τ:List L) (x:Li):Int:=bH τ x.1+x.2
def sQ (fs:List Fa) (x y:Li):Option Int:=(fo fs x.1 y.1).map (· +(x.2-y.2))
theorem xw {τ:List L} {fs:List Fa} (hf:∀f∈fs,f.holds τ) {x y:Li} {c:Int} (h:sQ fs x y=some c):aL τ x-aL τ y≤c:=by
 simp only[sQ,aW]at h;obtain⟨d,h1,rfl⟩:=h;have:=aDC hf h1;unfold aL;omega
def dj (fs:List Fa) (x y:Li) (c:Int):Bool:=match sQ fs x y with
 |some d=>lh d c
 |none=>false
theorem ff {τ:List L} {fs:List Fa} (hf:∀f∈fs,f.holds τ) {x y:Li} {c:Int} (h:dj fs x y c=true):aL τ x-aL τ y≤c:=by
 unfold dj at h;split at h
 · rename_i d hd;have:=xw hf hd;have:=w6 h;omega
 · cases h
def f_ (fs:List Fa) (x:Li):Option Int:=sQ fs x (0,0)
def iC (fs:List Fa) (x:Li):Option Int:=(sQ fs (0,0) x).map (- ·)
theorem gp {τ:List L} {fs:List Fa} (hf:∀f∈fs,f.holds τ) {x:Li} {c:Int} (h:f_ fs x=some c):aL τ x≤c:=by
 have:=xw hf h;simp_all[aL,gh]
theorem iW {τ:List L} {fs:List Fa} (hf:∀f∈fs,f.holds τ) {x:Li} {c:Int} (h:iC fs x=some c):c≤aL τ x:=by
 simp only[iC,aW]at h;obtain⟨d,h1,rfl⟩:=h;have:=xw hf h1;unfold aL at this⊢;simp only[gh]at this;omega
inductive AC where
 |int (k:bS) (lo hi:Int)
 |bool
 |str (hi:Int)
 |sl (hi:Int) (cs:List AC)
 |any
deriving Inhabited,Repr
mutual
def AC.ok:AC→PV→Prop
 | .int k lo hi,q=>∃n,q= .sc (.int k n)∧lo≤n∧n≤hi
 | .bool,q=>∃b,q= .sc (.bool b)
 | .str hi,q=>∃s:cn,q= .sc (.string s)∧(s.size:Int)≤hi
 | .sl hi cs,q=>∃rows,q= .sl rows∧(rows.length:Int)≤hi∧∀r∈rows,AC.dp cs r
 | .any,_=>True
def AC.dp:List AC→List PV→Prop
 |[],[]=>True
 |c::cs,q::qs=>AC.ok c q∧AC.dp cs qs
 |_,_=>False
end
def AC.rows (cs:List AC) (rows:List (List PV)):Prop:=∀r∈rows,AC.dp cs r
mutual
def AC.le:AC→AC→Bool
 | .int k lo hi,.int k' wv hi'=>Xt k k'&&lh wv lo&&lh hi hi'
 | .bool,.bool=>true
 | .str hi,.str hi'=>lh hi hi'
 | .sl hi cs,.sl hi' cs'=>lh hi hi'&& (AC.py cs cs'||lh hi 0)
 |_,.any=>true
 |_,_=>false
def AC.py:List AC→List AC→Bool
 |[],[]=>true
 |c::cs,d::ds=>AC.le c d&&AC.py cs ds
 |_,_=>false
end
mutual
theorem AC.aBS:∀{x y:AC} {q:PV},AC.le x y=true→AC.ok x q→AC.ok y q
 | .int k lo hi,.int k' wv hi',q,h,⟨n,h1,h2,h3⟩=>by
  simp only[AC.le,bt]at h;obtain⟨⟨h4,h5⟩,h6⟩:=h;have h4:=aqS h4;subst h4;have h5:=w6 h5;have h6:=w6 h6;exact⟨n,h1,om,om⟩
 | .bool,.bool,_,_,h=>h
 | .str hi,.str hi',q,h,⟨s,h1,h2⟩=>by
  have h:=w6 (show lh hi hi'=true from h);exact⟨s,h1,om⟩
 | .sl hi cs,.sl hi' cs',q,h,⟨rows,h1,h2,h3⟩=>by
  simp only[AC.le,bt,rV]at h;have h5:=w6 h.1;refine⟨rows,h1,om,fun r hr=> ?_⟩;rcases h.2 with h4|h4
  · exact AC.sH h4 (h3 r hr)
  · have h4:=w6 h4;have:rows.length=0:=om;rw[iq this]at hr;cases hr
 | .any,.any,_,_,_=>trivial
 | .int ..,.any,_,_,_=>trivial
 | .bool,.any,_,_,_=>trivial
 | .str _,.any,_,_,_=>trivial
 | .sl ..,.any,_,_,_=>trivial
 | .int ..,.bool,_,h,_=>by cases h
 | .int ..,.str _,_,h,_=>by cases h
 | .int ..,.sl ..,_,h,_=>by cases h
 | .bool,.int ..,_,h,_=>by cases h
 | .bool,.str _,_,h,_=>by cases h
 | .bool,.sl ..,_,h,_=>by cases h
 | .str _,.int ..,_,h,_=>by cases h
 | .str _,.bool,_,h,_=>by cases h
 | .str _,.sl ..,_,h,_=>by cases h
 | .sl ..,.int ..,_,h,_=>by cases h
 | .sl ..,.bool,_,h,_=>by cases h
 | .sl ..,.str _,_,h,_=>by cases h
 | .any,.int ..,_,h,_=>by cases h
 | .any,.bool,_,h,_=>by cases h
 | .any,.str _,_,h,_=>by cases h
 | .any,.sl ..,_,h,_=>by cases h
theorem AC.sH:∀{xs ys:List AC} {qs:List PV},AC.py xs ys=true→AC.dp xs qs→AC.dp ys qs
 |[],[],_,_,h=>h
 |c::cs,d::ds,[],_,h=>by cases h
 |c::cs,d::ds,q::qs,h,h1=>by
  simp only[AC.py,bt]at h;exact⟨AC.aBS h.1 h1.1,AC.sH h.2 h1.2⟩
 |[],_::_,_,h,_=>by cases h
 |_::_,[],_,h,_=>by cases h
end
theorem AC.uJ:∀{cs:List AC} {r:List PV},AC.dp cs r→r.length=cs.length
 |[],[],_=>rfl
 |_::_,_::_,h=>by simp[AC.uJ h.2]
 |[],_::_,h=>by cases h
 |_::_,[],h=>by cases h
theorem AC.NM:∀{cs:List AC} {r:List PV} {j:Nat} {c:AC},AC.dp cs r→cs[j]? =some c→∃q,r[j]? =some q∧AC.ok c q
 |c::cs,q::r,0,d,h,hj=>by cases hj;exact⟨q,rfl,h.1⟩
 |c::cs,q::r,j+1,d,h,hj=>AC.NM (cs:=cs) (r:=r) (j:=j) h.2 hj
 |_::_,[],_,_,h,_=>by cases h
 |[],_,_,_,_,hj=>by simp at hj
theorem AC.vD {cs:List AC} {rows:List (List PV)} (h:AC.rows cs rows):bA cs.length rows=true:=by
 rw[nZ];exact fun r hr=>AC.uJ (h r hr)
mutual
def AC.join:AC→AC→AC
 | .int k lo hi,.int k' wv hi'=>if k==k' then .int k (if lo≤wv then lo else wv) (if hi≤hi' then hi' else hi)else .any
 | .bool,.bool=> .bool
 | .str hi,.str hi'=> .str (if hi≤hi' then hi' else hi)
 | .sl hi cs,.sl hi' cs'=>if hi≤0 then .sl (if hi≤hi' then hi' else hi) cs' else if hi'≤0 then .sl (if hi≤hi' then hi' else hi) cs else .sl (if hi≤hi' then hi' else hi) (AC.OG cs cs')
 |_,_=> .any
def AC.OG:List AC→List AC→List AC
 |c::cs,d::ds=>AC.join c d::AC.OG cs ds
 |_,_=> []
end
end AI
end
end
end Go.Proofs.YtndegphojkiblaaGreatDoor
