/- A part. -/
import Derived.Test.YtiikkkhcolcebaaGreatDoorG1
set_option linter.all false
set_option maxHeartbeats 4000000
set_option maxRecDepth 100000
namespace Go.Proofs.YtiikkkhcolcebaaGreatDoor
noncomputable section
section
open Go.RowKit
open Classical
def lG:b9->C
 |.slice none 0 0=>.nil
 |v=>if flat v then .p (.sc v)else .dead
def ofValue:b9->V1
 |.agg us=>if us.toList.all (·.oneCell')then .agg (us.toList.map lG)else .c .dead
 |.func (.func f) first captured=>if first.size=0/\captured.size=0 then .c (.fn f [])else .c .dead
 |v=>.c (lG v)
section
variable(M:fZ)(E:Env)(w:bX)
theorem Nh(v):RC M E w (lG v) v:=by
 unfold lG;split
 .rfl
 .split
  .exact .sc (by assumption)
  .trivial
theorem avt(v):eB M E w (ofValue v) v:=by
 unfold ofValue;split
 .split
  .rename_i us hall;refine⟨us,rfl,by simp,λi c b=>?_⟩;simp only[cX,bY,ZE]at b;obtain⟨u,d,rfl⟩:=b;grind[Nh,Array.mem_of_getElem]
  .trivial
 .split
  .rename_i f first captured e
   have d:first= #[]:=Ba e.1
   exact⟨captured,by rw[d],e.2,λi n b=>by simp at b⟩
  .trivial
 .exact Nh M E w v
end
def C.names:C->List Nat
 |.own n=>[n]| .sub n _ _=>[n]| .ptr n _=>[n]| .dH n _ _=>[n]| .mp n=>[n]| .fn _ ee=>ee|_=>[]
def V1.names:V1->List Nat
 |.c x=>x.names
 |.agg xs=>xs.flatMap C.names
def V.names:V->List Nat
 |.v x=>x.names
 |.bL xs=>xs.flatMap V1.names
def C.oc:C->Bool
 |.dead=>true
 |_=>false
def V.oc:V->Bool
 |.v (.c c)=>c.oc
 |_=>false
def V.live(bu:List Nat)(v:V):Bool:= !v.oc&&v.names.all λn=> !bu.contains n
def bx.arg(st:bx):cF->Option V
 |.tmp t=>match st.tmps[t]? with
  |some x=>if x.live st.bu then some x else none
  |none=>none
 |.const v=>if(V.v (ofValue v)).live st.bu then some (.v (ofValue v))else none
 |.func f=>some (.v (.c (.fn f [])))
 |.global _=>none
theorem Rel.arg{X E st a w}(h:Rel X E st a w){x v}(d:st.arg x=some v):RV X.M E w v (a.eval x)/\v.live st.bu=true:=by
 cases x with
 |tmp t=>
  simp only[bx.arg]at d;split at d
  .rename_i y k;split at d
   .simp at d;subst d;obtain⟨u,m,q⟩:=h.tmps t y k;refine⟨?_,by assumption⟩;simp only[Act.eval,rf,m,gx];exact q
   .cases d
  .cases d
 |const z=>
  simp only[bx.arg]at d;split at d
  .simp at d;subst d;exact⟨avt X.M E w z,by assumption⟩
  .cases d
 |global g=>cases d
 |func f=>
  simp only[bx.arg,jq]at d;subst d;exact⟨⟨#[],by simp[Act.eval],rfl,λi n B=>by simp at B⟩,by rfl⟩
theorem Nr{bu c}(h:(V.v (.c c)).live bu=true):c.oc=false/\∀n∈c.names,n∉bu:=by
 simp only[V.live,cu,oV,cz,V.oc]at h;exact⟨h.1,λn b d=>by have:=h.2 n b;simp[d]at this⟩
theorem axs{bu cs}(h:(V.v (.agg cs)).live bu=true):∀c∈cs,∀n∈c.names,n∉bu:=by
 simp only[V.live,cu,oV,cz]at h;exactλc b n d e=>by have:=h.2 n (sM.2 ⟨c,b,d⟩);simp[e]at this
theorem cW.get{E n Q}(h:cW E n Q)(d:n∉E.bu):∃x,E.N n=some x/\Q x:=h.resolve_left d
theorem RC.rZ{M E w c v}(h:RC M E w c v)(k:c.oc=false)(d:∀n∈c.names,n∉E.bu):v.oneCell'=true:=by
 cases c with
 |p q=>exact RP.rZ h
 |nil=>cases h;rfl
 |own n=>obtain⟨x,_,rfl⟩:=cW.get h (d n (by simp[C.names]));rfl
 |sub n lo len=>
  obtain⟨x,_,_,A,rfl,_⟩:=cW.get h (d n (by simp[C.names]));rfl
 |ptr n off=>obtain⟨x,_,g,_,rfl⟩:=cW.get h (d n (by simp[C.names]));rfl
 |dH n i j=>obtain⟨x,_,_,g,_,rfl⟩:=cW.get h (d n (by simp[C.names]));rfl
 |ref cells=>obtain⟨g,o,rfl,_⟩:=h;rfl
 |fn f ee=>obtain⟨us,rfl,_⟩:=h;rfl
 |mp n=>obtain⟨x,_,g,_,rfl⟩:=cW.get h (d n (by simp[C.names]));rfl
 |dead=>cases k
def V1.cells:V1->List C
 |.c x=>[x]
 |.agg xs=>xs
theorem afP{v:b9}(h:v.oneCell'=true):v.cells= #[v]:=by cases v<;>simp_all [Value.cells,Value.oneCell']
theorem eB.cells{M E w x v}(h:eB M E w x v)(t:(V.v x).live E.bu=true):
 v.cells.size=x.cells.length/\∀(i:Nat)(c),x.cells[i]?=some c->∃u,v.cells[i]?=some u/\RC M E w c u/\u.oneCell'=true:=by
 cases x with
 |c c=>
  obtain⟨d,k⟩:=Nr t;have q:=RC.rZ h d k;rw[afP q];refine⟨rfl,λi y m=>?_⟩
  cases i with
  |zero=>simp[V1.cells]at m;subst m;exact⟨v,rfl,h,q⟩
  |succ i=>simp[V1.cells]at m
 |agg cs=>
  obtain⟨us,rfl,d,k⟩:=h;exact⟨d,k⟩
def bx.view(st:bx):C->Option (List (List PV))
 |.p (.sl rows)=>some rows
 |.nil=>some []
 |.own n=>match st.heap.lookup n with
  |some (.row _ rows)=>some rows
  |_=>none
 |.sub n lo len=>match st.heap.lookup n with
  |some (.row _ rows)=>some ((rows.drop lo).take len)
  |_=>none
 |_=>none
theorem Rel.row{X E st a w}(h:Rel X E st a w){n}(d:n∉st.bu){b}(k:st.heap.lookup n=some b):RB X.P X.M E w n b:=(h.heap n b k).resolve_left d
theorem LP{M w g o cap sz cur e fz rows}(c:w.heap[g]?=some (.cells cur e fz))(d:rows.length<=cap)(f:cap<=maxLen)(hR:dy sz rows)
 (h:∀(i)(r)(j)(p),rows[i]?=some r->r[j]?=some p->∃u,cur[o+i*sz+j]?=some u/\RP M w p u):Rows M w rows (.slice (some ⟨g,o,none⟩) rows.length cap):=by
 by_cases b:rows=[]
 .subst b;exact .inl ⟨rfl,_,_,rfl⟩
 .refine .inr ⟨g,o,cap,sz,λi j=>(cur[o+i*sz+j]?).getD undef,rfl,b,d,f,hR,λi r j p k l=>?_⟩;obtain⟨u,m,n⟩:=h i r j p k l;simp only[cell_of_row w g _ cur e fz c,m,gx];simp_all
theorem Rel.view{X E st a w}(h:Rel X E st a w){c v rows}(z:RC X.M E w c v)(J:∀n∈c.names,n∉st.bu)(d:st.view c=some rows):
 Rows (bad X.M E) w rows v:=by
 cases c with
 |p q=>
  cases q with
  |sc u=>simp[bx.view]at d
  |sl rs=>simp[bx.view]at d;subst d;exact RP.rows z
  |nl=>simp[bx.view]at d
  |any=>simp[bx.view]at d
 |nil=>simp[bx.view]at d;subst d;cases z;exact .inl ⟨rfl,_,_,rfl⟩
 |own n=>
  have k:=J n (by simp[C.names]);simp only[bx.view]at d;split at d
  .rename_i e rs B;simp at d;subst d;obtain⟨x,cur,fz,D,F,G,K,O,N,P,_,Q,H,m,R⟩:=h.row k B;obtain⟨y,k1,rfl⟩:=cW.get z (by rw[h.bu];exact k);rw[D]at k1;cases k1
   cases t:x.g with
   |none=>
    have:=m t;have I:x.len=0:=om;rw[I];exact .inl ⟨mN om,_,_,rfl⟩
   |some g=>
    rw[K];exact LP (G g t) om N H (λi r j p S T=>by simp_all)
  .cases d
 |sub n lo len=>
  have k:=J n (by simp[C.names]);simp only[bx.view]at d;split at d
  .rename_i e rs B;simp at d;subst d;obtain⟨x,cur,fz,D,F,G,K,O,N,P,_,Q,H,m,R⟩:=h.row k B;obtain⟨y,k1,k2,A,rfl,U⟩:=cW.get z (by rw[h.bu];exact k);rw[D]at k1;cases k1;have hlen:((rs.drop lo).take len).length=len:=by simp;omega
   by_cases I:len=0
   .subst I;exact .inl ⟨by simp,_,_,rfl⟩
   .cases t:x.g with
    |none=>simp_all
    |some g=>
    rw[U (.inl om),t]
    conv=>rhs;rw[<-hlen]
    refine LP (G g t) om om (λr W=>H r (nP (mO W))) (λi r j p S T=>?_);grind
  .cases d
 |ptr=>cases d
 |dH=>cases d
 |ref=>cases d
 |fn=>cases d
 |mp=>cases d
 |dead=>cases d
def dZ(P:cC)(t:cd):Nat:=P.cellsOf t
def lz(P:cC)(t:cd):Bool:=match P.underlying t with|some (.struct _)|some (.array _ _)=>true|_=>false
def Ag(P:cC)(t:cd)(f:Nat):Option Nat:=
 match P.underlying t with
 |some (.struct c)=>match c[f]? with
  |some b=>match P.info? b.type with
   |some i=>if i.size=0 then none else some b.offset
   |none=>none
  |none=>none
 |_=>none
def fr(P:cC)(t:cd):Option cd:=match P.underlying t with|some (.slice e)=>if(P.info? e).isSome then some e else none|_=>none
def lu(P:cC)(t:cd):Option (Nat×cd):=match P.underlying t with|some (.array n e)=>if(P.info? e).isSome then some (n,e)else none|_=>none
def EW(P:cC)(t:cd):Option eX:=match P.underlying t with|some (.int k)=>some k|_=>none
def pN(P:cC)(t:cd):Option (List C):=match P.info? t with
 |some i=>match i.zero with
  |some z=>if z.cells.toList.all (·.oneCell')then some (z.cells.toList.map lG)else none
  |none=>none
 |none=>none
def zB(P:cC)(t:cd):Bool:=(P.underlying t).isSome
def m_(P:cC)(t:cd):Bool:=(P.info? t).isSome
def kW(P:cC)(t:cd)(cs:List C):Option V:=
 if lz P t then(if dZ P t<=cs.length/\m_ P t=true then some (.v (.agg (cs.take (dZ P t))))else none)
 else match zB P t,cs with
  |true,c::_=>some (.v (.c c))
  |_,_=>none
theorem DD{P t}(w){d}(h:P.underlying t=some d):(isAgg t).run P w=.ok (lz P t) w:=by
 unfold isAgg lz;rw[h];simp only[Sem.run_bind,run_underlying h,Result.andThen_ok];cases d<;>rfl
theorem run_sizeOf{P t}(w)(h:(P.info? t).isSome=true):(sizeOf t).run P w=.ok (dZ P t) w:=by
 obtain⟨i,b⟩:=rh.1 h;simp[sizeOf,typeInfo,b,dZ,Program.cellsOf]
theorem oJ(g o k):(⟨g,o,none⟩:Addr).add k=⟨g,o+k,none⟩:=by unfold Addr.add;simp_all
theorem VF{P t}(h:lz P t=true):∃d,P.underlying t=some d:=by
 unfold lz at h;grind
theorem aeX{P M E w t off}{cs:List C}{us v}(b:kW P t (cs.drop off)=some v)(m:us.size=cs.length)
 (h:∀(i:Nat)(c),cs[i]?=some c->∃u,us[i]?=some u/\RC M E w c u/\u.oneCell'=true):
 ∃u,(part t us off).run P w=.ok u w/\RV M E w v u:=by
 unfold kW at b;split at b
 .rename_i hagg;split at b
  .rename_i f;cases b;obtain⟨d,e⟩:=VF hagg;refine⟨.agg (us.extract off (off+dZ P t)),?_,_,rfl,?_,?_⟩
   .unfold part;simp only[Sem.run_bind,DD w e,hagg,Result.andThen_ok,if_true,run_sizeOf w f.2,Sem.run_pure]
   .grind
   grind
  .cases b
 .split at b
  .rename_i c l e g;cases b;obtain⟨d,e⟩:=rh.1 e;have j:cs[off]?=some c:=by
    have:(cs.drop off)[0]?=some c:=by rw[g];rfl
    simpa using this
   obtain⟨u,n,k,_⟩:=h off c j;refine⟨u,?_,k⟩;unfold part;simp_all[lz,DD,pS]
  .cases b
theorem BZ{P M E w t g o cs v}(b:kW P t cs=some v)
 (h:∀(j)(c),cs[j]?=some c->∃u,w.cell? ⟨g,o+j,none⟩=some u/\RC M E w c u/\u.oneCell'=true):
 ∃u,(loadVar t ⟨g,o,none⟩).run P w=.ok u w/\RV M E w v u:=by
 unfold kW at b;split at b
 .rename_i hagg;split at b
  .rename_i e;simp at b;subst b;obtain⟨d,f⟩:=VF hagg;have m:∀j,j<dZ P t->∃u,w.cell? ⟨g,o+j,none⟩=some u/\∀c,cs[j]?=some c->RC M E w c u/\u.oneCell'=true:=by
    intro j i;obtain⟨u,n,k,p⟩:=h j _ (cY (mM i e.1));grind
   have hrun:=run_loadCells (P:=P) w ⟨g,o,none⟩ (dZ P t) (λj=>(w.cell? ⟨g,o+j,none⟩).getD undef) (λj i=>by
    grind[oJ])
   refine⟨.agg ((List.range (dZ P t)).map λj=>(w.cell? ⟨g,o+j,none⟩).getD undef).toArray,?_,_,rfl,?_,?_⟩
   .unfold loadVar;simp only[Sem.run_bind,DD w f,hagg,Result.andThen_ok,if_true,run_sizeOf w e.2,hrun,Sem.run_pure]
   .simp;omega
   grind
  .cases b
 .split at b
  .rename_i c l f;simp at b;subst b;obtain⟨d,f⟩:=rh.1 f;obtain⟨u,n,k,_⟩:=h 0 c rfl;refine⟨u,?_,k⟩;unfold loadVar;simp_all[lz,DD,pS]
  .cases b
abbrev V.sc(v:b9):V:=.v (.c (.p (.sc v)))
abbrev V.c(c:C):V:=.v (.c c)
def kX(P:cC)(t:cd)(p:PV):PV:=if lz P t then p.wk else p
theorem RP.ld{M w p v P t}(h:RP M w p v):RP M w (kX P t p) v:=by
 unfold kX;split
 .exact h.wk
 .exact h
def oG(P:cC)(st:bx)(t:cd)(x:cF):Option V:=
 match st.arg x with
 |some (.v (.c (.ptr n off)))=>match st.heap.lookup n with
  |some (.box cs)=>kW P t (cs.drop off)
  |_=>none
 |some (.v (.c (.dH n i j)))=>match st.heap.lookup n with
  |some (.row _ rows)=>match rows[i]? with
   |some r=>kW P t ((r.drop j).map λp=>.p (kX P t p))
   |none=>none
  |_=>none
 |some (.v (.c (.ref cells)))=>kW P t (cells.map λp=>.p (kX P t p))
 |_=>none
section
variable{X:Fx}{E:Env}{st:bx}{a:Act}{w:bX}
theorem Rel.cN(h:Rel X E st a w){x c}(d:st.arg x=some (.v (.c c))):RC X.M E w c (a.eval x)/\c.oc=false/\∀n∈c.names,n∉st.bu:=⟨(h.arg d).1,Nr (h.arg d).2⟩
theorem Rel.ir(h:Rel X E st a w){x c}(d:st.arg x=some (.v (.c c))){n}(k:n∈c.names):n∉E.bu:=by rw[h.bu];exact(h.cN d).2.2 n k
theorem azl(h:Rel X E st a w){t x v}
 (b:oG X.P st t x=some v):∃u,(Instr.loadAt t (a.eval x)).run X.P w=.ok u w/\RV X.M E w v u:=by
 unfold oG at b;split at b
 .rename_i n off f;have l:=h.ir f (n:=n) (by simp[C.names]);obtain⟨y,m,g,F,q⟩:=cW.get (h.cN f).1 l;split at b
  .rename_i cs G;obtain⟨J,g',cur,e,s,z,H,N,I⟩:=h.row (by rw[<-h.bu];exact l) G;rw[m]at s;cases s;rw[F]at z;cases z;obtain⟨u,A,B⟩:=BZ (P:=X.P) (M:=X.M) (E:=E) (w:=w) (g:=g) (o:=off) b (λj c d=>by
    rw[kC]at d;obtain⟨u,k1,k2,D⟩:=I _ c d;exact⟨u,by rw[cell_of_row w g _ cur e (0,0) H];exact k1,k2,D⟩)
   refine⟨u,?_,B⟩;rw[q];simpa[Instr.loadAt,Instr.sureAddr]using A
  .cases b
 .rename_i n i j f;have l:=h.ir f (n:=n) (by simp[C.names]);obtain⟨y,m,O,g,F,q⟩:=cW.get (h.cN f).1 l;split at b
  .rename_i e rows G;obtain⟨J,cur,fz,s,K,H,_,_,_,_,_,_,_,_,I⟩:=h.row (by rw[<-h.bu];exact l) G;rw[m]at s;cases s;split at b
   .rename_i r L;obtain⟨u,A,B⟩:=BZ (P:=X.P) (M:=X.M) (E:=E) (w:=w) (g:=g) (o:=i*y.sz+j) b (λk c d=>by
     simp only[cX,bY,kC]at d;obtain⟨p,hp,rfl⟩:=d;obtain⟨u,k1,k2⟩:=I i r (j+k) p L hp;exact⟨u,by rw[cell_of_row w g _ cur e fz (H g F),Bb];exact k1,k2.ld,k2.rZ⟩)
    refine⟨u,?_,B⟩;rw[q];simpa[Instr.loadAt,Instr.sureAddr]using A
   .cases b
  .cases b
 .rename_i cells f;obtain⟨⟨g,o,m,q⟩,_⟩:=h.cN f;obtain⟨u,A,B⟩:=BZ (P:=X.P) (M:=X.M) (E:=E) (w:=w) (g:=g) (o:=o) b (λj c d=>by
   simp only[cX,bY]at d;obtain⟨p,hp,rfl⟩:=d;obtain⟨u,k1,k2,D⟩:=q j p hp;exact⟨u,k1,D.ld,D.rZ⟩)
  refine⟨u,?_,B⟩;rw[m];simpa[Instr.loadAt,Instr.sureAddr]using A
 .cases b
def qc(P:cC)(st:bx)(t:cd)(x:cF)(f:Nat):Option V:=
 match st.arg x,Ag P t f with
 |some (.v (.c (.ptr n off))),some k=>some (.c (.ptr n (off+k)))
 |some (.v (.c (.dH n i j))),some k=>some (.c (.dH n i (j+k)))
 |some (.v (.c (.ref cells))),some k=>some (.c (.ref (cells.drop k)))
 |_,_=>none
theorem KI{P t f k}(h:Ag P t f=some k)(g o)(w):
 (Instr.fieldAt t (.pointer (some ⟨g,o,none⟩)) f).run P w=.ok (.pointer (some ⟨g,o+k,none⟩)) w:=by
 unfold Ag at h;split at h
 .rename_i j c;split at h
  .rename_i l d;split at h
   .rename_i i e;split at h
    .cases h
    .rename_i b;simp at h;subst h;simp[Instr.fieldAt,run_underlying c,d,Instr.sureAddr,fieldPlace,sizeOf,typeInfo,e,b,oJ]
   .cases h
  .cases h
 .cases h
theorem RC.Ua{M}{cells:List PV}{g o}(h:∀(j)(p),cells[j]?=some p->∃u,w.cell? ⟨g,o+j,none⟩=some u/\¬bad M E g/\RP (bad M E) w p u)(k):
 RC M E w (.ref (cells.drop k)) (.pointer (some ⟨g,o+k,none⟩)):=
 ⟨g,o+k,rfl,λj p d=>by grind⟩
theorem ash(h:Rel X E st a w){t x f v}
 (b:qc X.P st t x f=some v):∃u,(Instr.fieldAt t (a.eval x) f).run X.P w=.ok u w/\RV X.M E w v u:=by
 unfold qc at b;split at b
 .rename_i n off k c l;obtain⟨y,d,g,m,e⟩:=cW.get (h.cN c).1 (h.ir c (n:=n) (by simp[C.names]));simp at b;subst b;exact⟨_,by simp_all[KI],.inr ⟨y,d,g,m,rfl⟩⟩
 .rename_i n i j k c l;obtain⟨y,d,e,g,m,p⟩:=cW.get (h.cN c).1 (h.ir c (n:=n) (by simp[C.names]));simp at b;subst b;exact⟨_,by rw[p];exact KI l g _ w,.inr ⟨y,d,e,g,m,by simp_all⟩⟩
 .rename_i cells k c l;obtain⟨⟨g,o,d,e⟩,_⟩:=h.cN c;simp at b;subst b;exact⟨_,by simp_all[KI],RC.Ua e k⟩
 .cases b
theorem EP{P t n e}(h:lu P t=some (n,e)):P.underlying t=some (.array n e)/\(P.info? e).isSome=true:=by
 unfold lu at h;grind
theorem nB{P t e}(h:fr P t=some e):P.underlying t=some (.slice e)/\(P.info? e).isSome=true:=by
 grind[fr]
theorem H0{P t n e}(h:lu P t=some (n,e))(g o)(k){i:Int}(b:0<=i/\i<n)(w):
 (Instr.indexAt t (.pointer (some ⟨g,o,none⟩)) (.int k i)).run P w=.ok (.pointer (some ⟨g,o+i.toNat*dZ P e,none⟩)) w:=by
 obtain⟨c,d⟩:=EP h;simp[Instr.indexAt,run_underlying c,asIntOf,Instr.sureAddr,b,run_sizeOf w d,oJ]
theorem MK{P t e}(h:fr P t=some e)(g o n cap:Nat)(k){i:Int}(b:0<=i/\i<n)(w):
 (Instr.indexAt t (.slice (some ⟨g,o,none⟩) n cap) (.int k i)).run P w=.ok (.pointer (some ⟨g,o+i.toNat*dZ P e,none⟩)) w:=by
 obtain⟨c,d⟩:=nB h;simp[Instr.indexAt,run_underlying c,asIntOf,b,run_sizeOf w d,oJ]
def bx.elem(st:bx)(size i:Nat):C->Option C
 |.own n=>match st.heap.lookup n with
  |some (.row _ rows)=>match rows[i]? with
   |some r=>if r.length=size then some (.dH n i 0)else none
   |none=>none
  |_=>none
 |.sub n lo len=>match st.heap.lookup n with
  |some (.row _ rows)=>match rows[lo+i]? with
   |some r=>if r.length=size/\i<len then some (.dH n (lo+i) 0)else none
   |none=>none
  |_=>none
 |.p (.sl rows)=>match rows[i]? with
  |some r=>if r.length=size then some (.ref r)else none
  |none=>none
 |_=>none
def nf(P:cC)(st:bx)(t:cd)(x i:cF):Option V:=
 match st.arg i with
 |some (.v (.c (.p (.sc (.int _ i)))))=>match st.arg x with
  |some (.v (.c (.ptr n off)))=>match lu P t with
   |some (m,e)=>iM (0<=i/\i<m) (some (.c (.ptr n (off+i.toNat*dZ P e))))
   |none=>none
  |some (.v (.c (.dH n r j)))=>match lu P t with
   |some (m,e)=>iM (0<=i/\i<m) (some (.c (.dH n r (j+i.toNat*dZ P e))))
   |none=>none
  |some (.v (.c (.ref cells)))=>match lu P t with
   |some (m,e)=>iM (0<=i/\i<m) (some (.c (.ref (cells.drop (i.toNat*dZ P e)))))
   |none=>none
  |some (.v (.c c))=>match fr P t with
   |some e=>iM (0<=i) ((st.elem (dZ P e) i.toNat c).map V.c)
   |none=>none
  |_=>none
 |_=>none
theorem apo(h:Rel X E st a w){t x i v}
 (b:nf X.P st t x i=some v):∃u,(Instr.indexAt t (a.eval x) (a.eval i)).run X.P w=.ok u w/\RV X.M E w v u:=by
 unfold nf iM at b;split at b
 .rename_i k i' T;have L:=RP.ek (h.cN T).1;split at b
  .rename_i n off d;obtain⟨y,l,g,s,B⟩:=cW.get (h.cN d).1 (h.ir d (n:=n) (by simp[C.names]));split at b
   .rename_i m e D;split at b
    .simp at b;subst b;exact⟨_,by grind[H0],.inr ⟨y,l,g,s,rfl⟩⟩
    .cases b
   .cases b
  .rename_i n r j d;obtain⟨y,l,N,g,s,B⟩:=cW.get (h.cN d).1 (h.ir d (n:=n) (by simp[C.names]));split at b
   .rename_i m e D;split at b
    .simp at b;subst b;exact⟨_,by rw[B,L];exact H0 D g _ k (by assumption) w,.inr ⟨y,l,N,g,s,by simp_all⟩⟩
    .cases b
   .cases b
  .rename_i cells d;obtain⟨⟨g,o,l,B⟩,_⟩:=h.cN d;split at b
   .rename_i m e D;split at b
    .simp at b;subst b;exact⟨_,by grind[H0],RC.Ua B _⟩
    .cases b
   .cases b
  .rename_i c _ _ _ d;have O:=(h.cN d).1;split at b
   .rename_i e D;split at b
    .simp only[bY]at b;obtain⟨c',b,rfl⟩:=b
     cases c with
     |own n =>
      simp only[bx.elem]at b;have I:=h.ir d (n:=n) (by simp[C.names]);obtain⟨y,l,B⟩:=cW.get O I;split at b
      .rename_i U rows P;obtain⟨V,cur,fz,J,Q,W,Y,Z,k7,k8,_,k9,F,R,_⟩:=h.row (by rw[<-h.bu];exact I) P;rw[l]at J;cases J;split at b
       .rename_i r G;split at b
        .rename_i z;simp at b;subst b;have S:=(dO.1 G).1;have H:y.sz=dZ X.P e:=by rw[<-z];exact(F r (eb G)).symm
         cases s:y.g with
         |none=>simp_all
         |some g=>
          rw[s]at B;refine⟨_,by rw[B,L];exact MK D g 0 y.len y.cap k om w,.inr ⟨y,l,om,g,s,by rw[H];simp⟩⟩
        .cases b
       .cases b
      .cases b
     |sub n lo len=>
      simp only[bx.elem]at b;have I:=h.ir d (n:=n) (by simp[C.names]);obtain⟨y,l,B,A,N,h5⟩:=cW.get O I;split at b
      .rename_i U rows P;obtain⟨V,cur,fz,J,Q,W,Y,Z,k7,k8,_,k9,F,R,_⟩:=h.row (by rw[<-h.bu];exact I) P;rw[l]at J;cases J;split at b
       .rename_i r G;split at b
        .rename_i z;simp at b;subst b;have H:y.sz=dZ X.P e:=by rw[<-z.1];exact(F r (eb G)).symm
         have K:y.cap≠lo:=om
         cases s:y.g with
         |none=>simp_all
         |some g=>
         rw[h5 (.inl K),s]at N;refine⟨_,by rw[N,L];exact MK D g (lo*y.sz) len (y.cap-lo) k om w,.inr ⟨y,l,om,g,s,by grind⟩⟩
        .cases b
       .cases b
      .cases b
     |p q =>
      cases q with
      |sc=>cases b
      |nl=>cases b
      |any=>cases b
      |sl rows=>
       simp only[bx.elem]at b;split at b
       .rename_i r G;split at b
        .rename_i z;simp at b;subst b;have S:=(dO.1 G).1;generalize a.eval x=u at O
         cases O with
         |nil=>simp at G
         |@row _ g o cap sz f aa P hm hs ab ac=>
          have H:sz=dZ X.P e:=by grind
          refine⟨_,by rw[L];exact MK D g o _ cap k om w,g,_,rfl,λj p hj=>?_⟩;grind
        .cases b
       .cases b
     |_=>cases b
    .cases b
   .cases b
  .cases b
 .cases b
end
theorem Yx{P}(b)(len cap:Nat)(lo e){l h:Int}(f:lo=none/\l=0\/∃k,lo=some (.int k l))(g:e=none/\h=len\/∃k,e=some (.int k h))
 (n:0<=l) (q:l<=h) (o:h<=cap) (w):(Instr.sliceBounds b len cap lo e none).run P w=.ok (l.toNat,h.toNat,cap) w:=by
 have d:∀(k:eX)(y:Nat)(c:BoundsCode)(i:Int),0<=i->i<=y->(Instr.sliceBound (.int k i) y c).run P w=.ok i.toNat w:=by
  intro k y c i j m;simp[Instr.sliceBound,asIntOf,j,m]
 rcases f with⟨rfl,rfl⟩| ⟨k,rfl⟩<;>rcases g with⟨rfl,rfl⟩| ⟨p,rfl⟩
 .rfl
 .simp[Instr.sliceBounds,d p cap _ h om o]
 .simp[Instr.sliceBounds,d k len _ l n q]
 .simp[Instr.sliceBounds,d p cap _ h om o,d k h.toNat _ l n om]
def bx.part(st:bx)(size l h:Nat):C->Option C
 |.own n=>match st.heap.lookup n with
  |some (.row _ rows)=>if h<=rows.length/\(∀r,rows[0]?=some r->r.length=size)then some (.sub n l (h-l))else none
  |_=>none
 |.sub n lo len=>match st.heap.lookup n with
  |some (.row _ rows)=>if h<=len/\(∀r,rows[0]?=some r->r.length=size)then some (.sub n (lo+l) (h-l))else none
  |_=>none
 |.p (.sl rows)=>if h<=rows.length/\dy size rows then some (.p (.sl ((rows.take h).drop l)))else none
 |.nil=>if h=0 then some .nil else none
 |_=>none
def bx.num(st:bx)(o:Option cF)(d:Int):Option Int:=match o with
 |none=>some d
 |some o=>match st.arg o with
  |some (.v (.c (.p (.sc (.int _ i)))))=>some i
  |_=>none
def bx.nG(st:bx):C->Option Nat
 |.sub _ _ len=>some len
 |c=>(st.view c).map (·.length)
def lU(P:cC)(st:bx)(t:cd)(x:cF)(lo b:Option cF):Option V:=
 match st.arg x with
 |some (.v (.c (.p (.sc (.string s)))))=>match st.num lo 0,st.num b s.size,P.underlying t with
  |some l,some h,some .string=>iM (0<=l/\l<=h/\h<=s.size) (some (.sc (.string (s.extract l.toNat h.toNat))))
  |_,_,_=>none
 |some (.v (.c c))=>match st.nG c,fr P t with
  |some n,some e=>match st.num lo 0,st.num b n with
   |some l,some h=>iM (0<=l/\l<=h) ((st.part (dZ P e) l.toNat h.toNat c).map V.c)
   |_,_=>none
  |_,_=>none
 |_=>none
theorem RP.slice{M w rows A n cap size}(d:RP M w (.sl rows) (.slice A n cap))(hR:dy size rows){l h}(F:l<=h)(x:h<=rows.length):
 RP M w (.sl ((rows.take h).drop l)) (.slice (if cap=l then A else A.map (·.add (l*size))) (h-l) (cap-l)):=by
 by_cases k:l=h
 .subst k;have:(rows.take l).drop l=[]:=by simp
  rw[this,sO];exact .nil
 .cases d with
  |nil=>simp at x;omega
  |@row _ g o cap sz f G H I t y z=>
   have hlen:((rows.take h).drop l).length=h-l:=by simp;omega
   have m:∀r∈rows,sz=size:=λr d=>by rw[<-t r d];exact hR r d
   have q:cap≠l:=om;rw[bH q,<-hlen];simp only[b_,oJ];have B:∀(i:Nat)(r:List PV),((rows.take h).drop l)[i]?=some r->rows[l+i]?=some r:=by
    grind
   have u:∀(i:Nat)(r:List PV)(j:Nat),((rows.take h).drop l)[i]?=some r->o+l*size+i*sz+j=o+(l+i)*sz+j:=by
    intro i r j D;have:=m r (eb (B i r D));grind
   refine RP.row (sz:=sz) (f:=λi j=>f (l+i) j) (by grind) om om (λr d=>t r (mO (nP d))) ?_ ?_
   .grind
   simp_all
section
variable{X:Fx}{E:Env}{st:bx}{a:Act}{w:bX}
theorem yx(h:Rel X E st a w){o d l}(b:st.num o d=some l):o.map a.eval=none/\l=d\/∃k,o.map a.eval=some (.int k l):=by
 cases o with
 |none=>simp_all[bx.num]
 |some o=>
  simp only[bx.num]at b;split at b
  .rename_i k i c;simp at b;subst b;exact .inr ⟨k,by simp[RP.ek (h.cN c).1]⟩
  .cases b
theorem apW(h:Rel X E st a w){t x lo G v}
 (b:lU X.P st t x lo G=some v):∃u,(Instr.sliceAt t (a.eval x) (lo.map a.eval) (G.map a.eval) none).run X.P w=.ok u w/\RV X.M E w v u:=by
 unfold lU iM at b;split at b
 .rename_i s I;have Z:=RP.ek (h.cN I).1;split at b
  .rename_i l N i j O;split at b
   .rename_i H;simp at b;subst b;have Q:=Yx (P:=X.P) false s.size s.size (lo.map a.eval) (G.map a.eval) (yx h i) (yx h j) H.1 H.2.1 H.2.2 w;refine⟨_,?_,.sc rfl⟩;rw[Z];simp[Instr.sliceAt,Instr.slice,run_underlying O,Q]
   .cases b
  .cases b
 .rename_i c _ I;have k:=(h.cN I).1;split at b
  .rename_i n e hp ht;obtain⟨O,R⟩:=nB ht;split at b
   .rename_i l N i j;split at b
    .rename_i H;simp only[bY]at b;obtain⟨c',b,rfl⟩:=b;have key:∀(A:Option Addr)(m cap:Nat),a.eval x=.slice A m cap->(G=none->(m:Int)=n)->N<=cap->
      (Instr.sliceAt t (a.eval x) (lo.map a.eval) (G.map a.eval) none).run X.P w=.ok (.slice (if cap=l.toNat then A else A.map (·.add (l.toNat*dZ X.P e))) (N.toNat-l.toNat) (cap-l.toNat)) w:=by
      intro A m cap g hm f;have Q:=Yx (P:=X.P) true m cap (lo.map a.eval) (G.map a.eval) (yx h i) (by
       rcases yx h j with⟨k1,k2⟩|k1
       .simp_all
       .exact .inr k1) H.1 H.2 f w
      rw[g];simp[Instr.sliceAt,Instr.slice,run_underlying O,Q,run_sizeOf w R,dZ]
     cases c with
     |own S =>
      simp only[bx.part]at b;have J:=h.ir I (n:=S) (by simp[C.names]);obtain⟨y,k1,k2⟩:=cW.get k J;split at b
      .rename_i e' rows L;obtain⟨x',cur,fz,K,T,k4,k5,k6,k7,k8,_,k9,o,U,_⟩:=h.row (by rw[<-h.bu];exact J) L;rw[k1]at K;cases K;split at b
       .rename_i d;simp at b;subst b;have z:n=rows.length:=by simp_all[bx.nG,bx.view]
        refine⟨_,key _ _ _ k2 (λ_=>by omega) om,.inr ⟨y,k1,om,_,rfl,λf=>?_⟩⟩;by_cases B:y.cap=l.toNat
        .grind
        .rw [bH B];have D:l.toNat*dZ X.P e=l.toNat*y.sz:=by
          by_cases F:rows=[]
          .grind
          .obtain⟨r,rs,rfl⟩:=Od F;rw[<-d.2 r rfl,o r (by simp)]
         cases y.g<;>simp[oJ,D]
       .cases b
      .cases b
     |sub S Y len=>
      simp only[bx.part]at b;have J:=h.ir I (n:=S) (by simp[C.names]);obtain⟨y,k1,aa,A,k2,V⟩:=cW.get k J;split at b
      .rename_i e' rows L;obtain⟨x',cur,fz,K,T,k4,k5,k6,k7,k8,_,k9,o,U,_⟩:=h.row (by rw[<-h.bu];exact J) L;rw[k1]at K;cases K;split at b
       .rename_i d;simp at b;subst b;have z:n=len:=by simp_all[bx.nG]
        refine⟨_,key _ _ _ k2 (λ_=>by omega) om,.inr ⟨y,k1,om,_,by rw[Nat.sub_sub],λf=>?_⟩⟩;have hA:=V om;subst hA;by_cases B:y.cap-Y=l.toNat
        .have ab:Y=0/\l.toNat=0:=om;grind
        .rw [bH B];have D:l.toNat*dZ X.P e=l.toNat*y.sz:=by
          by_cases F:rows=[]
          .grind
          .obtain⟨r,rs,rfl⟩:=Od F;rw[<-d.2 r rfl,o r (by simp)]
         cases y.g<;>simp[oJ,D,jU]
       .cases b
      .cases b
     |p q =>
      cases q with
      |sc=>cases b
      |nl=>cases b
      |any=>cases b
      |sl rows=>
       simp only[bx.part]at b;split at b
       .rename_i d;simp at b;subst b;have z:n=rows.length:=by simp_all[bx.nG,bx.view]
        have W:∃A cap,a.eval x=.slice A rows.length cap/\rows.length<=cap:=by
         generalize a.eval x=u at k
         cases k with
         |nil=>simp_all
         |row h0 L=>grind
        obtain⟨A,cap,g,f⟩:=W;rw[g]at k;exact⟨_,key _ _ _ g (λ_=>by omega) om,RP.slice k d.2 om d.1⟩
       .cases b
     |nil=>
      simp only[bx.part]at b;split at b
      .rename_i h0;simp at b;subst b;have z:n=0:=by simp_all[bx.nG,bx.view]
       refine⟨_,key _ _ _ k (λ_=>by omega) om,?_⟩;show _=_;grind
      .cases b
     |_=>cases b
    .cases b
   .cases b
  .cases b
 .cases b
end
def Env.drop(E:Env)(d:List Nat):Env:=⟨λn=>if n∈d then none else E.N n,d++E.bu⟩
theorem nA{E:Env}{b n x}(h:(E.drop b).N n=some x):E.N n=some x/\n∉b:=by
 simp_all[Env.drop]
theorem ss{M E b g}(h:bad M (E.drop b) g):bad M E g:=by
 rcases h with h| ⟨n,x,c,d⟩
 .exact .inl h
 .exact .inr ⟨n,x,(nA c).1,d⟩
theorem Lx(M)(E)(c)(w):h_ M E (E.drop c) w w:={
 cell:=λ_ _ _ d e=>⟨d,λh=>e (ss h)⟩
 name:=λn x f=>by
  by_cases b:n∈c
  .exact .inl (by simp[Env.drop,b])
  .exact .inr (by simp[Env.drop,b,f])
 bu:=λn b=>by simp[Env.drop,b]}
section
variable{X:Fx}{E:Env}{st:bx}{a:Act}{w:bX}
theorem Rel.drop(h:Rel X E st a w)(k)(q:∀n∈k,n<st.next):Rel X (E.drop k) (st.dS ⟨[],k⟩) a w:=
 h.step ⟨[],k⟩ (nx:=st.next) (de _) (Lx _ _ _ _) (by simp[Env.drop,h.bu]) h.frame (λn x d=>h.eJ n x (nA d).1) (λn x g d=>h.names n x g (nA d).1)
  (λn m x y g d t=>h.inj n m x y g (nA d).1 (nA t).1) (λm _=>by simp only[Env.drop];split;exact .inl rfl;exact .inr rfl) q (λ_ _ _ _ _ _ _=>rfl) (λn b u=>by simp at u)
theorem Rel.write(h:Rel X E st a w){n x}(G:E.N n=some x){g}(q:x.g=some g){cur e fz}(Q:w.heap[g]?=some (.cells cur e fz))(us)(d)(H:∀m∈d,m<st.next)(b)
 (R:h_ X.M E (E.drop d) w (w.setRow g us)->(w.setRow g us).heap[g]?=some (.cells us e fz)->n∉d->RB X.P X.M (E.drop d) (w.setRow g us) n b):
 h_ X.M E (E.drop d) w (w.setRow g us)/\Rel X (E.drop d) (st.dS ⟨[(n,b)],d⟩) a (w.setRow g us):=by
 have t:∀k,k≠g->(w.setRow g us).heap[k]?=w.heap[k]?:=λk z=>setRow_other w g k _ z
 have I:(w.setRow g us).heap.size=w.heap.size:=by simp_all
 obtain⟨S,J,T⟩:=h.names n x g G q;have K:h_ X.M E (E.drop d) w (w.setRow g us):={
  cell:=λk o u k1 k2=>by
   have:k≠g:=by rintro rfl;exact k2 (.inr ⟨n,x,G,q⟩)
   exact⟨(World.cell?_of_block (w:=w) (a:=⟨k,o,none⟩) (t k this)).trans k1,λh=>k2 (ss h)⟩
  name:=(Lx X.M E d w).name
  bu:=(Lx X.M E d w).bu}
 refine⟨K,h.step ⟨[(n,b)],d⟩ (nx:=st.next) (de _) K (by simp[Env.drop,h.bu]) ?_ (λn x D=>h.eJ n x (nA D).1) (λn x g D=>by rw[I];exact h.names n x g (nA D).1)
  (λn m x y g D N=>h.inj n m x y g (nA D).1 (nA N).1) (λm _=>by simp only[Env.drop];split;exact .inl rfl;exact .inr rfl) H ?_ ?_⟩
 .refine h.frame.trans (K':=λk=>k=g) ⟨rfl,rfl,rfl,om,λk _ z=>t k z⟩ ?_;rintro k z rfl;rcases J with O|O
  .exact O
  .omega
 .intro m y k N z _ B;refine t _ λU=>?_
  subst U;have:=h.inj m n y x k N G z q;simp_all
 .intro m W B;simp only[fD,jS]at B;split at B
  .rename_i F;simp at F B;subst F B;by_cases P:m∈d
   .exact .inl (by simp[Env.drop,P])
   .exact .inr (R K (setRow_heap w g cur us e _ Q) P)
  .cases B
theorem Rel.aoL(h:Rel X E st a w){n x}(d:E.N n=some x):n<st.next:=h.eJ n x d
def bx.sink(st:bx):C->Option (PV×List Nat)
 |.p q=>some (q,[])
 |.nil=>some (.sl [],[])
 |.own n=>match st.heap.lookup n with
  |some (.row _ rows)=>some (.sl rows,[n])
  |_=>none
 |.sub n lo len=>match st.heap.lookup n with
  |some (.row _ rows)=>some (.sl ((rows.drop lo).take len),[n])
  |_=>none
 |_=>none
theorem Rows.rp{M d w rows v}(h:Rows M w rows v)(x:∀g,d g->M g)(y:∀g o n c,v=.slice (some ⟨g,o,none⟩) n c->¬d g):RP d w (.sl rows) v:=by
 rcases h with⟨rfl,A,cap,rfl⟩| ⟨g,o,cap,sz,f,rfl,z,B,D,hR,t⟩
 .exact .nil
 .have F:iK M d w w:=λk o u G H=>⟨G,λh=>H (x k h)⟩
  exact .row z B D hR (λi r j p m q=>⟨(t i r j p m q).1,y g o _ _ rfl⟩) (λi r j p m q=>(t i r j p m q).2.trans F)
theorem Rel.sink(h:Rel X E st a w){c v q H}(D:RC X.M E w c v)(N:∀n∈c.names,n∉st.bu)(t:st.sink c=some (q,H)):
 (∀n∈H,n<st.next)/\(∀n∈H,n∉st.bu)/\∀d,(∀n∈H,n∈d)->RP (bad X.M (E.drop d)) w q v:=by
 have O:∀d,iK (bad X.M E) (bad X.M (E.drop d)) w w:=λd k o u z F=>⟨z,λh=>F (ss h)⟩
 have key :∀n lo len,n∉st.bu->RC X.M E w c v->(c=.own n\/c=.sub n lo len)->∀rows,st.view c=some rows->
  (∀k∈ [n],k<st.next)/\(∀k∈ [n],k∉st.bu)/\∀d,(∀k∈ [n],k∈d)->RP (bad X.M (E.drop d)) w (.sl rows) v:=by
  intro n lo len B D P rows I;have Q:=h.view D N I;have R :∃x,E.N n=some x/\∀g o m J,v=.slice (some ⟨g,o,none⟩) m J->x.g=some g\/m=0:=by
   rcases P with rfl|rfl
   .obtain⟨x,z,rfl⟩:=cW.get D (by rw[h.bu];exact B);simp_all
   .obtain⟨x,z,F,A,rfl,Y⟩:=cW.get D (by rw[h.bu];exact B);refine⟨x,z,λg o m J Z=>?_⟩;simp at Z;by_cases aa:len=0
    .omega
    .simp only[bx.view]at I;split at I
     .rename_i e rs S;obtain⟨x',cur,fz,k3,ab,k4,k5,k6,_⟩:=h.row B S;rw[z]at k3;cases k3;rw[Y om]at Z
      cases G:x.g with
      |none=>simp_all
      |some g'=>simp_all
     .cases I
  obtain⟨x,T,R⟩:=R;refine⟨by simpa using h.aoL T,by simpa using B,λd ac=>?_⟩;by_cases K:rows=[]
  .subst K;rcases Q with⟨_,A,cap,rfl⟩| ⟨_,_,_,_,_,_,K,_⟩
   .exact .nil
   simp_all
  .refine Q.rp (λg G=>ss G) ?_;rintro g o m J rfl U;have G:x.g=some g:=by
    rcases R g o m J rfl with z|z
    .exact z
    .rcases Q with⟨F,_⟩| ⟨g',o',cap,sz,f,F,_⟩
     .exact absurd F K
     .simp at F;exact absurd (mN om) K
   rcases U with U| ⟨k,y,z,F⟩
   .exact(h.names n x g T G).2.2 U
   .obtain⟨h3,Y⟩:=nA z;have:=h.inj k n y x g h3 T F G;simp_all
 cases c with
 |p q'=>obtain⟨rfl,rfl⟩:=t;exact⟨by simp,by simp,λd _=>RP.trans D (O d)⟩
 |nil=>obtain⟨rfl,rfl⟩:=t;cases D;exact⟨by simp,by simp,λd _=>.nil⟩
 |own n=>
  simp only[bx.sink]at t;split at t
  .rename_i e rows W;obtain⟨rfl,rfl⟩:=t;exact key n 0 0 (N n (by simp[C.names])) D (.inl rfl) rows (by simp[bx.view,W])
  .cases t
 |sub n lo len=>
  simp only[bx.sink]at t;split at t
  .rename_i e rows W;obtain⟨rfl,rfl⟩:=t;exact key n lo len (N n (by simp[C.names])) D (.inr rfl) _ (by simp[bx.view,W])
  .cases t
 |_=>cases t
def bx.sinks(st:bx):List C->Option (List PV×List Nat)
 |[]=>some ([],[])
 |c::cs=>match st.sink c,st.sinks cs with
  |some (q,d),some (h,k)=>some (q::h,d++k)
  |_,_=>none
theorem Vm{st:bx}:∀{cs:List C}{e:List PV}{f:List Nat},st.sinks cs=some (e,f)->e.length=cs.length/\(∀(i:Nat)(q:PV),e[i]?=some q->∃c b,cs[i]?=some c/\st.sink c=some (q,b)/\∀m∈b,m∈f)/\
 ∀n∈f,∃c q b,c∈cs/\st.sink c=some (q,b)/\n∈b
 |[],e,f,h=>by simp[bx.sinks]at h;simp_all
 |c :: cs,e,f,h=>by
  simp only[bx.sinks]at h;split at h
  .rename_i q b s t r u;obtain⟨rfl,rfl⟩:=h;obtain⟨v,x,y⟩:=Vm u;refine⟨by simp[v],λi g j=>?_,λn z=>?_⟩
   .cases i with
    |zero=>simp at j;subst j;exact⟨c,b,rfl,r,λm k=>xZ _ k⟩
    |succ i=>
     obtain⟨l,d,k1,k2,o⟩:=x i g (by simpa using j);exact⟨l,d,by simpa using k1,k2,λm k=>x5 _ (o m k)⟩
   .rcases gI.1 z with p|p
    .exact⟨c,q,b,by simp,r,p⟩
    .obtain⟨l,g,d,k1,k2,o⟩:=y n p;exact⟨l,g,d,by simp[k1],k2,o⟩
  .cases h
theorem Rel.sinks(h:Rel X E st a w){cs}{us:Array b9}{t m}(x:us.size=cs.length)(D:∀(i:Nat)(c),cs[i]?=some c->∃u,us[i]?=some u/\RC X.M E w c u)(F:∀c∈cs,∀n∈c.names,n∉st.bu)(J:st.sinks cs=some (t,m)):
 t.length=us.size/\(∀n∈m,n<st.next)/\(∀n∈m,n∉st.bu)/\∀k,(∀n∈m,n∈k)->∀(i:Nat)(q),t[i]?=some q->∃u,us[i]?=some u/\RP (bad X.M (E.drop k)) w q u:=by
 obtain⟨K,N,O⟩:=Vm J;have hall:∀n∈m,n<st.next/\n∉st.bu:=by
  intro n d;obtain⟨c,q,P,k1,k2,G⟩:=O n d;obtain⟨i,y,rfl⟩:=jG k1;obtain⟨u,H,z⟩:=D i _ (cY y);obtain⟨I,Q,_⟩:=h.sink z (F _ k1) k2;simp_all
 refine⟨by rw[K,x],λn d=>(hall n d).1,λn d=>(hall n d).2,λk B i q y=>?_⟩;obtain⟨c,P,k1,k2,G⟩:=N i q y;obtain⟨u,H,z⟩:=D i c k1;obtain⟨_,_,I⟩:=h.sink z (F c (eb k1)) k2;exact⟨u,H,I k (λn d=>B n (G n d))⟩
theorem TQ{bu y}(d:(V.v y).live bu=true):∀c∈y.cells,∀n∈c.names,n∉bu:=by
 cases y with
 |c c=>intro e b;simp[V1.cells]at b;subst b;exact(Nr d).2
 |agg cs=>exact axs d
def uF(P:cC)(st:bx)(t:cd)(x y:cF):Option gO:=
 match st.arg x,st.arg y with
 |some (.v (.c (.ptr n off))),some (.v y)=>match st.heap.lookup n with
  |some (.box cs)=>if y.cells.length=dZ P t/\off+y.cells.length<=cs.length/\m_ P t=true then some ⟨[(n,.box (cs.take off++y.cells++cs.drop (off+y.cells.length)))],[]⟩else none
  |_=>none
 |some (.v (.c (.dH n i j))),some (.v y)=>match st.heap.lookup n,st.sinks y.cells with
  |some (.row e rows),some (b,c)=>match rows[i]? with
   |some r=>if b.length=dZ P t/\j+b.length<=r.length/\m_ P t=true/\n∉c then some ⟨[(n,.row e (rows.set i (r.take j++b++r.drop (j+b.length))))],c⟩else none
   |none=>none
  |_,_=>none
 |_,_=>none
theorem sj{α:Type}{l ys:List α}{off k}(h:off+ys.length<=l.length):(l.take off++ys++l.drop (off+ys.length))[k]?=if off<=k/\k<off+ys.length then ys[k-off]? else l[k]?:=by
 rw[dI,lg];have:(l.take off).length=off:=by simp;omega
 rw[this];split
 .rename_i b;rw[bH om,jc,bA b]
 .rw[lg];split
  .rw[bA om]
  .rw[bH om,kC];congr 1;omega
theorem nc.not{n fz}(h:nc n fz){w:bX}{g cur e}(d:w.heap[g]?=some (.cells cur e fz)){i}(k:i<n):w.frozen? ⟨g,i,none⟩=false:=by
 simp only[World.frozen?,d,Bool.and_eq_false_iff,x6];rcases h with h|h
 .simp_all
 omega
theorem uK(P)(g o)(t)(fz):∀(vs)(i)(cur)(w),nc cur.size fz->w.heap[g]?=some (.cells cur t fz)->o+i+vs.length<=cur.size->(∀v∈vs,v.oneCell'=true)->
 (storeCells ⟨g,o,none⟩ vs i).run P w=.ok () (w.setRow g (cur.toList.take (o+i)++vs++cur.toList.drop (o+i+vs.length)).toArray)
 |[],i,cur,w,f,b,_,_=>by
  simp only[storeCells,fW,jH,lh,List.take_append_drop,Array.toArray_toList];rw[setRow_self w g cur t fz b];rfl
 |v::rest,i,cur,w,f,b,j,k=>by
  have l:o+i<cur.size:=by simp at j;omega
  have c:(⟨g,o,none⟩:Addr).add i=⟨g,o+i,none⟩:=by unfold Addr.add;simp_all
  have hcell:w.cell? ⟨g,o+i,none⟩=some cur[o+i]:=by simp[World.cell?,b,l]
  have d:w.frozen? ⟨g,o+i,none⟩=false:=f.not b l;have h:(store ((⟨g,o,none⟩:Addr).add i) v).run P w=.ok () (w.setRow g (cur.setIfInBounds (o+i) v)):=by
   rw[c,run_store P w _ v _ (k v (by simp)),hcell];simp[d,setCell_eq_setRow w g (o+i) cur t fz v b]
  have ih:=uK P g o t fz rest (i+1) (cur.setIfInBounds (o+i) v) (w.setRow g (cur.setIfInBounds (o+i) v)) (by simpa using f) (setRow_heap w g cur _ t _ b) (by simp at j⊢;omega) (λx m=>k x (by simp[m]));simp only[storeCells,Sem.run_bind,h,Result.andThen_ok,ih,setRow_setRow];congr 3;have e:=list_seg_step cur.toList (o+i) v rest om;simpa[Array.toList_setIfInBounds,Bb]using e
theorem TO(P){t g o v cur e fz w}(c:nc cur.size fz)(i:w.heap[g]?=some (.cells cur e fz))(d:v.cells.size=dZ P t)(j:m_ P t=true)(h:o+v.cells.size<=cur.size)
 (b:∀u∈v.cells.toList,u.oneCell'=true):
 (Instr.storeAt t (.pointer (some ⟨g,o,none⟩)) v).run P w=.ok () (w.setRow g (cur.toList.take o++v.cells.toList++cur.toList.drop (o+v.cells.toList.length)).toArray):=by
 have f:=uK P g o e fz v.cells.toList 0 cur w c i om b;have:¬v.cells.size≠dZ P t:=by rw[d];simp
 simp only[Instr.storeAt,Instr.sureAddr,storeVar,Sem.run_bind,Sem.run_pure,Result.andThen_ok,run_sizeOf w j,this,if_false];exact f
theorem akH(h:Rel X E st a w){t x y ef}
 (s:uF X.P st t x y=some ef):∃w' E',(Instr.storeAt t (a.eval x) (a.eval y)).run X.P w=.ok () w'/\(∀n,E.N n=none->E'.N n=none)/\Rel X E' (st.dS ef) a w':=by
 unfold uF at s;split at s
 .rename_i n off N U hy;have V:=h.ir U (n:=n) (by simp[C.names]);obtain⟨z,H,g,K,W⟩:=cW.get (h.cN U).1 V;obtain⟨O,I⟩:=h.arg hy;split at s
  .rename_i cs hl;split at s
   .rename_i hb;cases s;obtain⟨P,d,B⟩:=hb;obtain⟨x',g',cur,e,Y,Z,h4,h5,h6⟩:=h.row (by rw[<-h.bu];exact V) hl;rw[H]at Y;cases Y;rw[K]at Z;cases Z;obtain⟨k1,k2⟩:=eB.cells O (by rw[h.bu];exact I);have D:∀u∈(a.eval y).cells.toList,u.oneCell'=true:=by
     intro u hu;obtain⟨i,l,Q⟩:=jG hu;have b:i<N.cells.length:=by rw[<-k1];simpa using l
     obtain⟨u',F,R,J⟩:=k2 i _ (cY b);have:(a.eval y).cells[i]?=some u:=by rw[<-Q];simp[ri (by simpa using l:i< (a.eval y).cells.size)]
     rw[this]at F;cases F;exact J
    have hrun:=TO X.P (t:=t) (o:=off) (.inl rfl) h4 (by rw[k1,P]) B (by rw[k1,h5];exact d) D;have hcell:∀(i:Nat)(c:C),(cs.take off++N.cells++cs.drop (off+N.cells.length))[i]?=some c->∃u,(cur.toList.take off++(a.eval y).cells.toList++cur.toList.drop (off+(a.eval y).cells.toList.length)).toArray[i]?=some u/\RC X.M E w c u/\u.oneCell'=true:=by
     intro i c l;rw[sj d]at l;rw[pT,sj (by simp[k1,h5];exact d)];simp only[Gq,k1];split
     .rename_i hc;rw[bA hc]at l;obtain⟨u,F,R,J⟩:=k2 _ c l;exact⟨u,by simpa using F,R,J⟩
     .rename_i hc;rw[bH hc]at l;obtain⟨u,F,R,J⟩:=h6 _ c l;exact⟨u,by simpa using F,R,J⟩
    have hw:=h.write H K h4 (cur.toList.take off++(a.eval y).cells.toList++cur.toList.drop (off+(a.eval y).cells.toList.length)).toArray [] (by simp) (.box (cs.take off++N.cells++cs.drop (off+N.cells.length))) (λhG G _=>by
     refine⟨z,g,_,e,by exact H,K,G,by simp[k1,h5],λi c l=>?_⟩;obtain⟨u,F,R,J⟩:=hcell i c l;exact⟨u,F,R.goes hG,J⟩)
    exact⟨_,_,by rw[W];exact hrun,λm hm=>by exact hm,hw.2⟩
   .cases s
  .cases s
 .rename_i n i j N U hy;have V:=h.ir U (n:=n) (by simp[C.names]);obtain⟨z,H,l,g,K,W⟩:=cW.get (h.cN U).1 V;obtain⟨O,I⟩:=h.arg hy;split at s
  .rename_i e rows S ns hl ag;split at s
   .rename_i r hr;split at s
    .rename_i hb;cases s;obtain⟨P,d,B,ao⟩:=hb;obtain⟨x',cur,fz,Y,aa,ah,h5,ai,ab,ac,ad,aj,hR,hnone,h6⟩:=h.row (by rw[<-h.bu];exact V) hl;rw[H]at Y;cases Y;have h4:=ah g K;obtain⟨k1,k2⟩:=eB.cells O (by rw[h.bu];exact I);obtain⟨s1,s2,s3,s4⟩:=h.sinks k1 (λi c l=>let⟨u,q1,q2,_⟩:=k2 i c l; ⟨u,q1,q2⟩) (TQ I) ag;have D:∀u∈(a.eval y).cells.toList,u.oneCell'=true:=by
      intro u hu;obtain⟨i,l,Q⟩:=jG hu;have b:i<N.cells.length:=by rw[<-k1];simpa using l
      obtain⟨u',F,R,J⟩:=k2 i _ (cY b);have:(a.eval y).cells[i]?=some u:=by rw[<-Q];simp[ri (by simpa using l:i< (a.eval y).cells.size)]
      rw[this]at F;cases F;exact J
     have an:r.length=z.sz:=hR r (eb hr);have hblk:i*z.sz+z.sz<=cur.size:=by
      rw[aj,<-oW];exact gi _ om
     have hrun:=TO X.P (t:=t) (o:=i*z.sz+j) aa h4 (by rw[<-s1,P]) B om D;have hlen:(r.take j++S++r.drop (j+S.length)).length=z.sz:=by simp;omega
     have hcell:∀(v:Nat)(r':List PV)(A:Nat)(p:PV),(rows.set i (r.take j++S++r.drop (j+S.length)))[v]?=some r'->r'[A]?=some p->∃u,(cur.toList.take (i*z.sz+j)++(a.eval y).cells.toList++cur.toList.drop (i*z.sz+j+(a.eval y).cells.toList.length)).toArray[v*z.sz+A]?=some u/\RP (bad X.M (E.drop ns)) w p u:=by
      intro v r' A p b f;have ae:iK (bad X.M E) (bad X.M (E.drop ns)) w w:=λk o u H W=>⟨H,λh=>W (ss h)⟩
      rw[pT,sj (by simp;omega)];simp only[Gq,<-s1];rw[Gp]at b;split at b
      .rename_i ak;subst ak;split at b
       .cases b;rw[sj d]at f;split at f
        .rw[bA om,show i*z.sz+A- (i*z.sz+j)=A-j by omega];obtain⟨u,q1,q2⟩:=s4 ns (λ_ h=>h) _ p f;exact⟨u,by simpa using q1,q2⟩
        .rw[bH om];obtain⟨u,q1,q2⟩:=h6 i r A p hr f;exact⟨u,by simpa using q1,q2.trans ae⟩
       .cases b
      .have ap:A<z.sz:=by rw[<-hR r' (eb b)];exact(dO.1 f).1
       have al:¬(i*z.sz+j<=v*z.sz+A/\v*z.sz+A<i*z.sz+j+S.length):=by
        rcases mP i v with T|T
        .have:(i+1)*z.sz<=v*z.sz:=gi _ T;rw[oW]at this;omega
        .have h8:v<i:=om;have:(v+1)*z.sz<=i*z.sz:=gi _ h8;rw[oW]at this;omega
       rw[bH al];obtain⟨u,q1,q2⟩:=h6 v r' A p b f;exact⟨u,by simpa using q1,q2.trans ae⟩
     have hw:=h.write H K h4 (cur.toList.take (i*z.sz+j)++(a.eval y).cells.toList++cur.toList.drop (i*z.sz+j+(a.eval y).cells.toList.length)).toArray ns s2 (.row e (rows.set i (r.take j++S++r.drop (j+S.length)))) (λhG G L=>by
      refine⟨z,_,fz,by simp only[Env.drop,bH L];exact H,(by
       have e1:(cur.toList.take (i*z.sz+j)++(a.eval y).cells.toList++cur.toList.drop (i*z.sz+j+(a.eval y).cells.toList.length)).toArray.size=cur.size:=by simp;omega
       rw[e1];exact aa),λg' af=>by rw[K]at af;cases af;exact G,by simp[h5],ai,ab,ac,ad,by simp;omega,?_,hnone,λv r' A p b f=>?_⟩
      .intro q hq;rcases List.mem_or_eq_of_mem_set hq with T|T
       .exact hR q T
       .rw[T];exact hlen
      .obtain⟨u,q1,q2⟩:=hcell v r' A p b f;refine⟨u,q1,q2.trans (λk o u' c1 c2=>?_)⟩;have am:k≠g:=by rintro rfl;exact c2 (.inr ⟨n,z,by simp only[Env.drop,bH L];exact H,K⟩)
       exact⟨(World.cell?_of_block (w:=w) (a:=⟨k,o,none⟩) (setRow_other w g k _ am)).trans c1,c2⟩)
     exact⟨_,_,by rw[W];exact hrun,λm hm=>by simp[Env.drop,hm],hw.2⟩
    .cases s
   .cases s
  .cases s
 .cases s
end
end
end
end Go.Proofs.YtiikkkhcolcebaaGreatDoor
