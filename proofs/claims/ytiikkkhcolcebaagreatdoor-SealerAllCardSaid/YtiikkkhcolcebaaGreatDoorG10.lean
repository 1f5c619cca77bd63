/- A part. -/
import Derived.Test.YtiikkkhcolcebaaGreatDoorG9
set_option linter.all false
set_option maxHeartbeats 4000000
set_option maxRecDepth 100000
namespace Go.Proofs.YtiikkkhcolcebaaGreatDoor
noncomputable section
section
open Go.RowKit
open Classical
def Jx(T:bV)(S:bq)(t:cd)(x:cF)(f:Nat):Option cv:=
 match S.arg x,List.lookup t T with
 |some (.v (.c c)),some r=>match r.fields[f]? with
  |some (some k)=>match c with
   |.ptr n off=>some (.pure (.c1 (.ptr n (off+k))))
   |.ia n off cZ m i=>some (.pure (.c1 (.ia n (off+k) cZ m i)))
   |.dH n i j=>some (.pure (.c1 (.dH n i (j+k))))
   |.ref x j=>some (.pure (.c1 (.ref x (j+k))))
   |_=>none
  |_=>none
 |_,_=>none
def HN(T:bV)(S:bq)(t:cd)(x i:cF):Option cv:=
 match S.arg i,S.arg x,List.lookup t T with
 |some (.v (.c (.p (.int _) ai))),some (.v (.c c)),some r=>match c with
  |.ptr n off=>match r.arr with
   |some (cZ,e)=>match List.lookup e T with
    |some a=>match ai with
     |.i k=>if 0<=k/\k<cZ then some (.pure (.c1 (.ptr n (off+k.toNat*a.size))))else none
     |ai=>some ⟨[.du ai cZ],.c1 (.ia n off cZ a.size ai),dU,[]⟩
    |none=>none
   |none=>none
  |.dH n b j=>match r.arr,ai with
   |some (cZ,e),.i k=>match List.lookup e T with
    |some a=>if 0<=k/\k<cZ then some (.pure (.c1 (.dH n b (j+k.toNat*a.size))))else none
    |none=>none
   |_,_=>none
  |.ref x j=>match r.arr,ai with
   |some (cZ,e),.i k=>match List.lookup e T with
    |some a=>if 0<=k/\k<cZ then some (.pure (.c1 (.ref x (j+k.toNat*a.size))))else none
    |none=>none
   |_,_=>none
  |.own n=>match r.elem with
   |some e=>match List.lookup n S.heap,List.lookup e T with
    |some (.row _ x),some a=>some ⟨[.row x ai a.size],.c1 (.dH n ai 0),dU,[]⟩
    |_,_=>none
   |none=>none
  |.sub n lo ln=>match r.elem with
   |some e=>match List.lookup n S.heap,List.lookup e T with
    |some (.row _ x),some a=>some ⟨[.jv x lo ln ai a.size],.c1 (.dH n (.v S.nv) 0),dU,[]⟩
    |_,_=>none
   |none=>none
  |.p .sl x=>match r.elem with
   |some e=>match List.lookup e T with
    |some a=>some ⟨[.row x ai a.size],.c1 (.ref (.v S.nv) 0),dU,[]⟩
    |none=>none
   |none=>none
  |_=>none
 |_,_,_=>none
section
variable{P:cC}{T:bV}{S:bq}{ρ:List L}
theorem acp(d:bV.ok P T){t x f r}(h:Jx T S t x f=some r):(qc P (S.a_ ρ) t x f).map bZ.pure=some (r.a_ ρ):=by
 unfold Jx at h;split at h
 .rename_i c row e g;have:=d _ _ g;subst this;split at h
  .rename_i k i;have b:=Ty.aiS i;have a:=bq.cG ρ e;split at h
   .cases h;simp only[qc,a,b,SV.a_,bK.a_,SC.a_];rfl
   .cases h;simp only[qc,a,b,SV.a_,bK.a_,SC.a_];simp only[b_,bZ.pure,cv.a_,cv.pure,SV.a_,bK.a_,SC.a_,Nat.add_right_comm];rfl
   .cases h;simp only[qc,a,b,SV.a_,bK.a_,SC.a_];rfl
   .cases h;simp only[qc,a,b,SV.a_,bK.a_,SC.a_];simp only[b_,bZ.pure,cv.a_,cv.pure,SV.a_,bK.a_,SC.a_,List.drop_drop];rfl
   .cases h
  .cases h
 .cases h
theorem Sat.dW{m a nds}(h:Sat ρ m (a::nds))(q:a.n=1):∃l,a.ev ρ=some [l]/\At.ev ρ (.v m)=l:=by
 obtain⟨⟨ls,d,t⟩,_⟩:=h;have k:=Nd.L5 d;rw[q]at k
 match ls,k with
 |[l],_=>
  refine⟨l,d,?_⟩;have:=t 0 om;simp only[lh]at this;simp only[At.ev,this];rfl
theorem avk(y:bV.ok P T){t x i r}(h:HN T S t x i=some r)(u:Sat ρ S.nv r.nds):(nf P (S.a_ ρ) t x i).map bZ.pure=some (r.a_ ρ):=by
 unfold HN at h;split at h
 .rename_i k A c row B C D;have:=y _ _ D;subst this;have g:(S.a_ ρ).arg i=some (.v (.c (.p (.sc (.int k (A.ev ρ).br))))):=bq.cG ρ B;have j:=bq.cG ρ C;have sz:∀{e:cd}{p:Ty},List.lookup e T=some p->p.size=dZ P e:=λm=>by rw[y _ _ m];rfl
  split at h
  .split at h
   .rename_i cZ e d;have b:lu P t=some (cZ,e):=d;split at h
    .rename_i p m;split at h
     .split at h
      .rename_i q;cases h;simp only[nf,g,j,SV.a_,bK.a_,SC.a_,b,At.ev,L.br];rw[jK (by simpa using q)];simp only[b_,bZ.pure,cv.a_,cv.pure,SV.a_,bK.a_,SC.a_,sz m];rfl
      .cases h
     .cases h;obtain⟨⟨ls,a,_⟩,_⟩:=u;simp only[Nd.ev]at a;split at a
      .rename_i q;simp only[nf,g,j,SV.a_,bK.a_,SC.a_,b];rw[jK q];simp only[b_,bZ.pure,cv.a_,SV.a_,bK.a_,SC.a_,sz m];rfl
      .cases a
    .cases h
   .cases h
  .split at h
   .rename_i cZ e c d;have b:lu P t=some (cZ,e):=d;split at h
    .rename_i p m;split at h
     .rename_i q;cases h;simp only[nf,g,j,SV.a_,bK.a_,SC.a_,b,At.ev,L.br];rw[jK (by simpa using q)];simp only[b_,bZ.pure,cv.a_,cv.pure,SV.a_,bK.a_,SC.a_,sz m];rfl
     .cases h
    .cases h
   .cases h
  .split at h
   .rename_i cZ e c d;have b:lu P t=some (cZ,e):=d;split at h
    .rename_i p m;split at h
     .rename_i q;cases h;simp only[nf,g,j,SV.a_,bK.a_,SC.a_,b,At.ev,L.br];rw[jK (by simpa using q)];simp only[b_,bZ.pure,cv.a_,cv.pure,SV.a_,bK.a_,SC.a_,sz m,List.drop_drop];rfl
     .cases h
    .cases h
   .cases h
  .split at h
   .rename_i e n;have f:fr P t=some e:=n;split at h
    .rename_i E F p v m;cases h;obtain⟨l,a,_⟩:=u.dW rfl;simp only[Nd.ev]at a;split at a
     .rename_i s;split at a
      .rename_i z o;split at a
       .rename_i hlen;simp only[nf,g,j,SV.a_,bK.a_,SC.a_,f,bx.elem,eK,v,b_,SB.a_,o];rw[jK s,<-sz m,bA hlen];rfl
       .cases a
      .cases a
     .cases a
    .cases h
   .cases h
  .split at h
   .rename_i e n;have f:fr P t=some e:=n;split at h
    .rename_i E F p v m;cases h;obtain⟨l,a,w⟩:=u.dW rfl;simp only[Nd.ev]at a;split at a
     .rename_i s;split at a
      .rename_i z o;split at a
       .rename_i hlen;cases a;simp only[nf,g,j,SV.a_,bK.a_,SC.a_,f,bx.elem,eK,v,b_,SB.a_,o];rw[jK s,<-sz m,bA hlen];simp only[b_,bZ.pure,cv.a_,SV.a_,bK.a_,SC.a_,w,L.br,ey];rfl
       .cases a
      .cases a
     .cases a
    .cases h
   .cases h
  .split at h
   .rename_i e n;have f:fr P t=some e:=n;split at h
    .rename_i p m;cases h;obtain⟨l,a,w⟩:=u.dW rfl;simp only[Nd.ev]at a;split at a
     .rename_i s;split at a
      .rename_i z o;split at a
       .rename_i hlen;cases a;simp only[nf,g,j,SV.a_,bK.a_,SC.a_,Kd.pv,f,bx.elem,o];rw[jK s,<-sz m,bA hlen];simp only[b_,bZ.pure,cv.a_,SV.a_,bK.a_,SC.a_,w,L.i_,vh];rfl
       .cases a
      .cases a
     .cases a
    .cases h
   .cases h
  .cases h
 .cases h
def bq.sink(S:bq):SC->Option ((Kd×At)×List Nat)
 |.p k x=>some ((k,x),[])
 |.nil=>some ((.sl,.r0),[])
 |.own n=>match List.lookup n S.heap with
  |some (.row _ x)=>some ((.sl,x),[n])
  |_=>none
 |_=>none
def bq.sinks(S:bq):List SC->Option (List (Kd×At)×List Nat)
 |[]=>some ([],[])
 |c::cs=>match S.sink c,S.sinks cs with
  |some (q,a),some (d,h)=>some (q::d,a++h)
  |_,_=>none
theorem bq.aif{c q a}(h:S.sink c=some (q,a)):(S.a_ ρ).sink (c.a_ ρ)=some (q.1.pv (q.2.ev ρ),a):=by
 cases c with
 |p k x=>cases h;rfl
 |nil=>cases h;rfl
 |own n=>
  simp only[bq.sink]at h;split at h
  .rename_i e x d;cases h;simp only[SC.a_,bx.sink,eK,d,b_,SB.a_];rfl
  .cases h
 |_=>cases h
theorem bq.MP:∀{cs:List SC}{a:List (Kd×At)}{d:List Nat},S.sinks cs=some (a,d)->(S.a_ ρ).sinks (cs.map (SC.a_ ρ))=some (db ρ a,d)
 |[],_,_,h=>by cases h;rfl
 |c::cs,a,d,h=>by
  simp only[bq.sinks]at h;split at h
  .rename_i q k m x t u;cases h;simp only[dk,bx.sinks,bq.aif t,bq.MP u];rfl
  .cases h
def bK.cells:bK->List SC
 |.c x=>[x]
 |.agg xs=>xs
theorem bK.zD(x:bK):(x.a_ ρ).cells=x.cells.map (SC.a_ ρ):=by cases x<;>rfl
def GL(T:bV)(S:bq)(t:cd)(x y:cF):Option cv:=
 match S.arg x,S.arg y,List.lookup t T with
 |some (.v (.c (.ptr n off))),some (.v y),some r=>match List.lookup n S.heap with
  |some (.box cs)=>if y.cells.length=r.size/\off+y.cells.length<=cs.length/\r.info=true then some ⟨[],.c1 .dead,⟨[(n,.box (cs.take off++y.cells++cs.drop (off+y.cells.length)))],[]⟩,[]⟩else none
  |_=>none
 |some (.v (.c (.dH n i j))),some (.v y),some r=>match List.lookup n S.heap,S.sinks y.cells with
  |some (.row e x),some (ps,a)=>if ps.length=r.size/\r.info=true/\n∉a then some ⟨[.set x i j ps],.c1 .dead,⟨[(n,.row e (.v S.nv))],a⟩,[]⟩else none
  |_,_=>none
 |_,_,_=>none
theorem atS(v:bV.ok P T){t x y r}(h:GL T S t x y=some r)(w:Sat ρ S.nv r.nds):(uF P (S.a_ ρ) t x y).map (λe=>(⟨.c .dead,e,[]⟩:bZ))=some (r.a_ ρ):=by
 unfold GL at h;split at h
 .rename_i n off g row k m o;have:=v _ _ o;subst this;split at h
  .rename_i cs p;split at h
   .rename_i a;cases h;have b:(S.a_ ρ).arg x=some (.v (.c (.ptr n off))):=bq.cG ρ k;have c:(S.a_ ρ).arg y=some (.v (g.a_ ρ)):=bq.cG ρ m;simp only[uF,b,c,eK,p,b_,SB.a_,bK.zD,bD];rw[bA ⟨a.1,a.2.1,a.2.2⟩];simp only[b_,cv.a_,gL.a_,cU.a_,dk,gJ,SB.a_,dE,lj,nR];rfl
   .cases h
  .cases h
 .rename_i n i j g row k m o;have:=v _ _ o;subst this;split at h
  .rename_i e A ps B p q;split at h
   .rename_i a;cases h;have b:(S.a_ ρ).arg x=some (.v (.c (.dH n (i.ev ρ).br.toNat j))):=bq.cG ρ k;have c:(S.a_ ρ).arg y=some (.v (g.a_ ρ)):=bq.cG ρ m;obtain⟨l,d,z⟩:=w.dW rfl;simp only[Nd.ev]at d;split at d
    .rename_i C s;split at d
     .rename_i f;cases d;simp only[uF,b,c,eK,p,b_,SB.a_,bK.zD,bq.MP q,s];have u:(db ρ ps).length=ps.length:=by simp[db]
      rw[u,bA ⟨a.1,f,a.2.1,a.2.2⟩];simp only[b_,cv.a_,gL.a_,cU.a_,dk,gJ,SB.a_,z,L.bC];rfl
     .cases d
    .cases d
   .cases h
  .cases h
 .cases h
end
def bq.num(S:bq)(o:Option cF)(d:At):Option At:=match o with
 |none=>some d
 |some o=>match S.arg o with
  |some (.v (.c (.p (.int _) a)))=>some a
  |_=>none
def bq.view(S:bq)(m:Nat):SC->Option (List Nd×At)
 |.p .sl x=>some ([],x)
 |.nil=>some ([],.r0)
 |.own n=>match List.lookup n S.heap with
  |some (.row _ x)=>some ([],x)
  |_=>none
 |.sub n lo ln=>match List.lookup n S.heap with
  |some (.row _ x)=>some ([.vw x lo ln],.v m)
  |_=>none
 |_=>none
def B1(l h v:At):At:=match l,h with
 |.i 0,.i 0=>.i 0
 |_,_=>v
theorem axf{ρ l h v}(a:v.ev ρ=.i (((h.ev ρ).br.toNat- (l.ev ρ).br.toNat:Nat):Int)):(B1 l h v).ev ρ=.i (((h.ev ρ).br.toNat- (l.ev ρ).br.toNat:Nat):Int):=by
 unfold B1;split
 .rfl
 .exact a
def KT(T:bV)(S:bq)(t:cd)(x:cF)(lo d:Option cF):Option cv:=
 match S.arg x,List.lookup t T,S.num lo (.i 0)with
 |some (.v (.c c)),some r,some l=>match c with
  |.p .str a=>if r.th then match S.num d (.v S.nv)with
   |some h=>some ⟨[.mm a,.HO a l h],.c1 (.p .str (.v (S.nv+1))),dU,[]⟩
   |none=>none
   else none
  |.p .sl a=>match r.elem with
   |some e=>match List.lookup e T,S.num d (.v S.nv)with
    |some b,some h=>some ⟨[.len a,.part a l h b.size],.c1 (.p .sl (.v (S.nv+1))),dU,[]⟩
    |_,_=>none
   |none=>none
  |.own n=>match r.elem,List.lookup n S.heap with
   |some e,some (.row _ a)=>match List.lookup e T,S.num d (.v S.nv)with
    |some b,some h=>some ⟨[.len a,.cut a l h b.size],.c1 (.sub n l (B1 l h (.v (S.nv+1)))),dU,[]⟩
    |_,_=>none
   |_,_=>none
  |.sub n f ln=>match r.elem,List.lookup n S.heap with
   |some e,some (.row _ a)=>match List.lookup e T,S.num d ln with
    |some b,some h=>some ⟨[.C6 a f ln l h b.size],.c1 (.sub n (.v S.nv) (.v (S.nv+1))),dU,[]⟩
    |_,_=>none
   |_,_=>none
  |.nil=>match r.elem with
   |some e=>match List.lookup e T,S.num d (.i 0)with
    |some b,some h=>some ⟨[.cut .r0 l h b.size],.c1 .nil,dU,[]⟩
    |_,_=>none
   |none=>none
  |_=>none
 |_,_,_=>none
def bq.hX(S:bq)(e:cd)(m:Nat):SC->Option (List Nd×At×List Nat)
 |.nil=>some ([],.r0,[])
 |.own n=>match List.lookup n S.heap with
  |some (.row a x)=>if a=e then some ([],x,[n])else none
  |_=>none
 |.sub n (.i 0) ln=>match List.lookup n S.heap with
  |some (.row a x)=>if a=e then some ([.tk x ln],.v m,[n])else none
  |_=>none
 |_=>none
def zo(T:bV)(S:bq)(d:Nat)(t:cd)(s x:cF):Option cv:=
 match S.arg s,S.arg x,(List.lookup t T).bind Ty.elem with
 |some (.v (.c cs)),some (.v (.c f)),some e=>match(List.lookup e T).bind Ty.app,S.hX e S.nv cs with
  |some (n,b),some (nds,a,g)=>match S.view (S.nv+gq nds) f with
   |some (c,a')=>some ⟨nds++c++[.app a a' n b],.c1 (.own d),⟨[(d,.row e (.v (S.nv+gq (nds++c))))],g⟩,[]⟩
   |none=>none
  |_,_=>none
 |_,_,_=>none
def ff(T:bV)(S:bq)(t:cd)(x:cF):Option cv:=
 match S.arg x,List.lookup t T with
 |some (.v (.c (.p .str a))),some r=>if r.th then some ⟨[.mm a],.c1 (.p (.int .i64) (.v S.nv)),dU,[]⟩else none
 |some (.v (.c (.p .nl _))),some r=>if r.sl.isSome=true then some ⟨[],.c1 (.p (.int .i64) (.i 0)),dU,[]⟩else none
 |some (.v (.c c)),some r=>match S.view S.nv c,r.sl with
  |some ([],.r0),some _=>some ⟨[],.c1 (.p (.int .i64) (.i 0)),dU,[]⟩
  |some (nds,a),some _=>some ⟨nds++[.len a],.c1 (.p (.int .i64) (.v (S.nv+gq nds))),dU,[]⟩
  |_,_=>none
 |_,_=>none
section
variable{P:cC}{T:bV}{S:bq}{ρ:List L}
theorem tg{o d a k}(h:S.num o d=some a)(c:o=none->(d.ev ρ).br=k):(S.a_ ρ).num o k=some (a.ev ρ).br:=by
 cases o with
 |none=>cases h;simp only[bx.num,c rfl]
 |some o=>
  simp only[bq.num]at h;split at h
  .rename_i e a' f;cases h;have b:(S.a_ ρ).arg o=some (.v (.c (.p (.sc (.int e (a.ev ρ).br))))):=bq.cG ρ f;simp only[bx.num,b]
  .cases h
theorem qM{m c nds a}(h:S.view m c=some (nds,a))(d:Sat ρ m nds):(S.a_ ρ).view (c.a_ ρ)=some (a.ev ρ).bC:=by
 unfold bq.view at h;split at h
 .cases h;rfl
 .cases h;rfl
 .split at h
  .rename_i b;cases h;simp only[SC.a_,bx.view,eK,b,b_,SB.a_]
  .cases h
 .split at h
  .rename_i b;cases h;obtain⟨l,e,f⟩:=d.dW rfl;cases e;simp only[SC.a_,bx.view,eK,b,b_,SB.a_,f,L.bC]
  .cases h
 .cases h
theorem Ya{size rows}(h:oC size rows=true):∀r,rows[0]?=some r->r.length=size:=by
 intro r b
 cases rows with
 |nil=>simp at b
 |cons a l=>simp_all[oC]
theorem wQ{t}(h:G' P t=true):P.underlying t=some .string:=by
 unfold G' at h;split at h
 .assumption
 .cases h
theorem xG{t e}(h:AR P t=some e):P.underlying t=some (.slice e):=by
 unfold AR at h;split at h
 .cases h;assumption
 .cases h
theorem T4(a:bV.ok P T){t e}(h:(List.lookup t T).bind Ty.elem=some e):fr P t=some e:=by
 simp only[iy]at h;obtain⟨r,b,c⟩:=h;have:=a _ _ b;subst this;exact c
def Az(x:At)(k:Kd):Nat->Nat->List Nd
 |_,0=>[]
 |i,n+1=>.rc x (.i i) 0 k::Az x k (i+1) n
def BC(k:Kd):Nat->Nat->List (Kd×At)
 |_,0=>[]
 |m,n+1=>(k,.v m)::BC k (m+1) n
theorem R9{x:At}{k:Kd}:∀{n i:Nat},gq (Az x k i n)=n
 |0,_=>rfl
 |n+1,i=>by simp only[Az,gq,Nd.n,R9];omega
theorem O8{x:At}{k:Kd}(b:k≠ .gr){rows:List (List PV)}(c:dy 1 rows)(d:(x.ev ρ).bC=rows):∀{n i m:Nat},i+n=rows.length->Sat ρ m (Az x k i n)->db ρ (BC k m n)=(rows.drop i).flatten
 |0,i,m,f,_=>by rw[rl om];rfl
 |n+1,i,m,f,h=>by
  obtain⟨l,a,g⟩:=Sat.dW h rfl;have e:=O8 b c d (n:=n) (i:=i+1) (m:=m+1) om h.2;have j:rows.drop i=rows[i]'om::rows.drop (i+1):=sS om;have hlen:=c (rows[i]'om) (cQ _);simp only[Nd.ev,d]at a
  have a:(match rows[i]? with
   |some r=>match r[0]? with
    |some q=>(k.of q).map ([·])
    |none=>none
   |none=>none)=some [l]:=a
  rw[cY (show i<rows.length by omega)]at a;rw[j];generalize rows[i]'om=r at a hlen
  match r,hlen with
  |[q],_=>
   have a:(k.of q).map ([·])=some [l]:=a;simp only[bY]at a;obtain⟨s,o,p⟩:=a;cases p;simp only[BC,db,dk,List.flatten_cons,rb,lp]at e⊢;rw[e,g,Kd.Ab o b]
def Ic(T:bV)(S:bq)(t:cd)(x:cF):Option cv:=
 match S.arg x,(List.lookup t T).bind Ty.arr with
 |some (.v (.c (.p .sl a))),some (n,e)=>match(List.lookup e T).bind Ty.ob with
  |some [k]=>if 0<n then some ⟨.part a (.i 0) (.i n) 1::(Az (.v S.nv) k 0 n++[.lit [BC k (S.nv+1) n],.row (.v (S.nv+1+n)) (.i 0) n]),.c1 (.ref (.v (S.nv+1+n+1)) 0),dU,[]⟩else none
  |_=>none
 |_,_=>none
theorem akp(a:bV.ok P T){t e n}(h:(List.lookup t T).bind Ty.arr=some (n,e)):lu P t=some (n,e):=by
 simp only[iy]at h;obtain⟨r,b,c⟩:=h;have:=a _ _ b;subst this;exact c
theorem agE(o:bV.ok P T){t x r}(h:Ic T S t x=some r)(p:Sat ρ S.nv r.nds):(xz P (S.a_ ρ) t x).map bZ.pure=some (r.a_ ρ):=by
 unfold Ic at h;split at h
 .rename_i a n e q s;split at h
  .rename_i k u;split at h
   .rename_i v;cases h;have d:(S.a_ ρ).arg x=some (.v (.c (.p (.sl (a.ev ρ).bC)))):=bq.cG ρ q;have f:=akp o s;have g:k≠ .gr:=by
     obtain⟨row,k1,k2⟩:=iy.1 u;have:=o _ _ k1;subst this;exact(CR (P:=P) (t:=e) k2 k (by simp)).1
    obtain⟨I,c,w⟩:=p.dW rfl;obtain⟨y,j⟩:=Sat.app p.2;rw[R9]at j;obtain⟨J,z,A⟩:=j.dW rfl;obtain⟨B,b,C⟩:=Sat.dW j.2 rfl;simp only[Nd.ev]at c;split at c
    .rename_i c1;cases c;have l:n<=(a.ev ρ).bC.length:=by simp_all[At.ev,L.br]
     have D:(At.ev ρ (.v S.nv)).bC=(a.ev ρ).bC.take n:=by rw[w];rfl
     have hR:dy 1 ((a.ev ρ).bC.take n):=λr E=>jk.1 c1.2.2.2 r (mO E)
     have K:=O8 g hR D (k:=k) (n:=n) (i:=0) (m:=S.nv+1) (by simp;omega) y;cases z;have F:(At.ev ρ (.v (S.nv+1+n))).bC=[((a.ev ρ).bC.take n).flatten]:=by
      have:At.ev ρ (.v (S.nv+1+n))=_:=A;simp_all[L.bC]
     simp only[Nd.ev,F]at b;have b:(if((a.ev ρ).bC.take n).flatten.length=n then some [L.c ((a.ev ρ).bC.take n).flatten]else none)=some [B]:=b;by_cases G:((a.ev ρ).bC.take n).flatten.length=n
     .rw[bA G]at b;cases rm b;simp only[xz,d,f];rw[bA ⟨v,l,c1.2.2.2⟩];simp only[b_,bZ.pure,cv.a_,SV.a_,bK.a_,SC.a_];have H:At.ev ρ (.v (S.nv+1+n+1))=_:=C;rw[H];rfl
     simp_all
    .cases c
   .cases h
  .cases h
 .cases h
def KX(T:bV)(S:bq)(t:cd)(x:cF)(lo:Option cF)(c mx:cF):Option cv:=
 match S.arg x,(List.lookup t T).bind Ty.elem,S.num lo (.i 0),S.arg c,S.arg mx with
 |some (.v (.c (.p .sl a))),some e,some l,some (.v (.c (.p (.int _) h))),some (.v (.c (.p (.int _) m)))=>match List.lookup e T with
  |some b=>some ⟨[.part a h m b.size,.part a l h b.size],.c1 (.p .sl (.v (S.nv+1))),dU,[]⟩
  |none=>none
 |_,_,_,_,_=>none
theorem ayp(s:bV.ok P T){t x j mx lo r}(h:KX T S t x lo j mx=some r)(u:Sat ρ S.nv r.nds):(w_ P (S.a_ ρ) t x lo j mx).map bZ.pure=some (r.a_ ρ):=by
 unfold KX at h;split at h
 .rename_i a e l k1 v k2 m w k n o p;split at h
  .rename_i A y;have:=s _ _ y;subst this;cases h;obtain⟨B,g,C⟩:=u.dW rfl;obtain⟨D,i,z⟩:=Sat.dW u.2 rfl;simp only[Nd.ev]at g i;have b:(S.a_ ρ).num lo 0=some (l.ev ρ).br:=tg n (λ_=>rfl);have q:(S.a_ ρ).arg x=some (.v (.c (.p (.sl (a.ev ρ).bC)))):=bq.cG ρ w;have c:(S.a_ ρ).arg j=some (.v (.c (.p (.sc (.int k1 (v.ev ρ).br))))):=bq.cG ρ o;have d:(S.a_ ρ).arg mx=some (.v (.c (.p (.sc (.int k2 (m.ev ρ).br))))):=bq.cG ρ p;have f:fr P t=some e:=T4 s k;split at g
   .rename_i c1;split at i
    .rename_i c3;cases g;cases i;simp only[w_,q,f,b,c,d];rw[bA ⟨c3.1,c3.2.1,c1.2.1,c1.2.2.1,c1.2.2.2⟩];simp only[b_,bZ.pure,cv.a_,SV.a_,bK.a_,SC.a_,Kd.pv];have:At.ev ρ (.v (S.nv+1))=_:=z;rw[this];rfl
    .cases i
   .cases g
  .cases h
 .cases h
theorem ayQ(F:bV.ok P T){t x lo s r}(h:KT T S t x lo s=some r)(u:Sat ρ S.nv r.nds):(lU P (S.a_ ρ) t x lo s).map bZ.pure=some (r.a_ ρ):=by
 unfold KT at h;split at h
 .rename_i c row l H I C;have:=F _ _ I;subst this;have i:(S.a_ ρ).num lo 0=some (l.ev ρ).br:=tg C (λ_=>rfl);have p:=bq.cG ρ H;have sz:∀{e:cd}{w:Ty},List.lookup e T=some w->w.size=dZ P e:=λv=>by rw[F _ _ v];rfl
  split at h
  .rename_i a;split at h
   .rename_i J;split at h
    .rename_i o f;cases h;obtain⟨D,j,q⟩:=u.dW rfl;obtain⟨G,m,y⟩:=Sat.dW u.2 rfl;simp only[Nd.ev]at j m;cases j;have b:(S.a_ ρ).num s ((a.ev ρ).fU.size:Int)=some (o.ev ρ).br:=tg f (λ_=>by rw[q];rfl);split at m
     .rename_i g;cases m;simp only[lU,p,SV.a_,bK.a_,SC.a_,Kd.pv,i,b,wQ (P:=P) J];rw[jK g];simp only[b_,bZ.pure,cv.a_,SV.a_,bK.a_,SC.a_,Kd.pv];have:At.ev ρ (.v (S.nv+1))=_:=y;rw[this];rfl
     .cases m
    .cases h
   .cases h
  .rename_i a;split at h
   .rename_i e k;have d:fr P t=some e:=k;split at h
    .rename_i w o v f;cases h;obtain⟨D,j,q⟩:=u.dW rfl;obtain⟨G,m,y⟩:=Sat.dW u.2 rfl;simp only[Nd.ev]at j m;cases j;have b:(S.a_ ρ).num s ((a.ev ρ).bC.length:Int)=some (o.ev ρ).br:=tg f (λ_=>by rw[q];rfl);split at m
     .rename_i g;cases m;simp only[lU,p,SV.a_,bK.a_,SC.a_,Kd.pv,bx.nG,bx.view,b_,d,i,b];rw[jK ⟨g.1,g.2.1⟩];simp only[bx.part];rw[bA ⟨g.2.2.1,by rw[<-sz v,<-jk];exact g.2.2.2⟩];simp only[b_,bZ.pure,cv.a_,SV.a_,bK.a_,SC.a_,Kd.pv];have:At.ev ρ (.v (S.nv+1))=_:=y;rw[this];rfl
     .cases m
    .cases h
   .cases h
  .split at h
   .rename_i e K a k B;have d:fr P t=some e:=k;split at h
    .rename_i w o v f;cases h;obtain⟨D,j,q⟩:=u.dW rfl;obtain⟨G,m,y⟩:=Sat.dW u.2 rfl;simp only[Nd.ev]at j m;cases j;have b:(S.a_ ρ).num s ((a.ev ρ).bC.length:Int)=some (o.ev ρ).br:=tg f (λ_=>by rw[q];rfl);split at m
     .rename_i g;cases m;simp only[lU,p,SV.a_,bK.a_,SC.a_,bx.nG,bx.view,eK,B,b_,SB.a_,d,i,b];rw[jK ⟨g.1,g.2.1⟩];simp only[bx.part,eK,B,b_,SB.a_];rw[bA ⟨g.2.2.1,by rw[<-sz v];exact Ya g.2.2.2⟩];simp only[b_,bZ.pure,cv.a_,SV.a_,bK.a_,SC.a_];have M:(B1 l o (.v (S.nv+1))).ev ρ=_:=axf y;rw[M];rfl
     .cases m
    .cases h
   .cases h
  .rename_i n Q ln;split at h
   .rename_i e K a k B;have d:fr P t=some e:=k;split at h
    .rename_i w o v f;cases h;obtain⟨ls,j,q⟩:=u.one;simp only[Nd.ev]at j;split at j
     .rename_i g;cases j;have z:=q 0 (by simp[Nd.n]);have E:=q 1 (by simp[Nd.n]);simp only[lh,oZ,gx]at z;have b:(S.a_ ρ).num s ((ln.ev ρ).br.toNat:Int)=some (o.ev ρ).br:=tg f (λN=>by
       subst N;cases f;omega)
      simp only[lU,p,SV.a_,bK.a_,SC.a_,bx.nG,d,i,b];rw[jK ⟨g.1,g.2.1⟩];simp only[bx.part,eK,B,b_,SB.a_];rw[bA ⟨g.2.2.1,by rw[<-sz v];exact Ya g.2.2.2⟩];simp only[b_,bZ.pure,cv.a_,SV.a_,bK.a_,SC.a_,z,E,L.br,ey];rfl
     .cases j
    .cases h
   .cases h
  .split at h
   .rename_i e k;have d:fr P t=some e:=k;split at h
    .rename_i w o v f;cases h;obtain⟨D,j,q⟩:=u.dW rfl;simp only[Nd.ev]at j;split at j
     .rename_i g;have b:(S.a_ ρ).num s 0=some (o.ev ρ).br:=tg f (λ_=>rfl);have O:(o.ev ρ).br.toNat=0:=by
       have e0:(At.ev ρ .r0).bC=[]:=rfl;simp_all
      simp only[lU,p,SV.a_,bK.a_,SC.a_,bx.nG,bx.view,b_,d,i,jH];have A:(S.a_ ρ).num s ((0:Nat):Int)=some (o.ev ρ).br:=b;simp only[A];rw[jK ⟨g.1,g.2.1⟩];simp only[bx.part];rw[bA O];rfl
     .cases j
    .cases h
   .cases h
  .cases h
 .cases h
theorem ajg{e m c nds a d}(h:S.hX e m c=some (nds,a,d))(g:Sat ρ m nds):(S.a_ ρ).hX e (c.a_ ρ)=some ((a.ev ρ).bC,d):=by
 unfold bq.hX at h;split at h
 .cases h;rfl
 .split at h
  .simp_all[SC.a_,bx.hX,eK,b_,SB.a_]
  .cases h
 .split at h
  .rename_i i;split at h
   .rename_i b;cases h;obtain⟨l,j,f⟩:=g.dW rfl;cases j;simp only[SC.a_,At.ev,L.br,Bj,bx.hX,eK,i,b_,SB.a_,b,if_true];simp only[At.ev]at f;rw[f];rfl
   .cases h
  .cases h
 .cases h
theorem anz(z:bV.ok P T){d t s x r}(h:zo T S d t s x=some r)(B:Sat ρ S.nv r.nds):(na P (S.a_ ρ) d t s x).map bZ.of=some (r.a_ ρ):=by
 unfold zo at h;split at h
 .rename_i cs C e o p f;simp only[iy]at f;obtain⟨row,D,f⟩:=f;have:=z _ _ D;subst this;have i:fr P t=some e:=f;split at h
  .rename_i n b nds a H c j;simp only[iy]at c;obtain⟨A,q,c⟩:=c;have:=z _ _ q;subst this;have g:iR P e=some (n,b):=c;split at h
   .rename_i k a' E;cases h;obtain⟨u,v⟩:=Sat.app (a:=nds++k) (b:=[.app a a' n b]) B;obtain⟨w,y⟩:=Sat.app u;obtain⟨l,m,F⟩:=v.dW rfl;simp only[Nd.ev]at m;split at m
    .rename_i G;cases m;have k1:(S.a_ ρ).arg s=some (.v (.c (cs.a_ ρ))):=bq.cG ρ o;have k2:(S.a_ ρ).arg x=some (.v (.c (C.a_ ρ))):=bq.cG ρ p;simp only[na,i,g,k1,k2,ajg j w,qM E y];rw[bA G];simp only[b_,bZ.of,cv.a_,gL.a_,cU.a_,dk,gJ,SB.a_,F,L.bC];rfl
    .cases m
   .cases h
  .cases h
 .cases h
theorem azv(n:bV.ok P T){t x r}(h:ff T S t x=some r)(B:Sat ρ S.nv r.nds):(ov P (S.a_ ρ) t x).map bZ.pure=some (r.a_ ρ):=by
 unfold ff at h;split at h
 .rename_i a row i j;have:=n _ _ j;subst this;split at h
  .rename_i o;cases h;obtain⟨l,q,s⟩:=B.dW rfl;cases q;have f:=bq.cG ρ i;simp only[ov,f,SV.a_,bK.a_,SC.a_,Kd.pv,wQ (P:=P) o];simp only[b_,bZ.pure,cv.a_,SV.a_,bK.a_,SC.a_,Kd.pv,s,L.br];rfl
  .cases h
 .rename_i y row i j;have:=n _ _ j;subst this;split at h
  .rename_i o;cases h;have f:(S.a_ ρ).arg x=some (.v (.c (.p .nl))):=bq.cG ρ i;obtain⟨e,D⟩:=rh.1 o;have u:P.underlying t=some (.slice e):=xG D;simp only[ov,f,u];rfl
  .cases h
 .rename_i c row E C i j;have:=n _ _ j;subst this;split at h
  .rename_i e v g;have m:AR P t=some e:=g;cases h;have f:(S.a_ ρ).arg x=some (.v (.c (c.a_ ρ))):=bq.cG ρ i;have w:=qM (ρ:=ρ) v trivial;have hres:ov P (S.a_ ρ) t x=some (.sc (.int .i64 ((At.r0).ev ρ).bC.length)):=by
    unfold ov;rw[f];split
    .rename_i b d
     cases c with
     |p k y=>
      cases k with
      |str=>simp_all
      |_=>simp[SC.a_,Kd.pv]at d
     |_=>simp[SC.a_]at d
    .rename_i d
     cases c with
     |p k y=>
      cases k with
      |nl=>simp_all
      |_=>simp[SC.a_,Kd.pv]at d
     |_=>simp[SC.a_]at d
    .simp_all[jq,V.v.injEq,V1.c.injEq,xG]
    simp_all
   rw[hres];rfl
  .rename_i nds a e _ v g;have m:AR P t=some e:=g;cases h;obtain⟨z,A⟩:=Sat.app B;obtain⟨l,q,s⟩:=A.dW rfl;cases q;have f:(S.a_ ρ).arg x=some (.v (.c (c.a_ ρ))):=bq.cG ρ i;have w:=qM v z;have hres:ov P (S.a_ ρ) t x=some (.sc (.int .i64 (a.ev ρ).bC.length)):=by
    unfold ov;rw[f];split
    .rename_i b d
     cases c with
     |p k y=>
      cases k with
      |str=>simp_all
      |_=>simp[SC.a_,Kd.pv]at d
     |_=>simp[SC.a_]at d
    .rename_i d
     cases c with
     |p k y=>
      cases k with
      |nl=>simp_all
      |_=>simp[SC.a_,Kd.pv]at d
     |_=>simp[SC.a_]at d
    .simp_all[jq,V.v.injEq,V1.c.injEq,xG]
    simp_all
   rw[hres];simp only[b_,bZ.pure,cv.a_,SV.a_,bK.a_,SC.a_,Kd.pv,s,L.br];rfl
  .cases h
 .cases h
end
end
end
end Go.Proofs.YtiikkkhcolcebaaGreatDoor
