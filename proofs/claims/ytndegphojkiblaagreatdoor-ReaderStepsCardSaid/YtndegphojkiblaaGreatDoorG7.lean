/- A part. -/
import Derived.Test.YtndegphojkiblaaGreatDoorG6
set_option linter.all false
set_option maxHeartbeats 4000000
set_option maxRecDepth 100000
namespace Go.Proofs.YtndegphojkiblaaGreatDoor
noncomputable section
section
open Go.RowKit
open Classical
def L1(T:b_)(S:bp)(t:cg)(x:cF)(f:Nat):Option cE:=
 match S.arg x,List.lookup t T with
 |some (.v (.c c)),some r=>match r.fields[f]? with
  |some (some k)=>match c with
   |.ptr n off=>some (.pure (.c1 (.ptr n (off+k))))
   |.gN n off cM m i=>some (.pure (.c1 (.gN n (off+k) cM m i)))
   |.dy n i j=>some (.pure (.c1 (.dy n i (j+k))))
   |.ref x j=>some (.pure (.c1 (.ref x (j+k))))
   |_=>none
  |_=>none
 |_,_=>none
def OL(T:b_)(S:bp)(t:cg)(x i:cF):Option cE:=
 match S.arg i,S.arg x,List.lookup t T with
 |some (.v (.c (.p (.int _) ai))),some (.v (.c c)),some r=>match c with
  |.ptr n off=>match r.arr with
   |some (cM,e)=>match List.lookup e T with
    |some a=>match ai with
     |.i k=>if 0<=k/\k<cM then some (.pure (.c1 (.ptr n (off+k.toNat*a.size))))else none
     |ai=>some ⟨[.ed ai cM],.c1 (.gN n off cM a.size ai),eF,[]⟩
    |none=>none
   |none=>none
  |.dy n b j=>match r.arr,ai with
   |some (cM,e),.i k=>match List.lookup e T with
    |some a=>if 0<=k/\k<cM then some (.pure (.c1 (.dy n b (j+k.toNat*a.size))))else none
    |none=>none
   |_,_=>none
  |.ref x j=>match r.arr,ai with
   |some (cM,e),.i k=>match List.lookup e T with
    |some a=>if 0<=k/\k<cM then some (.pure (.c1 (.ref x (j+k.toNat*a.size))))else none
    |none=>none
   |_,_=>none
  |.own n=>match r.elem with
   |some e=>match List.lookup n S.heap,List.lookup e T with
    |some (.row _ x),some a=>some ⟨[.row x ai a.size],.c1 (.dy n ai 0),eF,[]⟩
    |_,_=>none
   |none=>none
  |.sub n d ln=>match r.elem with
   |some e=>match List.lookup n S.heap,List.lookup e T with
    |some (.row _ x),some a=>some ⟨[.gh x d ln ai a.size],.c1 (.dy n (.v S.nv) 0),eF,[]⟩
    |_,_=>none
   |none=>none
  |.p .sl x=>match r.elem with
   |some e=>match List.lookup e T with
    |some a=>some ⟨[.row x ai a.size],.c1 (.ref (.v S.nv) 0),eF,[]⟩
    |none=>none
   |none=>none
  |_=>none
 |_,_,_=>none
section
variable{P:cD}{T:b_}{S:bp}{ρ:List L}
theorem atw(d:b_.ok P T){t x f r}(h:L1 T S t x f=some r):(qd P (S.a6 ρ) t x f).map cb.pure=some (r.a6 ρ):=by
 unfold L1 at h;split at h
 .rename_i c row e g;have:=d _ _ g;subst this;split at h
  .rename_i k i;have b:=Ty.aej i;have a:=bp.cL ρ e;split at h
   .cases h;simp only[qd,a,b,SV.a6,bK.a6,SC.a6];rfl
   .cases h;simp only[qd,a,b,SV.a6,bK.a6,SC.a6];simp only[bS,cb.pure,cE.a6,cE.pure,SV.a6,bK.a6,SC.a6,Nat.add_right_comm];rfl
   .cases h;simp only[qd,a,b,SV.a6,bK.a6,SC.a6];rfl
   .cases h;simp only[qd,a,b,SV.a6,bK.a6,SC.a6];simp only[bS,cb.pure,cE.a6,cE.pure,SV.a6,bK.a6,SC.a6,List.drop_drop];rfl
   .cases h
  .cases h
 .cases h
theorem Sat.eG{m a nds}(h:Sat ρ m (a::nds))(o:a.n=1):∃l,a.ev ρ=some [l]/\At.ev ρ (.v m)=l:=by
 obtain⟨⟨ls,d,q⟩,_⟩:=h;have k:=Nd.EG d;rw[o]at k
 match ls,k with
 |[l],_=>
  refine⟨l,d,?_⟩;have:=q 0 om;simp only[l_]at this;simp only[At.ev,this];rfl
theorem atu(y:b_.ok P T){t x i r}(h:OL T S t x i=some r)(u:Sat ρ S.nv r.nds):(mc P (S.a6 ρ) t x i).map cb.pure=some (r.a6 ρ):=by
 unfold OL at h;split at h
 .rename_i k A c row B C D;have:=y _ _ D;subst this;have g:(S.a6 ρ).arg i=some (.v (.c (.p (.sc (.int k (A.ev ρ).a_))))):=bp.cL ρ B;have j:=bp.cL ρ C;have sz:∀{e:cg}{p:Ty},List.lookup e T=some p->p.size=dV P e:=λm=>by rw[y _ _ m];rfl
  split at h
  .split at h
   .rename_i cM e d;have b:lj P t=some (cM,e):=d;split at h
    .rename_i p m;split at h
     .split at h
      .rename_i q;cases h;simp only[mc,g,j,SV.a6,bK.a6,SC.a6,b,At.ev,L.a_];rw[jg (by simpa using q)];simp only[bS,cb.pure,cE.a6,cE.pure,SV.a6,bK.a6,SC.a6,sz m];rfl
      .cases h
     .cases h;obtain⟨⟨ls,a,_⟩,_⟩:=u;simp only[Nd.ev]at a;split at a
      .rename_i q;simp only[mc,g,j,SV.a6,bK.a6,SC.a6,b];rw[jg q];simp only[bS,cb.pure,cE.a6,SV.a6,bK.a6,SC.a6,sz m];rfl
      .cases a
    .cases h
   .cases h
  .split at h
   .rename_i cM e c d;have b:lj P t=some (cM,e):=d;split at h
    .rename_i p m;split at h
     .rename_i q;cases h;simp only[mc,g,j,SV.a6,bK.a6,SC.a6,b,At.ev,L.a_];rw[jg (by simpa using q)];simp only[bS,cb.pure,cE.a6,cE.pure,SV.a6,bK.a6,SC.a6,sz m];rfl
     .cases h
    .cases h
   .cases h
  .split at h
   .rename_i cM e c d;have b:lj P t=some (cM,e):=d;split at h
    .rename_i p m;split at h
     .rename_i q;cases h;simp only[mc,g,j,SV.a6,bK.a6,SC.a6,b,At.ev,L.a_];rw[jg (by simpa using q)];simp only[bS,cb.pure,cE.a6,cE.pure,SV.a6,bK.a6,SC.a6,sz m,List.drop_drop];rfl
     .cases h
    .cases h
   .cases h
  .split at h
   .rename_i e n;have f:fk P t=some e:=n;split at h
    .rename_i E F p v m;cases h;obtain⟨l,a,_⟩:=u.eG rfl;simp only[Nd.ev]at a;split at a
     .rename_i s;split at a
      .rename_i z o;split at a
       .rename_i hlen;simp only[mc,g,j,SV.a6,bK.a6,SC.a6,f,bz.elem,ep,v,bS,SB.a6,o];rw[jg s,<-sz m,bF hlen];rfl
       .cases a
      .cases a
     .cases a
    .cases h
   .cases h
  .split at h
   .rename_i e n;have f:fk P t=some e:=n;split at h
    .rename_i E F p v m;cases h;obtain⟨l,a,w⟩:=u.eG rfl;simp only[Nd.ev]at a;split at a
     .rename_i s;split at a
      .rename_i z o;split at a
       .rename_i hlen;cases a;simp only[mc,g,j,SV.a6,bK.a6,SC.a6,f,bz.elem,ep,v,bS,SB.a6,o];rw[jg s,<-sz m,bF hlen];simp only[bS,cb.pure,cE.a6,SV.a6,bK.a6,SC.a6,w,L.a_,fM];rfl
       .cases a
      .cases a
     .cases a
    .cases h
   .cases h
  .split at h
   .rename_i e n;have f:fk P t=some e:=n;split at h
    .rename_i p m;cases h;obtain⟨l,a,w⟩:=u.eG rfl;simp only[Nd.ev]at a;split at a
     .rename_i s;split at a
      .rename_i z o;split at a
       .rename_i hlen;cases a;simp only[mc,g,j,SV.a6,bK.a6,SC.a6,Kd.pv,f,bz.elem,o];rw[jg s,<-sz m,bF hlen];simp only[bS,cb.pure,cE.a6,SV.a6,bK.a6,SC.a6,w,L.jm,Bu];rfl
       .cases a
      .cases a
     .cases a
    .cases h
   .cases h
  .cases h
 .cases h
def bp.sink(S:bp):SC->Option ((Kd×At)×List Nat)
 |.p k x=>some ((k,x),[])
 |.nil=>some ((.sl,.r0),[])
 |.own n=>match List.lookup n S.heap with
  |some (.row _ x)=>some ((.sl,x),[n])
  |_=>none
 |_=>none
def bp.sinks(S:bp):List SC->Option (List (Kd×At)×List Nat)
 |[]=>some ([],[])
 |c::cs=>match S.sink c,S.sinks cs with
  |some (q,a),some (d,h)=>some (q::d,a++h)
  |_,_=>none
theorem bp.aph{c q a}(h:S.sink c=some (q,a)):(S.a6 ρ).sink (c.a6 ρ)=some (q.1.pv (q.2.ev ρ),a):=by
 cases c with
 |p k x=>cases h;rfl
 |nil=>cases h;rfl
 |own n=>
  simp only[bp.sink]at h;split at h
  .rename_i e x d;cases h;simp only[SC.a6,bz.sink,ep,d,bS,SB.a6];rfl
  .cases h
 |_=>cases h
theorem bp.Hx:∀{cs:List SC}{a:List (Kd×At)}{d:List Nat},S.sinks cs=some (a,d)->(S.a6 ρ).sinks (cs.map (SC.a6 ρ))=some (cH ρ a,d)
 |[],_,_,h=>by cases h;rfl
 |c::cs,a,d,h=>by
  simp only[bp.sinks]at h;split at h
  .rename_i q k m u o t;cases h;simp only[ct,bz.sinks,bp.aph o,bp.Hx t];rfl
  .cases h
def bK.cells:bK->List SC
 |.c x=>[x]
 |.agg xs=>xs
theorem bK.ym(x:bK):(x.a6 ρ).cells=x.cells.map (SC.a6 ρ):=by cases x<;>rfl
def KZ(T:b_)(S:bp)(t:cg)(x y:cF):Option cE:=
 match S.arg x,S.arg y,List.lookup t T with
 |some (.v (.c (.ptr n off))),some (.v y),some r=>match List.lookup n S.heap with
  |some (.box cs)=>if y.cells.length=r.size/\off+y.cells.length<=cs.length/\r.info=true then some ⟨[],.c1 .dead,⟨[(n,.box (cs.take off++y.cells++cs.drop (off+y.cells.length)))],[]⟩,[]⟩else none
  |_=>none
 |some (.v (.c (.dy n i j))),some (.v y),some r=>match List.lookup n S.heap,S.sinks y.cells with
  |some (.row e x),some (ps,a)=>if ps.length=r.size/\r.info=true/\n∉a then some ⟨[.set x i j ps],.c1 .dead,⟨[(n,.row e (.v S.nv))],a⟩,[]⟩else none
  |_,_=>none
 |_,_,_=>none
theorem agE(v:b_.ok P T){t x y r}(h:KZ T S t x y=some r)(w:Sat ρ S.nv r.nds):(tH P (S.a6 ρ) t x y).map (λe=>(⟨.c .dead,e,[]⟩:cb))=some (r.a6 ρ):=by
 unfold KZ at h;split at h
 .rename_i n off g row k m o;have:=v _ _ o;subst this;split at h
  .rename_i cs p;split at h
   .rename_i a;cases h;have b:(S.a6 ρ).arg x=some (.v (.c (.ptr n off))):=bp.cL ρ k;have c:(S.a6 ρ).arg y=some (.v (g.a6 ρ)):=bp.cL ρ m;simp only[tH,b,c,ep,p,bS,SB.a6,bK.ym,bC];rw[bF ⟨a.1,a.2.1,a.2.2⟩];simp only[bS,cE.a6,gY.a6,dh.a6,ct,dp,SB.a6,eB,mW,nX];rfl
   .cases h
  .cases h
 .rename_i n i j g row k m o;have:=v _ _ o;subst this;split at h
  .rename_i e A ps B p q;split at h
   .rename_i a;cases h;have b:(S.a6 ρ).arg x=some (.v (.c (.dy n (i.ev ρ).a_.toNat j))):=bp.cL ρ k;have c:(S.a6 ρ).arg y=some (.v (g.a6 ρ)):=bp.cL ρ m;obtain⟨l,d,z⟩:=w.eG rfl;simp only[Nd.ev]at d;split at d
    .rename_i C s;split at d
     .rename_i f;cases d;simp only[tH,b,c,ep,p,bS,SB.a6,bK.ym,bp.Hx q,s];have u:(cH ρ ps).length=ps.length:=by simp[cH]
      rw[u,bF ⟨a.1,f,a.2.1,a.2.2⟩];simp only[bS,cE.a6,gY.a6,dh.a6,ct,dp,SB.a6,z,L.bm];rfl
     .cases d
    .cases d
   .cases h
  .cases h
 .cases h
end
def bp.num(S:bp)(o:Option cF)(d:At):Option At:=match o with
 |none=>some d
 |some o=>match S.arg o with
  |some (.v (.c (.p (.int _) a)))=>some a
  |_=>none
def bp.view(S:bp)(m:Nat):SC->Option (List Nd×At)
 |.p .sl x=>some ([],x)
 |.nil=>some ([],.r0)
 |.own n=>match List.lookup n S.heap with
  |some (.row _ x)=>some ([],x)
  |_=>none
 |.sub n a ln=>match List.lookup n S.heap with
  |some (.row _ x)=>some ([.vw x a ln],.v m)
  |_=>none
 |_=>none
def CS(l h v:At):At:=match l,h with
 |.i 0,.i 0=>.i 0
 |_,_=>v
theorem adu{ρ l h v}(a:v.ev ρ=.i (((h.ev ρ).a_.toNat- (l.ev ρ).a_.toNat:Nat):Int)):(CS l h v).ev ρ=.i (((h.ev ρ).a_.toNat- (l.ev ρ).a_.toNat:Nat):Int):=by
 unfold CS;split
 .rfl
 .exact a
def Ht(T:b_)(S:bp)(t:cg)(x:cF)(f d:Option cF):Option cE:=
 match S.arg x,List.lookup t T,S.num f (.i 0)with
 |some (.v (.c c)),some r,some l=>match c with
  |.p .str a=>if r.tF then match S.num d (.v S.nv)with
   |some h=>some ⟨[.lI a,.IP a l h],.c1 (.p .str (.v (S.nv+1))),eF,[]⟩
   |none=>none
   else none
  |.p .sl a=>match r.elem with
   |some e=>match List.lookup e T,S.num d (.v S.nv)with
    |some b,some h=>some ⟨[.len a,.part a l h b.size],.c1 (.p .sl (.v (S.nv+1))),eF,[]⟩
    |_,_=>none
   |none=>none
  |.own n=>match r.elem,List.lookup n S.heap with
   |some e,some (.row _ a)=>match List.lookup e T,S.num d (.v S.nv)with
    |some b,some h=>some ⟨[.len a,.cut a l h b.size],.c1 (.sub n l (CS l h (.v (S.nv+1)))),eF,[]⟩
    |_,_=>none
   |_,_=>none
  |.sub n l0 ln=>match r.elem,List.lookup n S.heap with
   |some e,some (.row _ a)=>match List.lookup e T,S.num d ln with
    |some b,some h=>some ⟨[.D' a l0 ln l h b.size],.c1 (.sub n (.v S.nv) (.v (S.nv+1))),eF,[]⟩
    |_,_=>none
   |_,_=>none
  |.nil=>match r.elem with
   |some e=>match List.lookup e T,S.num d (.i 0)with
    |some b,some h=>some ⟨[.cut .r0 l h b.size],.c1 .nil,eF,[]⟩
    |_,_=>none
   |none=>none
  |_=>none
 |_,_,_=>none
def bp.gH(S:bp)(e:cg)(m:Nat):SC->Option (List Nd×At×List Nat)
 |.nil=>some ([],.r0,[])
 |.own n=>match List.lookup n S.heap with
  |some (.row a x)=>if a=e then some ([],x,[n])else none
  |_=>none
 |.sub n (.i 0) ln=>match List.lookup n S.heap with
  |some (.row a x)=>if a=e then some ([.tk x ln],.v m,[n])else none
  |_=>none
 |_=>none
def sJ(T:b_)(S:bp)(d:Nat)(t:cg)(s x:cF):Option cE:=
 match S.arg s,S.arg x,(List.lookup t T).bind Ty.elem with
 |some (.v (.c cs)),some (.v (.c f)),some e=>match(List.lookup e T).bind Ty.app,S.gH e S.nv cs with
  |some (n,b),some (nds,a,g)=>match S.view (S.nv+gy nds) f with
   |some (c,h)=>some ⟨nds++c++[.app a h n b],.c1 (.own d),⟨[(d,.row e (.v (S.nv+gy (nds++c))))],g⟩,[]⟩
   |none=>none
  |_,_=>none
 |_,_,_=>none
def eQ(T:b_)(S:bp)(t:cg)(x:cF):Option cE:=
 match S.arg x,List.lookup t T with
 |some (.v (.c (.p .str a))),some r=>if r.tF then some ⟨[.lI a],.c1 (.p (.int .i64) (.v S.nv)),eF,[]⟩else none
 |some (.v (.c c)),some r=>match S.view S.nv c,r.sl with
  |some ([],.r0),some _=>some ⟨[],.c1 (.p (.int .i64) (.i 0)),eF,[]⟩
  |some (nds,a),some _=>some ⟨nds++[.len a],.c1 (.p (.int .i64) (.v (S.nv+gy nds))),eF,[]⟩
  |_,_=>none
 |_,_=>none
section
variable{P:cD}{T:b_}{S:bp}{ρ:List L}
theorem sQ{o d a k}(h:S.num o d=some a)(c:o=none->(d.ev ρ).a_=k):(S.a6 ρ).num o k=some (a.ev ρ).a_:=by
 cases o with
 |none=>cases h;simp only[bz.num,c rfl]
 |some o=>
  simp only[bp.num]at h;split at h
  .rename_i e g f;cases h;have b:(S.a6 ρ).arg o=some (.v (.c (.p (.sc (.int e (a.ev ρ).a_))))):=bp.cL ρ f;simp only[bz.num,b]
  .cases h
theorem qy{m c nds a}(h:S.view m c=some (nds,a))(d:Sat ρ m nds):(S.a6 ρ).view (c.a6 ρ)=some (a.ev ρ).bm:=by
 unfold bp.view at h;split at h
 .cases h;rfl
 .cases h;rfl
 .split at h
  .rename_i b;cases h;simp only[SC.a6,bz.view,ep,b,bS,SB.a6]
  .cases h
 .split at h
  .rename_i b;cases h;obtain⟨l,e,f⟩:=d.eG rfl;cases e;simp only[SC.a6,bz.view,ep,b,bS,SB.a6,f,L.bm]
  .cases h
 .cases h
theorem aaB{size rows}(h:rC size rows=true):∀r,rows[0]?=some r->r.length=size:=by
 intro r b
 cases rows with
 |nil=>simp at b
 |cons a l=>simp_all[rC]
theorem wN{t}(h:KB P t=true):P.underlying t=some .string:=by
 unfold KB at h;split at h
 .assumption
 .cases h
theorem yy{t e}(h:xL P t=some e):P.underlying t=some (.slice e):=by
 unfold xL at h;split at h
 .cases h;assumption
 .cases h
theorem amB(a:b_.ok P T){t e}(h:(List.lookup t T).bind Ty.elem=some e):fk P t=some e:=by
 simp only[gV]at h;obtain⟨r,b,c⟩:=h;have:=a _ _ b;subst this;exact c
def Ac(x:At)(k:Kd):Nat->Nat->List Nd
 |_,0=>[]
 |i,n+1=>.rc x (.i i) 0 k::Ac x k (i+1) n
def Gf(k:Kd):Nat->Nat->List (Kd×At)
 |_,0=>[]
 |m,n+1=>(k,.v m)::Gf k (m+1) n
theorem abt{x:At}{k:Kd}:∀{n i:Nat},gy (Ac x k i n)=n
 |0,_=>rfl
 |n+1,i=>by simp only[Ac,gy,Nd.n,abt];omega
theorem aav{x:At}{k:Kd}{rows:List (List PV)}(b:ff 1 rows)(c:(x.ev ρ).bm=rows):∀{n i m:Nat},i+n=rows.length->Sat ρ m (Ac x k i n)->cH ρ (Gf k m n)=(rows.drop i).flatten
 |0,i,m,e,_=>by rw[qv om];rfl
 |n+1,i,m,e,h=>by
  obtain⟨l,a,f⟩:=Sat.eG h rfl;have d:=aav b c (n:=n) (i:=i+1) (m:=m+1) om h.2;have g:rows.drop i=rows[i]'om::rows.drop (i+1):=sA om;have hlen:=b (rows[i]'om) (cT _);simp only[Nd.ev,c]at a
  have a:(match rows[i]? with
   |some r=>match r[0]? with
    |some q=>(k.of q).map ([·])
    |none=>none
   |none=>none)=some [l]:=a
  rw[cW (show i<rows.length by omega)]at a;rw[g];generalize rows[i]'om=r at a hlen
  match r,hlen with
  |[q],_=>
   have a:(k.of q).map ([·])=some [l]:=a;simp only[bY]at a;obtain⟨p,j,o⟩:=a;cases o;simp only[Gf,cH,ct,List.flatten_cons,gA,gC]at d⊢;rw[d,f,Kd.BN j]
def Jl(T:b_)(S:bp)(t:cg)(x:cF):Option cE:=
 match S.arg x,(List.lookup t T).bind Ty.arr with
 |some (.v (.c (.p .sl a))),some (n,e)=>match(List.lookup e T).bind Ty.oQ with
  |some [k]=>if 0<n then some ⟨.part a (.i 0) (.i n) 1::(Ac (.v S.nv) k 0 n++[.lit [Gf k (S.nv+1) n],.row (.v (S.nv+1+n)) (.i 0) n]),.c1 (.ref (.v (S.nv+1+n+1)) 0),eF,[]⟩else none
  |_=>none
 |_,_=>none
theorem atZ(a:b_.ok P T){t e n}(h:(List.lookup t T).bind Ty.arr=some (n,e)):lj P t=some (n,e):=by
 simp only[gV]at h;obtain⟨r,b,c⟩:=h;have:=a _ _ b;subst this;exact c
theorem ahx(o:b_.ok P T){t x r}(h:Jl T S t x=some r)(l:Sat ρ S.nv r.nds):(wo P (S.a6 ρ) t x).map cb.pure=some (r.a6 ρ):=by
 unfold Jl at h;split at h
 .rename_i a n e p q;split at h
  .rename_i k E;split at h
   .rename_i s;cases h;have d:(S.a6 ρ).arg x=some (.v (.c (.p (.sl (a.ev ρ).bm)))):=bp.cL ρ p;have f:=atZ o q;obtain⟨l1,c,u⟩:=l.eG rfl;obtain⟨v,g⟩:=Sat.app l.2;rw[abt]at g;obtain⟨l2,w,y⟩:=g.eG rfl;obtain⟨l3,b,z⟩:=Sat.eG g.2 rfl;simp only[Nd.ev]at c;split at c
    .rename_i c1;cases c;have j:n<=(a.ev ρ).bm.length:=by simp_all[At.ev,L.a_]
     have A:(At.ev ρ (.v S.nv)).bm=(a.ev ρ).bm.take n:=by rw[u];rfl
     have hR:ff 1 ((a.ev ρ).bm.take n):=λr B=>nL.1 c1.2.2.2 r (iR B)
     have e2:=aav hR A (k:=k) (n:=n) (i:=0) (m:=S.nv+1) (by simp;omega) v;cases w;have e3:(At.ev ρ (.v (S.nv+1+n))).bm=[((a.ev ρ).bm.take n).flatten]:=by
      have:At.ev ρ (.v (S.nv+1+n))=_:=y;simp_all[L.bm]
     simp only[Nd.ev,e3]at b;have b:(if((a.ev ρ).bm.take n).flatten.length=n then some [L.c ((a.ev ρ).bm.take n).flatten]else none)=some [l3]:=b;by_cases C:((a.ev ρ).bm.take n).flatten.length=n
     .rw[bF C]at b;cases pf b;simp only[wo,d,f];rw[bF ⟨s,j,c1.2.2.2⟩];simp only[bS,cb.pure,cE.a6,SV.a6,bK.a6,SC.a6];have D:At.ev ρ (.v (S.nv+1+n+1))=_:=z;rw[D];rfl
     simp_all
    .cases c
   .cases h
  .cases h
 .cases h
def Ka(T:b_)(S:bp)(t:cg)(x:cF)(c:Option cF)(d mx:cF):Option cE:=
 match S.arg x,(List.lookup t T).bind Ty.elem,S.num c (.i 0),S.arg d,S.arg mx with
 |some (.v (.c (.p .sl a))),some e,some l,some (.v (.c (.p (.int _) h))),some (.v (.c (.p (.int _) m)))=>match List.lookup e T with
  |some b=>some ⟨[.part a h m b.size,.part a l h b.size],.c1 (.p .sl (.v (S.nv+1))),eF,[]⟩
  |none=>none
 |_,_,_,_,_=>none
theorem ajC(u:b_.ok P T){t x j mx k r}(h:Ka T S t x k j mx=some r)(v:Sat ρ S.nv r.nds):(wE P (S.a6 ρ) t x k j mx).map cb.pure=some (r.a6 ρ):=by
 unfold Ka at h;split at h
 .rename_i a e l k1 w k2 m y n o p q;split at h
  .rename_i B z;have:=u _ _ z;subst this;cases h;obtain⟨l1,g,C⟩:=v.eG rfl;obtain⟨l2,i,A⟩:=Sat.eG v.2 rfl;simp only[Nd.ev]at g i;have b:(S.a6 ρ).num k 0=some (l.ev ρ).a_:=sQ o (λ_=>rfl);have s:(S.a6 ρ).arg x=some (.v (.c (.p (.sl (a.ev ρ).bm)))):=bp.cL ρ y;have c:(S.a6 ρ).arg j=some (.v (.c (.p (.sc (.int k1 (w.ev ρ).a_))))):=bp.cL ρ p;have d:(S.a6 ρ).arg mx=some (.v (.c (.p (.sc (.int k2 (m.ev ρ).a_))))):=bp.cL ρ q;have f:fk P t=some e:=amB u n;split at g
   .rename_i c1;split at i
    .rename_i c3;cases g;cases i;simp only[wE,s,f,b,c,d];rw[bF ⟨c3.1,c3.2.1,c1.2.1,c1.2.2.1,c1.2.2.2⟩];simp only[bS,cb.pure,cE.a6,SV.a6,bK.a6,SC.a6,Kd.pv];have:At.ev ρ (.v (S.nv+1))=_:=A;rw[this];rfl
    .cases i
   .cases g
  .cases h
 .cases h
theorem afM(F:b_.ok P T){t x C s r}(h:Ht T S t x C s=some r)(u:Sat ρ S.nv r.nds):(kZ P (S.a6 ρ) t x C s).map cb.pure=some (r.a6 ρ):=by
 unfold Ht at h;split at h
 .rename_i c row l G H D;have:=F _ _ H;subst this;have i:(S.a6 ρ).num C 0=some (l.ev ρ).a_:=sQ D (λ_=>rfl);have p:=bp.cL ρ G;have sz:∀{e:cg}{w:Ty},List.lookup e T=some w->w.size=dV P e:=λv=>by rw[F _ _ v];rfl
  split at h
  .rename_i a;split at h
   .rename_i I;split at h
    .rename_i o f;cases h;obtain⟨l1,j,q⟩:=u.eG rfl;obtain⟨l2,m,y⟩:=Sat.eG u.2 rfl;simp only[Nd.ev]at j m;cases j;have b:(S.a6 ρ).num s ((a.ev ρ).du.size:Int)=some (o.ev ρ).a_:=sQ f (λ_=>by rw[q];rfl);split at m
     .rename_i g;cases m;simp only[kZ,p,SV.a6,bK.a6,SC.a6,Kd.pv,i,b,wN (P:=P) I];rw[jg g];simp only[bS,cb.pure,cE.a6,SV.a6,bK.a6,SC.a6,Kd.pv];have:At.ev ρ (.v (S.nv+1))=_:=y;rw[this];rfl
     .cases m
    .cases h
   .cases h
  .rename_i a;split at h
   .rename_i e k;have d:fk P t=some e:=k;split at h
    .rename_i w o v f;cases h;obtain⟨l1,j,q⟩:=u.eG rfl;obtain⟨l2,m,y⟩:=Sat.eG u.2 rfl;simp only[Nd.ev]at j m;cases j;have b:(S.a6 ρ).num s ((a.ev ρ).bm.length:Int)=some (o.ev ρ).a_:=sQ f (λ_=>by rw[q];rfl);split at m
     .rename_i g;cases m;simp only[kZ,p,SV.a6,bK.a6,SC.a6,Kd.pv,bz.mI,bz.view,bS,d,i,b];rw[jg ⟨g.1,g.2.1⟩];simp only[bz.part];rw[bF ⟨g.2.2.1,by rw[<-sz v,<-nL];exact g.2.2.2⟩];simp only[bS,cb.pure,cE.a6,SV.a6,bK.a6,SC.a6,Kd.pv];have:At.ev ρ (.v (S.nv+1))=_:=y;rw[this];rfl
     .cases m
    .cases h
   .cases h
  .split at h
   .rename_i e J a k B;have d:fk P t=some e:=k;split at h
    .rename_i w o v f;cases h;obtain⟨l1,j,q⟩:=u.eG rfl;obtain⟨l2,m,y⟩:=Sat.eG u.2 rfl;simp only[Nd.ev]at j m;cases j;have b:(S.a6 ρ).num s ((a.ev ρ).bm.length:Int)=some (o.ev ρ).a_:=sQ f (λ_=>by rw[q];rfl);split at m
     .rename_i g;cases m;simp only[kZ,p,SV.a6,bK.a6,SC.a6,bz.mI,bz.view,ep,B,bS,SB.a6,d,i,b];rw[jg ⟨g.1,g.2.1⟩];simp only[bz.part,ep,B,bS,SB.a6];rw[bF ⟨g.2.2.1,by rw[<-sz v];exact aaB g.2.2.2⟩];simp only[bS,cb.pure,cE.a6,SV.a6,bK.a6,SC.a6];have K:(CS l o (.v (S.nv+1))).ev ρ=_:=adu y;rw[K];rfl
     .cases m
    .cases h
   .cases h
  .rename_i n l0 ln;split at h
   .rename_i e J a k B;have d:fk P t=some e:=k;split at h
    .rename_i w o v f;cases h;obtain⟨ls,j,q⟩:=u.one;simp only[Nd.ev]at j;split at j
     .rename_i g;cases j;have z:=q 0 (by simp[Nd.n]);have E:=q 1 (by simp[Nd.n]);simp only[l_,sB,gS]at z;have b:(S.a6 ρ).num s ((ln.ev ρ).a_.toNat:Int)=some (o.ev ρ).a_:=sQ f (λM=>by
       subst M;cases f;omega)
      simp only[kZ,p,SV.a6,bK.a6,SC.a6,bz.mI,d,i,b];rw[jg ⟨g.1,g.2.1⟩];simp only[bz.part,ep,B,bS,SB.a6];rw[bF ⟨g.2.2.1,by rw[<-sz v];exact aaB g.2.2.2⟩];simp only[bS,cb.pure,cE.a6,SV.a6,bK.a6,SC.a6,z,E,L.a_,fM];rfl
     .cases j
    .cases h
   .cases h
  .split at h
   .rename_i e k;have d:fk P t=some e:=k;split at h
    .rename_i w o v f;cases h;obtain⟨l1,j,q⟩:=u.eG rfl;simp only[Nd.ev]at j;split at j
     .rename_i g;have b:(S.a6 ρ).num s 0=some (o.ev ρ).a_:=sQ f (λ_=>rfl);have N:(o.ev ρ).a_.toNat=0:=by
       have e0:(At.ev ρ .r0).bm=[]:=rfl;simp_all
      simp only[kZ,p,SV.a6,bK.a6,SC.a6,bz.mI,bz.view,bS,d,i,su];have A:(S.a6 ρ).num s ((0:Nat):Int)=some (o.ev ρ).a_:=b;simp only[A];rw[jg ⟨g.1,g.2.1⟩];simp only[bz.part];rw[bF N];rfl
     .cases j
    .cases h
   .cases h
  .cases h
 .cases h
theorem arQ{e m c nds a d}(h:S.gH e m c=some (nds,a,d))(g:Sat ρ m nds):(S.a6 ρ).gH e (c.a6 ρ)=some ((a.ev ρ).bm,d):=by
 unfold bp.gH at h;split at h
 .cases h;rfl
 .split at h
  .simp_all[SC.a6,bz.gH,ep,bS,SB.a6]
  .cases h
 .split at h
  .rename_i i;split at h
   .rename_i b;cases h;obtain⟨l,j,f⟩:=g.eG rfl;cases j;simp only[SC.a6,At.ev,L.a_,xG,bz.gH,ep,i,bS,SB.a6,b,if_true];simp only[At.ev]at f;rw[f];rfl
   .cases h
  .cases h
 .cases h
theorem avq(z:b_.ok P T){d t s x r}(h:sJ T S d t s x=some r)(B:Sat ρ S.nv r.nds):(r9 P (S.a6 ρ) d t s x).map cb.of=some (r.a6 ρ):=by
 unfold sJ at h;split at h
 .rename_i cs C e o p f;simp only[gV]at f;obtain⟨row,D,f⟩:=f;have:=z _ _ D;subst this;have i:fk P t=some e:=f;split at h
  .rename_i n b nds a I c j;simp only[gV]at c;obtain⟨A,q,c⟩:=c;have:=z _ _ q;subst this;have g:jE P e=some (n,b):=c;split at h
   .rename_i k E F;cases h;obtain⟨u,v⟩:=Sat.app (a:=nds++k) (b:=[.app a E n b]) B;obtain⟨w,y⟩:=Sat.app u;obtain⟨l,m,G⟩:=v.eG rfl;simp only[Nd.ev]at m;split at m
    .rename_i H;cases m;have k1:(S.a6 ρ).arg s=some (.v (.c (cs.a6 ρ))):=bp.cL ρ o;have k2:(S.a6 ρ).arg x=some (.v (.c (C.a6 ρ))):=bp.cL ρ p;simp only[r9,i,g,k1,k2,arQ j w,qy F y];rw[bF H];simp only[bS,cb.of,cE.a6,gY.a6,dh.a6,ct,dp,SB.a6,G,L.bm];rfl
    .cases m
   .cases h
  .cases h
 .cases h
theorem auW(w:b_.ok P T){t x r}(h:eQ T S t x=some r)(z:Sat ρ S.nv r.nds):(oe P (S.a6 ρ) t x).map cb.pure=some (r.a6 ρ):=by
 unfold eQ at h;split at h
 .rename_i a row j m;have:=w _ _ m;subst this;split at h
  .rename_i A;cases h;obtain⟨l,n,o⟩:=z.eG rfl;cases n;have d:=bp.cL ρ j;simp only[oe,d,SV.a6,bK.a6,SC.a6,Kd.pv,wN (P:=P) A];simp only[bS,cb.pure,cE.a6,SV.a6,bK.a6,SC.a6,Kd.pv,o,L.a_];rfl
  .cases h
 .rename_i c row B j m;have:=w _ _ m;subst this;split at h
  .rename_i e q g;have i:xL P t=some e:=g;cases h;have d:(S.a6 ρ).arg x=some (.v (.c (c.a6 ρ))):=bp.cL ρ j;have s:=qy (ρ:=ρ) q trivial;have hres:oe P (S.a6 ρ) t x=some (.sc (.int .i64 ((At.r0).ev ρ).bm.length)):=by
    unfold oe;rw[d];split
    .rename_i b f
     cases c with
     |p k y=>
      cases k with
      |str=>simp_all
      |_=>simp[SC.a6,Kd.pv]at f
     |_=>simp[SC.a6]at f
    .simp_all[iQ,V.v.injEq,V1.c.injEq,yy]
    simp_all
   rw[hres];rfl
  .rename_i nds a e _ q g;have i:xL P t=some e:=g;cases h;obtain⟨u,v⟩:=Sat.app z;obtain⟨l,n,o⟩:=v.eG rfl;cases n;have d:(S.a6 ρ).arg x=some (.v (.c (c.a6 ρ))):=bp.cL ρ j;have s:=qy q u;have hres:oe P (S.a6 ρ) t x=some (.sc (.int .i64 (a.ev ρ).bm.length)):=by
    unfold oe;rw[d];split
    .rename_i b f
     cases c with
     |p k y=>
      cases k with
      |str=>simp_all
      |_=>simp[SC.a6,Kd.pv]at f
     |_=>simp[SC.a6]at f
    .simp_all[iQ,V.v.injEq,V1.c.injEq,yy]
    simp_all
   rw[hres];simp only[bS,cb.pure,cE.a6,SV.a6,bK.a6,SC.a6,Kd.pv,o,L.a_];rfl
  .cases h
 .cases h
end
def bp.fb(S:bp)(x:cF):Option bK:=match S.arg x with|some (.v x)=>some x|_=>none
theorem bp.Fv(ρ){S:bp}{x y}(h:S.fb x=some y):(S.a6 ρ).fb x=some (y.a6 ρ):=by
 unfold bp.fb at h;split at h
 .rename_i a;cases h;have:=bp.cL ρ a;simp only[bz.fb,this];rfl
 .cases h
def bp.lits(S:bp):List cF->Option (List (List (Kd×At))×List Nat)
 |[]=>some ([],[])
 |x::xs=>match S.fb x with
  |some y=>match S.sinks y.cells,S.lits xs with
   |some (r,a),some (rs,d)=>some (r::rs,a++d)
   |_,_=>none
  |none=>none
theorem bp.X4{S:bp}{ρ:List L}:∀{xs:List cF}{rows:List (List (Kd×At))}{a:List Nat},S.lits xs=some (rows,a)->(S.a6 ρ).lits xs=some (rows.map (cH ρ),a)
 |[],_,_,h=>by cases h;rfl
 |x::xs,rows,a,h=>by
  simp only[bp.lits]at h;split at h
  .rename_i y d;split at h
   .rename_i r k rs q m o;cases h;simp only[bz.lits,bp.Fv ρ d,bK.ym,bp.Hx m,bp.X4 o];rfl
   .cases h
  .cases h
def I7(T:b_)(S:bp)(d:Nat)(t:cg)(len:Nat)(parts:List (Nat×cF)):Option cE:=
 match(List.lookup t T).bind Ty.elem with
 |some e=>match(List.lookup e T).bind Ty.app,S.lits (parts.map (·.2))with
  |some (n,_),some (rows,a)=>if parts.map (·.1)=List.range len/\(rows.all (·.length==n))=true/\len*n<=16777216 then some ⟨[.lit rows],.c1 (.own d),⟨[(d,.row e (.v S.nv))],a⟩,[]⟩else none
  |_,_=>none
 |none=>none
def vm:List Kd->Option (List (Kd×At))
 |[]=>some []
 |k::ks=>match k.zero,vm ks with
  |.p k a,some ps=>some ((k,a)::ps)
  |.nil,some ps=>some ((.sl,.r0)::ps)
  |_,_=>none
theorem xP{ρ:List L}:∀{ks:List Kd}{ps:List (Kd×At)},vm ks=some ps->oi ((ks.map Kd.zero).map (SC.a6 ρ))=some (cH ρ ps)
 |[],_,h=>by cases h;rfl
 |k::ks,ps,h=>by
  simp only[vm]at h;split at h
  .rename_i e a b c d;cases h;have:=xP (ρ:=ρ) d;unfold oi at this⊢;simp only[ct,nU,c,SC.a6,C.pv,this];rfl
  .rename_i b c d;cases h;have:=xP (ρ:=ρ) d;unfold oi at this⊢;simp only[ct,nU,c,SC.a6,C.pv,this];rfl
  .cases h
def At.same:At->At->Bool
 |.v x,.v y=>x==y
 |.i x,.i y=>x==y
 |.b x,.b y=>x==y
 |.s x,.s y=>decide (x.data.toList=y.data.toList)
 |.r0,.r0=>true
 |_,_=>false
theorem At.lJ{a b:At}(h:a.same b=true):a=b:=by
 unfold At.same at h;split at h
 .simp at h;rw[h]
 .simp at h;rw[h]
 .simp at h;rw[h]
 .rename_i x y;cases x;simp_all
 .rfl
 .cases h
def JP(T:b_)(S:bp)(d:Nat)(t:cg)(l c:cF):Option cE:=
 match(List.lookup t T).bind Ty.elem,S.arg l,S.arg c with
 |some e,some (.v (.c (.p (.int _) a))),some (.v (.c (.p (.int _) g)))=>match List.lookup e T with
  |some f=>match f.app,f.oQ.bind vm with
   |some (_,b),some ps=>if a.same g then some ⟨[.f_ a ps b],.c1 (.own d),⟨[(d,.row e (.v S.nv))],[]⟩,[]⟩else none
   |_,_=>none
  |none=>none
 |_,_,_=>none
def NP(T:b_)(S:bp)(t:cg)(x y:cF):Option cE:=
 match(List.lookup t T).bind Ty.elem,S.arg x,S.arg y with
 |some e,some (.v (.c d)),some (.v (.c f))=>match List.lookup e T,S.view S.nv f with
  |some c,some (nds,a)=>match d with
   |.own n=>match List.lookup n S.heap with
    |some (.row b x)=>if b=e then some ⟨nds++[.Ec x a c.size],.c1 (.p (.int .i64) (.v (S.nv+gy nds+1))),⟨[(n,.row e (.v (S.nv+gy nds)))],[]⟩,[]⟩else none
    |_=>none
   |.sub n g ln=>match List.lookup n S.heap with
    |some (.row b x)=>if b=e then some ⟨nds++[.ue x g ln a c.size],.c1 (.p (.int .i64) (.v (S.nv+gy nds+1))),⟨[(n,.row e (.v (S.nv+gy nds)))],[]⟩,[]⟩else none
    |_=>none
   |_=>none
  |_,_=>none
 |_,_,_=>none
def KW(T:b_)(S:bp)(s d:cg)(x:cF):Option cE:=
 match S.arg x,List.lookup s T,List.lookup d T with
 |some (.v (.c (.p (.int k0) a))),some rs,some rd=>match rs.some,rd.int with
  |true,some k=>match a with
   |.i n=>some (.pure (.c1 (.p (.int k) (.i (k.wrap n)))))
   |a=>if rs.int=some k/\k0=k then some ⟨[.conv k a],.c1 (.p (.int k) (.v S.nv)),eF,[]⟩else some ⟨[.conv k a],.c1 (.p (.int k) (.v S.nv)),eF,[]⟩
  |_,_=>none
 |some (.v (.c (.p .str a))),some rs,some rd=>if rs.tF&&rd.tF then some (.pure (.c1 (.p .str a)))else none
 |some (.v (.c c)),some rs,some rd=>match S.view S.nv c,rs.sl,rd.tF with
  |some (nds,a),some e,true=>match(List.lookup e T).bind Ty.int with
   |some .u8=>some ⟨nds++[.str a],.c1 (.p .str (.v (S.nv+gy nds))),eF,[]⟩
   |_=>none
  |_,_,_=>none
 |_,_,_=>none
def foldI(op:BinOp)(k:dH)(a b:At):Option At:=match a,b with
 |.i m,.i n=>match cw op k m n with
  |some (.i z)=>some (.i z)
  |some (.b z)=>some (.b z)
  |_=>none
 |_,_=>none
theorem anF{op k a b z}(h:foldI op k a b=some z)(ρ):cw op k (a.ev ρ).a_ (b.ev ρ).a_=some (z.ev ρ):=by
 unfold foldI at h;split at h
 .split at h
  .rename_i c;cases h;exact c
  .rename_i c;cases h;exact c
  .cases h
 .cases h
def yX:List SC->Option (List (dH×At))
 |[]=>some []
 |.p (.int k) a::cs=>(yX cs).map ((k,a):: ·)
 |_=>none
def BG(m:Nat):List (dH×At)->List (dH×At)->List Nd
 |(k,a)::xs,(_,b)::ys=>.bi .eql k a b:: .bb .and (.v m) (.v (m+1))::BG (m+2) xs ys
 |_,_=>[]
def OW(T:b_)(S:bp)(op:BinOp)(t:cg)(x y:cF):Option cE:=
 match S.arg x,S.arg y with
 |some (.v (.c (.p (.int k) a))),some (.v (.c (.p (.int c) b)))=>if JL op||decide (k=c)then(match foldI op k a b with
  |some z=>some ⟨[],.c1 (.p (if lL op then .bool else .int k) z),eF,[]⟩
  |none=>some ⟨[.bi op k a b],.c1 (.p (if lL op then .bool else .int k) (.v S.nv)),eF,[]⟩)else none
 |some (.v (.c (.p .str a))),some (.v (.c (.p .str b)))=>some ⟨[.bs op a b],.c1 (.p (if lL op then .bool else .str) (.v S.nv)),eF,[]⟩
 |some (.v (.c (.p .bool a))),some (.v (.c (.p .bool b)))=>match List.lookup t T with
  |some r=>if r.cI=true/\op≠ .and then some ⟨[.bb op a b],.c1 (.p .bool (.v S.nv)),eF,[]⟩else none
  |none=>none
 |some (.v (.agg cs)),some (.v (.agg ds))=>match yX cs,yX ds,List.lookup t T with
  |some ((i,a)::xs),some ((j,b)::ys),some r=>if r.Vu=xs.length+1/\i::xs.map (·.1)=j::ys.map (·.1)then match op with
   |.eql=>some ⟨.bi .eql i a b::BG S.nv xs ys,.c1 (.p .bool (.v (S.nv+2*xs.length))),eF,[]⟩
   |.neq=>some ⟨.bi .eql i a b::(BG S.nv xs ys++[.not (.v (S.nv+2*xs.length))]),.c1 (.p .bool (.v (S.nv+2*xs.length+1))),eF,[]⟩
   |_=>none
   else none
  |_,_,_=>none
 |_,_=>none
def Ho(S:bp)(op:UnOp)(x:cF):Option cE:=
 match S.arg x,op with
 |some (.v (.c (.p .bool a))),.not=>some ⟨[.not a],.c1 (.p .bool (.v S.nv)),eF,[]⟩
 |some (.v (.c (.p (.int k) a))),.neg=>some ⟨[.un .neg k a],.c1 (.p (.int k) (.v S.nv)),eF,[]⟩
 |some (.v (.c (.p (.int k) a))),.xor=>some ⟨[.un .xor k a],.c1 (.p (.int k) (.v S.nv)),eF,[]⟩
 |_,_=>none
def FM(place:Nat->Option (Nat×Nat))(cells:List SC):List (Nat×List SC)->Option (List SC)
 |[]=>some cells
 |(i,x)::rest=>match place i with
  |none=>none
  |some (off,size)=>if x.length=size/\off+x.length<=cells.length then FM place (cells.take off++x++cells.drop (off+x.length)) rest else none
def bp.parts(S:bp):List (Nat×cF)->Option (List (Nat×List SC))
 |[]=>some []
 |(i,x)::l=>match S.fb x,S.parts l with
  |some y,some ys=>some ((i,y.cells)::ys)
  |_,_=>none
def IM(T:b_)(S:bp)(t:cg)(parts:List (Nat×cF)):Option cE:=
 match List.lookup t T with
 |some r=>match r.oQ,r.places,S.parts parts with
  |some ks,some ps,some xs=>(FM (ps[·]?) (ks.map Kd.zero) xs).map λcs=>.pure (.v (.agg cs))
  |_,_,_=>none
 |none=>none
section
variable{P:cD}{T:b_}{S:bp}{ρ:List L}
theorem yr(b:b_.ok P T){t e}(h:(List.lookup t T).bind Ty.elem=some e):fk P t=some e:=by
 simp only[gV]at h;obtain⟨row,c,a⟩:=h;have:=b _ _ c;subst this;exact a
theorem avz(b:b_.ok P T){e x}(h:(List.lookup e T).bind Ty.app=some x):jE P e=some x:=by
 simp only[gV]at h;obtain⟨row,c,a⟩:=h;have:=b _ _ c;subst this;exact a
theorem ahH(g:b_.ok P T){d t len parts r}(h:I7 T S d t len parts=some r)(j:Sat ρ S.nv r.nds):(vb P (S.a6 ρ) d t len parts).map cb.of=some (r.a6 ρ):=by
 unfold I7 at h;split at h
 .rename_i e f;split at h
  .rename_i n b rows p c k;split at h
   .rename_i i;cases h;obtain⟨l,m,o⟩:=j.eG rfl;cases m;simp only[vb,yr g f,avz g c,bp.X4 k];have a:cf n (rows.map (cH ρ))=true:=by
     simp only[cf,cj,eV];rintro _ ⟨x,q,rfl⟩;simp_all[cH]
    rw[bF ⟨i.1,a,i.2.2⟩];simp only[bS,cb.of,cE.a6,gY.a6,dh.a6,ct,dp,SB.a6,o,L.bm];rfl
   .cases h
  .cases h
 .cases h
theorem aoc(u:b_.ok P T){d t l c r}(h:JP T S d t l c=some r)(v:Sat ρ S.nv r.nds):(v7 P (S.a6 ρ) d t l c).map cb.of=some (r.a6 ρ):=by
 unfold JP at h;split at h
 .rename_i e k1 a k2 B o w x;split at h
  .rename_i C y;have:=u _ _ y;subst this;split at h
   .rename_i n b ps j k;have g:jE P e=some (n,b):=j;simp only[gV]at k;obtain⟨ks,p,z⟩:=k;split at h
    .rename_i i;have:=At.lJ i;subst this;cases h;obtain⟨l1,m,A⟩:=v.eG rfl;simp only[Nd.ev]at m;split at m
     .rename_i f;cases m;have q:(S.a6 ρ).arg l=some (.v (.c (.p (.sc (.int k1 (a.ev ρ).a_))))):=bp.cL ρ w;have s:(S.a6 ρ).arg c=some (.v (.c (.p (.sc (.int k2 (a.ev ρ).a_))))):=bp.cL ρ x;simp only[v7,yr u o,q,s,g,Am (P:=P) p ρ,xP z];rw[bF ⟨trivial,f.1,f.2.1,f.2.2⟩];simp only[bS,cb.of,cE.a6,gY.a6,dh.a6,ct,dp,SB.a6,A,L.bm];rfl
     .cases m
    .cases h
   .cases h
  .cases h
 .cases h
theorem arx(u:b_.ok P T){t x y r}(h:NP T S t x y=some r)(z:Sat ρ S.nv r.nds):(p9 P (S.a6 ρ) t x y).map cb.of=some (r.a6 ρ):=by
 unfold NP at h;split at h
 .rename_i e B C l D E;have m:(S.a6 ρ).arg x=some (.v (.c (B.a6 ρ))):=bp.cL ρ D;have o:(S.a6 ρ).arg y=some (.v (.c (C.a6 ρ))):=bp.cL ρ E;split at h
  .rename_i H nds a F A;have:=u _ _ F;subst this;split at h
   .rename_i n;split at h
    .rename_i G v p;split at h
     .rename_i f;subst f;cases h;obtain⟨g,i⟩:=Sat.app z;obtain⟨ls,d,q⟩:=i.one;simp only[Nd.ev]at d;split at d
      .rename_i s;cases d;have b:=q 0 (by simp[Nd.n]);have c:=q 1 (by simp[Nd.n]);simp only[l_,sB,gS]at b;simp only[Qb,sB,gS]at c;have j:(S.a6 ρ).view (.own n)=some (v.ev ρ).bm:=by simp only[bz.view,ep,p,bS,SB.a6]
       have k:(S.a6 ρ).arg x=some (.v (.c (.own n))):=m;simp only[p9,yr u l,k,o,j,qy A g,ep,p,bS,SB.a6];rw[bF ⟨trivial,s⟩];simp only[bS,cb.of,cE.a6,gY.a6,dh.a6,ct,dp,SB.a6,b,c,L.bm,SV.a6,bK.a6,SC.a6,Kd.pv,L.a_]
      .cases d
     .cases h
    .cases h
   .rename_i n w ln;split at h
    .rename_i G v p;split at h
     .rename_i f;subst f;cases h;obtain⟨g,i⟩:=Sat.app z;obtain⟨ls,d,q⟩:=i.one;simp only[Nd.ev]at d;split at d
      .rename_i s;cases d;have b:=q 0 (by simp[Nd.n]);have c:=q 1 (by simp[Nd.n]);simp only[l_,sB,gS]at b;simp only[Qb,sB,gS]at c;have j:(S.a6 ρ).view (.sub n (w.ev ρ).a_.toNat (ln.ev ρ).a_.toNat)=some (((v.ev ρ).bm.drop (w.ev ρ).a_.toNat).take (ln.ev ρ).a_.toNat):=by simp only[bz.view,ep,p,bS,SB.a6]
       have k:(S.a6 ρ).arg x=some (.v (.c (.sub n (w.ev ρ).a_.toNat (ln.ev ρ).a_.toNat))):=m;simp only[p9,yr u l,k,o,j,qy A g,ep,p,bS,SB.a6];rw[bF ⟨trivial,s.1,s.2⟩];simp only[bS,cb.of,cE.a6,gY.a6,dh.a6,ct,dp,SB.a6,b,c,L.bm,SV.a6,bK.a6,SC.a6,Kd.pv,L.a_]
      .cases d
     .cases h
    .cases h
   .cases h
  .cases h
 .cases h
theorem Ej{t k}(h:FN P t=some k):P.underlying t=some (.int k):=by
 unfold FN at h;split at h
 .cases h;assumption
 .cases h
theorem atg(m:b_.ok P T){s d x r}(h:KW T S s d x=some r)(F:Sat ρ S.nv r.nds):(kT P (S.a6 ρ) s d x).map cb.pure=some (r.a6 ρ):=by
 unfold KW at h;split at h
 .rename_i k0 a rs rd t g i;have:=m _ _ g;subst this;have:=m _ _ i;subst this;have j:(S.a6 ρ).arg x=some (.v (.c (.p (.sc (.int k0 (a.ev ρ).a_))))):=bp.cL ρ t;split at h
  .rename_i k hsome I;obtain⟨ds,J⟩:=xD.1 (show(P.underlying s).isSome=true from hsome);have K:=Ej (P:=P) I;have o:kT P (S.a6 ρ) s d x=some (.sc (.int k (k.wrap (a.ev ρ).a_))):=by simp_all[kT]
   rw[o];split at h
   .cases h;rfl
   .have M:r=⟨[.conv k a],.c1 (.p (.int k) (.v S.nv)),eF,[]⟩:=by simp_all
    subst M;obtain⟨l,q,w⟩:=F.eG rfl;cases q;simp only[bS,cb.pure,cE.a6,SV.a6,bK.a6,SC.a6,Kd.pv,w,L.a_];rfl
  .cases h
 .rename_i a rs rd t g i;have:=m _ _ g;subst this;have:=m _ _ i;subst this;have j:(S.a6 ρ).arg x=some (.v (.c (.p (.sc (.string (a.ev ρ).du))))):=bp.cL ρ t;split at h
  .rename_i z;cases h;simp only[cd]at z;simp only[kT,j,wN (P:=P) z.1,wN (P:=P) z.2];rfl
  .cases h
 .rename_i c rs rd G H t g i;have:=m _ _ g;subst this;have:=m _ _ i;subst this;split at h
  .rename_i nds a e N A O;split at h
   .rename_i u;cases h;simp only[gV]at u;obtain⟨row,Q,u⟩:=u;have:=m _ _ Q;subst this;obtain⟨B,C⟩:=Sat.app F;obtain⟨l,q,w⟩:=C.eG rfl;simp only[Nd.ev,bY]at q;obtain⟨bs,D,q⟩:=q;cases q;have j:(S.a6 ρ).arg x=some (.v (.c (c.a6 ρ))):=bp.cL ρ t;have E:=qy N B;have o:kT P (S.a6 ρ) s d x=some (.sc (.string (strOfNums bs))):=by
     unfold kT;rw[j];split
     .rename_i k n f
      cases c with
      |p v y=>
       cases v with
       |int v=>simp_all
       |_=>simp[SC.a6,Kd.pv]at f
      |_=>simp[SC.a6]at f
     .rename_i b f
      cases c with
      |p v y=>
       cases v with
       |str=>simp_all
       |_=>simp[SC.a6,Kd.pv]at f
      |_=>simp[SC.a6]at f
     .rename_i R _ _ f;simp only[iQ,V.v.injEq,V1.c.injEq]at f;subst f;rw[E,yy (P:=P) A,wN (P:=P) O];simp only[Ej (P:=P) u,D]
     simp_all
    rw[o];simp only[bS,cb.pure,cE.a6,SV.a6,bK.a6,SC.a6,Kd.pv,w,L.du];rfl
   .cases h
  .cases h
 .cases h
theorem TX{op k e a b l}(tb)(c:(JL op||decide (k=e))=true)(h:cw op k a b=some l):jG tb op (.int k a) (.int e b)=some (if lL op then .bool l.ck else .int k l.a_):=by
 cases op<;>simp[JL]at c<;>simp only[cw]at h<;>first
  |(subst c;cases h;simp[jG,lL,bitsOf,L.a_,L.ck];done)
  |(subst c;split at h; (rename_i d;cases h;simp only[jG,lL,true_and];rw[jg d];rfl);cases h)
  |(split at h; (rename_i d;cases h;simp only[jG,lL];rw[jg d];rfl);cases h)
theorem arJ{op a b l}(tb)(h:rT op a b=some l):jG tb op (.string a) (.string b)=some (if lL op then .bool l.ck else .string l.du):=by
 cases op<;>simp only[rT]at h<;>first
  |(cases h;rfl)
  |(split at h; (rename_i c;cases h;simp only[jG,lL];rw[jg c];rfl);cases h)
  |cases h
theorem aiV{op a b l}(h:iu op a b=some l)(c:op≠ .and):jG true op (.bool a) (.bool b)=some (.bool l.ck):=by
 cases op<;>simp only[iu]at h<;>first|exact absurd rfl c| (cases h;rfl)|cases h
theorem yg{ρ j x}(a:∀i,i<1->ρ[j+i]?=[x][i]?):(At.v j).ev ρ=x:=by
 simp_all [At.ev,gS]
theorem Mq{ρ r}:∀{xs ys}{m}{t},xs.length=ys.length->(At.v m).ev ρ=.b t->Sat ρ (m+1) (BG m xs ys++r)->
 (At.v (m+2*xs.length)).ev ρ=.b (oo t (xs.map λx=>(x.1,(x.2.ev ρ).a_)) (ys.map λx=>(x.1,(x.2.ev ρ).a_)))/\Sat ρ (m+2*xs.length+1) r
 |[],[],m,t,_,c,d=>⟨c,d⟩
 |(k,a)::xs,(j,b)::ys,m,t,i,c,d=>by
  obtain⟨⟨l0,l,n⟩,⟨l1,o,i1⟩,p⟩:=d;cases l;have e0:=yg n;cases o;have f:=yg i1;rw[c,e0]at f;obtain⟨g,h⟩:=Mq (m:=m+2) (by simpa using i) f p;have e:m+2+2*xs.length=m+2*((k,a)::xs).length:=by simp;omega
  rw[e]at g h;exact⟨g,h⟩
theorem HY{ρ:List L}:∀{cs:List SC}{xs:List (dH×At)},yX cs=some xs->tN (cs.map (SC.a6 ρ))=some (xs.map λx=>(x.1,(x.2.ev ρ).a_))
 |[],xs,h=>by cases h;rfl
 |c::cs,xs,h=>by
  unfold yX at h;split at h
  .cases ‹_::_=[]›
  .rename_i k a b d;cases d;simp only[bY]at h;obtain⟨ys,e,rfl⟩:=h;show(tN (List.map (SC.a6 ρ) cs)).map _=_;rw[HY e];rfl
  .cases h
theorem awm(G:b_.ok P T){op t x y J r Sp d}(h:OW T S op t x y=some r)(m:Sat ρ S.nv r.nds):cn P Sp (S.a6 ρ) d (.binOp op t x y J)=some (r.a6 ρ):=by
 unfold OW at h;split at h
 .rename_i k a K b n o;split at h
  .rename_i u;have c:(S.a6 ρ).arg x=some (.v (.c (.p (.sc (.int k (a.ev ρ).a_))))):=bp.cL ρ n;have f:(S.a6 ρ).arg y=some (.v (.c (.p (.sc (.int K (b.ev ρ).a_))))):=bp.cL ρ o;split at h
   .rename_i z M;cases h;simp only[cn,c,f,TX (qf P t) u (anF M ρ),bS];cases lL op<;>rfl
   .cases h;obtain⟨l,g,p⟩:=m.eG rfl;simp only[Nd.ev,bY]at g;obtain⟨H,g,v⟩:=g;cases v;simp only[cn,c,f,TX (qf P t) u g,bS];simp only[cb.pure,cE.a6,SV.a6,bK.a6,SC.a6,p];cases lL op<;>rfl
  .cases h
 .rename_i a b n o;cases h;obtain⟨l,g,p⟩:=m.eG rfl;simp only[Nd.ev,bY]at g;obtain⟨H,g,v⟩:=g;cases v;have c:(S.a6 ρ).arg x=some (.v (.c (.p (.sc (.string (a.ev ρ).du))))):=bp.cL ρ n;have f:(S.a6 ρ).arg y=some (.v (.c (.p (.sc (.string (b.ev ρ).du))))):=bp.cL ρ o;simp only[cn,c,f,arJ (qf P t) g,bS];simp only[cb.pure,cE.a6,SV.a6,bK.a6,SC.a6,p];cases lL op<;>rfl
 .rename_i a b n o;split at h
  .rename_i row w;have:=G _ _ w;subst this;split at h
   .rename_i s;obtain⟨s,A⟩:=s;have B:qf P t=true:=s;cases h;obtain⟨l,g,p⟩:=m.eG rfl;simp only[Nd.ev,bY]at g;obtain⟨H,g,v⟩:=g;cases v;have c:(S.a6 ρ).arg x=some (.v (.c (.p (.sc (.bool (a.ev ρ).ck))))):=bp.cL ρ n;have f:(S.a6 ρ).arg y=some (.v (.c (.p (.sc (.bool (b.ev ρ).ck))))):=bp.cL ρ o;simp only[cn,c,f,B,aiV g A,bS];simp only[cb.pure,cE.a6,SV.a6,bK.a6,SC.a6,p];rfl
   .cases h
  .cases h
 .rename_i cs ds n o;split at h
  .rename_i i a xs j b ys row C D w;have:=G _ _ w;subst this;split at h
   .rename_i s;obtain⟨s,u⟩:=s;have I:xs.length=ys.length:=by have:=cO List.length u;simpa using this
    have c:(S.a6 ρ).arg x=some (.v (.agg (cs.map (SC.a6 ρ)))):=bp.cL ρ n;have f:(S.a6 ρ).arg y=some (.v (.agg (ds.map (SC.a6 ρ)))):=bp.cL ρ o
    have q:DJ P op t (cs.map (SC.a6 ρ)) (ds.map (SC.a6 ρ))=match op with
     |.eql=>some (oo ((a.ev ρ).a_==(b.ev ρ).a_) (xs.map λx=>(x.1,(x.2.ev ρ).a_)) (ys.map λx=>(x.1,(x.2.ev ρ).a_)))
     |.neq=>some (!oo ((a.ev ρ).a_==(b.ev ρ).a_) (xs.map λx=>(x.1,(x.2.ev ρ).a_)) (ys.map λx=>(x.1,(x.2.ev ρ).a_)))
     |_=>none:=by
     unfold DJ;rw[HY C,HY D];simp only[ct,bC,h_];rw[bF ⟨s,u⟩];cases op<;>rfl
    split at h
    .cases h;obtain⟨⟨l0,E,F⟩,m⟩:=m;cases E;obtain⟨e,_⟩:=Mq (r:=[]) I (yg F) (by rw[ju];exact m);simp only[cn,c,f,q,bS,cb.pure,cE.a6,SV.a6,bK.a6,SC.a6,e,Kd.pv];rfl
    .cases h;obtain⟨⟨l0,E,F⟩,m⟩:=m;cases E;obtain⟨e,⟨l,g,p⟩,_⟩:=Mq I (yg F) m;cases g;have e2:=yg p;rw[e]at e2;simp only[cn,c,f,q,bS,cb.pure,cE.a6,SV.a6,bK.a6,SC.a6,e2,Kd.pv];rfl
    .cases h
   .cases h
  .cases h
 .cases h
theorem afN{op t x r Sp d}(h:Ho S op x=some r)(g:Sat ρ S.nv r.nds):cn P Sp (S.a6 ρ) d (.unOp op t x)=some (r.a6 ρ):=by
 unfold Ho at h;split at h
 .rename_i a c;cases h;obtain⟨l,e,f⟩:=g.eG rfl;cases e;have b:(S.a6 ρ).arg x=some (.v (.c (.p (.sc (.bool (a.ev ρ).ck))))):=bp.cL ρ c;simp only[cn,b,vQ,bS,cb.pure,cE.a6,SV.a6,bK.a6,SC.a6,Kd.pv,f];rfl
 .rename_i k a c;cases h;obtain⟨l,e,f⟩:=g.eG rfl;cases e;have b:(S.a6 ρ).arg x=some (.v (.c (.p (.sc (.int k (a.ev ρ).a_))))):=bp.cL ρ c;simp only[cn,b,vQ,bS,cb.pure,cE.a6,SV.a6,bK.a6,SC.a6,Kd.pv,f];rfl
 .rename_i k a c;cases h;obtain⟨l,e,f⟩:=g.eG rfl;cases e;have b:(S.a6 ρ).arg x=some (.v (.c (.p (.sc (.int k (a.ev ρ).a_))))):=bp.cL ρ c;simp only[cn,b,vQ,bS,cb.pure,cE.a6,SV.a6,bK.a6,SC.a6,Kd.pv,f,bitsOf];rfl
 .cases h
theorem TZ(place:Nat->Option (Nat×Nat)):∀{xs:List (Nat×List SC)}{cells a:List SC},FM place cells xs=some a->uC place (cells.map (SC.a6 ρ)) (xs.map λx=>(x.1,x.2.map (SC.a6 ρ)))=some (a.map (SC.a6 ρ))
 |[],_,_,h=>by cases h;rfl
 |(i,x)::rest,cells,a,h=>by
  simp only[FM]at h;split at h
  .cases h
  .rename_i off size hp;split at h
   .rename_i b;simp only[ct,uC,hp];rw[bF (by simpa using b)];have:=TZ place h;simp_all
   .cases h
theorem Y5:∀{l:List (Nat×cF)}{xs:List (Nat×List SC)},S.parts l=some xs->l.mapM (λx=>((S.a6 ρ).fb x.2).map λy=>(x.1,y.cells))=some (xs.map λx=>(x.1,x.2.map (SC.a6 ρ)))
 |[],_,h=>by cases h;rfl
 |(i,x)::l,xs,h=>by
  simp only[bp.parts]at h;split at h
  .rename_i y ys a b;cases h;simp only[nU,bp.Fv ρ a,Y5 b,bS,bK.ym];rfl
  .cases h
theorem ahu(f:b_.ok P T){t parts r}(h:IM T S t parts.toList=some r):(wj P (S.a6 ρ) t parts).map cb.pure=some (r.a6 ρ):=by
 unfold IM at h;split at h
 .rename_i row g;have:=f _ _ g;subst this;split at h
  .rename_i ks ps xs b c d;simp only[bY]at h;obtain⟨cs,e,rfl⟩:=h;have a:Dp P t=some ps:=c;simp only[wj,Am (P:=P) b ρ,a,Y5 d,TZ (ρ:=ρ) (ps[·]?) e];rfl
  .cases h
 .cases h
end
end
end
end Go.Proofs.YtndegphojkiblaaGreatDoor
